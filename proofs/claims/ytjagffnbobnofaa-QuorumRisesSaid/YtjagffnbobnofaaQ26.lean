/- The functions of the package quorum, walked through operation by operation. -/
import Derived.Test.YtjagffnbobnofaaQ23
import Derived.Test.YtjagffnbobnofaaQ25
import Derived.Test.YtjagffnbobnofaaQ18
import Derived.Test.YtjagffnbobnofaaQ22
import Derived.Test.YtjagffnbobnofaaQ17
import Derived.Test.YtjagffnbobnofaaQ15
import Derived.Test.YtjagffnbobnofaaQ16
import Derived.Test.YtjagffnbobnofaaQ13
import Derived.Test.YtjagffnbobnofaaQ14
import Derived.Test.YtjagffnbobnofaaQ11
import Derived.Test.YtjagffnbobnofaaQ12
import Derived.Test.YtjagffnbobnofaaQ9
import Derived.Test.YtjagffnbobnofaaQ10
import Derived.Test.YtjagffnbobnofaaQ8
import Derived.Test.YtjagffnbobnofaaSN
import Derived.Test.YtjagffnbobnofaaQ6
import Derived.Test.YtjagffnbobnofaaQ7
import Derived.Test.YtjagffnbobnofaaQ4
import Derived.Test.YtjagffnbobnofaaQ5
import Derived.Test.YtjagffnbobnofaaQ2
import Derived.Test.YtjagffnbobnofaaQ1
import Derived.Test.YtjagffnbobnofaaQ3
import Derived.Test.YtjagffnbobnofaaQ0
import Derived.Test.YtjagffnbobnofaaSM
namespace Go.Proofs.Ytjagffnbobnofaa
open Go.RowKit Go.SL Go.Q18
attribute [local irreducible] Go.SL.RW Go.SL.CW Go.SL.RD Go.SL.Hd Go.SL.St
set_option linter.unusedVariables false
set_option linter.unusedSimpArgs false



theorem meets_walk {p : Pers} {w : World} {R : List Assn} (bits x0 x1 id : Int) (hst : St p w (R)) :
    Calls Try.prog 8 #[.int .i64 bits, .agg #[.int .i64 x0, .int .i64 x1], .int .i64 id] w fun e w => ∃ q, p.le q ∧ e = .returned (.bool true) ∧ St q w R := by
  refine enter Try.func8 rfl (by simp) (n := 72) rfl fun τ hτ => ?_
  have hs0 : τ 0 = .int .i64 bits := hτ 0 (by simp)
  have hs1 : τ 1 = .agg #[.int .i64 x0, .int .i64 x1] := hτ 1 (by simp)
  have hs2 : τ 2 = .int .i64 id := hτ 2 (by simp)
  clear hτ
  refine CW.seq ?_
  refine CW.region ?_
  refine RW.hard Wd.a ?_
  refine H.box (v := .agg #[.int .i64 x0, .int .i64 x1]) (AF_ev rfl hs1) hst fun b1 w hst => ?_
  refine RW.soft Wd.a (v := .bool false) (by exact E.assign rfl) ?_
  refine RW.fin (fun τ => τ 0 = .int .i64 bits ∧ τ 1 = .agg #[.int .i64 x0, .int .i64 x1] ∧ τ 2 = .int .i64 id ∧ τ 4 = .pointer (some ⟨b1, 0, none⟩) ∧ τ 6 = .bool false) ⟨up rfl (up rfl hs0), up rfl (up rfl hs1), up rfl (up rfl hs2), up rfl tp, tp⟩ ?_
  rintro τ ⟨hs0, hs1, hs2, hs4, hs6⟩
  refine CW.seq ?_
  refine CW.region ?_
  refine RW.hard Wd.a ?_
  refine H.call0 Try.func31 nm31 rfl map0 (Calls.mono (shown18 hst) ?_)
  rintro _ w ⟨rfl, hst⟩
  refine ⟨_, rfl, ?_⟩
  show RW _ _ _ _ _ _ _
  refine RW.soft Wd.a (v := .bool true) (by exact E.assign (AF_ev rfl tp)) ?_
  refine RW.fin (fun τ => τ 0 = .int .i64 bits ∧ τ 1 = .agg #[.int .i64 x0, .int .i64 x1] ∧ τ 2 = .int .i64 id ∧ τ 4 = .pointer (some ⟨b1, 0, none⟩) ∧ τ 6 = .bool false ∧ τ 7 = .bool true) ⟨up rfl (up rfl hs0), up rfl (up rfl hs1), up rfl (up rfl hs2), up rfl (up rfl hs4), up rfl (up rfl hs6), tp⟩ ?_
  rintro τ ⟨hs0, hs1, hs2, hs4, hs6, hs7⟩
  refine CW.seq ?_
  refine CW.region ?_
  refine RW.soft Wd.a (v := .int .i64 bits) (by exact E.move (AF_ev rfl hs0)) ?_
  refine RW.hard Wd.a ?_
  refine H.call0 Try.func40 nm40 rfl (map1 (AF_ev rfl tp)) (Calls.mono (q_made bits hst) ?_)
  rintro _ w ⟨vX2, rfl, hst⟩
  obtain ⟨X2, c3, heX2, hcX2, hmX2, hlX2, hbX2⟩ := hst.shape
  subst heX2
  have hst0_ := keepI rfl hst
  clear hst
  obtain ⟨p, hleX2, hLX2, hst⟩ := hst0_
  have hm7X2 := made_le bits
  have hmpX2 := made_pos bits
  refine ⟨_, rfl, ?_⟩
  show RW _ _ _ _ _ _ _
  refine RW.soft Wd.a (v := .slice X2 ((madeR bits).length) c3) (by exact E.assign (AF_ev rfl tp)) ?_
  refine RW.fin (fun τ => τ 0 = .int .i64 bits ∧ τ 1 = .agg #[.int .i64 x0, .int .i64 x1] ∧ τ 2 = .int .i64 id ∧ τ 4 = .pointer (some ⟨b1, 0, none⟩) ∧ τ 6 = .bool false ∧ τ 7 = .bool true ∧ τ 8 = .slice X2 ((madeR bits).length) c3) ⟨up rfl (up rfl (up rfl hs0)), up rfl (up rfl (up rfl hs1)), up rfl (up rfl (up rfl hs2)), up rfl (up rfl (up rfl hs4)), up rfl (up rfl (up rfl hs6)), up rfl (up rfl (up rfl hs7)), tp⟩ ?_
  rintro τ ⟨hs0, hs1, hs2, hs4, hs6, hs7, hs8⟩
  refine CW.seq ?_
  refine CW.region ?_
  refine RW.soft Wd.a (v := .slice X2 ((madeR bits).length) c3) (by exact E.move (AF_ev rfl hs8)) ?_
  refine RW.soft Wd.a (v := .int .i64 id) (by exact E.move (AF_ev rfl (up rfl hs2))) ?_
  have hst := hst.emp
  refine RW.hard Wd.a ?_
  refine H.call0 Try.func33 nm33 rfl (map2 (AF_ev rfl (up rfl tp)) (AF_ev rfl tp)) (Calls.mono (q_Change (zs := (madeR bits)) hLX2.tells (Nat.le_trans (made_le _) (by decide)) id hst) ?_)
  rintro _ w ⟨vX4, rfl, hst⟩
  have hst := (hst.take (.there .here)).drop
  obtain ⟨X4, c5, heX4, hcX4, hmX4, hlX4, hbX4⟩ := hst.shape
  subst heX4
  refine ⟨_, rfl, ?_⟩
  show RW _ _ _ _ _ _ _
  refine RW.soft Wd.a (v := .tuple #[.slice X4 ((chgR (madeR bits) id).length) c5, .int .i64 (chgE (madeR bits) id)]) (by exact E.move (AF_ev rfl tp)) ?_
  refine RW.soft Wd.a (v := .slice X4 ((chgR (madeR bits) id).length) c5) (by exact E.extract (vs := #[.slice X4 ((chgR (madeR bits) id).length) c5, .int .i64 (chgE (madeR bits) id)]) (AF_ev rfl tp) rfl) ?_
  refine RW.soft Wd.a (v := .int .i64 (chgE (madeR bits) id)) (by exact E.extract (vs := #[.slice X4 ((chgR (madeR bits) id).length) c5, .int .i64 (chgE (madeR bits) id)]) (AF_ev rfl (up rfl tp)) rfl) ?_
  refine RW.soft Wd.a (v := .slice X4 ((chgR (madeR bits) id).length) c5) (by exact E.assign (AF_ev rfl (up rfl tp))) ?_
  refine RW.soft Wd.a (v := .int .i64 (chgE (madeR bits) id)) (by exact E.assign (AF_ev rfl (up rfl tp))) ?_
  refine RW.fin (fun τ => τ 0 = .int .i64 bits ∧ τ 1 = .agg #[.int .i64 x0, .int .i64 x1] ∧ τ 2 = .int .i64 id ∧ τ 4 = .pointer (some ⟨b1, 0, none⟩) ∧ τ 6 = .bool false ∧ τ 7 = .bool true ∧ τ 8 = .slice X2 ((madeR bits).length) c3 ∧ τ 9 = .slice X4 ((chgR (madeR bits) id).length) c5 ∧ τ 10 = .int .i64 (chgE (madeR bits) id)) ⟨up rfl (up rfl (up rfl (up rfl (up rfl (up rfl (up rfl (up rfl hs0))))))), up rfl (up rfl (up rfl (up rfl (up rfl (up rfl (up rfl (up rfl hs1))))))), up rfl (up rfl (up rfl (up rfl (up rfl (up rfl (up rfl (up rfl hs2))))))), up rfl (up rfl (up rfl (up rfl (up rfl (up rfl (up rfl (up rfl hs4))))))), up rfl (up rfl (up rfl (up rfl (up rfl (up rfl (up rfl (up rfl hs6))))))), up rfl (up rfl (up rfl (up rfl (up rfl (up rfl (up rfl (up rfl hs7))))))), up rfl (up rfl (up rfl (up rfl (up rfl (up rfl (up rfl (up rfl hs8))))))), up rfl tp, tp⟩ ?_
  rintro τ ⟨hs0, hs1, hs2, hs4, hs6, hs7, hs8, hs9, hs10⟩
  refine CW.seq ?_
  refine CW.seq ?_
  refine Or.elim (Bool.eq_false_or_eq_true ((chgE (madeR bits) id) != 0)) (fun hE => ?_) (fun hE => ?_)
  · skip
    refine CW.region ?_
    refine RW.soft Wd.a (v := .int .i64 (chgE (madeR bits) id)) (by exact E.move (AF_ev rfl hs10)) ?_
    refine RW.soft Wd.a (v := .bool true) (by exact E.b (a := (chgE (madeR bits) id) != 0) (E.neq (k := .i64) (a := chgE (madeR bits) id) (b := 0) (AF_ev rfl tp) rfl) hE) ?_
    refine RW.fin (fun τ => τ 0 = .int .i64 bits ∧ τ 1 = .agg #[.int .i64 x0, .int .i64 x1] ∧ τ 2 = .int .i64 id ∧ τ 4 = .pointer (some ⟨b1, 0, none⟩) ∧ τ 6 = .bool false ∧ τ 7 = .bool true ∧ τ 8 = .slice X2 ((madeR bits).length) c3 ∧ τ 9 = .slice X4 ((chgR (madeR bits) id).length) c5 ∧ τ 10 = .int .i64 (chgE (madeR bits) id) ∧ τ 24 = .bool true) ⟨up rfl (up rfl hs0), up rfl (up rfl hs1), up rfl (up rfl hs2), up rfl (up rfl hs4), up rfl (up rfl hs6), up rfl (up rfl hs7), up rfl (up rfl hs8), up rfl (up rfl hs9), up rfl (up rfl hs10), tp⟩ ?_
    rintro τ ⟨hs0, hs1, hs2, hs4, hs6, hs7, hs8, hs9, hs10, hs24⟩
    refine CW.condT (AF_ev rfl hs24) ?_
    refine CW.seq ?_
    refine CW.region ?_
    refine RW.soft Wd.a (v := .bool true) (by exact E.move (AF_ev rfl hs7)) ?_
    refine RW.soft Wd.a (v := .bool true) (by exact E.assign (AF_ev rfl tp)) ?_
    refine RW.fin (fun τ => τ 0 = .int .i64 bits ∧ τ 1 = .agg #[.int .i64 x0, .int .i64 x1] ∧ τ 2 = .int .i64 id ∧ τ 4 = .pointer (some ⟨b1, 0, none⟩) ∧ τ 6 = .bool true ∧ τ 7 = .bool true ∧ τ 8 = .slice X2 ((madeR bits).length) c3 ∧ τ 9 = .slice X4 ((chgR (madeR bits) id).length) c5 ∧ τ 10 = .int .i64 (chgE (madeR bits) id) ∧ τ 24 = .bool true) ⟨up rfl (up rfl hs0), up rfl (up rfl hs1), up rfl (up rfl hs2), up rfl (up rfl hs4), tp, up rfl (up rfl hs7), up rfl (up rfl hs8), up rfl (up rfl hs9), up rfl (up rfl hs10), up rfl (up rfl hs24)⟩ ?_
    rintro τ ⟨hs0, hs1, hs2, hs4, hs6, hs7, hs8, hs9, hs10, hs24⟩
    refine CW.ret ?_
    refine Th.r ?_
    refine ret1 (v := .bool true) rfl (by exact (.tmp (AF_ev rfl hs6) .nil)) ?_
    have hst := (hst.take .here).drop
    have hst := (hst.take .here).drop
    exact ⟨p, hleX2, rfl, hst⟩
  · skip
    refine CW.region ?_
    refine RW.soft Wd.a (v := .int .i64 (chgE (madeR bits) id)) (by exact E.move (AF_ev rfl hs10)) ?_
    refine RW.soft Wd.a (v := .bool false) (by exact E.b (a := (chgE (madeR bits) id) != 0) (E.neq (k := .i64) (a := chgE (madeR bits) id) (b := 0) (AF_ev rfl tp) rfl) hE) ?_
    refine RW.fin (fun τ => τ 0 = .int .i64 bits ∧ τ 1 = .agg #[.int .i64 x0, .int .i64 x1] ∧ τ 2 = .int .i64 id ∧ τ 4 = .pointer (some ⟨b1, 0, none⟩) ∧ τ 6 = .bool false ∧ τ 7 = .bool true ∧ τ 8 = .slice X2 ((madeR bits).length) c3 ∧ τ 9 = .slice X4 ((chgR (madeR bits) id).length) c5 ∧ τ 10 = .int .i64 (chgE (madeR bits) id) ∧ τ 24 = .bool false) ⟨up rfl (up rfl hs0), up rfl (up rfl hs1), up rfl (up rfl hs2), up rfl (up rfl hs4), up rfl (up rfl hs6), up rfl (up rfl hs7), up rfl (up rfl hs8), up rfl (up rfl hs9), up rfl (up rfl hs10), tp⟩ ?_
    rintro τ ⟨hs0, hs1, hs2, hs4, hs6, hs7, hs8, hs9, hs10, hs24⟩
    refine CW.condF (AF_ev rfl hs24) ?_
    refine CW.skip ?_
    refine Th.n ?_
    refine CW.seq ?_
    have hE0 : chgE (madeR bits) id = 0 := by simpa using hE
    refine CW.region ?_
    refine RW.soft Wd.a (v := .pointer (some ⟨b1, 0, none⟩)) (by exact E.indexAddrA (b := b1) (o := 0) (i := 0) Try.underlying68 sz3 (AF_ev rfl hs4) rfl (by omega) (by omega) (by simp)) ?_
    refine RW.soft Wd.a (v := .int .i64 x0) (by exact E.load (a := ⟨b1, 0, none⟩) Try.underlying3 rfl (AF_ev rfl tp) (hst.cell (.there .here) rfl)) ?_
    refine RW.hard Wd.a ?_
    refine H.call0 Try.func40 nm40 rfl (map1 (AF_ev rfl tp)) (Calls.mono (q_made x0 hst) ?_)
    rintro _ w ⟨vX6, rfl, hst⟩
    obtain ⟨X6, c7, heX6, hcX6, hmX6, hlX6, hbX6⟩ := hst.shape
    subst heX6
    have hst0_ := keepI rfl hst
    clear hst
    obtain ⟨p, hleX6, hLX6, hst⟩ := hst0_
    replace hLX2 := LI.le hLX2 hleX6
    have hm7X6 := made_le x0
    have hmpX6 := made_pos x0
    refine ⟨_, rfl, ?_⟩
    show RW _ _ _ _ _ _ _
    refine RW.soft Wd.a (v := .slice X6 ((madeR x0).length) c7) (by exact E.assign (AF_ev rfl tp)) ?_
    refine RW.fin (fun τ => τ 0 = .int .i64 bits ∧ τ 1 = .agg #[.int .i64 x0, .int .i64 x1] ∧ τ 2 = .int .i64 id ∧ τ 4 = .pointer (some ⟨b1, 0, none⟩) ∧ τ 6 = .bool false ∧ τ 7 = .bool true ∧ τ 8 = .slice X2 ((madeR bits).length) c3 ∧ τ 9 = .slice X4 ((chgR (madeR bits) id).length) c5 ∧ τ 10 = .int .i64 (chgE (madeR bits) id) ∧ τ 11 = .slice X6 ((madeR x0).length) c7 ∧ τ 24 = .bool false) ⟨up rfl (up rfl (up rfl (up rfl hs0))), up rfl (up rfl (up rfl (up rfl hs1))), up rfl (up rfl (up rfl (up rfl hs2))), up rfl (up rfl (up rfl (up rfl hs4))), up rfl (up rfl (up rfl (up rfl hs6))), up rfl (up rfl (up rfl (up rfl hs7))), up rfl (up rfl (up rfl (up rfl hs8))), up rfl (up rfl (up rfl (up rfl hs9))), up rfl (up rfl (up rfl (up rfl hs10))), tp, up rfl (up rfl (up rfl (up rfl hs24)))⟩ ?_
    rintro τ ⟨hs0, hs1, hs2, hs4, hs6, hs7, hs8, hs9, hs10, hs11, hs24⟩
    refine CW.seq ?_
    refine CW.region ?_
    refine RW.soft Wd.a (v := .pointer (some ⟨b1, 1, none⟩)) (by exact E.indexAddrA (b := b1) (o := 0) (i := 1) Try.underlying68 sz3 (AF_ev rfl hs4) rfl (by omega) (by omega) (by simp)) ?_
    refine RW.soft Wd.a (v := .int .i64 x1) (by exact E.load (a := ⟨b1, 1, none⟩) Try.underlying3 rfl (AF_ev rfl tp) (hst.cell (.there .here) rfl)) ?_
    refine RW.hard Wd.a ?_
    refine H.call0 Try.func40 nm40 rfl (map1 (AF_ev rfl tp)) (Calls.mono (q_made x1 hst) ?_)
    rintro _ w ⟨vX8, rfl, hst⟩
    obtain ⟨X8, c9, heX8, hcX8, hmX8, hlX8, hbX8⟩ := hst.shape
    subst heX8
    have hst0_ := keepI rfl hst
    clear hst
    obtain ⟨p, hleX8, hLX8, hst⟩ := hst0_
    replace hLX2 := LI.le hLX2 hleX8
    replace hLX6 := LI.le hLX6 hleX8
    have hm7X8 := made_le x1
    have hmpX8 := made_pos x1
    refine ⟨_, rfl, ?_⟩
    show RW _ _ _ _ _ _ _
    refine RW.soft Wd.a (v := .slice X8 ((madeR x1).length) c9) (by exact E.assign (AF_ev rfl tp)) ?_
    refine RW.fin (fun τ => τ 0 = .int .i64 bits ∧ τ 1 = .agg #[.int .i64 x0, .int .i64 x1] ∧ τ 2 = .int .i64 id ∧ τ 4 = .pointer (some ⟨b1, 0, none⟩) ∧ τ 6 = .bool false ∧ τ 7 = .bool true ∧ τ 8 = .slice X2 ((madeR bits).length) c3 ∧ τ 9 = .slice X4 ((chgR (madeR bits) id).length) c5 ∧ τ 10 = .int .i64 (chgE (madeR bits) id) ∧ τ 11 = .slice X6 ((madeR x0).length) c7 ∧ τ 12 = .slice X8 ((madeR x1).length) c9 ∧ τ 24 = .bool false) ⟨up rfl (up rfl (up rfl (up rfl hs0))), up rfl (up rfl (up rfl (up rfl hs1))), up rfl (up rfl (up rfl (up rfl hs2))), up rfl (up rfl (up rfl (up rfl hs4))), up rfl (up rfl (up rfl (up rfl hs6))), up rfl (up rfl (up rfl (up rfl hs7))), up rfl (up rfl (up rfl (up rfl hs8))), up rfl (up rfl (up rfl (up rfl hs9))), up rfl (up rfl (up rfl (up rfl hs10))), up rfl (up rfl (up rfl (up rfl hs11))), tp, up rfl (up rfl (up rfl (up rfl hs24)))⟩ ?_
    rintro τ ⟨hs0, hs1, hs2, hs4, hs6, hs7, hs8, hs9, hs10, hs11, hs12, hs24⟩
    refine CW.seq ?_
    refine CW.seq ?_
    refine Or.elim (Bool.eq_false_or_eq_true (decide (((cntOf (madeR bits) (madeR x0) : Nat) : Int) > (((madeR bits).length : Nat) : Int) / 2))) (fun hX1 => ?_) (fun hX1 => ?_)
    · skip
      refine Or.elim (Bool.eq_false_or_eq_true (decide (((cntOf (chgR (madeR bits) id) (madeR x1) : Nat) : Int) > (((chgR (madeR bits) id).length : Nat) : Int) / 2))) (fun hX2 => ?_) (fun hX2 => ?_)
      · skip
        refine CW.region ?_
        refine RW.soft Wd.a (v := .slice X2 ((madeR bits).length) c3) (by exact E.move (AF_ev rfl hs8)) ?_
        refine RW.soft Wd.a (v := .slice X6 ((madeR x0).length) c7) (by exact E.move (AF_ev rfl (up rfl hs11))) ?_
        have hst := hst.emp
        have hst := hst.emp
        refine RW.hard Wd.a ?_
        refine H.call0 Try.func41 nm41 rfl (map2 (AF_ev rfl (up rfl tp)) (AF_ev rfl tp)) (Calls.mono ((show Calls Try.prog 41 #[.slice X2 ((madeR bits).length) c3, .slice X6 ((madeR x0).length) c7] w (fun e w => e = .returned (.bool true) ∧ St p w (Emp :: Emp :: Own 3 1 (.slice X4 ((chgR (madeR bits) id).length) c5) ((chgR (madeR bits) id).length) ((chgR (madeR bits) id).flatMap ienc) :: pt b1 (.cells #[.int .i64 x0, .int .i64 x1] 68) :: R)) from (by
          have hq := q_Most (zs := (madeR bits)) (ys := (madeR x0)) hLX2.tells (Nat.le_trans (made_le _) (by decide)) hLX6.tells (Nat.le_trans (made_le _) (by decide)) (made_pos _) hst
          rw [hX1] at hq; exact hq))) ?_)
        rintro _ w ⟨rfl, hst⟩
        have hst := (hst.take (.there .here)).drop
        have hst := hst.drop
        refine ⟨_, rfl, ?_⟩
        show RW _ _ _ _ _ _ _
        refine RW.soft Wd.a (v := .bool false) (by exact E.not (b := true) (AF_ev rfl tp)) ?_
        refine RW.soft Wd.a (v := .bool false) (by exact E.move (AF_ev rfl tp)) ?_
        refine RW.soft (by exact Wd.yes (x := 36) rfl (AF_ev rfl tp)) (v := .slice X4 ((chgR (madeR bits) id).length) c5) (by exact E.move (AF_ev rfl (up rfl (up rfl (up rfl (up rfl (up rfl hs9))))))) ?_
        refine RW.soft (by exact Wd.yes (x := 36) rfl (AF_ev rfl (up rfl tp))) (v := .slice X8 ((madeR x1).length) c9) (by exact E.move (AF_ev rfl (up rfl (up rfl (up rfl (up rfl (up rfl (up rfl hs12)))))))) ?_
        have hst := hst.emp
        have hst := hst.take (.there .here)
        refine RW.hard (by exact Wd.yes (x := 36) rfl (AF_ev rfl (up rfl (up rfl tp)))) ?_
        refine H.call0 Try.func41 nm41 rfl (map2 (AF_ev rfl (up rfl tp)) (AF_ev rfl tp)) (Calls.mono ((show Calls Try.prog 41 #[.slice X4 ((chgR (madeR bits) id).length) c5, .slice X8 ((madeR x1).length) c9] w (fun e w => e = .returned (.bool true) ∧ St p w (Own 3 1 (.slice X4 ((chgR (madeR bits) id).length) c5) ((chgR (madeR bits) id).length) ((chgR (madeR bits) id).flatMap ienc) :: Emp :: pt b1 (.cells #[.int .i64 x0, .int .i64 x1] 68) :: R)) from (by
          have hq := q_Most (zs := (chgR (madeR bits) id)) (ys := (madeR x1)) (own_TI (by first | rfl | omega | simp)) (Nat.le_trans (chg_le _ _) (by decide)) hLX8.tells (Nat.le_trans (made_le _) (by decide)) (List.length_pos_iff.2 (check_ok (back_ok hE0)).2) hst
          rw [hX2] at hq; exact hq))) ?_)
        rintro _ w ⟨rfl, hst⟩
        have hst := (hst.take (.there .here)).drop
        refine ⟨_, rfl, ?_⟩
        show RW _ _ _ _ _ _ _
        refine RW.soft (by exact Wd.yes (x := 36) rfl (AF_ev rfl (up rfl (up rfl (up rfl tp))))) (v := .bool false) (by exact E.not (b := true) (AF_ev rfl tp)) ?_
        refine RW.soft Wd.a (v := .bool false) (by exact E.pickF (AF_ev rfl (up rfl (up rfl (up rfl (up rfl tp))))) (AF_ev rfl tp)) ?_
        refine RW.fin (fun τ => τ 0 = .int .i64 bits ∧ τ 1 = .agg #[.int .i64 x0, .int .i64 x1] ∧ τ 2 = .int .i64 id ∧ τ 4 = .pointer (some ⟨b1, 0, none⟩) ∧ τ 6 = .bool false ∧ τ 7 = .bool true ∧ τ 8 = .slice X2 ((madeR bits).length) c3 ∧ τ 9 = .slice X4 ((chgR (madeR bits) id).length) c5 ∧ τ 10 = .int .i64 (chgE (madeR bits) id) ∧ τ 11 = .slice X6 ((madeR x0).length) c7 ∧ τ 12 = .slice X8 ((madeR x1).length) c9 ∧ τ 24 = .bool false ∧ τ 41 = .bool false) ⟨up rfl (up rfl (up rfl (up rfl (up rfl (up rfl (up rfl (up rfl (up rfl (up rfl hs0))))))))), up rfl (up rfl (up rfl (up rfl (up rfl (up rfl (up rfl (up rfl (up rfl (up rfl hs1))))))))), up rfl (up rfl (up rfl (up rfl (up rfl (up rfl (up rfl (up rfl (up rfl (up rfl hs2))))))))), up rfl (up rfl (up rfl (up rfl (up rfl (up rfl (up rfl (up rfl (up rfl (up rfl hs4))))))))), up rfl (up rfl (up rfl (up rfl (up rfl (up rfl (up rfl (up rfl (up rfl (up rfl hs6))))))))), up rfl (up rfl (up rfl (up rfl (up rfl (up rfl (up rfl (up rfl (up rfl (up rfl hs7))))))))), up rfl (up rfl (up rfl (up rfl (up rfl (up rfl (up rfl (up rfl (up rfl (up rfl hs8))))))))), up rfl (up rfl (up rfl (up rfl (up rfl (up rfl (up rfl (up rfl (up rfl (up rfl hs9))))))))), up rfl (up rfl (up rfl (up rfl (up rfl (up rfl (up rfl (up rfl (up rfl (up rfl hs10))))))))), up rfl (up rfl (up rfl (up rfl (up rfl (up rfl (up rfl (up rfl (up rfl (up rfl hs11))))))))), up rfl (up rfl (up rfl (up rfl (up rfl (up rfl (up rfl (up rfl (up rfl (up rfl hs12))))))))), up rfl (up rfl (up rfl (up rfl (up rfl (up rfl (up rfl (up rfl (up rfl (up rfl hs24))))))))), tp⟩ ?_
        rintro τ ⟨hs0, hs1, hs2, hs4, hs6, hs7, hs8, hs9, hs10, hs11, hs12, hs24, hs41⟩
        refine CW.condF (AF_ev rfl hs41) ?_
        refine CW.skip ?_
        refine Th.n ?_
        refine CW.seq ?_
        refine CW.seq ?_
        refine CW.region ?_
        refine RW.soft Wd.a (v := .int .i64 0) (by exact E.assign rfl) ?_
        refine RW.fin (fun τ => τ 0 = .int .i64 bits ∧ τ 1 = .agg #[.int .i64 x0, .int .i64 x1] ∧ τ 2 = .int .i64 id ∧ τ 4 = .pointer (some ⟨b1, 0, none⟩) ∧ τ 6 = .bool false ∧ τ 7 = .bool true ∧ τ 8 = .slice X2 ((madeR bits).length) c3 ∧ τ 9 = .slice X4 ((chgR (madeR bits) id).length) c5 ∧ τ 10 = .int .i64 (chgE (madeR bits) id) ∧ τ 11 = .slice X6 ((madeR x0).length) c7 ∧ τ 12 = .slice X8 ((madeR x1).length) c9 ∧ τ 13 = .int .i64 0 ∧ τ 24 = .bool false ∧ τ 41 = .bool false) ⟨up rfl hs0, up rfl hs1, up rfl hs2, up rfl hs4, up rfl hs6, up rfl hs7, up rfl hs8, up rfl hs9, up rfl hs10, up rfl hs11, up rfl hs12, tp, up rfl hs24, up rfl hs41⟩ ?_
        rintro τ ⟨hs0, hs1, hs2, hs4, hs6, hs7, hs8, hs9, hs10, hs11, hs12, hs13, hs24, hs41⟩
        refine CW.block ?_
        have hst := (hst.take (.there .here)).drop
        refine CW.loop (fun (k : Nat) (τ : Fr) (w : World) => ∃ (j : Nat), (∀ y ∈ (madeR x0).take j, (((madeR x1).contains y && ((madeR bits).contains y && (chgR (madeR bits) id).contains y)) = false)) ∧ j ≤ (madeR x0).length ∧ k = (madeR x0).length - j ∧ τ 7 = .bool true ∧ τ 8 = .slice X2 ((madeR bits).length) c3 ∧ τ 9 = .slice X4 ((chgR (madeR bits) id).length) c5 ∧ τ 11 = .slice X6 ((madeR x0).length) c7 ∧ τ 12 = .slice X8 ((madeR x1).length) c9 ∧ τ 13 = .int .i64 ((j : Nat) : Int) ∧ St p w (Own 3 1 (.slice X4 ((chgR (madeR bits) id).length) c5) ((chgR (madeR bits) id).length) ((chgR (madeR bits) id).flatMap ienc) :: R)) ((madeR x0).length - 0) ⟨0, (fun y hy => by rw [List.take_zero] at hy; cases hy), by omega, rfl, hs7, hs8, hs9, hs11, hs12, (int_eq (a := 0) hs13 (by omega)), hst⟩ ?_
        clear hst
        rintro k τ w ⟨j, hf, hj, hkj, hs7, hs8, hs9, hs11, hs12, hs13, hst⟩
        refine CW.seq ?_
        refine CW.seq ?_
        refine CW.region ?_
        refine RW.soft Wd.a (v := .int .i64 ((j : Nat) : Int)) (by exact E.move (AF_ev rfl hs13)) ?_
        refine RW.soft Wd.a (v := .slice X6 ((madeR x0).length) c7) (by exact E.move (AF_ev rfl (up rfl hs11))) ?_
        refine RW.soft Wd.a (v := .int .i64 (((madeR x0).length : Nat) : Int)) (by exact E.lenS (p := X6) (l := (madeR x0).length) (c := c7) Try.underlying58 (AF_ev rfl tp)) ?_
        refine RW.soft Wd.a (v := .bool (decide (((j : Nat) : Int) < (((madeR x0).length : Nat) : Int)))) (by exact E.lss (k := .i64) (a := ((j : Nat) : Int)) (b := (((madeR x0).length : Nat) : Int)) (AF_ev rfl (up rfl (up rfl tp))) (AF_ev rfl tp)) ?_
        refine RW.fin (fun τ => τ 7 = .bool true ∧ τ 8 = .slice X2 ((madeR bits).length) c3 ∧ τ 9 = .slice X4 ((chgR (madeR bits) id).length) c5 ∧ τ 11 = .slice X6 ((madeR x0).length) c7 ∧ τ 12 = .slice X8 ((madeR x1).length) c9 ∧ τ 13 = .int .i64 ((j : Nat) : Int) ∧ τ 46 = .bool (decide (((j : Nat) : Int) < (((madeR x0).length : Nat) : Int)))) ⟨up rfl (up rfl (up rfl (up rfl hs7))), up rfl (up rfl (up rfl (up rfl hs8))), up rfl (up rfl (up rfl (up rfl hs9))), up rfl (up rfl (up rfl (up rfl hs11))), up rfl (up rfl (up rfl (up rfl hs12))), up rfl (up rfl (up rfl (up rfl hs13))), tp⟩ ?_
        rintro τ ⟨hs7, hs8, hs9, hs11, hs12, hs13, hs46⟩
        refine CW.cond (AF_ev rfl hs46) (fun hc10 => ?_) (fun hc10 => ?_)
        · have hc10_ := hc10
          try simp only [decide_eq_true_eq, decide_eq_false_iff_not, Bool.and_eq_true, Bool.or_eq_true, Bool.and_eq_false_iff, Bool.or_eq_false_iff, Bool.not_eq_true', Bool.not_eq_false', beq_iff_eq, beq_eq_false_iff_ne, bne_iff_ne, bne_eq_false_iff_eq, ne_eq, Int.not_lt, Int.not_le, gt_iff_lt, ge_iff_le] at hc10_
          refine CW.skip ?_
          refine Th.n ?_
          refine CW.seq ?_
          refine CW.block ?_
          refine CW.seq ?_
          obtain ⟨x, hx⟩ : ∃ z, (madeR x0)[j]? = some z := ⟨(madeR x0)[j]'(by omega), List.getElem?_eq_getElem (by omega)⟩
          obtain ⟨b9, o9, hp9, hcell9⟩ := Las.place hLX6 (by omega)
          subst hp9
          refine Or.elim (Bool.eq_false_or_eq_true ((madeR x1).contains x)) (fun hxb => ?_) (fun hxb => ?_)
          · skip
            refine Or.elim (Bool.eq_false_or_eq_true ((madeR bits).contains x)) (fun hxm => ?_) (fun hxm => ?_)
            · skip
              refine CW.region ?_
              refine RW.soft Wd.a (v := .slice X8 ((madeR x1).length) c9) (by exact E.move (AF_ev rfl hs12)) ?_
              refine RW.soft Wd.a (v := .slice (some ⟨b9, o9, none⟩) ((madeR x0).length) c7) (by exact E.move (AF_ev rfl (up rfl hs11))) ?_
              refine RW.soft Wd.a (v := .int .i64 ((j : Nat) : Int)) (by exact E.move (AF_ev rfl (up rfl (up rfl hs13)))) ?_
              refine RW.soft Wd.a (v := .pointer (some ⟨b9, o9 + j * 1, none⟩)) (by exact E.indexAddr (b := b9) (o := o9) (l := (madeR x0).length) (c := c7) (i := ((j : Nat) : Int)) Try.underlying58 sz3 (AF_ev rfl (up rfl tp)) (AF_ev rfl tp) (by omega) (by omega) (by simp)) ?_
              refine RW.soft Wd.a (v := .int .i64 x) (by exact E.load (a := ⟨b9, o9 + j * 1, none⟩) Try.underlying3 rfl (AF_ev rfl tp) (by exact hcell9 hst _ _ (flat_get (j := 0) ienc_len hx (rfl)))) ?_
              have hst := hst.emp
              refine RW.hard Wd.a ?_
              refine H.call0 Try.func38 nm38 rfl (map2 (AF_ev rfl (up rfl (up rfl (up rfl (up rfl tp))))) (AF_ev rfl tp)) (Calls.mono ((show Calls Try.prog 38 #[.slice X8 ((madeR x1).length) c9, .int .i64 x] w (fun e w => e = .returned (.bool true) ∧ St p w (Emp :: Own 3 1 (.slice X4 ((chgR (madeR bits) id).length) c5) ((chgR (madeR bits) id).length) ((chgR (madeR bits) id).flatMap ienc) :: R)) from (by
                have hq := q_Has (zs := (madeR x1)) hLX8.tells (Nat.le_trans (made_le _) (by decide)) x hst
                rw [hxb] at hq; exact hq))) ?_)
              rintro _ w ⟨rfl, hst⟩
              have hst := hst.drop
              refine ⟨_, rfl, ?_⟩
              show RW _ _ _ _ _ _ _
              refine RW.soft Wd.a (v := .bool true) (by exact E.move (AF_ev rfl tp)) ?_
              refine RW.soft (by exact Wd.yes (x := 55) rfl (AF_ev rfl tp)) (v := .slice X2 ((madeR bits).length) c3) (by exact E.move (AF_ev rfl (up rfl (up rfl (up rfl (up rfl (up rfl (up rfl (up rfl hs8))))))))) ?_
              refine RW.soft (by exact Wd.yes (x := 55) rfl (AF_ev rfl (up rfl tp))) (v := .slice (some ⟨b9, o9, none⟩) ((madeR x0).length) c7) (by exact E.move (AF_ev rfl (up rfl (up rfl (up rfl (up rfl (up rfl (up rfl (up rfl (up rfl hs11)))))))))) ?_
              refine RW.soft (by exact Wd.yes (x := 55) rfl (AF_ev rfl (up rfl (up rfl tp)))) (v := .int .i64 ((j : Nat) : Int)) (by exact E.move (AF_ev rfl (up rfl (up rfl (up rfl (up rfl (up rfl (up rfl (up rfl (up rfl (up rfl hs13))))))))))) ?_
              refine RW.soft (by exact Wd.yes (x := 55) rfl (AF_ev rfl (up rfl (up rfl (up rfl tp))))) (v := .pointer (some ⟨b9, o9 + j * 1, none⟩)) (by exact E.indexAddr (b := b9) (o := o9) (l := (madeR x0).length) (c := c7) (i := ((j : Nat) : Int)) Try.underlying58 sz3 (AF_ev rfl (up rfl tp)) (AF_ev rfl tp) (by omega) (by omega) (by simp)) ?_
              refine RW.soft (by exact Wd.yes (x := 55) rfl (AF_ev rfl (up rfl (up rfl (up rfl (up rfl tp)))))) (v := .int .i64 x) (by exact E.load (a := ⟨b9, o9 + j * 1, none⟩) Try.underlying3 rfl (AF_ev rfl tp) (by exact hcell9 hst _ _ (flat_get (j := 0) ienc_len hx (rfl)))) ?_
              have hst := hst.emp
              refine RW.hard (by exact Wd.yes (x := 55) rfl (AF_ev rfl (up rfl (up rfl (up rfl (up rfl (up rfl tp))))))) ?_
              refine H.call0 Try.func38 nm38 rfl (map2 (AF_ev rfl (up rfl (up rfl (up rfl (up rfl tp))))) (AF_ev rfl tp)) (Calls.mono ((show Calls Try.prog 38 #[.slice X2 ((madeR bits).length) c3, .int .i64 x] w (fun e w => e = .returned (.bool true) ∧ St p w (Emp :: Own 3 1 (.slice X4 ((chgR (madeR bits) id).length) c5) ((chgR (madeR bits) id).length) ((chgR (madeR bits) id).flatMap ienc) :: R)) from (by
                have hq := q_Has (zs := (madeR bits)) hLX2.tells (Nat.le_trans (made_le _) (by decide)) x hst
                rw [hxm] at hq; exact hq))) ?_)
              rintro _ w ⟨rfl, hst⟩
              have hst := hst.drop
              refine ⟨_, rfl, ?_⟩
              show RW _ _ _ _ _ _ _
              refine RW.soft (by exact Wd.yes (x := 55) rfl (AF_ev rfl (up rfl (up rfl (up rfl (up rfl (up rfl (up rfl tp)))))))) (v := .bool true) (by exact E.move (AF_ev rfl tp)) ?_
              refine RW.soft (by exact Wd.yes (x := 62) rfl (AF_ev rfl tp)) (v := .slice X4 ((chgR (madeR bits) id).length) c5) (by exact E.move (AF_ev rfl (up rfl (up rfl (up rfl (up rfl (up rfl (up rfl (up rfl (up rfl (up rfl (up rfl (up rfl (up rfl (up rfl (up rfl hs9)))))))))))))))) ?_
              refine RW.soft (by exact Wd.yes (x := 62) rfl (AF_ev rfl (up rfl tp))) (v := .slice (some ⟨b9, o9, none⟩) ((madeR x0).length) c7) (by exact E.move (AF_ev rfl (up rfl (up rfl (up rfl (up rfl (up rfl (up rfl (up rfl (up rfl (up rfl (up rfl (up rfl (up rfl (up rfl (up rfl (up rfl hs11))))))))))))))))) ?_
              refine RW.soft (by exact Wd.yes (x := 62) rfl (AF_ev rfl (up rfl (up rfl tp)))) (v := .int .i64 ((j : Nat) : Int)) (by exact E.move (AF_ev rfl (up rfl (up rfl (up rfl (up rfl (up rfl (up rfl (up rfl (up rfl (up rfl (up rfl (up rfl (up rfl (up rfl (up rfl (up rfl (up rfl hs13)))))))))))))))))) ?_
              refine RW.soft (by exact Wd.yes (x := 62) rfl (AF_ev rfl (up rfl (up rfl (up rfl tp))))) (v := .pointer (some ⟨b9, o9 + j * 1, none⟩)) (by exact E.indexAddr (b := b9) (o := o9) (l := (madeR x0).length) (c := c7) (i := ((j : Nat) : Int)) Try.underlying58 sz3 (AF_ev rfl (up rfl tp)) (AF_ev rfl tp) (by omega) (by omega) (by simp)) ?_
              refine RW.soft (by exact Wd.yes (x := 62) rfl (AF_ev rfl (up rfl (up rfl (up rfl (up rfl tp)))))) (v := .int .i64 x) (by exact E.load (a := ⟨b9, o9 + j * 1, none⟩) Try.underlying3 rfl (AF_ev rfl tp) (by exact hcell9 hst _ _ (flat_get (j := 0) ienc_len hx (rfl)))) ?_
              refine RW.hard (by exact Wd.yes (x := 62) rfl (AF_ev rfl (up rfl (up rfl (up rfl (up rfl (up rfl tp))))))) ?_
              refine H.call0 Try.func38 nm38 rfl (map2 (AF_ev rfl (up rfl (up rfl (up rfl (up rfl tp))))) (AF_ev rfl tp)) (Calls.mono (q_Has (zs := (chgR (madeR bits) id)) (own_TI (by first | rfl | omega | simp)) (Nat.le_trans (chg_le _ _) (by decide)) x hst) ?_)
              rintro _ w ⟨rfl, hst⟩
              refine ⟨_, rfl, ?_⟩
              show RW _ _ _ _ _ _ _
              refine RW.soft (by exact Wd.yes (x := 55) rfl (AF_ev rfl (up rfl (up rfl (up rfl (up rfl (up rfl (up rfl (up rfl (up rfl (up rfl (up rfl (up rfl (up rfl (up rfl tp))))))))))))))) (v := .bool ((chgR (madeR bits) id).contains x)) (by exact E.pickT (AF_ev rfl (up rfl (up rfl (up rfl (up rfl (up rfl (up rfl tp))))))) (AF_ev rfl tp)) ?_
              refine RW.soft Wd.a (v := .bool ((chgR (madeR bits) id).contains x)) (by exact E.pickT (AF_ev rfl (up rfl (up rfl (up rfl (up rfl (up rfl (up rfl (up rfl (up rfl (up rfl (up rfl (up rfl (up rfl (up rfl (up rfl tp))))))))))))))) (AF_ev rfl tp)) ?_
              refine RW.fin (fun τ => τ 7 = .bool true ∧ τ 8 = .slice X2 ((madeR bits).length) c3 ∧ τ 9 = .slice X4 ((chgR (madeR bits) id).length) c5 ∧ τ 11 = .slice (some ⟨b9, o9, none⟩) ((madeR x0).length) c7 ∧ τ 12 = .slice X8 ((madeR x1).length) c9 ∧ τ 13 = .int .i64 ((j : Nat) : Int) ∧ τ 46 = .bool true ∧ τ 70 = .bool ((chgR (madeR bits) id).contains x)) ⟨up rfl (up rfl (up rfl (up rfl (up rfl (up rfl (up rfl (up rfl (up rfl (up rfl (up rfl (up rfl (up rfl (up rfl (up rfl (up rfl (up rfl (up rfl (up rfl (up rfl (up rfl (up rfl hs7))))))))))))))))))))), up rfl (up rfl (up rfl (up rfl (up rfl (up rfl (up rfl (up rfl (up rfl (up rfl (up rfl (up rfl (up rfl (up rfl (up rfl (up rfl (up rfl (up rfl (up rfl (up rfl (up rfl (up rfl hs8))))))))))))))))))))), up rfl (up rfl (up rfl (up rfl (up rfl (up rfl (up rfl (up rfl (up rfl (up rfl (up rfl (up rfl (up rfl (up rfl (up rfl (up rfl (up rfl (up rfl (up rfl (up rfl (up rfl (up rfl hs9))))))))))))))))))))), up rfl (up rfl (up rfl (up rfl (up rfl (up rfl (up rfl (up rfl (up rfl (up rfl (up rfl (up rfl (up rfl (up rfl (up rfl (up rfl (up rfl (up rfl (up rfl (up rfl (up rfl (up rfl hs11))))))))))))))))))))), up rfl (up rfl (up rfl (up rfl (up rfl (up rfl (up rfl (up rfl (up rfl (up rfl (up rfl (up rfl (up rfl (up rfl (up rfl (up rfl (up rfl (up rfl (up rfl (up rfl (up rfl (up rfl hs12))))))))))))))))))))), up rfl (up rfl (up rfl (up rfl (up rfl (up rfl (up rfl (up rfl (up rfl (up rfl (up rfl (up rfl (up rfl (up rfl (up rfl (up rfl (up rfl (up rfl (up rfl (up rfl (up rfl (up rfl hs13))))))))))))))))))))), up rfl (up rfl (up rfl (up rfl (up rfl (up rfl (up rfl (up rfl (up rfl (up rfl (up rfl (up rfl (up rfl (up rfl (up rfl (up rfl (up rfl (up rfl (up rfl (up rfl (up rfl (up rfl (Eq.trans hs46 (congrArg Value.bool hc10))))))))))))))))))))))), tp⟩ ?_
              rintro τ ⟨hs7, hs8, hs9, hs11, hs12, hs13, hs46, hs70⟩
              refine CW.cond (AF_ev rfl hs70) (fun hc11 => ?_) (fun hc11 => ?_)
              · have hc11_ := hc11
                try simp only [decide_eq_true_eq, decide_eq_false_iff_not, Bool.and_eq_true, Bool.or_eq_true, Bool.and_eq_false_iff, Bool.or_eq_false_iff, Bool.not_eq_true', Bool.not_eq_false', beq_iff_eq, beq_eq_false_iff_ne, bne_iff_ne, bne_eq_false_iff_eq, ne_eq, Int.not_lt, Int.not_le, gt_iff_lt, ge_iff_le] at hc11_
                refine CW.seq ?_
                refine CW.region ?_
                refine RW.soft Wd.a (v := .bool true) (by exact E.move (AF_ev rfl hs7)) ?_
                refine RW.soft Wd.a (v := .bool true) (by exact E.assign (AF_ev rfl tp)) ?_
                refine RW.fin (fun τ => τ 6 = .bool true ∧ τ 7 = .bool true ∧ τ 8 = .slice X2 ((madeR bits).length) c3 ∧ τ 9 = .slice X4 ((chgR (madeR bits) id).length) c5 ∧ τ 11 = .slice (some ⟨b9, o9, none⟩) ((madeR x0).length) c7 ∧ τ 12 = .slice X8 ((madeR x1).length) c9 ∧ τ 13 = .int .i64 ((j : Nat) : Int) ∧ τ 46 = .bool true ∧ τ 70 = .bool true) ⟨tp, up rfl (up rfl hs7), up rfl (up rfl hs8), up rfl (up rfl hs9), up rfl (up rfl hs11), up rfl (up rfl hs12), up rfl (up rfl hs13), up rfl (up rfl hs46), up rfl (up rfl (Eq.trans hs70 (congrArg Value.bool hc11)))⟩ ?_
                rintro τ ⟨hs6, hs7, hs8, hs9, hs11, hs12, hs13, hs46, hs70⟩
                refine CW.ret ?_
                refine Bl.r ?_
                refine Th.r ?_
                refine Th.r ?_
                refine Bl.r ?_
                refine Th.r ?_
                refine ret1 (v := .bool true) rfl (by exact (.tmp (AF_ev rfl hs6) .nil)) ?_
                have hst := (hst.take .here).drop
                exact ⟨p, ((hleX2.trans hleX6).trans hleX8), rfl, hst⟩
              · have hc11_ := hc11
                try simp only [decide_eq_true_eq, decide_eq_false_iff_not, Bool.and_eq_true, Bool.or_eq_true, Bool.and_eq_false_iff, Bool.or_eq_false_iff, Bool.not_eq_true', Bool.not_eq_false', beq_iff_eq, beq_eq_false_iff_ne, bne_iff_ne, bne_eq_false_iff_eq, ne_eq, Int.not_lt, Int.not_le, gt_iff_lt, ge_iff_le] at hc11_
                refine CW.skip ?_
                refine Bl.n ?_
                refine Th.n ?_
                refine CW.region ?_
                refine RW.soft Wd.a (v := .int .i64 ((j : Nat) : Int)) (by exact E.move (AF_ev rfl hs13)) ?_
                refine RW.soft Wd.a (v := .int .i64 (((j : Nat) : Int) + 1)) (by exact E.add (k := .i64) (a := ((j : Nat) : Int)) (b := 1) (AF_ev rfl tp) rfl (show IntKind.i64.wrap (((j : Nat) : Int) + 1) = ((j : Nat) : Int) + 1 from (by rw [IntWalk.i64_in _ (by omega)]))) ?_
                refine RW.soft Wd.a (v := .int .i64 (((j : Nat) : Int) + 1)) (by exact E.assign (AF_ev rfl tp)) ?_
                refine RW.nil ?_
                refine Th.n ?_
                have hf2 : ∀ y ∈ (madeR x0).take (j + 1), (((madeR x1).contains y && ((madeR bits).contains y && (chgR (madeR bits) id).contains y)) = false) := by
                  intro y hy
                  rw [List.take_add_one, hx] at hy
                  rcases List.mem_append.1 hy with h | h
                  · exact hf y h
                  · rw [Option.toList_some, List.mem_singleton] at h; subst h; simp only [Bool.and_eq_false_iff]; first | (left; assumption) | (right; left; assumption) | (right; right; assumption)
                exact ⟨(madeR x0).length - (j + 1), by omega, j + 1, hf2, (by omega), rfl, up rfl (up rfl (up rfl hs7)), up rfl (up rfl (up rfl hs8)), up rfl (up rfl (up rfl hs9)), up rfl (up rfl (up rfl hs11)), up rfl (up rfl (up rfl hs12)), (int_eq (a := ((j : Nat) : Int) + 1) tp (by omega)), hst⟩
            · skip
              refine CW.region ?_
              refine RW.soft Wd.a (v := .slice X8 ((madeR x1).length) c9) (by exact E.move (AF_ev rfl hs12)) ?_
              refine RW.soft Wd.a (v := .slice (some ⟨b9, o9, none⟩) ((madeR x0).length) c7) (by exact E.move (AF_ev rfl (up rfl hs11))) ?_
              refine RW.soft Wd.a (v := .int .i64 ((j : Nat) : Int)) (by exact E.move (AF_ev rfl (up rfl (up rfl hs13)))) ?_
              refine RW.soft Wd.a (v := .pointer (some ⟨b9, o9 + j * 1, none⟩)) (by exact E.indexAddr (b := b9) (o := o9) (l := (madeR x0).length) (c := c7) (i := ((j : Nat) : Int)) Try.underlying58 sz3 (AF_ev rfl (up rfl tp)) (AF_ev rfl tp) (by omega) (by omega) (by simp)) ?_
              refine RW.soft Wd.a (v := .int .i64 x) (by exact E.load (a := ⟨b9, o9 + j * 1, none⟩) Try.underlying3 rfl (AF_ev rfl tp) (by exact hcell9 hst _ _ (flat_get (j := 0) ienc_len hx (rfl)))) ?_
              have hst := hst.emp
              refine RW.hard Wd.a ?_
              refine H.call0 Try.func38 nm38 rfl (map2 (AF_ev rfl (up rfl (up rfl (up rfl (up rfl tp))))) (AF_ev rfl tp)) (Calls.mono ((show Calls Try.prog 38 #[.slice X8 ((madeR x1).length) c9, .int .i64 x] w (fun e w => e = .returned (.bool true) ∧ St p w (Emp :: Own 3 1 (.slice X4 ((chgR (madeR bits) id).length) c5) ((chgR (madeR bits) id).length) ((chgR (madeR bits) id).flatMap ienc) :: R)) from (by
                have hq := q_Has (zs := (madeR x1)) hLX8.tells (Nat.le_trans (made_le _) (by decide)) x hst
                rw [hxb] at hq; exact hq))) ?_)
              rintro _ w ⟨rfl, hst⟩
              have hst := hst.drop
              refine ⟨_, rfl, ?_⟩
              show RW _ _ _ _ _ _ _
              refine RW.soft Wd.a (v := .bool true) (by exact E.move (AF_ev rfl tp)) ?_
              refine RW.soft (by exact Wd.yes (x := 55) rfl (AF_ev rfl tp)) (v := .slice X2 ((madeR bits).length) c3) (by exact E.move (AF_ev rfl (up rfl (up rfl (up rfl (up rfl (up rfl (up rfl (up rfl hs8))))))))) ?_
              refine RW.soft (by exact Wd.yes (x := 55) rfl (AF_ev rfl (up rfl tp))) (v := .slice (some ⟨b9, o9, none⟩) ((madeR x0).length) c7) (by exact E.move (AF_ev rfl (up rfl (up rfl (up rfl (up rfl (up rfl (up rfl (up rfl (up rfl hs11)))))))))) ?_
              refine RW.soft (by exact Wd.yes (x := 55) rfl (AF_ev rfl (up rfl (up rfl tp)))) (v := .int .i64 ((j : Nat) : Int)) (by exact E.move (AF_ev rfl (up rfl (up rfl (up rfl (up rfl (up rfl (up rfl (up rfl (up rfl (up rfl hs13))))))))))) ?_
              refine RW.soft (by exact Wd.yes (x := 55) rfl (AF_ev rfl (up rfl (up rfl (up rfl tp))))) (v := .pointer (some ⟨b9, o9 + j * 1, none⟩)) (by exact E.indexAddr (b := b9) (o := o9) (l := (madeR x0).length) (c := c7) (i := ((j : Nat) : Int)) Try.underlying58 sz3 (AF_ev rfl (up rfl tp)) (AF_ev rfl tp) (by omega) (by omega) (by simp)) ?_
              refine RW.soft (by exact Wd.yes (x := 55) rfl (AF_ev rfl (up rfl (up rfl (up rfl (up rfl tp)))))) (v := .int .i64 x) (by exact E.load (a := ⟨b9, o9 + j * 1, none⟩) Try.underlying3 rfl (AF_ev rfl tp) (by exact hcell9 hst _ _ (flat_get (j := 0) ienc_len hx (rfl)))) ?_
              have hst := hst.emp
              refine RW.hard (by exact Wd.yes (x := 55) rfl (AF_ev rfl (up rfl (up rfl (up rfl (up rfl (up rfl tp))))))) ?_
              refine H.call0 Try.func38 nm38 rfl (map2 (AF_ev rfl (up rfl (up rfl (up rfl (up rfl tp))))) (AF_ev rfl tp)) (Calls.mono ((show Calls Try.prog 38 #[.slice X2 ((madeR bits).length) c3, .int .i64 x] w (fun e w => e = .returned (.bool false) ∧ St p w (Emp :: Own 3 1 (.slice X4 ((chgR (madeR bits) id).length) c5) ((chgR (madeR bits) id).length) ((chgR (madeR bits) id).flatMap ienc) :: R)) from (by
                have hq := q_Has (zs := (madeR bits)) hLX2.tells (Nat.le_trans (made_le _) (by decide)) x hst
                rw [hxm] at hq; exact hq))) ?_)
              rintro _ w ⟨rfl, hst⟩
              have hst := hst.drop
              refine ⟨_, rfl, ?_⟩
              show RW _ _ _ _ _ _ _
              refine RW.soft (by exact Wd.yes (x := 55) rfl (AF_ev rfl (up rfl (up rfl (up rfl (up rfl (up rfl (up rfl tp)))))))) (v := .bool false) (by exact E.move (AF_ev rfl tp)) ?_
              refine RW.pass (by exact Wd.no (x := 62) (b := false) rfl (AF_ev rfl tp) rfl) ?_
              refine RW.pass (by exact Wd.no (x := 62) (b := false) rfl (AF_ev rfl (up rfl tp)) rfl) ?_
              refine RW.pass (by exact Wd.no (x := 62) (b := false) rfl (AF_ev rfl (up rfl (up rfl tp))) rfl) ?_
              refine RW.pass (by exact Wd.no (x := 62) (b := false) rfl (AF_ev rfl (up rfl (up rfl (up rfl tp)))) rfl) ?_
              refine RW.pass (by exact Wd.no (x := 62) (b := false) rfl (AF_ev rfl (up rfl (up rfl (up rfl (up rfl tp))))) rfl) ?_
              refine RW.pass (by exact Wd.no (x := 62) (b := false) rfl (AF_ev rfl (up rfl (up rfl (up rfl (up rfl (up rfl tp)))))) rfl) ?_
              refine RW.soft (by exact Wd.yes (x := 55) rfl (AF_ev rfl (up rfl (up rfl (up rfl (up rfl (up rfl (up rfl (up rfl (up rfl (up rfl (up rfl (up rfl (up rfl (up rfl tp))))))))))))))) (v := .bool false) (by exact E.pickF (AF_ev rfl (up rfl (up rfl (up rfl (up rfl (up rfl (up rfl tp))))))) rfl) ?_
              refine RW.soft Wd.a (v := .bool false) (by exact E.pickT (AF_ev rfl (up rfl (up rfl (up rfl (up rfl (up rfl (up rfl (up rfl (up rfl (up rfl (up rfl (up rfl (up rfl (up rfl (up rfl tp))))))))))))))) (AF_ev rfl tp)) ?_
              refine RW.fin (fun τ => τ 7 = .bool true ∧ τ 8 = .slice X2 ((madeR bits).length) c3 ∧ τ 9 = .slice X4 ((chgR (madeR bits) id).length) c5 ∧ τ 11 = .slice (some ⟨b9, o9, none⟩) ((madeR x0).length) c7 ∧ τ 12 = .slice X8 ((madeR x1).length) c9 ∧ τ 13 = .int .i64 ((j : Nat) : Int) ∧ τ 46 = .bool true ∧ τ 70 = .bool false) ⟨up rfl (up rfl (up rfl (up rfl (up rfl (up rfl (up rfl (up rfl (up rfl (up rfl (up rfl (up rfl (up rfl (up rfl (up rfl (up rfl (up rfl (up rfl (up rfl (up rfl (up rfl (up rfl hs7))))))))))))))))))))), up rfl (up rfl (up rfl (up rfl (up rfl (up rfl (up rfl (up rfl (up rfl (up rfl (up rfl (up rfl (up rfl (up rfl (up rfl (up rfl (up rfl (up rfl (up rfl (up rfl (up rfl (up rfl hs8))))))))))))))))))))), up rfl (up rfl (up rfl (up rfl (up rfl (up rfl (up rfl (up rfl (up rfl (up rfl (up rfl (up rfl (up rfl (up rfl (up rfl (up rfl (up rfl (up rfl (up rfl (up rfl (up rfl (up rfl hs9))))))))))))))))))))), up rfl (up rfl (up rfl (up rfl (up rfl (up rfl (up rfl (up rfl (up rfl (up rfl (up rfl (up rfl (up rfl (up rfl (up rfl (up rfl (up rfl (up rfl (up rfl (up rfl (up rfl (up rfl hs11))))))))))))))))))))), up rfl (up rfl (up rfl (up rfl (up rfl (up rfl (up rfl (up rfl (up rfl (up rfl (up rfl (up rfl (up rfl (up rfl (up rfl (up rfl (up rfl (up rfl (up rfl (up rfl (up rfl (up rfl hs12))))))))))))))))))))), up rfl (up rfl (up rfl (up rfl (up rfl (up rfl (up rfl (up rfl (up rfl (up rfl (up rfl (up rfl (up rfl (up rfl (up rfl (up rfl (up rfl (up rfl (up rfl (up rfl (up rfl (up rfl hs13))))))))))))))))))))), up rfl (up rfl (up rfl (up rfl (up rfl (up rfl (up rfl (up rfl (up rfl (up rfl (up rfl (up rfl (up rfl (up rfl (up rfl (up rfl (up rfl (up rfl (up rfl (up rfl (up rfl (up rfl (Eq.trans hs46 (congrArg Value.bool hc10))))))))))))))))))))))), tp⟩ ?_
              rintro τ ⟨hs7, hs8, hs9, hs11, hs12, hs13, hs46, hs70⟩
              refine CW.condF (AF_ev rfl hs70) ?_
              refine CW.skip ?_
              refine Bl.n ?_
              refine Th.n ?_
              refine CW.region ?_
              refine RW.soft Wd.a (v := .int .i64 ((j : Nat) : Int)) (by exact E.move (AF_ev rfl hs13)) ?_
              refine RW.soft Wd.a (v := .int .i64 (((j : Nat) : Int) + 1)) (by exact E.add (k := .i64) (a := ((j : Nat) : Int)) (b := 1) (AF_ev rfl tp) rfl (show IntKind.i64.wrap (((j : Nat) : Int) + 1) = ((j : Nat) : Int) + 1 from (by rw [IntWalk.i64_in _ (by omega)]))) ?_
              refine RW.soft Wd.a (v := .int .i64 (((j : Nat) : Int) + 1)) (by exact E.assign (AF_ev rfl tp)) ?_
              refine RW.nil ?_
              refine Th.n ?_
              have hf2 : ∀ y ∈ (madeR x0).take (j + 1), (((madeR x1).contains y && ((madeR bits).contains y && (chgR (madeR bits) id).contains y)) = false) := by
                intro y hy
                rw [List.take_add_one, hx] at hy
                rcases List.mem_append.1 hy with h | h
                · exact hf y h
                · rw [Option.toList_some, List.mem_singleton] at h; subst h; simp only [Bool.and_eq_false_iff]; first | (left; assumption) | (right; left; assumption) | (right; right; assumption)
              exact ⟨(madeR x0).length - (j + 1), by omega, j + 1, hf2, (by omega), rfl, up rfl (up rfl (up rfl hs7)), up rfl (up rfl (up rfl hs8)), up rfl (up rfl (up rfl hs9)), up rfl (up rfl (up rfl hs11)), up rfl (up rfl (up rfl hs12)), (int_eq (a := ((j : Nat) : Int) + 1) tp (by omega)), hst⟩
          · skip
            refine CW.region ?_
            refine RW.soft Wd.a (v := .slice X8 ((madeR x1).length) c9) (by exact E.move (AF_ev rfl hs12)) ?_
            refine RW.soft Wd.a (v := .slice (some ⟨b9, o9, none⟩) ((madeR x0).length) c7) (by exact E.move (AF_ev rfl (up rfl hs11))) ?_
            refine RW.soft Wd.a (v := .int .i64 ((j : Nat) : Int)) (by exact E.move (AF_ev rfl (up rfl (up rfl hs13)))) ?_
            refine RW.soft Wd.a (v := .pointer (some ⟨b9, o9 + j * 1, none⟩)) (by exact E.indexAddr (b := b9) (o := o9) (l := (madeR x0).length) (c := c7) (i := ((j : Nat) : Int)) Try.underlying58 sz3 (AF_ev rfl (up rfl tp)) (AF_ev rfl tp) (by omega) (by omega) (by simp)) ?_
            refine RW.soft Wd.a (v := .int .i64 x) (by exact E.load (a := ⟨b9, o9 + j * 1, none⟩) Try.underlying3 rfl (AF_ev rfl tp) (by exact hcell9 hst _ _ (flat_get (j := 0) ienc_len hx (rfl)))) ?_
            have hst := hst.emp
            refine RW.hard Wd.a ?_
            refine H.call0 Try.func38 nm38 rfl (map2 (AF_ev rfl (up rfl (up rfl (up rfl (up rfl tp))))) (AF_ev rfl tp)) (Calls.mono ((show Calls Try.prog 38 #[.slice X8 ((madeR x1).length) c9, .int .i64 x] w (fun e w => e = .returned (.bool false) ∧ St p w (Emp :: Own 3 1 (.slice X4 ((chgR (madeR bits) id).length) c5) ((chgR (madeR bits) id).length) ((chgR (madeR bits) id).flatMap ienc) :: R)) from (by
              have hq := q_Has (zs := (madeR x1)) hLX8.tells (Nat.le_trans (made_le _) (by decide)) x hst
              rw [hxb] at hq; exact hq))) ?_)
            rintro _ w ⟨rfl, hst⟩
            have hst := hst.drop
            refine ⟨_, rfl, ?_⟩
            show RW _ _ _ _ _ _ _
            refine RW.soft Wd.a (v := .bool false) (by exact E.move (AF_ev rfl tp)) ?_
            refine RW.pass (by exact Wd.no (x := 55) (b := false) rfl (AF_ev rfl tp) rfl) ?_
            refine RW.pass (by exact Wd.no (x := 55) (b := false) rfl (AF_ev rfl (up rfl tp)) rfl) ?_
            refine RW.pass (by exact Wd.no (x := 55) (b := false) rfl (AF_ev rfl (up rfl (up rfl tp))) rfl) ?_
            refine RW.pass (by exact Wd.no (x := 55) (b := false) rfl (AF_ev rfl (up rfl (up rfl (up rfl tp)))) rfl) ?_
            refine RW.pass (by exact Wd.no (x := 55) (b := false) rfl (AF_ev rfl (up rfl (up rfl (up rfl (up rfl tp))))) rfl) ?_
            refine RW.pass (by exact Wd.no (x := 55) (b := false) rfl (AF_ev rfl (up rfl (up rfl (up rfl (up rfl (up rfl tp)))))) rfl) ?_
            refine RW.pass (by exact Wd.no (x := 55) (b := false) rfl (AF_ev rfl (up rfl (up rfl (up rfl (up rfl (up rfl (up rfl tp))))))) rfl) ?_
            refine RW.pass (by exact Wd.u (x := 62) rfl (AF_ev rfl tp)) ?_
            refine RW.pass (by exact Wd.u (x := 62) rfl (AF_ev rfl (up rfl tp))) ?_
            refine RW.pass (by exact Wd.u (x := 62) rfl (AF_ev rfl (up rfl (up rfl tp)))) ?_
            refine RW.pass (by exact Wd.u (x := 62) rfl (AF_ev rfl (up rfl (up rfl (up rfl tp))))) ?_
            refine RW.pass (by exact Wd.u (x := 62) rfl (AF_ev rfl (up rfl (up rfl (up rfl (up rfl tp)))))) ?_
            refine RW.pass (by exact Wd.u (x := 62) rfl (AF_ev rfl (up rfl (up rfl (up rfl (up rfl (up rfl tp))))))) ?_
            refine RW.pass (by exact Wd.no (x := 55) (b := false) rfl (AF_ev rfl (up rfl (up rfl (up rfl (up rfl (up rfl (up rfl (up rfl (up rfl (up rfl (up rfl (up rfl (up rfl (up rfl tp)))))))))))))) rfl) ?_
            refine RW.soft Wd.a (v := .bool false) (by exact E.pickF (AF_ev rfl (up rfl (up rfl (up rfl (up rfl (up rfl (up rfl (up rfl (up rfl (up rfl (up rfl (up rfl (up rfl (up rfl (up rfl tp))))))))))))))) rfl) ?_
            refine RW.fin (fun τ => τ 7 = .bool true ∧ τ 8 = .slice X2 ((madeR bits).length) c3 ∧ τ 9 = .slice X4 ((chgR (madeR bits) id).length) c5 ∧ τ 11 = .slice (some ⟨b9, o9, none⟩) ((madeR x0).length) c7 ∧ τ 12 = .slice X8 ((madeR x1).length) c9 ∧ τ 13 = .int .i64 ((j : Nat) : Int) ∧ τ 46 = .bool true ∧ τ 70 = .bool false) ⟨up rfl (up rfl (up rfl (up rfl (up rfl (up rfl (up rfl (up rfl (up rfl (up rfl (up rfl (up rfl (up rfl (up rfl (up rfl (up rfl (up rfl (up rfl (up rfl (up rfl (up rfl (up rfl hs7))))))))))))))))))))), up rfl (up rfl (up rfl (up rfl (up rfl (up rfl (up rfl (up rfl (up rfl (up rfl (up rfl (up rfl (up rfl (up rfl (up rfl (up rfl (up rfl (up rfl (up rfl (up rfl (up rfl (up rfl hs8))))))))))))))))))))), up rfl (up rfl (up rfl (up rfl (up rfl (up rfl (up rfl (up rfl (up rfl (up rfl (up rfl (up rfl (up rfl (up rfl (up rfl (up rfl (up rfl (up rfl (up rfl (up rfl (up rfl (up rfl hs9))))))))))))))))))))), up rfl (up rfl (up rfl (up rfl (up rfl (up rfl (up rfl (up rfl (up rfl (up rfl (up rfl (up rfl (up rfl (up rfl (up rfl (up rfl (up rfl (up rfl (up rfl (up rfl (up rfl (up rfl hs11))))))))))))))))))))), up rfl (up rfl (up rfl (up rfl (up rfl (up rfl (up rfl (up rfl (up rfl (up rfl (up rfl (up rfl (up rfl (up rfl (up rfl (up rfl (up rfl (up rfl (up rfl (up rfl (up rfl (up rfl hs12))))))))))))))))))))), up rfl (up rfl (up rfl (up rfl (up rfl (up rfl (up rfl (up rfl (up rfl (up rfl (up rfl (up rfl (up rfl (up rfl (up rfl (up rfl (up rfl (up rfl (up rfl (up rfl (up rfl (up rfl hs13))))))))))))))))))))), up rfl (up rfl (up rfl (up rfl (up rfl (up rfl (up rfl (up rfl (up rfl (up rfl (up rfl (up rfl (up rfl (up rfl (up rfl (up rfl (up rfl (up rfl (up rfl (up rfl (up rfl (up rfl (Eq.trans hs46 (congrArg Value.bool hc10))))))))))))))))))))))), tp⟩ ?_
            rintro τ ⟨hs7, hs8, hs9, hs11, hs12, hs13, hs46, hs70⟩
            refine CW.condF (AF_ev rfl hs70) ?_
            refine CW.skip ?_
            refine Bl.n ?_
            refine Th.n ?_
            refine CW.region ?_
            refine RW.soft Wd.a (v := .int .i64 ((j : Nat) : Int)) (by exact E.move (AF_ev rfl hs13)) ?_
            refine RW.soft Wd.a (v := .int .i64 (((j : Nat) : Int) + 1)) (by exact E.add (k := .i64) (a := ((j : Nat) : Int)) (b := 1) (AF_ev rfl tp) rfl (show IntKind.i64.wrap (((j : Nat) : Int) + 1) = ((j : Nat) : Int) + 1 from (by rw [IntWalk.i64_in _ (by omega)]))) ?_
            refine RW.soft Wd.a (v := .int .i64 (((j : Nat) : Int) + 1)) (by exact E.assign (AF_ev rfl tp)) ?_
            refine RW.nil ?_
            refine Th.n ?_
            have hf2 : ∀ y ∈ (madeR x0).take (j + 1), (((madeR x1).contains y && ((madeR bits).contains y && (chgR (madeR bits) id).contains y)) = false) := by
              intro y hy
              rw [List.take_add_one, hx] at hy
              rcases List.mem_append.1 hy with h | h
              · exact hf y h
              · rw [Option.toList_some, List.mem_singleton] at h; subst h; simp only [Bool.and_eq_false_iff]; first | (left; assumption) | (right; left; assumption) | (right; right; assumption)
            exact ⟨(madeR x0).length - (j + 1), by omega, j + 1, hf2, (by omega), rfl, up rfl (up rfl (up rfl hs7)), up rfl (up rfl (up rfl hs8)), up rfl (up rfl (up rfl hs9)), up rfl (up rfl (up rfl hs11)), up rfl (up rfl (up rfl hs12)), (int_eq (a := ((j : Nat) : Int) + 1) tp (by omega)), hst⟩
        · have hc10_ := hc10
          try simp only [decide_eq_true_eq, decide_eq_false_iff_not, Bool.and_eq_true, Bool.or_eq_true, Bool.and_eq_false_iff, Bool.or_eq_false_iff, Bool.not_eq_true', Bool.not_eq_false', beq_iff_eq, beq_eq_false_iff_ne, bne_iff_ne, bne_eq_false_iff_eq, ne_eq, Int.not_lt, Int.not_le, gt_iff_lt, ge_iff_le] at hc10_
          refine CW.exit ?_
          refine Th.x ?_
          refine Th.x ?_
          refine Bl.x ?_
          refine Th.n ?_
          refine CW.seq ?_
          refine CW.region ?_
          refine RW.soft Wd.a (v := .bool false) (by exact E.assign rfl) ?_
          refine RW.fin (fun τ => τ 6 = .bool false ∧ τ 7 = .bool true ∧ τ 8 = .slice X2 ((madeR bits).length) c3 ∧ τ 9 = .slice X4 ((chgR (madeR bits) id).length) c5 ∧ τ 11 = .slice X6 ((madeR x0).length) c7 ∧ τ 12 = .slice X8 ((madeR x1).length) c9 ∧ τ 13 = .int .i64 ((j : Nat) : Int) ∧ τ 46 = .bool false) ⟨tp, up rfl hs7, up rfl hs8, up rfl hs9, up rfl hs11, up rfl hs12, up rfl hs13, up rfl (Eq.trans hs46 (congrArg Value.bool hc10))⟩ ?_
          rintro τ ⟨hs6, hs7, hs8, hs9, hs11, hs12, hs13, hs46⟩
          refine CW.ret ?_
          refine ret1 (v := .bool false) rfl (by exact (.tmp (AF_ev rfl hs6) .nil)) ?_
          exfalso
          obtain ⟨x, hx, h1, h2, h3⟩ := meet hE0 (half hX1) (half hX2)
          have hno := hf x (by rw [List.take_of_length_le (by omega)]; exact hx)
          rw [h1, h2, h3] at hno
          cases hno
      · skip
        refine CW.region ?_
        refine RW.soft Wd.a (v := .slice X2 ((madeR bits).length) c3) (by exact E.move (AF_ev rfl hs8)) ?_
        refine RW.soft Wd.a (v := .slice X6 ((madeR x0).length) c7) (by exact E.move (AF_ev rfl (up rfl hs11))) ?_
        have hst := hst.emp
        have hst := hst.emp
        refine RW.hard Wd.a ?_
        refine H.call0 Try.func41 nm41 rfl (map2 (AF_ev rfl (up rfl tp)) (AF_ev rfl tp)) (Calls.mono ((show Calls Try.prog 41 #[.slice X2 ((madeR bits).length) c3, .slice X6 ((madeR x0).length) c7] w (fun e w => e = .returned (.bool true) ∧ St p w (Emp :: Emp :: Own 3 1 (.slice X4 ((chgR (madeR bits) id).length) c5) ((chgR (madeR bits) id).length) ((chgR (madeR bits) id).flatMap ienc) :: pt b1 (.cells #[.int .i64 x0, .int .i64 x1] 68) :: R)) from (by
          have hq := q_Most (zs := (madeR bits)) (ys := (madeR x0)) hLX2.tells (Nat.le_trans (made_le _) (by decide)) hLX6.tells (Nat.le_trans (made_le _) (by decide)) (made_pos _) hst
          rw [hX1] at hq; exact hq))) ?_)
        rintro _ w ⟨rfl, hst⟩
        have hst := (hst.take (.there .here)).drop
        have hst := hst.drop
        refine ⟨_, rfl, ?_⟩
        show RW _ _ _ _ _ _ _
        refine RW.soft Wd.a (v := .bool false) (by exact E.not (b := true) (AF_ev rfl tp)) ?_
        refine RW.soft Wd.a (v := .bool false) (by exact E.move (AF_ev rfl tp)) ?_
        refine RW.soft (by exact Wd.yes (x := 36) rfl (AF_ev rfl tp)) (v := .slice X4 ((chgR (madeR bits) id).length) c5) (by exact E.move (AF_ev rfl (up rfl (up rfl (up rfl (up rfl (up rfl hs9))))))) ?_
        refine RW.soft (by exact Wd.yes (x := 36) rfl (AF_ev rfl (up rfl tp))) (v := .slice X8 ((madeR x1).length) c9) (by exact E.move (AF_ev rfl (up rfl (up rfl (up rfl (up rfl (up rfl (up rfl hs12)))))))) ?_
        have hst := hst.emp
        have hst := hst.take (.there .here)
        refine RW.hard (by exact Wd.yes (x := 36) rfl (AF_ev rfl (up rfl (up rfl tp)))) ?_
        refine H.call0 Try.func41 nm41 rfl (map2 (AF_ev rfl (up rfl tp)) (AF_ev rfl tp)) (Calls.mono ((show Calls Try.prog 41 #[.slice X4 ((chgR (madeR bits) id).length) c5, .slice X8 ((madeR x1).length) c9] w (fun e w => e = .returned (.bool false) ∧ St p w (Own 3 1 (.slice X4 ((chgR (madeR bits) id).length) c5) ((chgR (madeR bits) id).length) ((chgR (madeR bits) id).flatMap ienc) :: Emp :: pt b1 (.cells #[.int .i64 x0, .int .i64 x1] 68) :: R)) from (by
          have hq := q_Most (zs := (chgR (madeR bits) id)) (ys := (madeR x1)) (own_TI (by first | rfl | omega | simp)) (Nat.le_trans (chg_le _ _) (by decide)) hLX8.tells (Nat.le_trans (made_le _) (by decide)) (List.length_pos_iff.2 (check_ok (back_ok hE0)).2) hst
          rw [hX2] at hq; exact hq))) ?_)
        rintro _ w ⟨rfl, hst⟩
        have hst := (hst.take (.there .here)).drop
        refine ⟨_, rfl, ?_⟩
        show RW _ _ _ _ _ _ _
        refine RW.soft (by exact Wd.yes (x := 36) rfl (AF_ev rfl (up rfl (up rfl (up rfl tp))))) (v := .bool true) (by exact E.not (b := false) (AF_ev rfl tp)) ?_
        refine RW.soft Wd.a (v := .bool true) (by exact E.pickF (AF_ev rfl (up rfl (up rfl (up rfl (up rfl tp))))) (AF_ev rfl tp)) ?_
        refine RW.fin (fun τ => τ 0 = .int .i64 bits ∧ τ 1 = .agg #[.int .i64 x0, .int .i64 x1] ∧ τ 2 = .int .i64 id ∧ τ 4 = .pointer (some ⟨b1, 0, none⟩) ∧ τ 6 = .bool false ∧ τ 7 = .bool true ∧ τ 8 = .slice X2 ((madeR bits).length) c3 ∧ τ 9 = .slice X4 ((chgR (madeR bits) id).length) c5 ∧ τ 10 = .int .i64 (chgE (madeR bits) id) ∧ τ 11 = .slice X6 ((madeR x0).length) c7 ∧ τ 12 = .slice X8 ((madeR x1).length) c9 ∧ τ 24 = .bool false ∧ τ 41 = .bool true) ⟨up rfl (up rfl (up rfl (up rfl (up rfl (up rfl (up rfl (up rfl (up rfl (up rfl hs0))))))))), up rfl (up rfl (up rfl (up rfl (up rfl (up rfl (up rfl (up rfl (up rfl (up rfl hs1))))))))), up rfl (up rfl (up rfl (up rfl (up rfl (up rfl (up rfl (up rfl (up rfl (up rfl hs2))))))))), up rfl (up rfl (up rfl (up rfl (up rfl (up rfl (up rfl (up rfl (up rfl (up rfl hs4))))))))), up rfl (up rfl (up rfl (up rfl (up rfl (up rfl (up rfl (up rfl (up rfl (up rfl hs6))))))))), up rfl (up rfl (up rfl (up rfl (up rfl (up rfl (up rfl (up rfl (up rfl (up rfl hs7))))))))), up rfl (up rfl (up rfl (up rfl (up rfl (up rfl (up rfl (up rfl (up rfl (up rfl hs8))))))))), up rfl (up rfl (up rfl (up rfl (up rfl (up rfl (up rfl (up rfl (up rfl (up rfl hs9))))))))), up rfl (up rfl (up rfl (up rfl (up rfl (up rfl (up rfl (up rfl (up rfl (up rfl hs10))))))))), up rfl (up rfl (up rfl (up rfl (up rfl (up rfl (up rfl (up rfl (up rfl (up rfl hs11))))))))), up rfl (up rfl (up rfl (up rfl (up rfl (up rfl (up rfl (up rfl (up rfl (up rfl hs12))))))))), up rfl (up rfl (up rfl (up rfl (up rfl (up rfl (up rfl (up rfl (up rfl (up rfl hs24))))))))), tp⟩ ?_
        rintro τ ⟨hs0, hs1, hs2, hs4, hs6, hs7, hs8, hs9, hs10, hs11, hs12, hs24, hs41⟩
        refine CW.condT (AF_ev rfl hs41) ?_
        refine CW.seq ?_
        refine CW.region ?_
        refine RW.soft Wd.a (v := .bool true) (by exact E.move (AF_ev rfl hs7)) ?_
        refine RW.soft Wd.a (v := .bool true) (by exact E.assign (AF_ev rfl tp)) ?_
        refine RW.fin (fun τ => τ 0 = .int .i64 bits ∧ τ 1 = .agg #[.int .i64 x0, .int .i64 x1] ∧ τ 2 = .int .i64 id ∧ τ 4 = .pointer (some ⟨b1, 0, none⟩) ∧ τ 6 = .bool true ∧ τ 7 = .bool true ∧ τ 8 = .slice X2 ((madeR bits).length) c3 ∧ τ 9 = .slice X4 ((chgR (madeR bits) id).length) c5 ∧ τ 10 = .int .i64 (chgE (madeR bits) id) ∧ τ 11 = .slice X6 ((madeR x0).length) c7 ∧ τ 12 = .slice X8 ((madeR x1).length) c9 ∧ τ 24 = .bool false ∧ τ 41 = .bool true) ⟨up rfl (up rfl hs0), up rfl (up rfl hs1), up rfl (up rfl hs2), up rfl (up rfl hs4), tp, up rfl (up rfl hs7), up rfl (up rfl hs8), up rfl (up rfl hs9), up rfl (up rfl hs10), up rfl (up rfl hs11), up rfl (up rfl hs12), up rfl (up rfl hs24), up rfl (up rfl hs41)⟩ ?_
        rintro τ ⟨hs0, hs1, hs2, hs4, hs6, hs7, hs8, hs9, hs10, hs11, hs12, hs24, hs41⟩
        refine CW.ret ?_
        refine Th.r ?_
        refine ret1 (v := .bool true) rfl (by exact (.tmp (AF_ev rfl hs6) .nil)) ?_
        have hst := (hst.take .here).drop
        have hst := (hst.take .here).drop
        exact ⟨p, ((hleX2.trans hleX6).trans hleX8), rfl, hst⟩
    · skip
      refine CW.region ?_
      refine RW.soft Wd.a (v := .slice X2 ((madeR bits).length) c3) (by exact E.move (AF_ev rfl hs8)) ?_
      refine RW.soft Wd.a (v := .slice X6 ((madeR x0).length) c7) (by exact E.move (AF_ev rfl (up rfl hs11))) ?_
      have hst := hst.emp
      have hst := hst.emp
      refine RW.hard Wd.a ?_
      refine H.call0 Try.func41 nm41 rfl (map2 (AF_ev rfl (up rfl tp)) (AF_ev rfl tp)) (Calls.mono ((show Calls Try.prog 41 #[.slice X2 ((madeR bits).length) c3, .slice X6 ((madeR x0).length) c7] w (fun e w => e = .returned (.bool false) ∧ St p w (Emp :: Emp :: Own 3 1 (.slice X4 ((chgR (madeR bits) id).length) c5) ((chgR (madeR bits) id).length) ((chgR (madeR bits) id).flatMap ienc) :: pt b1 (.cells #[.int .i64 x0, .int .i64 x1] 68) :: R)) from (by
        have hq := q_Most (zs := (madeR bits)) (ys := (madeR x0)) hLX2.tells (Nat.le_trans (made_le _) (by decide)) hLX6.tells (Nat.le_trans (made_le _) (by decide)) (made_pos _) hst
        rw [hX1] at hq; exact hq))) ?_)
      rintro _ w ⟨rfl, hst⟩
      have hst := (hst.take (.there .here)).drop
      have hst := hst.drop
      refine ⟨_, rfl, ?_⟩
      show RW _ _ _ _ _ _ _
      refine RW.soft Wd.a (v := .bool true) (by exact E.not (b := false) (AF_ev rfl tp)) ?_
      refine RW.soft Wd.a (v := .bool true) (by exact E.move (AF_ev rfl tp)) ?_
      refine RW.pass (by exact Wd.no (x := 36) (b := true) rfl (AF_ev rfl tp) rfl) ?_
      refine RW.pass (by exact Wd.no (x := 36) (b := true) rfl (AF_ev rfl (up rfl tp)) rfl) ?_
      refine RW.pass (by exact Wd.no (x := 36) (b := true) rfl (AF_ev rfl (up rfl (up rfl tp))) rfl) ?_
      refine RW.pass (by exact Wd.no (x := 36) (b := true) rfl (AF_ev rfl (up rfl (up rfl (up rfl tp)))) rfl) ?_
      refine RW.soft Wd.a (v := .bool true) (by exact E.pickT (AF_ev rfl (up rfl (up rfl (up rfl (up rfl tp))))) rfl) ?_
      refine RW.fin (fun τ => τ 0 = .int .i64 bits ∧ τ 1 = .agg #[.int .i64 x0, .int .i64 x1] ∧ τ 2 = .int .i64 id ∧ τ 4 = .pointer (some ⟨b1, 0, none⟩) ∧ τ 6 = .bool false ∧ τ 7 = .bool true ∧ τ 8 = .slice X2 ((madeR bits).length) c3 ∧ τ 9 = .slice X4 ((chgR (madeR bits) id).length) c5 ∧ τ 10 = .int .i64 (chgE (madeR bits) id) ∧ τ 11 = .slice X6 ((madeR x0).length) c7 ∧ τ 12 = .slice X8 ((madeR x1).length) c9 ∧ τ 24 = .bool false ∧ τ 41 = .bool true) ⟨up rfl (up rfl (up rfl (up rfl (up rfl (up rfl (up rfl (up rfl (up rfl (up rfl hs0))))))))), up rfl (up rfl (up rfl (up rfl (up rfl (up rfl (up rfl (up rfl (up rfl (up rfl hs1))))))))), up rfl (up rfl (up rfl (up rfl (up rfl (up rfl (up rfl (up rfl (up rfl (up rfl hs2))))))))), up rfl (up rfl (up rfl (up rfl (up rfl (up rfl (up rfl (up rfl (up rfl (up rfl hs4))))))))), up rfl (up rfl (up rfl (up rfl (up rfl (up rfl (up rfl (up rfl (up rfl (up rfl hs6))))))))), up rfl (up rfl (up rfl (up rfl (up rfl (up rfl (up rfl (up rfl (up rfl (up rfl hs7))))))))), up rfl (up rfl (up rfl (up rfl (up rfl (up rfl (up rfl (up rfl (up rfl (up rfl hs8))))))))), up rfl (up rfl (up rfl (up rfl (up rfl (up rfl (up rfl (up rfl (up rfl (up rfl hs9))))))))), up rfl (up rfl (up rfl (up rfl (up rfl (up rfl (up rfl (up rfl (up rfl (up rfl hs10))))))))), up rfl (up rfl (up rfl (up rfl (up rfl (up rfl (up rfl (up rfl (up rfl (up rfl hs11))))))))), up rfl (up rfl (up rfl (up rfl (up rfl (up rfl (up rfl (up rfl (up rfl (up rfl hs12))))))))), up rfl (up rfl (up rfl (up rfl (up rfl (up rfl (up rfl (up rfl (up rfl (up rfl hs24))))))))), tp⟩ ?_
      rintro τ ⟨hs0, hs1, hs2, hs4, hs6, hs7, hs8, hs9, hs10, hs11, hs12, hs24, hs41⟩
      refine CW.condT (AF_ev rfl hs41) ?_
      refine CW.seq ?_
      refine CW.region ?_
      refine RW.soft Wd.a (v := .bool true) (by exact E.move (AF_ev rfl hs7)) ?_
      refine RW.soft Wd.a (v := .bool true) (by exact E.assign (AF_ev rfl tp)) ?_
      refine RW.fin (fun τ => τ 0 = .int .i64 bits ∧ τ 1 = .agg #[.int .i64 x0, .int .i64 x1] ∧ τ 2 = .int .i64 id ∧ τ 4 = .pointer (some ⟨b1, 0, none⟩) ∧ τ 6 = .bool true ∧ τ 7 = .bool true ∧ τ 8 = .slice X2 ((madeR bits).length) c3 ∧ τ 9 = .slice X4 ((chgR (madeR bits) id).length) c5 ∧ τ 10 = .int .i64 (chgE (madeR bits) id) ∧ τ 11 = .slice X6 ((madeR x0).length) c7 ∧ τ 12 = .slice X8 ((madeR x1).length) c9 ∧ τ 24 = .bool false ∧ τ 41 = .bool true) ⟨up rfl (up rfl hs0), up rfl (up rfl hs1), up rfl (up rfl hs2), up rfl (up rfl hs4), tp, up rfl (up rfl hs7), up rfl (up rfl hs8), up rfl (up rfl hs9), up rfl (up rfl hs10), up rfl (up rfl hs11), up rfl (up rfl hs12), up rfl (up rfl hs24), up rfl (up rfl hs41)⟩ ?_
      rintro τ ⟨hs0, hs1, hs2, hs4, hs6, hs7, hs8, hs9, hs10, hs11, hs12, hs24, hs41⟩
      refine CW.ret ?_
      refine Th.r ?_
      refine ret1 (v := .bool true) rfl (by exact (.tmp (AF_ev rfl hs6) .nil)) ?_
      have hst := (hst.take .here).drop
      have hst := (hst.take .here).drop
      exact ⟨p, ((hleX2.trans hleX6).trans hleX8), rfl, hst⟩
end Go.Proofs.Ytjagffnbobnofaa
