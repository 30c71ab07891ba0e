/- The functions of the package quorum, walked through operation by operation. -/
import Derived.Test.YtjagffnbobnofaaQ28
import Derived.Test.YtjagffnbobnofaaQ30
import Derived.Test.YtjagffnbobnofaaQ26
import Derived.Test.YtjagffnbobnofaaQ23
import Derived.Test.YtjagffnbobnofaaQ25
import Derived.Test.YtjagffnbobnofaaQ18
import Derived.Test.YtjagffnbobnofaaQ22
import Derived.Test.YtjagffnbobnofaaQ17
import Derived.Test.YtjagffnbobnofaaQ15
import Derived.Test.YtjagffnbobnofaaQ16
import Derived.Test.YtjagffnbobnofaaQ13
import Derived.Test.YtjagffnbobnofaaQ14
import Derived.Test.YtjagffnbobnofaaQ11
import Derived.Test.YtjagffnbobnofaaQ12
import Derived.Test.YtjagffnbobnofaaQ9
import Derived.Test.YtjagffnbobnofaaQ10
import Derived.Test.YtjagffnbobnofaaQ8
import Derived.Test.YtjagffnbobnofaaSN
import Derived.Test.YtjagffnbobnofaaQ6
import Derived.Test.YtjagffnbobnofaaQ7
import Derived.Test.YtjagffnbobnofaaQ4
import Derived.Test.YtjagffnbobnofaaQ5
import Derived.Test.YtjagffnbobnofaaQ2
import Derived.Test.YtjagffnbobnofaaQ1
import Derived.Test.YtjagffnbobnofaaQ3
import Derived.Test.YtjagffnbobnofaaQ0
import Derived.Test.YtjagffnbobnofaaSM
namespace Go.Proofs.Ytjagffnbobnofaa
open Go.RowKit Go.SL Go.Q18
attribute [local irreducible] Go.SL.RW Go.SL.CW Go.SL.RD Go.SL.Hd Go.SL.St
set_option linter.unusedVariables false
set_option linter.unusedSimpArgs false



theorem rises_walk {p : Pers} {w : World} {R : List Assn} (bits : Int) {Y : Option Addr} {cy : Nat} {ys : List Int} (hY : LI p (.slice Y ys.length cy) ys) (hy : ys.length ≤ 9223372036854775807) (hf : Fit ys) (x0 x1 : Int) (hst : St p w (R)) :
    Calls Try.prog 10 #[.int .i64 bits, .slice Y ys.length cy, .agg #[.int .i64 x0, .int .i64 x1]] w fun e w => ∃ q, p.le q ∧ e = .returned (.bool true) ∧ St q w R := by
  refine enter Try.func10 rfl (by simp) (n := 115) rfl fun τ hτ => ?_
  have hs0 : τ 0 = .int .i64 bits := hτ 0 (by simp)
  have hs1 : τ 1 = .slice Y ys.length cy := hτ 1 (by simp)
  have hs2 : τ 2 = .agg #[.int .i64 x0, .int .i64 x1] := hτ 2 (by simp)
  clear hτ
  refine CW.seq ?_
  refine CW.region ?_
  refine RW.hard Wd.a ?_
  refine H.box (v := .agg #[.int .i64 x0, .int .i64 x1]) (AF_ev rfl hs2) hst fun b1 w hst => ?_
  refine RW.soft Wd.a (v := .bool false) (by exact E.assign rfl) ?_
  refine RW.fin (fun τ => τ 0 = .int .i64 bits ∧ τ 1 = .slice Y ys.length cy ∧ τ 2 = .agg #[.int .i64 x0, .int .i64 x1] ∧ τ 5 = .pointer (some ⟨b1, 0, none⟩) ∧ τ 6 = .bool false) ⟨up rfl (up rfl hs0), up rfl (up rfl hs1), up rfl (up rfl hs2), up rfl tp, tp⟩ ?_
  rintro τ ⟨hs0, hs1, hs2, hs5, hs6⟩
  refine CW.seq ?_
  refine CW.region ?_
  refine RW.hard Wd.a ?_
  refine H.call0 Try.func31 nm31 rfl map0 (Calls.mono (shown18 hst) ?_)
  rintro _ w ⟨rfl, hst⟩
  refine ⟨_, rfl, ?_⟩
  show RW _ _ _ _ _ _ _
  refine RW.soft Wd.a (v := .bool true) (by exact E.assign (AF_ev rfl tp)) ?_
  refine RW.fin (fun τ => τ 0 = .int .i64 bits ∧ τ 1 = .slice Y ys.length cy ∧ τ 2 = .agg #[.int .i64 x0, .int .i64 x1] ∧ τ 5 = .pointer (some ⟨b1, 0, none⟩) ∧ τ 6 = .bool false ∧ τ 7 = .bool true) ⟨up rfl (up rfl hs0), up rfl (up rfl hs1), up rfl (up rfl hs2), up rfl (up rfl hs5), up rfl (up rfl hs6), tp⟩ ?_
  rintro τ ⟨hs0, hs1, hs2, hs5, hs6, hs7⟩
  refine CW.seq ?_
  refine CW.region ?_
  refine RW.soft Wd.a (v := .int .i64 bits) (by exact E.move (AF_ev rfl hs0)) ?_
  refine RW.hard Wd.a ?_
  refine H.call0 Try.func40 nm40 rfl (map1 (AF_ev rfl tp)) (Calls.mono (q_made bits hst) ?_)
  rintro _ w ⟨vX2, rfl, hst⟩
  obtain ⟨X2, c3, heX2, hcX2, hmX2, hlX2, hbX2⟩ := hst.shape
  subst heX2
  have hst0_ := keepI rfl hst
  clear hst
  obtain ⟨p, hleX2, hLX2, hst⟩ := hst0_
  replace hY := LI.le hY hleX2
  have hm7X2 := made_le bits
  have hmpX2 := made_pos bits
  refine ⟨_, rfl, ?_⟩
  show RW _ _ _ _ _ _ _
  refine RW.soft Wd.a (v := .slice X2 ((madeR bits).length) c3) (by exact E.assign (AF_ev rfl tp)) ?_
  refine RW.fin (fun τ => τ 0 = .int .i64 bits ∧ τ 1 = .slice Y ys.length cy ∧ τ 2 = .agg #[.int .i64 x0, .int .i64 x1] ∧ τ 5 = .pointer (some ⟨b1, 0, none⟩) ∧ τ 6 = .bool false ∧ τ 7 = .bool true ∧ τ 8 = .slice X2 ((madeR bits).length) c3) ⟨up rfl (up rfl (up rfl hs0)), up rfl (up rfl (up rfl hs1)), up rfl (up rfl (up rfl hs2)), up rfl (up rfl (up rfl hs5)), up rfl (up rfl (up rfl hs6)), up rfl (up rfl (up rfl hs7)), tp⟩ ?_
  rintro τ ⟨hs0, hs1, hs2, hs5, hs6, hs7, hs8⟩
  refine CW.seq ?_
  refine CW.region ?_
  refine RW.hard Wd.a ?_
  refine H.buildSlice (e := 3) (cs := #[]) (vs := #[]) (by simp) (fun _ => by kernel_rfl) hst fun b4 w hst => ?_
  refine RW.soft Wd.a (v := .slice Y ys.length cy) (by exact E.move (AF_ev rfl (up rfl hs1))) ?_
  refine RW.hard Wd.a ?_
  refine H.call0 Try.func32 nm32 rfl (map1 (AF_ev rfl tp)) (Calls.mono (q_fewL hY hy hst) ?_)
  rintro _ w ⟨X5, nX5, c6, rfl, hnX5, hLX5, hst⟩
  subst hnX5
  have htX5 := take_le ys
  refine ⟨_, rfl, ?_⟩
  show RW _ _ _ _ _ _ _
  have hst : St p w (Own 3 1 (.slice (some ⟨b4, 0, none⟩) 0 0) 0 (([] : List Int).flatMap ienc) :: _) := hst.ownNew (n := 0) (cap := 0) (sz := 1) (xs := ([] : List Int).flatMap ienc) (by omega) (by simp [maxLen]) rfl rfl
  refine RW.hard Wd.a ?_
  refine H.append2 (m := (ys.take 30).length) (news := (ys.take 30).flatMap ienc) (n2 := (ys.take 30).length) (xs2 := (ys.take 30).flatMap ienc) (s0 := .slice (some ⟨b4, 0, none⟩) 0 0) (x0 := .slice X5 ((ys.take 30).length) c6) (by first | (simp; done) | (rw [List.length_append]; simp only [List.length_cons, List.length_nil]; omega)) (by simp [ienc]) Try.underlying58 inf3 rfl (AF_ev rfl (up rfl (up rfl tp))) (AF_ev rfl tp) hst .here (Las.src hLX5 hst) (ienc_ones _) (by omega) (by simp only [maxLen]; omega) ?_
  intro vX7 w hnilX7 hst
  obtain ⟨X7, c8, rfl, hcX7, hmX7, hlX7, hbX7⟩ := hst.shape
  refine RW.soft Wd.a (v := .slice X7 ((ys.take 30).length) c8) (by exact E.assign (AF_ev rfl tp)) ?_
  refine RW.fin (fun τ => τ 0 = .int .i64 bits ∧ τ 1 = .slice Y ys.length cy ∧ τ 2 = .agg #[.int .i64 x0, .int .i64 x1] ∧ τ 5 = .pointer (some ⟨b1, 0, none⟩) ∧ τ 6 = .bool false ∧ τ 7 = .bool true ∧ τ 8 = .slice X2 ((madeR bits).length) c3 ∧ τ 9 = .slice X7 ((ys.take 30).length) c8) ⟨up rfl (up rfl (up rfl (up rfl (up rfl hs0)))), up rfl (up rfl (up rfl (up rfl (up rfl hs1)))), up rfl (up rfl (up rfl (up rfl (up rfl hs2)))), up rfl (up rfl (up rfl (up rfl (up rfl hs5)))), up rfl (up rfl (up rfl (up rfl (up rfl hs6)))), up rfl (up rfl (up rfl (up rfl (up rfl hs7)))), up rfl (up rfl (up rfl (up rfl (up rfl hs8)))), tp⟩ ?_
  rintro τ ⟨hs0, hs1, hs2, hs5, hs6, hs7, hs8, hs9⟩
  refine CW.seq ?_
  have hFT : Fit (ys.take 30) := Fit.take hf 30
  have htl := take_le ys
  have hmp := made_pos bits
  have hm7 := made_le bits
  refine CW.region ?_
  refine RW.soft Wd.a (v := .slice X2 ((madeR bits).length) c3) (by exact E.move (AF_ev rfl hs8)) ?_
  refine RW.soft Wd.a (v := .slice X7 ((ys.take 30).length) c8) (by exact E.move (AF_ev rfl (up rfl hs9))) ?_
  have hst := hst.emp
  refine RW.hard Wd.a ?_
  refine H.call0 Try.func43 nm43 rfl (map2 (AF_ev rfl (up rfl tp)) (AF_ev rfl tp)) (Calls.mono (q_Agreed (zs := (madeR bits)) (ys := (ys.take 30)) hLX2.tells (Nat.le_trans (made_le _) (by decide)) (own_TI (by first | rfl | omega | simp)) (Nat.le_trans (take_le _) (by decide)) (made_pos _) (Nat.le_trans (made_le _) (by decide)) (fun n hn => by have := made_mem hn; omega) hFT hst) ?_)
  rintro _ w ⟨rfl, hst⟩
  have hst := hst.drop
  refine ⟨_, rfl, ?_⟩
  show RW _ _ _ _ _ _ _
  refine RW.soft Wd.a (v := .int .i64 (bestOf (madeR bits) (ys.take 30) (madeR bits))) (by exact E.assign (AF_ev rfl tp)) ?_
  refine RW.fin (fun τ => τ 0 = .int .i64 bits ∧ τ 1 = .slice Y ys.length cy ∧ τ 2 = .agg #[.int .i64 x0, .int .i64 x1] ∧ τ 5 = .pointer (some ⟨b1, 0, none⟩) ∧ τ 6 = .bool false ∧ τ 7 = .bool true ∧ τ 8 = .slice X2 ((madeR bits).length) c3 ∧ τ 9 = .slice X7 ((ys.take 30).length) c8 ∧ τ 10 = .int .i64 (bestOf (madeR bits) (ys.take 30) (madeR bits))) ⟨up rfl (up rfl (up rfl (up rfl hs0))), up rfl (up rfl (up rfl (up rfl hs1))), up rfl (up rfl (up rfl (up rfl hs2))), up rfl (up rfl (up rfl (up rfl hs5))), up rfl (up rfl (up rfl (up rfl hs6))), up rfl (up rfl (up rfl (up rfl hs7))), up rfl (up rfl (up rfl (up rfl hs8))), up rfl (up rfl (up rfl (up rfl hs9))), tp⟩ ?_
  rintro τ ⟨hs0, hs1, hs2, hs5, hs6, hs7, hs8, hs9, hs10⟩
  refine CW.seq ?_
  refine CW.seq ?_
  refine CW.region ?_
  refine RW.soft Wd.a (v := .int .i64 0) (by exact E.assign rfl) ?_
  refine RW.fin (fun τ => τ 0 = .int .i64 bits ∧ τ 1 = .slice Y ys.length cy ∧ τ 2 = .agg #[.int .i64 x0, .int .i64 x1] ∧ τ 5 = .pointer (some ⟨b1, 0, none⟩) ∧ τ 6 = .bool false ∧ τ 7 = .bool true ∧ τ 8 = .slice X2 ((madeR bits).length) c3 ∧ τ 9 = .slice X7 ((ys.take 30).length) c8 ∧ τ 10 = .int .i64 (bestOf (madeR bits) (ys.take 30) (madeR bits)) ∧ τ 11 = .int .i64 0) ⟨up rfl hs0, up rfl hs1, up rfl hs2, up rfl hs5, up rfl hs6, up rfl hs7, up rfl hs8, up rfl hs9, up rfl hs10, tp⟩ ?_
  rintro τ ⟨hs0, hs1, hs2, hs5, hs6, hs7, hs8, hs9, hs10, hs11⟩
  refine CW.block ?_
  have hst := hst.take (.there .here)
  have hst := hst.take (.there .here)
  refine CW.loop (fun (k : Nat) (τ : Fr) (w : World) => ∃ (j : Nat), (∀ y ∈ (ys.take 30).take j, y ≤ 4611686018427387904) ∧ j ≤ (ys.take 30).length ∧ k = (ys.take 30).length - j ∧ τ 5 = .pointer (some ⟨b1, 0, none⟩) ∧ τ 7 = .bool true ∧ τ 8 = .slice X2 ((madeR bits).length) c3 ∧ τ 9 = .slice X7 ((ys.take 30).length) c8 ∧ τ 10 = .int .i64 (bestOf (madeR bits) (ys.take 30) (madeR bits)) ∧ τ 11 = .int .i64 ((j : Nat) : Int) ∧ St p w (Own 3 1 (.slice X7 ((ys.take 30).length) c8) ((ys.take 30).length) ((ys.take 30).flatMap ienc) :: pt b1 (.cells #[.int .i64 x0, .int .i64 x1] 68) :: R)) ((ys.take 30).length - 0) ⟨0, (fun y hy => by rw [List.take_zero] at hy; cases hy), by omega, rfl, hs5, hs7, hs8, hs9, hs10, (int_eq (a := 0) hs11 (by omega)), hst⟩ ?_
  clear hst
  rintro k τ w ⟨j, hbg, hj, hkj, hs5, hs7, hs8, hs9, hs10, hs11, hst⟩
  refine CW.seq ?_
  refine CW.seq ?_
  refine CW.region ?_
  refine RW.soft Wd.a (v := .int .i64 ((j : Nat) : Int)) (by exact E.move (AF_ev rfl hs11)) ?_
  refine RW.soft Wd.a (v := .slice X7 ((ys.take 30).length) c8) (by exact E.move (AF_ev rfl (up rfl hs9))) ?_
  refine RW.soft Wd.a (v := .int .i64 (((ys.take 30).length : Nat) : Int)) (by exact E.lenS (p := X7) (l := (ys.take 30).length) (c := c8) Try.underlying58 (AF_ev rfl tp)) ?_
  refine RW.soft Wd.a (v := .bool (decide (((j : Nat) : Int) < (((ys.take 30).length : Nat) : Int)))) (by exact E.lss (k := .i64) (a := ((j : Nat) : Int)) (b := (((ys.take 30).length : Nat) : Int)) (AF_ev rfl (up rfl (up rfl tp))) (AF_ev rfl tp)) ?_
  refine RW.fin (fun τ => τ 5 = .pointer (some ⟨b1, 0, none⟩) ∧ τ 7 = .bool true ∧ τ 8 = .slice X2 ((madeR bits).length) c3 ∧ τ 9 = .slice X7 ((ys.take 30).length) c8 ∧ τ 10 = .int .i64 (bestOf (madeR bits) (ys.take 30) (madeR bits)) ∧ τ 11 = .int .i64 ((j : Nat) : Int) ∧ τ 32 = .bool (decide (((j : Nat) : Int) < (((ys.take 30).length : Nat) : Int)))) ⟨up rfl (up rfl (up rfl (up rfl hs5))), up rfl (up rfl (up rfl (up rfl hs7))), up rfl (up rfl (up rfl (up rfl hs8))), up rfl (up rfl (up rfl (up rfl hs9))), up rfl (up rfl (up rfl (up rfl hs10))), up rfl (up rfl (up rfl (up rfl hs11))), tp⟩ ?_
  rintro τ ⟨hs5, hs7, hs8, hs9, hs10, hs11, hs32⟩
  refine CW.cond (AF_ev rfl hs32) (fun hc9 => ?_) (fun hc9 => ?_)
  · have hc9_ := hc9
    try simp only [decide_eq_true_eq, decide_eq_false_iff_not, Bool.and_eq_true, Bool.or_eq_true, Bool.and_eq_false_iff, Bool.or_eq_false_iff, Bool.not_eq_true', Bool.not_eq_false', beq_iff_eq, beq_eq_false_iff_ne, bne_iff_ne, bne_eq_false_iff_eq, ne_eq, Int.not_lt, Int.not_le, gt_iff_lt, ge_iff_le] at hc9_
    refine CW.skip ?_
    refine Th.n ?_
    refine CW.seq ?_
    refine CW.block ?_
    refine CW.seq ?_
    obtain ⟨x, hx⟩ : ∃ z, (ys.take 30)[j]? = some z := ⟨(ys.take 30)[j]'(by omega), List.getElem?_eq_getElem (by omega)⟩
    obtain ⟨Xo, co, heo, hco, hmo, hlo, hbo⟩ := hst.shape
    cases heo
    obtain ⟨g, hgo⟩ := hbo (by omega)
    subst hgo
    refine CW.region ?_
    refine RW.soft Wd.a (v := .slice (some ⟨g, 0, none⟩) ((ys.take 30).length) c8) (by exact E.move (AF_ev rfl hs9)) ?_
    refine RW.soft Wd.a (v := .int .i64 ((j : Nat) : Int)) (by exact E.move (AF_ev rfl (up rfl hs11))) ?_
    refine RW.soft Wd.a (v := .pointer (some ⟨g, j * 1, none⟩)) (by exact E.indexAddr (b := g) (o := 0) (l := (ys.take 30).length) (c := c8) (i := ((j : Nat) : Int)) Try.underlying58 sz3 (AF_ev rfl (up rfl tp)) (AF_ev rfl tp) (by omega) (by omega) (by simp)) ?_
    refine RW.soft Wd.a (v := .int .i64 x) (by exact E.load (a := ⟨g, j * 1, none⟩) Try.underlying3 rfl (AF_ev rfl tp) (hst.ocell .here (flat_get (j := 0) ienc_len hx (rfl)))) ?_
    refine RW.soft Wd.a (v := .bool (decide (x > 4611686018427387904))) (by exact E.gtr (k := .i64) (a := x) (b := 4611686018427387904) (AF_ev rfl tp) rfl) ?_
    refine RW.fin (fun τ => τ 5 = .pointer (some ⟨b1, 0, none⟩) ∧ τ 7 = .bool true ∧ τ 8 = .slice X2 ((madeR bits).length) c3 ∧ τ 9 = .slice (some ⟨g, 0, none⟩) ((ys.take 30).length) c8 ∧ τ 10 = .int .i64 (bestOf (madeR bits) (ys.take 30) (madeR bits)) ∧ τ 11 = .int .i64 ((j : Nat) : Int) ∧ τ 32 = .bool true ∧ τ 39 = .bool (decide (x > 4611686018427387904))) ⟨up rfl (up rfl (up rfl (up rfl (up rfl hs5)))), up rfl (up rfl (up rfl (up rfl (up rfl hs7)))), up rfl (up rfl (up rfl (up rfl (up rfl hs8)))), up rfl (up rfl (up rfl (up rfl (up rfl hs9)))), up rfl (up rfl (up rfl (up rfl (up rfl hs10)))), up rfl (up rfl (up rfl (up rfl (up rfl hs11)))), up rfl (up rfl (up rfl (up rfl (up rfl (Eq.trans hs32 (congrArg Value.bool hc9)))))), tp⟩ ?_
    rintro τ ⟨hs5, hs7, hs8, hs9, hs10, hs11, hs32, hs39⟩
    refine CW.cond (AF_ev rfl hs39) (fun hc10 => ?_) (fun hc10 => ?_)
    · have hc10_ := hc10
      try simp only [decide_eq_true_eq, decide_eq_false_iff_not, Bool.and_eq_true, Bool.or_eq_true, Bool.and_eq_false_iff, Bool.or_eq_false_iff, Bool.not_eq_true', Bool.not_eq_false', beq_iff_eq, beq_eq_false_iff_ne, bne_iff_ne, bne_eq_false_iff_eq, ne_eq, Int.not_lt, Int.not_le, gt_iff_lt, ge_iff_le] at hc10_
      refine CW.seq ?_
      refine CW.region ?_
      refine RW.soft Wd.a (v := .bool true) (by exact E.move (AF_ev rfl hs7)) ?_
      refine RW.soft Wd.a (v := .bool true) (by exact E.assign (AF_ev rfl tp)) ?_
      refine RW.fin (fun τ => τ 5 = .pointer (some ⟨b1, 0, none⟩) ∧ τ 6 = .bool true ∧ τ 7 = .bool true ∧ τ 8 = .slice X2 ((madeR bits).length) c3 ∧ τ 9 = .slice (some ⟨g, 0, none⟩) ((ys.take 30).length) c8 ∧ τ 10 = .int .i64 (bestOf (madeR bits) (ys.take 30) (madeR bits)) ∧ τ 11 = .int .i64 ((j : Nat) : Int) ∧ τ 32 = .bool true ∧ τ 39 = .bool true) ⟨up rfl (up rfl hs5), tp, up rfl (up rfl hs7), up rfl (up rfl hs8), up rfl (up rfl hs9), up rfl (up rfl hs10), up rfl (up rfl hs11), up rfl (up rfl hs32), up rfl (up rfl (Eq.trans hs39 (congrArg Value.bool hc10)))⟩ ?_
      rintro τ ⟨hs5, hs6, hs7, hs8, hs9, hs10, hs11, hs32, hs39⟩
      refine CW.ret ?_
      refine Bl.r ?_
      refine Th.r ?_
      refine Th.r ?_
      refine Bl.r ?_
      refine Th.r ?_
      refine ret1 (v := .bool true) rfl (by exact (.tmp (AF_ev rfl hs6) .nil)) ?_
      have hst := (hst.take .here).drop
      have hst := (hst.take .here).drop
      exact ⟨p, hleX2, rfl, hst⟩
    · have hc10_ := hc10
      try simp only [decide_eq_true_eq, decide_eq_false_iff_not, Bool.and_eq_true, Bool.or_eq_true, Bool.and_eq_false_iff, Bool.or_eq_false_iff, Bool.not_eq_true', Bool.not_eq_false', beq_iff_eq, beq_eq_false_iff_ne, bne_iff_ne, bne_eq_false_iff_eq, ne_eq, Int.not_lt, Int.not_le, gt_iff_lt, ge_iff_le] at hc10_
      refine CW.skip ?_
      refine Bl.n ?_
      refine Th.n ?_
      refine CW.region ?_
      refine RW.soft Wd.a (v := .int .i64 ((j : Nat) : Int)) (by exact E.move (AF_ev rfl hs11)) ?_
      refine RW.soft Wd.a (v := .int .i64 (((j : Nat) : Int) + 1)) (by exact E.add (k := .i64) (a := ((j : Nat) : Int)) (b := 1) (AF_ev rfl tp) rfl (show IntKind.i64.wrap (((j : Nat) : Int) + 1) = ((j : Nat) : Int) + 1 from (by rw [IntWalk.i64_in _ (by omega)]))) ?_
      refine RW.soft Wd.a (v := .int .i64 (((j : Nat) : Int) + 1)) (by exact E.assign (AF_ev rfl tp)) ?_
      refine RW.nil ?_
      refine Th.n ?_
      have hf2 : ∀ y ∈ (ys.take 30).take (j + 1), y ≤ 4611686018427387904 := by
        intro y hy
        rw [List.take_add_one, hx] at hy
        rcases List.mem_append.1 hy with h | h
        · exact hbg y h
        · rw [Option.toList_some, List.mem_singleton] at h; subst h; omega
      have hst := hst.take (.there .here)
      have hst := hst.take (.there .here)
      exact ⟨(ys.take 30).length - (j + 1), by omega, j + 1, hf2, (by omega), rfl, up rfl (up rfl (up rfl hs5)), up rfl (up rfl (up rfl hs7)), up rfl (up rfl (up rfl hs8)), up rfl (up rfl (up rfl hs9)), up rfl (up rfl (up rfl hs10)), (int_eq (a := ((j : Nat) : Int) + 1) tp (by omega)), hst⟩
  · have hc9_ := hc9
    try simp only [decide_eq_true_eq, decide_eq_false_iff_not, Bool.and_eq_true, Bool.or_eq_true, Bool.and_eq_false_iff, Bool.or_eq_false_iff, Bool.not_eq_true', Bool.not_eq_false', beq_iff_eq, beq_eq_false_iff_ne, bne_iff_ne, bne_eq_false_iff_eq, ne_eq, Int.not_lt, Int.not_le, gt_iff_lt, ge_iff_le] at hc9_
    refine CW.exit ?_
    refine Th.x ?_
    refine Th.x ?_
    refine Bl.x ?_
    refine Th.n ?_
    refine CW.seq ?_
    refine CW.seq ?_
    rw [List.take_of_length_le (by omega)] at hbg
    refine CW.region ?_
    refine RW.soft Wd.a (v := .slice X7 ((ys.take 30).length) c8) (by exact E.move (AF_ev rfl hs9)) ?_
    refine RW.soft Wd.a (v := .int .i64 (((ys.take 30).length : Nat) : Int)) (by exact E.lenS (p := X7) (l := (ys.take 30).length) (c := c8) Try.underlying58 (AF_ev rfl tp)) ?_
    refine RW.soft Wd.a (v := .bool ((((ys.take 30).length : Nat) : Int) == 0)) (by exact E.eql (k := .i64) (a := (((ys.take 30).length : Nat) : Int)) (b := 0) (AF_ev rfl tp) rfl) ?_
    refine RW.fin (fun τ => τ 5 = .pointer (some ⟨b1, 0, none⟩) ∧ τ 7 = .bool true ∧ τ 8 = .slice X2 ((madeR bits).length) c3 ∧ τ 9 = .slice X7 ((ys.take 30).length) c8 ∧ τ 10 = .int .i64 (bestOf (madeR bits) (ys.take 30) (madeR bits)) ∧ τ 11 = .int .i64 ((j : Nat) : Int) ∧ τ 32 = .bool false ∧ τ 43 = .bool ((((ys.take 30).length : Nat) : Int) == 0)) ⟨up rfl (up rfl (up rfl hs5)), up rfl (up rfl (up rfl hs7)), up rfl (up rfl (up rfl hs8)), up rfl (up rfl (up rfl hs9)), up rfl (up rfl (up rfl hs10)), up rfl (up rfl (up rfl hs11)), up rfl (up rfl (up rfl (Eq.trans hs32 (congrArg Value.bool hc9)))), tp⟩ ?_
    rintro τ ⟨hs5, hs7, hs8, hs9, hs10, hs11, hs32, hs43⟩
    refine CW.cond (AF_ev rfl hs43) (fun hc11 => ?_) (fun hc11 => ?_)
    · have hc11_ := hc11
      try simp only [decide_eq_true_eq, decide_eq_false_iff_not, Bool.and_eq_true, Bool.or_eq_true, Bool.and_eq_false_iff, Bool.or_eq_false_iff, Bool.not_eq_true', Bool.not_eq_false', beq_iff_eq, beq_eq_false_iff_ne, bne_iff_ne, bne_eq_false_iff_eq, ne_eq, Int.not_lt, Int.not_le, gt_iff_lt, ge_iff_le] at hc11_
      refine CW.seq ?_
      refine CW.region ?_
      refine RW.soft Wd.a (v := .bool true) (by exact E.move (AF_ev rfl hs7)) ?_
      refine RW.soft Wd.a (v := .bool true) (by exact E.move (AF_ev rfl tp)) ?_
      refine RW.soft (by exact Wd.yes (x := 45) rfl (AF_ev rfl tp)) (v := .int .i64 (bestOf (madeR bits) (ys.take 30) (madeR bits))) (by exact E.move (AF_ev rfl (up rfl (up rfl hs10)))) ?_
      refine RW.soft (by exact Wd.yes (x := 45) rfl (AF_ev rfl (up rfl tp))) (v := .bool true) (by exact E.b (a := (bestOf (madeR bits) (ys.take 30) (madeR bits)) == 0) (E.eql (k := .i64) (a := bestOf (madeR bits) (ys.take 30) (madeR bits)) (b := 0) (AF_ev rfl tp) rfl) (by rw [show (ys.take 30) = [] from List.eq_nil_of_length_eq_zero (by omega), best_nil hmp]; rfl)) ?_
      refine RW.soft Wd.a (v := .bool true) (by exact E.pickT (AF_ev rfl (up rfl (up rfl tp))) (AF_ev rfl tp)) ?_
      refine RW.soft Wd.a (v := .bool true) (by exact E.assign (AF_ev rfl tp)) ?_
      refine RW.fin (fun τ => τ 5 = .pointer (some ⟨b1, 0, none⟩) ∧ τ 6 = .bool true ∧ τ 7 = .bool true ∧ τ 8 = .slice X2 ((madeR bits).length) c3 ∧ τ 9 = .slice X7 ((ys.take 30).length) c8 ∧ τ 10 = .int .i64 (bestOf (madeR bits) (ys.take 30) (madeR bits)) ∧ τ 11 = .int .i64 ((j : Nat) : Int) ∧ τ 32 = .bool false ∧ τ 43 = .bool true) ⟨up rfl (up rfl (up rfl (up rfl (up rfl (up rfl hs5))))), tp, up rfl (up rfl (up rfl (up rfl (up rfl (up rfl hs7))))), up rfl (up rfl (up rfl (up rfl (up rfl (up rfl hs8))))), up rfl (up rfl (up rfl (up rfl (up rfl (up rfl hs9))))), up rfl (up rfl (up rfl (up rfl (up rfl (up rfl hs10))))), up rfl (up rfl (up rfl (up rfl (up rfl (up rfl hs11))))), up rfl (up rfl (up rfl (up rfl (up rfl (up rfl hs32))))), up rfl (up rfl (up rfl (up rfl (up rfl (up rfl (Eq.trans hs43 (congrArg Value.bool hc11)))))))⟩ ?_
      rintro τ ⟨hs5, hs6, hs7, hs8, hs9, hs10, hs11, hs32, hs43⟩
      refine CW.ret ?_
      refine Th.r ?_
      refine ret1 (v := .bool true) rfl (by exact (.tmp (AF_ev rfl hs6) .nil)) ?_
      have hst := (hst.take .here).drop
      have hst := (hst.take .here).drop
      exact ⟨p, hleX2, rfl, hst⟩
    · have hc11_ := hc11
      try simp only [decide_eq_true_eq, decide_eq_false_iff_not, Bool.and_eq_true, Bool.or_eq_true, Bool.and_eq_false_iff, Bool.or_eq_false_iff, Bool.not_eq_true', Bool.not_eq_false', beq_iff_eq, beq_eq_false_iff_ne, bne_iff_ne, bne_eq_false_iff_eq, ne_eq, Int.not_lt, Int.not_le, gt_iff_lt, ge_iff_le] at hc11_
      refine CW.skip ?_
      refine Th.n ?_
      refine CW.seq ?_
      refine CW.region ?_
      refine RW.soft Wd.a (v := .pointer (some ⟨b1, 0, none⟩)) (by exact E.indexAddrA (b := b1) (o := 0) (i := 0) Try.underlying68 sz3 (AF_ev rfl hs5) rfl (by omega) (by omega) (by simp)) ?_
      refine RW.soft Wd.a (v := .int .i64 x0) (by exact E.load (a := ⟨b1, 0, none⟩) Try.underlying3 rfl (AF_ev rfl tp) (hst.cell (.there .here) rfl)) ?_
      refine RW.soft Wd.a (v := .slice X7 ((ys.take 30).length) c8) (by exact E.move (AF_ev rfl (up rfl (up rfl hs9)))) ?_
      refine RW.soft Wd.a (v := .int .i64 (((ys.take 30).length : Nat) : Int)) (by exact E.lenS (p := X7) (l := (ys.take 30).length) (c := c8) Try.underlying58 (AF_ev rfl tp)) ?_
      refine RW.soft Wd.a (v := .int .i64 (Int.tmod x0 (((ys.take 30).length : Nat) : Int))) (by exact E.rem (k := .i64) (a := x0) (b := (((ys.take 30).length : Nat) : Int)) (AF_ev rfl (up rfl (up rfl tp))) (AF_ev rfl tp) (by omega) rfl) ?_
      refine RW.soft Wd.a (v := .int .i64 (Int.tmod x0 (((ys.take 30).length : Nat) : Int))) (by exact E.assign (AF_ev rfl tp)) ?_
      refine RW.fin (fun τ => τ 5 = .pointer (some ⟨b1, 0, none⟩) ∧ τ 7 = .bool true ∧ τ 8 = .slice X2 ((madeR bits).length) c3 ∧ τ 9 = .slice X7 ((ys.take 30).length) c8 ∧ τ 10 = .int .i64 (bestOf (madeR bits) (ys.take 30) (madeR bits)) ∧ τ 11 = .int .i64 ((j : Nat) : Int) ∧ τ 12 = .int .i64 (Int.tmod x0 (((ys.take 30).length : Nat) : Int)) ∧ τ 32 = .bool false ∧ τ 43 = .bool false) ⟨up rfl (up rfl (up rfl (up rfl (up rfl (up rfl hs5))))), up rfl (up rfl (up rfl (up rfl (up rfl (up rfl hs7))))), up rfl (up rfl (up rfl (up rfl (up rfl (up rfl hs8))))), up rfl (up rfl (up rfl (up rfl (up rfl (up rfl hs9))))), up rfl (up rfl (up rfl (up rfl (up rfl (up rfl hs10))))), up rfl (up rfl (up rfl (up rfl (up rfl (up rfl hs11))))), tp, up rfl (up rfl (up rfl (up rfl (up rfl (up rfl hs32))))), up rfl (up rfl (up rfl (up rfl (up rfl (up rfl (Eq.trans hs43 (congrArg Value.bool hc11)))))))⟩ ?_
      rintro τ ⟨hs5, hs7, hs8, hs9, hs10, hs11, hs12, hs32, hs43⟩
      refine CW.seq ?_
      refine CW.seq ?_
      have htn := tmod_near x0 (n := (((ys.take 30).length : Nat) : Int)) (by omega)
      obtain ⟨i0, hi0⟩ : ∃ z, z = Int.tmod x0 (((ys.take 30).length : Nat) : Int) := ⟨_, rfl⟩
      rw [← hi0] at hs12 htn
      have hti := htn
      refine CW.region ?_
      refine RW.soft Wd.a (v := .int .i64 i0) (by exact E.move (AF_ev rfl hs12)) ?_
      refine RW.soft Wd.a (v := .bool (decide (i0 < 0))) (by exact E.lss (k := .i64) (a := i0) (b := 0) (AF_ev rfl tp) rfl) ?_
      refine RW.fin (fun τ => τ 5 = .pointer (some ⟨b1, 0, none⟩) ∧ τ 7 = .bool true ∧ τ 8 = .slice X2 ((madeR bits).length) c3 ∧ τ 9 = .slice X7 ((ys.take 30).length) c8 ∧ τ 10 = .int .i64 (bestOf (madeR bits) (ys.take 30) (madeR bits)) ∧ τ 11 = .int .i64 ((j : Nat) : Int) ∧ τ 12 = .int .i64 i0 ∧ τ 32 = .bool false ∧ τ 43 = .bool false ∧ τ 55 = .bool (decide (i0 < 0))) ⟨up rfl (up rfl hs5), up rfl (up rfl hs7), up rfl (up rfl hs8), up rfl (up rfl hs9), up rfl (up rfl hs10), up rfl (up rfl hs11), up rfl (up rfl hs12), up rfl (up rfl hs32), up rfl (up rfl hs43), tp⟩ ?_
      rintro τ ⟨hs5, hs7, hs8, hs9, hs10, hs11, hs12, hs32, hs43, hs55⟩
      refine CW.cond (AF_ev rfl hs55) (fun hc12 => ?_) (fun hc12 => ?_)
      · have hc12_ := hc12
        try simp only [decide_eq_true_eq, decide_eq_false_iff_not, Bool.and_eq_true, Bool.or_eq_true, Bool.and_eq_false_iff, Bool.or_eq_false_iff, Bool.not_eq_true', Bool.not_eq_false', beq_iff_eq, beq_eq_false_iff_ne, bne_iff_ne, bne_eq_false_iff_eq, ne_eq, Int.not_lt, Int.not_le, gt_iff_lt, ge_iff_le] at hc12_
        refine CW.region ?_
        refine RW.soft Wd.a (v := .int .i64 i0) (by exact E.move (AF_ev rfl hs12)) ?_
        refine RW.soft Wd.a (v := .int .i64 (-i0)) (by exact E.neg (k := .i64) (a := i0) (AF_ev rfl tp) (by rw [Int.zero_sub]; exact (show IntKind.i64.wrap (-i0) = -i0 from (by rw [IntWalk.i64_in _ (by omega)])))) ?_
        refine RW.soft Wd.a (v := .int .i64 (-i0)) (by exact E.assign (AF_ev rfl tp)) ?_
        refine RW.fin (fun τ => τ 5 = .pointer (some ⟨b1, 0, none⟩) ∧ τ 7 = .bool true ∧ τ 8 = .slice X2 ((madeR bits).length) c3 ∧ τ 9 = .slice X7 ((ys.take 30).length) c8 ∧ τ 10 = .int .i64 (bestOf (madeR bits) (ys.take 30) (madeR bits)) ∧ τ 11 = .int .i64 ((j : Nat) : Int) ∧ τ 12 = .int .i64 (-i0) ∧ τ 32 = .bool false ∧ τ 43 = .bool false ∧ τ 55 = .bool true) ⟨up rfl (up rfl (up rfl hs5)), up rfl (up rfl (up rfl hs7)), up rfl (up rfl (up rfl hs8)), up rfl (up rfl (up rfl hs9)), up rfl (up rfl (up rfl hs10)), up rfl (up rfl (up rfl hs11)), tp, up rfl (up rfl (up rfl hs32)), up rfl (up rfl (up rfl hs43)), up rfl (up rfl (up rfl (Eq.trans hs55 (congrArg Value.bool hc12))))⟩ ?_
        rintro τ ⟨hs5, hs7, hs8, hs9, hs10, hs11, hs12, hs32, hs43, hs55⟩
        refine CW.seq ?_
        refine CW.region ?_
        refine RW.soft Wd.a (v := .pointer (some ⟨b1, 1, none⟩)) (by exact E.indexAddrA (b := b1) (o := 0) (i := 1) Try.underlying68 sz3 (AF_ev rfl hs5) rfl (by omega) (by omega) (by simp)) ?_
        refine RW.soft Wd.a (v := .int .i64 x1) (by exact E.load (a := ⟨b1, 1, none⟩) Try.underlying3 rfl (AF_ev rfl tp) (hst.cell (.there .here) rfl)) ?_
        refine RW.soft Wd.a (v := .int .i64 (Int.tmod x1 1001)) (by exact E.rem (k := .i64) (a := x1) (b := 1001) (AF_ev rfl tp) rfl (by omega) rfl) ?_
        refine RW.soft Wd.a (v := .int .i64 (Int.tmod x1 1001)) (by exact E.assign (AF_ev rfl tp)) ?_
        refine RW.fin (fun τ => τ 5 = .pointer (some ⟨b1, 0, none⟩) ∧ τ 7 = .bool true ∧ τ 8 = .slice X2 ((madeR bits).length) c3 ∧ τ 9 = .slice X7 ((ys.take 30).length) c8 ∧ τ 10 = .int .i64 (bestOf (madeR bits) (ys.take 30) (madeR bits)) ∧ τ 11 = .int .i64 ((j : Nat) : Int) ∧ τ 12 = .int .i64 (-i0) ∧ τ 13 = .int .i64 (Int.tmod x1 1001) ∧ τ 32 = .bool false ∧ τ 43 = .bool false ∧ τ 55 = .bool true) ⟨up rfl (up rfl (up rfl (up rfl hs5))), up rfl (up rfl (up rfl (up rfl hs7))), up rfl (up rfl (up rfl (up rfl hs8))), up rfl (up rfl (up rfl (up rfl hs9))), up rfl (up rfl (up rfl (up rfl hs10))), up rfl (up rfl (up rfl (up rfl hs11))), up rfl (up rfl (up rfl (up rfl hs12))), tp, up rfl (up rfl (up rfl (up rfl hs32))), up rfl (up rfl (up rfl (up rfl hs43))), up rfl (up rfl (up rfl (up rfl hs55)))⟩ ?_
        rintro τ ⟨hs5, hs7, hs8, hs9, hs10, hs11, hs12, hs13, hs32, hs43, hs55⟩
        refine CW.seq ?_
        refine CW.seq ?_
        have htn := tmod_near x1 (n := 1001) (by omega)
        obtain ⟨d0, hd0⟩ : ∃ z, z = Int.tmod x1 1001 := ⟨_, rfl⟩
        rw [← hd0] at hs13 htn
        refine CW.region ?_
        refine RW.soft Wd.a (v := .int .i64 d0) (by exact E.move (AF_ev rfl hs13)) ?_
        refine RW.soft Wd.a (v := .bool (decide (d0 < 0))) (by exact E.lss (k := .i64) (a := d0) (b := 0) (AF_ev rfl tp) rfl) ?_
        refine RW.fin (fun τ => τ 5 = .pointer (some ⟨b1, 0, none⟩) ∧ τ 7 = .bool true ∧ τ 8 = .slice X2 ((madeR bits).length) c3 ∧ τ 9 = .slice X7 ((ys.take 30).length) c8 ∧ τ 10 = .int .i64 (bestOf (madeR bits) (ys.take 30) (madeR bits)) ∧ τ 11 = .int .i64 ((j : Nat) : Int) ∧ τ 12 = .int .i64 (-i0) ∧ τ 13 = .int .i64 d0 ∧ τ 32 = .bool false ∧ τ 43 = .bool false ∧ τ 55 = .bool true ∧ τ 62 = .bool (decide (d0 < 0))) ⟨up rfl (up rfl hs5), up rfl (up rfl hs7), up rfl (up rfl hs8), up rfl (up rfl hs9), up rfl (up rfl hs10), up rfl (up rfl hs11), up rfl (up rfl hs12), up rfl (up rfl hs13), up rfl (up rfl hs32), up rfl (up rfl hs43), up rfl (up rfl hs55), tp⟩ ?_
        rintro τ ⟨hs5, hs7, hs8, hs9, hs10, hs11, hs12, hs13, hs32, hs43, hs55, hs62⟩
        refine CW.cond (AF_ev rfl hs62) (fun hc13 => ?_) (fun hc13 => ?_)
        · have hc13_ := hc13
          try simp only [decide_eq_true_eq, decide_eq_false_iff_not, Bool.and_eq_true, Bool.or_eq_true, Bool.and_eq_false_iff, Bool.or_eq_false_iff, Bool.not_eq_true', Bool.not_eq_false', beq_iff_eq, beq_eq_false_iff_ne, bne_iff_ne, bne_eq_false_iff_eq, ne_eq, Int.not_lt, Int.not_le, gt_iff_lt, ge_iff_le] at hc13_
          refine CW.region ?_
          refine RW.soft Wd.a (v := .int .i64 d0) (by exact E.move (AF_ev rfl hs13)) ?_
          refine RW.soft Wd.a (v := .int .i64 (-d0)) (by exact E.neg (k := .i64) (a := d0) (AF_ev rfl tp) (by rw [Int.zero_sub]; exact (show IntKind.i64.wrap (-d0) = -d0 from (by rw [IntWalk.i64_in _ (by omega)])))) ?_
          refine RW.soft Wd.a (v := .int .i64 (-d0)) (by exact E.assign (AF_ev rfl tp)) ?_
          refine RW.fin (fun τ => τ 5 = .pointer (some ⟨b1, 0, none⟩) ∧ τ 7 = .bool true ∧ τ 8 = .slice X2 ((madeR bits).length) c3 ∧ τ 9 = .slice X7 ((ys.take 30).length) c8 ∧ τ 10 = .int .i64 (bestOf (madeR bits) (ys.take 30) (madeR bits)) ∧ τ 11 = .int .i64 ((j : Nat) : Int) ∧ τ 12 = .int .i64 (-i0) ∧ τ 13 = .int .i64 (-d0) ∧ τ 32 = .bool false ∧ τ 43 = .bool false ∧ τ 55 = .bool true ∧ τ 62 = .bool true) ⟨up rfl (up rfl (up rfl hs5)), up rfl (up rfl (up rfl hs7)), up rfl (up rfl (up rfl hs8)), up rfl (up rfl (up rfl hs9)), up rfl (up rfl (up rfl hs10)), up rfl (up rfl (up rfl hs11)), up rfl (up rfl (up rfl hs12)), tp, up rfl (up rfl (up rfl hs32)), up rfl (up rfl (up rfl hs43)), up rfl (up rfl (up rfl hs55)), up rfl (up rfl (up rfl (Eq.trans hs62 (congrArg Value.bool hc13))))⟩ ?_
          rintro τ ⟨hs5, hs7, hs8, hs9, hs10, hs11, hs12, hs13, hs32, hs43, hs55, hs62⟩
          refine CW.seq ?_
          obtain ⟨i, hi⟩ : ∃ z : Nat, ((z : Nat) : Int) = -i0 := ⟨(-i0).toNat, by omega⟩
          rw [← hi] at hs12
          obtain ⟨dd, hd⟩ : ∃ z : Int, z = -d0 := ⟨_, rfl⟩
          rw [← hd] at hs13
          have hd0 : 0 ≤ dd ∧ dd ≤ 1001 := by omega
          obtain ⟨v, hv⟩ : ∃ z, (ys.take 30)[i]? = some z := ⟨(ys.take 30)[i]'(by omega), List.getElem?_eq_getElem (by omega)⟩
          have hvb := hbg v (List.mem_of_getElem? hv)
          have hvf : I64 v := hFT v (List.mem_of_getElem? hv)
          unfold I64 at hvf
          obtain ⟨Xo, co, heo, hco, hmo, hlo, hbo⟩ := hst.shape
          cases heo
          obtain ⟨g, hgo⟩ := hbo (by omega)
          subst hgo
          refine CW.region ?_
          refine RW.soft Wd.a (v := .slice (some ⟨g, 0, none⟩) ((ys.take 30).length) c8) (by exact E.move (AF_ev rfl hs9)) ?_
          refine RW.soft Wd.a (v := .int .i64 ((i : Nat) : Int)) (by exact E.move (AF_ev rfl (up rfl hs12))) ?_
          refine RW.soft Wd.a (v := .slice (some ⟨g, 0, none⟩) ((ys.take 30).length) c8) (by exact E.move (AF_ev rfl (up rfl (up rfl hs9)))) ?_
          refine RW.soft Wd.a (v := .int .i64 ((i : Nat) : Int)) (by exact E.move (AF_ev rfl (up rfl (up rfl (up rfl hs12))))) ?_
          refine RW.soft Wd.a (v := .pointer (some ⟨g, i * 1, none⟩)) (by exact E.indexAddr (b := g) (o := 0) (l := (ys.take 30).length) (c := c8) (i := ((i : Nat) : Int)) Try.underlying58 sz3 (AF_ev rfl (up rfl tp)) (AF_ev rfl tp) (by omega) (by omega) (by simp)) ?_
          refine RW.soft Wd.a (v := .int .i64 v) (by exact E.load (a := ⟨g, i * 1, none⟩) Try.underlying3 rfl (AF_ev rfl tp) (hst.ocell .here (flat_get (j := 0) ienc_len hv (rfl)))) ?_
          refine RW.soft Wd.a (v := .int .i64 dd) (by exact E.move (AF_ev rfl (up rfl (up rfl (up rfl (up rfl (up rfl (up rfl hs13)))))))) ?_
          refine RW.soft Wd.a (v := .int .i64 (v + dd)) (by exact E.add (k := .i64) (a := v) (b := dd) (AF_ev rfl (up rfl tp)) (AF_ev rfl tp) (show IntKind.i64.wrap (v + dd) = v + dd from (by rw [IntWalk.i64_in _ (by omega)]))) ?_
          refine RW.soft Wd.a (v := .pointer (some ⟨g, i * 1, none⟩)) (by exact E.indexAddr (b := g) (o := 0) (l := (ys.take 30).length) (c := c8) (i := ((i : Nat) : Int)) Try.underlying58 sz3 (AF_ev rfl (up rfl (up rfl (up rfl (up rfl (up rfl (up rfl (up rfl tp)))))))) (AF_ev rfl (up rfl (up rfl (up rfl (up rfl (up rfl (up rfl tp))))))) (by omega) (by omega) (by simp)) ?_
          refine RW.hard Wd.a ?_
          refine H.storeInn (f := ienc) (i := i) (d := 0) (m := 1) (v := .int .i64 (v + dd)) (news := [.int .i64 (v + dd)]) (a' := v + dd) ienc_len (AF_ev rfl tp) (AF_ev rfl (up rfl tp)) hst .here hv (by omega) rfl rfl rfl sz3 (by omega) (rfl) (by simp [Value.oneCell']) fun w hst => ?_
          refine RW.fin (fun τ => τ 5 = .pointer (some ⟨b1, 0, none⟩) ∧ τ 7 = .bool true ∧ τ 8 = .slice X2 ((madeR bits).length) c3 ∧ τ 9 = .slice (some ⟨g, 0, none⟩) ((ys.take 30).length) c8 ∧ τ 10 = .int .i64 (bestOf (madeR bits) (ys.take 30) (madeR bits)) ∧ τ 11 = .int .i64 ((j : Nat) : Int) ∧ τ 12 = .int .i64 ((i : Nat) : Int) ∧ τ 13 = .int .i64 dd ∧ τ 32 = .bool false ∧ τ 43 = .bool false ∧ τ 55 = .bool true ∧ τ 62 = .bool true) ⟨u0 (up rfl (up rfl (up rfl (up rfl (up rfl (up rfl (up rfl (up rfl (up rfl hs5))))))))), u0 (up rfl (up rfl (up rfl (up rfl (up rfl (up rfl (up rfl (up rfl (up rfl hs7))))))))), u0 (up rfl (up rfl (up rfl (up rfl (up rfl (up rfl (up rfl (up rfl (up rfl hs8))))))))), u0 (up rfl (up rfl (up rfl (up rfl (up rfl (up rfl (up rfl (up rfl (up rfl hs9))))))))), u0 (up rfl (up rfl (up rfl (up rfl (up rfl (up rfl (up rfl (up rfl (up rfl hs10))))))))), u0 (up rfl (up rfl (up rfl (up rfl (up rfl (up rfl (up rfl (up rfl (up rfl hs11))))))))), u0 (up rfl (up rfl (up rfl (up rfl (up rfl (up rfl (up rfl (up rfl (up rfl hs12))))))))), u0 (up rfl (up rfl (up rfl (up rfl (up rfl (up rfl (up rfl (up rfl (up rfl hs13))))))))), u0 (up rfl (up rfl (up rfl (up rfl (up rfl (up rfl (up rfl (up rfl (up rfl hs32))))))))), u0 (up rfl (up rfl (up rfl (up rfl (up rfl (up rfl (up rfl (up rfl (up rfl hs43))))))))), u0 (up rfl (up rfl (up rfl (up rfl (up rfl (up rfl (up rfl (up rfl (up rfl hs55))))))))), u0 (up rfl (up rfl (up rfl (up rfl (up rfl (up rfl (up rfl (up rfl (up rfl hs62)))))))))⟩ ?_
          rintro τ ⟨hs5, hs7, hs8, hs9, hs10, hs11, hs12, hs13, hs32, hs43, hs55, hs62⟩
          refine CW.seq ?_
          -- row ((ys.take 30).set i (v + dd))
          have hFT2 : Fit ((ys.take 30).set i (v + dd)) := Fit.set hFT hv hvb hd0
          have hl2 : ((ys.take 30).set i (v + dd)).length = (ys.take 30).length := List.length_set
          rw [← hl2] at hs9 hst
          refine CW.region ?_
          refine RW.soft Wd.a (v := .slice X2 ((madeR bits).length) c3) (by exact E.move (AF_ev rfl hs8)) ?_
          refine RW.soft Wd.a (v := .slice (some ⟨g, 0, none⟩) (((ys.take 30).set i (v + dd)).length) c8) (by exact E.move (AF_ev rfl (up rfl hs9))) ?_
          have hst := hst.emp
          refine RW.hard Wd.a ?_
          refine H.call0 Try.func43 nm43 rfl (map2 (AF_ev rfl (up rfl tp)) (AF_ev rfl tp)) (Calls.mono (q_Agreed (zs := (madeR bits)) (ys := ((ys.take 30).set i (v + dd))) hLX2.tells (Nat.le_trans (made_le _) (by decide)) (own_TI (by first | rfl | omega | simp)) (by first | omega | decide) (made_pos _) (Nat.le_trans (made_le _) (by decide)) (fun n hn => by have := made_mem hn; omega) hFT2 hst) ?_)
          rintro _ w ⟨rfl, hst⟩
          have hst := hst.drop
          refine ⟨_, rfl, ?_⟩
          show RW _ _ _ _ _ _ _
          refine RW.soft Wd.a (v := .int .i64 (bestOf (madeR bits) ((ys.take 30).set i (v + dd)) (madeR bits))) (by exact E.assign (AF_ev rfl tp)) ?_
          refine RW.fin (fun τ => τ 5 = .pointer (some ⟨b1, 0, none⟩) ∧ τ 7 = .bool true ∧ τ 8 = .slice X2 ((madeR bits).length) c3 ∧ τ 9 = .slice (some ⟨g, 0, none⟩) (((ys.take 30).set i (v + dd)).length) c8 ∧ τ 10 = .int .i64 (bestOf (madeR bits) (ys.take 30) (madeR bits)) ∧ τ 11 = .int .i64 ((j : Nat) : Int) ∧ τ 12 = .int .i64 ((i : Nat) : Int) ∧ τ 13 = .int .i64 dd ∧ τ 14 = .int .i64 (bestOf (madeR bits) ((ys.take 30).set i (v + dd)) (madeR bits)) ∧ τ 32 = .bool false ∧ τ 43 = .bool false ∧ τ 55 = .bool true ∧ τ 62 = .bool true) ⟨up rfl (up rfl (up rfl (up rfl hs5))), up rfl (up rfl (up rfl (up rfl hs7))), up rfl (up rfl (up rfl (up rfl hs8))), up rfl (up rfl (up rfl (up rfl hs9))), up rfl (up rfl (up rfl (up rfl hs10))), up rfl (up rfl (up rfl (up rfl hs11))), up rfl (up rfl (up rfl (up rfl hs12))), up rfl (up rfl (up rfl (up rfl hs13))), tp, up rfl (up rfl (up rfl (up rfl hs32))), up rfl (up rfl (up rfl (up rfl hs43))), up rfl (up rfl (up rfl (up rfl hs55))), up rfl (up rfl (up rfl (up rfl hs62)))⟩ ?_
          rintro τ ⟨hs5, hs7, hs8, hs9, hs10, hs11, hs12, hs13, hs14, hs32, hs43, hs55, hs62⟩
          refine CW.seq ?_
          refine CW.region ?_
          refine RW.soft Wd.a (v := .int .i64 0) (by exact E.assign rfl) ?_
          refine RW.fin (fun τ => τ 5 = .pointer (some ⟨b1, 0, none⟩) ∧ τ 7 = .bool true ∧ τ 8 = .slice X2 ((madeR bits).length) c3 ∧ τ 9 = .slice (some ⟨g, 0, none⟩) (((ys.take 30).set i (v + dd)).length) c8 ∧ τ 10 = .int .i64 (bestOf (madeR bits) (ys.take 30) (madeR bits)) ∧ τ 11 = .int .i64 ((j : Nat) : Int) ∧ τ 12 = .int .i64 ((i : Nat) : Int) ∧ τ 13 = .int .i64 dd ∧ τ 14 = .int .i64 (bestOf (madeR bits) ((ys.take 30).set i (v + dd)) (madeR bits)) ∧ τ 15 = .int .i64 0 ∧ τ 32 = .bool false ∧ τ 43 = .bool false ∧ τ 55 = .bool true ∧ τ 62 = .bool true) ⟨up rfl hs5, up rfl hs7, up rfl hs8, up rfl hs9, up rfl hs10, up rfl hs11, up rfl hs12, up rfl hs13, up rfl hs14, tp, up rfl hs32, up rfl hs43, up rfl hs55, up rfl hs62⟩ ?_
          rintro τ ⟨hs5, hs7, hs8, hs9, hs10, hs11, hs12, hs13, hs14, hs15, hs32, hs43, hs55, hs62⟩
          refine CW.seq ?_
          refine CW.region ?_
          refine RW.soft Wd.a (v := .bool true) (by exact E.assign rfl) ?_
          refine RW.fin (fun τ => τ 5 = .pointer (some ⟨b1, 0, none⟩) ∧ τ 7 = .bool true ∧ τ 8 = .slice X2 ((madeR bits).length) c3 ∧ τ 9 = .slice (some ⟨g, 0, none⟩) (((ys.take 30).set i (v + dd)).length) c8 ∧ τ 10 = .int .i64 (bestOf (madeR bits) (ys.take 30) (madeR bits)) ∧ τ 11 = .int .i64 ((j : Nat) : Int) ∧ τ 12 = .int .i64 ((i : Nat) : Int) ∧ τ 13 = .int .i64 dd ∧ τ 14 = .int .i64 (bestOf (madeR bits) ((ys.take 30).set i (v + dd)) (madeR bits)) ∧ τ 15 = .int .i64 0 ∧ τ 16 = .bool true ∧ τ 32 = .bool false ∧ τ 43 = .bool false ∧ τ 55 = .bool true ∧ τ 62 = .bool true) ⟨up rfl hs5, up rfl hs7, up rfl hs8, up rfl hs9, up rfl hs10, up rfl hs11, up rfl hs12, up rfl hs13, up rfl hs14, up rfl hs15, tp, up rfl hs32, up rfl hs43, up rfl hs55, up rfl hs62⟩ ?_
          rintro τ ⟨hs5, hs7, hs8, hs9, hs10, hs11, hs12, hs13, hs14, hs15, hs16, hs32, hs43, hs55, hs62⟩
          refine CW.seq ?_
          refine CW.seq ?_
          refine CW.region ?_
          refine RW.soft Wd.a (v := .int .i64 0) (by exact E.assign rfl) ?_
          refine RW.fin (fun τ => τ 5 = .pointer (some ⟨b1, 0, none⟩) ∧ τ 7 = .bool true ∧ τ 8 = .slice X2 ((madeR bits).length) c3 ∧ τ 9 = .slice (some ⟨g, 0, none⟩) (((ys.take 30).set i (v + dd)).length) c8 ∧ τ 10 = .int .i64 (bestOf (madeR bits) (ys.take 30) (madeR bits)) ∧ τ 11 = .int .i64 ((j : Nat) : Int) ∧ τ 12 = .int .i64 ((i : Nat) : Int) ∧ τ 13 = .int .i64 dd ∧ τ 14 = .int .i64 (bestOf (madeR bits) ((ys.take 30).set i (v + dd)) (madeR bits)) ∧ τ 15 = .int .i64 0 ∧ τ 16 = .bool true ∧ τ 17 = .int .i64 0 ∧ τ 32 = .bool false ∧ τ 43 = .bool false ∧ τ 55 = .bool true ∧ τ 62 = .bool true) ⟨up rfl hs5, up rfl hs7, up rfl hs8, up rfl hs9, up rfl hs10, up rfl hs11, up rfl hs12, up rfl hs13, up rfl hs14, up rfl hs15, up rfl hs16, tp, up rfl hs32, up rfl hs43, up rfl hs55, up rfl hs62⟩ ?_
          rintro τ ⟨hs5, hs7, hs8, hs9, hs10, hs11, hs12, hs13, hs14, hs15, hs16, hs17, hs32, hs43, hs55, hs62⟩
          refine CW.block ?_
          have hst := (hst.take (.there .here)).drop
          refine CW.loop (fun (k : Nat) (τ : Fr) (w : World) => ∃ (q : Nat) (most : Int) (fst : Bool), fst = decide (q = 0) ∧ (∀ y ∈ (madeR bits).take q, placeOf ((ys.take 30).set i (v + dd)) y ≤ most) ∧ q ≤ (madeR bits).length ∧ k = (madeR bits).length - q ∧ τ 7 = .bool true ∧ τ 8 = .slice X2 ((madeR bits).length) c3 ∧ τ 9 = .slice (some ⟨g, 0, none⟩) (((ys.take 30).set i (v + dd)).length) c8 ∧ τ 10 = .int .i64 (bestOf (madeR bits) (ys.take 30) (madeR bits)) ∧ τ 14 = .int .i64 (bestOf (madeR bits) ((ys.take 30).set i (v + dd)) (madeR bits)) ∧ τ 15 = .int .i64 most ∧ τ 16 = .bool fst ∧ τ 17 = .int .i64 ((q : Nat) : Int) ∧ St p w (Own 3 1 (.slice (some ⟨g, 0, none⟩) (((ys.take 30).set i (v + dd)).length) c8) (((ys.take 30).set i (v + dd)).length) (((ys.take 30).set i (v + dd)).flatMap ienc) :: R)) ((madeR bits).length - 0) ⟨0, 0, true, rfl, (fun y hy => by rw [List.take_zero] at hy; cases hy), by omega, rfl, hs7, hs8, hs9, hs10, hs14, hs15, hs16, (int_eq (a := 0) hs17 (by omega)), hst⟩ ?_
          clear hst
          rintro k τ w ⟨q, most, fst, hfst, hmx, hq, hkq, hs7, hs8, hs9, hs10, hs14, hs15, hs16, hs17, hst⟩
          refine CW.seq ?_
          refine CW.seq ?_
          refine CW.region ?_
          refine RW.soft Wd.a (v := .int .i64 ((q : Nat) : Int)) (by exact E.move (AF_ev rfl hs17)) ?_
          refine RW.soft Wd.a (v := .slice X2 ((madeR bits).length) c3) (by exact E.move (AF_ev rfl (up rfl hs8))) ?_
          refine RW.soft Wd.a (v := .int .i64 (((madeR bits).length : Nat) : Int)) (by exact E.lenS (p := X2) (l := (madeR bits).length) (c := c3) Try.underlying58 (AF_ev rfl tp)) ?_
          refine RW.soft Wd.a (v := .bool (decide (((q : Nat) : Int) < (((madeR bits).length : Nat) : Int)))) (by exact E.lss (k := .i64) (a := ((q : Nat) : Int)) (b := (((madeR bits).length : Nat) : Int)) (AF_ev rfl (up rfl (up rfl tp))) (AF_ev rfl tp)) ?_
          refine RW.fin (fun τ => τ 7 = .bool true ∧ τ 8 = .slice X2 ((madeR bits).length) c3 ∧ τ 9 = .slice (some ⟨g, 0, none⟩) (((ys.take 30).set i (v + dd)).length) c8 ∧ τ 10 = .int .i64 (bestOf (madeR bits) (ys.take 30) (madeR bits)) ∧ τ 14 = .int .i64 (bestOf (madeR bits) ((ys.take 30).set i (v + dd)) (madeR bits)) ∧ τ 15 = .int .i64 most ∧ τ 16 = .bool fst ∧ τ 17 = .int .i64 ((q : Nat) : Int) ∧ τ 80 = .bool (decide (((q : Nat) : Int) < (((madeR bits).length : Nat) : Int)))) ⟨up rfl (up rfl (up rfl (up rfl hs7))), up rfl (up rfl (up rfl (up rfl hs8))), up rfl (up rfl (up rfl (up rfl hs9))), up rfl (up rfl (up rfl (up rfl hs10))), up rfl (up rfl (up rfl (up rfl hs14))), up rfl (up rfl (up rfl (up rfl hs15))), up rfl (up rfl (up rfl (up rfl hs16))), up rfl (up rfl (up rfl (up rfl hs17))), tp⟩ ?_
          rintro τ ⟨hs7, hs8, hs9, hs10, hs14, hs15, hs16, hs17, hs80⟩
          refine CW.cond (AF_ev rfl hs80) (fun hc14 => ?_) (fun hc14 => ?_)
          · have hc14_ := hc14
            try simp only [decide_eq_true_eq, decide_eq_false_iff_not, Bool.and_eq_true, Bool.or_eq_true, Bool.and_eq_false_iff, Bool.or_eq_false_iff, Bool.not_eq_true', Bool.not_eq_false', beq_iff_eq, beq_eq_false_iff_ne, bne_iff_ne, bne_eq_false_iff_eq, ne_eq, Int.not_lt, Int.not_le, gt_iff_lt, ge_iff_le] at hc14_
            refine CW.skip ?_
            refine Th.n ?_
            refine CW.seq ?_
            refine CW.block ?_
            refine CW.seq ?_
            refine CW.region ?_
            refine RW.soft Wd.a (v := .int .i64 0) (by exact E.assign rfl) ?_
            refine RW.fin (fun τ => τ 7 = .bool true ∧ τ 8 = .slice X2 ((madeR bits).length) c3 ∧ τ 9 = .slice (some ⟨g, 0, none⟩) (((ys.take 30).set i (v + dd)).length) c8 ∧ τ 10 = .int .i64 (bestOf (madeR bits) (ys.take 30) (madeR bits)) ∧ τ 14 = .int .i64 (bestOf (madeR bits) ((ys.take 30).set i (v + dd)) (madeR bits)) ∧ τ 15 = .int .i64 most ∧ τ 16 = .bool fst ∧ τ 17 = .int .i64 ((q : Nat) : Int) ∧ τ 18 = .int .i64 0 ∧ τ 80 = .bool true) ⟨up rfl hs7, up rfl hs8, up rfl hs9, up rfl hs10, up rfl hs14, up rfl hs15, up rfl hs16, up rfl hs17, tp, up rfl (Eq.trans hs80 (congrArg Value.bool hc14))⟩ ?_
            rintro τ ⟨hs7, hs8, hs9, hs10, hs14, hs15, hs16, hs17, hs18, hs80⟩
            refine CW.seq ?_
            refine CW.seq ?_
            obtain ⟨x, hx⟩ : ∃ z, (madeR bits)[q]? = some z := ⟨(madeR bits)[q]'(by omega), List.getElem?_eq_getElem (by omega)⟩
            obtain ⟨b9, o9, hp9, hcell9⟩ := Las.place hLX2 (by omega)
            subst hp9
            have hxm := made_mem (List.mem_of_getElem? hx)
            refine CW.region ?_
            refine RW.soft Wd.a (v := .slice (some ⟨b9, o9, none⟩) ((madeR bits).length) c3) (by exact E.move (AF_ev rfl hs8)) ?_
            refine RW.soft Wd.a (v := .int .i64 ((q : Nat) : Int)) (by exact E.move (AF_ev rfl (up rfl hs17))) ?_
            refine RW.soft Wd.a (v := .pointer (some ⟨b9, o9 + q * 1, none⟩)) (by exact E.indexAddr (b := b9) (o := o9) (l := (madeR bits).length) (c := c3) (i := ((q : Nat) : Int)) Try.underlying58 sz3 (AF_ev rfl (up rfl tp)) (AF_ev rfl tp) (by omega) (by omega) (by simp)) ?_
            refine RW.soft Wd.a (v := .int .i64 x) (by exact E.load (a := ⟨b9, o9 + q * 1, none⟩) Try.underlying3 rfl (AF_ev rfl tp) (by exact hcell9 hst _ _ (flat_get (j := 0) ienc_len hx (rfl)))) ?_
            refine RW.soft Wd.a (v := .slice (some ⟨g, 0, none⟩) (((ys.take 30).set i (v + dd)).length) c8) (by exact E.move (AF_ev rfl (up rfl (up rfl (up rfl (up rfl hs9)))))) ?_
            refine RW.soft Wd.a (v := .int .i64 ((((ys.take 30).set i (v + dd)).length : Nat) : Int)) (by exact E.lenS (p := (some ⟨g, 0, none⟩)) (l := ((ys.take 30).set i (v + dd)).length) (c := c8) Try.underlying58 (AF_ev rfl tp)) ?_
            refine RW.soft Wd.a (v := .bool (decide (x < ((((ys.take 30).set i (v + dd)).length : Nat) : Int)))) (by exact E.lss (k := .i64) (a := x) (b := ((((ys.take 30).set i (v + dd)).length : Nat) : Int)) (AF_ev rfl (up rfl (up rfl tp))) (AF_ev rfl tp)) ?_
            refine RW.fin (fun τ => τ 7 = .bool true ∧ τ 8 = .slice (some ⟨b9, o9, none⟩) ((madeR bits).length) c3 ∧ τ 9 = .slice (some ⟨g, 0, none⟩) (((ys.take 30).set i (v + dd)).length) c8 ∧ τ 10 = .int .i64 (bestOf (madeR bits) (ys.take 30) (madeR bits)) ∧ τ 14 = .int .i64 (bestOf (madeR bits) ((ys.take 30).set i (v + dd)) (madeR bits)) ∧ τ 15 = .int .i64 most ∧ τ 16 = .bool fst ∧ τ 17 = .int .i64 ((q : Nat) : Int) ∧ τ 18 = .int .i64 0 ∧ τ 80 = .bool true ∧ τ 89 = .bool (decide (x < ((((ys.take 30).set i (v + dd)).length : Nat) : Int)))) ⟨up rfl (up rfl (up rfl (up rfl (up rfl (up rfl (up rfl hs7)))))), up rfl (up rfl (up rfl (up rfl (up rfl (up rfl (up rfl hs8)))))), up rfl (up rfl (up rfl (up rfl (up rfl (up rfl (up rfl hs9)))))), up rfl (up rfl (up rfl (up rfl (up rfl (up rfl (up rfl hs10)))))), up rfl (up rfl (up rfl (up rfl (up rfl (up rfl (up rfl hs14)))))), up rfl (up rfl (up rfl (up rfl (up rfl (up rfl (up rfl hs15)))))), up rfl (up rfl (up rfl (up rfl (up rfl (up rfl (up rfl hs16)))))), up rfl (up rfl (up rfl (up rfl (up rfl (up rfl (up rfl hs17)))))), up rfl (up rfl (up rfl (up rfl (up rfl (up rfl (up rfl hs18)))))), up rfl (up rfl (up rfl (up rfl (up rfl (up rfl (up rfl hs80)))))), tp⟩ ?_
            rintro τ ⟨hs7, hs8, hs9, hs10, hs14, hs15, hs16, hs17, hs18, hs80, hs89⟩
            refine CW.cond (AF_ev rfl hs89) (fun hc15 => ?_) (fun hc15 => ?_)
            · have hc15_ := hc15
              try simp only [decide_eq_true_eq, decide_eq_false_iff_not, Bool.and_eq_true, Bool.or_eq_true, Bool.and_eq_false_iff, Bool.or_eq_false_iff, Bool.not_eq_true', Bool.not_eq_false', beq_iff_eq, beq_eq_false_iff_ne, bne_iff_ne, bne_eq_false_iff_eq, ne_eq, Int.not_lt, Int.not_le, gt_iff_lt, ge_iff_le] at hc15_
              obtain ⟨z, hz⟩ : ∃ z, ((ys.take 30).set i (v + dd))[x.toNat]? = some z := ⟨((ys.take 30).set i (v + dd))[x.toNat]'(by omega), List.getElem?_eq_getElem (by omega)⟩
              have hpl := place_in (by omega) hz
              refine CW.region ?_
              refine RW.soft Wd.a (v := .slice (some ⟨g, 0, none⟩) (((ys.take 30).set i (v + dd)).length) c8) (by exact E.move (AF_ev rfl hs9)) ?_
              refine RW.soft Wd.a (v := .slice (some ⟨b9, o9, none⟩) ((madeR bits).length) c3) (by exact E.move (AF_ev rfl (up rfl hs8))) ?_
              refine RW.soft Wd.a (v := .int .i64 ((q : Nat) : Int)) (by exact E.move (AF_ev rfl (up rfl (up rfl hs17)))) ?_
              refine RW.soft Wd.a (v := .pointer (some ⟨b9, o9 + q * 1, none⟩)) (by exact E.indexAddr (b := b9) (o := o9) (l := (madeR bits).length) (c := c3) (i := ((q : Nat) : Int)) Try.underlying58 sz3 (AF_ev rfl (up rfl tp)) (AF_ev rfl tp) (by omega) (by omega) (by simp)) ?_
              refine RW.soft Wd.a (v := .int .i64 x) (by exact E.load (a := ⟨b9, o9 + q * 1, none⟩) Try.underlying3 rfl (AF_ev rfl tp) (by exact hcell9 hst _ _ (flat_get (j := 0) ienc_len hx (rfl)))) ?_
              refine RW.soft Wd.a (v := .pointer (some ⟨g, (x).toNat * 1, none⟩)) (by exact E.indexAddr (b := g) (o := 0) (l := ((ys.take 30).set i (v + dd)).length) (c := c8) (i := x) Try.underlying58 sz3 (AF_ev rfl (up rfl (up rfl (up rfl (up rfl tp))))) (AF_ev rfl tp) (by omega) (by omega) (by simp)) ?_
              refine RW.soft Wd.a (v := .int .i64 z) (by exact E.load (a := ⟨g, (x).toNat * 1, none⟩) Try.underlying3 rfl (AF_ev rfl tp) (hst.ocell .here (flat_get (j := 0) ienc_len hz (rfl)))) ?_
              refine RW.soft Wd.a (v := .int .i64 z) (by exact E.assign (AF_ev rfl tp)) ?_
              refine RW.fin (fun τ => τ 7 = .bool true ∧ τ 8 = .slice (some ⟨b9, o9, none⟩) ((madeR bits).length) c3 ∧ τ 9 = .slice (some ⟨g, 0, none⟩) (((ys.take 30).set i (v + dd)).length) c8 ∧ τ 10 = .int .i64 (bestOf (madeR bits) (ys.take 30) (madeR bits)) ∧ τ 14 = .int .i64 (bestOf (madeR bits) ((ys.take 30).set i (v + dd)) (madeR bits)) ∧ τ 15 = .int .i64 most ∧ τ 16 = .bool fst ∧ τ 17 = .int .i64 ((q : Nat) : Int) ∧ τ 18 = .int .i64 z ∧ τ 80 = .bool true ∧ τ 89 = .bool true) ⟨up rfl (up rfl (up rfl (up rfl (up rfl (up rfl (up rfl (up rfl hs7))))))), up rfl (up rfl (up rfl (up rfl (up rfl (up rfl (up rfl (up rfl hs8))))))), up rfl (up rfl (up rfl (up rfl (up rfl (up rfl (up rfl (up rfl hs9))))))), up rfl (up rfl (up rfl (up rfl (up rfl (up rfl (up rfl (up rfl hs10))))))), up rfl (up rfl (up rfl (up rfl (up rfl (up rfl (up rfl (up rfl hs14))))))), up rfl (up rfl (up rfl (up rfl (up rfl (up rfl (up rfl (up rfl hs15))))))), up rfl (up rfl (up rfl (up rfl (up rfl (up rfl (up rfl (up rfl hs16))))))), up rfl (up rfl (up rfl (up rfl (up rfl (up rfl (up rfl (up rfl hs17))))))), tp, up rfl (up rfl (up rfl (up rfl (up rfl (up rfl (up rfl (up rfl hs80))))))), up rfl (up rfl (up rfl (up rfl (up rfl (up rfl (up rfl (up rfl (Eq.trans hs89 (congrArg Value.bool hc15)))))))))⟩ ?_
              rintro τ ⟨hs7, hs8, hs9, hs10, hs14, hs15, hs16, hs17, hs18, hs80, hs89⟩
              refine CW.seq ?_
              refine CW.seq ?_
              refine CW.cut (fun τ => τ 7 = .bool true ∧ τ 8 = .slice (some ⟨b9, o9, none⟩) ((madeR bits).length) c3 ∧ τ 9 = .slice (some ⟨g, 0, none⟩) (((ys.take 30).set i (v + dd)).length) c8 ∧ τ 10 = .int .i64 (bestOf (madeR bits) (ys.take 30) (madeR bits)) ∧ τ 14 = .int .i64 (bestOf (madeR bits) ((ys.take 30).set i (v + dd)) (madeR bits)) ∧ τ 15 = .int .i64 most ∧ τ 16 = .bool fst ∧ τ 17 = .int .i64 ((q : Nat) : Int) ∧ τ 18 = .int .i64 z ∧ τ 80 = .bool true ∧ τ 89 = .bool true ∧ τ 102 = .bool (fst || (decide (z > most)))) ?_ ?_
              · refine CW.region ?_
                refine RW.soft Wd.a (v := .bool fst) (by exact E.move (AF_ev rfl hs16)) ?_
                refine RW.soft Wd.a (v := .bool fst) (by exact E.move (AF_ev rfl tp)) ?_
                refine Or.elim (Bool.eq_false_or_eq_true fst) (fun hg16 => ?_) (fun hg16 => ?_)
                · have hg16_ := hg16
                  try simp only [decide_eq_true_eq, decide_eq_false_iff_not, Bool.and_eq_true, Bool.or_eq_true, Bool.and_eq_false_iff, Bool.or_eq_false_iff, Bool.not_eq_true', Bool.not_eq_false', beq_iff_eq, beq_eq_false_iff_ne, bne_iff_ne, bne_eq_false_iff_eq, ne_eq, Int.not_lt, Int.not_le, gt_iff_lt, ge_iff_le] at hg16_
                  refine RW.pass (by exact Wd.no (x := 98) (b := true) rfl (AF_ev rfl (Eq.trans tp (congrArg Value.bool hg16))) rfl) ?_
                  refine RW.pass (by exact Wd.no (x := 98) (b := true) rfl (AF_ev rfl (up rfl (Eq.trans tp (congrArg Value.bool hg16)))) rfl) ?_
                  refine RW.pass (by exact Wd.no (x := 98) (b := true) rfl (AF_ev rfl (up rfl (up rfl (Eq.trans tp (congrArg Value.bool hg16))))) rfl) ?_
                  refine RW.soft Wd.a (v := .bool true) (by exact E.pickT (AF_ev rfl (up rfl (up rfl (up rfl (Eq.trans tp (congrArg Value.bool hg16)))))) rfl) ?_
                  refine RW.nil ⟨rfl, rfl, up rfl (up rfl (up rfl (up rfl (up rfl (up rfl hs7))))), up rfl (up rfl (up rfl (up rfl (up rfl (up rfl hs8))))), up rfl (up rfl (up rfl (up rfl (up rfl (up rfl hs9))))), up rfl (up rfl (up rfl (up rfl (up rfl (up rfl hs10))))), up rfl (up rfl (up rfl (up rfl (up rfl (up rfl hs14))))), up rfl (up rfl (up rfl (up rfl (up rfl (up rfl hs15))))), (bool_eq (a := true) (up rfl (up rfl (up rfl (up rfl (up rfl (up rfl (Eq.trans hs16 (congrArg Value.bool hg16)))))))) (by simp only [hg16, Bool.true_and, Bool.false_and, Bool.true_or, Bool.false_or])), up rfl (up rfl (up rfl (up rfl (up rfl (up rfl hs17))))), up rfl (up rfl (up rfl (up rfl (up rfl (up rfl hs18))))), up rfl (up rfl (up rfl (up rfl (up rfl (up rfl hs80))))), up rfl (up rfl (up rfl (up rfl (up rfl (up rfl hs89))))), (bool_eq (a := true) tp (by simp only [hg16, Bool.true_and, Bool.false_and, Bool.true_or, Bool.false_or]))⟩
                · have hg16_ := hg16
                  try simp only [decide_eq_true_eq, decide_eq_false_iff_not, Bool.and_eq_true, Bool.or_eq_true, Bool.and_eq_false_iff, Bool.or_eq_false_iff, Bool.not_eq_true', Bool.not_eq_false', beq_iff_eq, beq_eq_false_iff_ne, bne_iff_ne, bne_eq_false_iff_eq, ne_eq, Int.not_lt, Int.not_le, gt_iff_lt, ge_iff_le] at hg16_
                  refine RW.soft (by exact Wd.yes (x := 98) rfl (AF_ev rfl (Eq.trans tp (congrArg Value.bool hg16)))) (v := .int .i64 z) (by exact E.move (AF_ev rfl (up rfl (up rfl hs18)))) ?_
                  refine RW.soft (by exact Wd.yes (x := 98) rfl (AF_ev rfl (up rfl (Eq.trans tp (congrArg Value.bool hg16))))) (v := .int .i64 most) (by exact E.move (AF_ev rfl (up rfl (up rfl (up rfl hs15))))) ?_
                  refine RW.soft (by exact Wd.yes (x := 98) rfl (AF_ev rfl (up rfl (up rfl (Eq.trans tp (congrArg Value.bool hg16)))))) (v := .bool (decide (z > most))) (by exact E.gtr (k := .i64) (a := z) (b := most) (AF_ev rfl (up rfl tp)) (AF_ev rfl tp)) ?_
                  refine RW.soft Wd.a (v := .bool (decide (z > most))) (by exact E.pickF (AF_ev rfl (up rfl (up rfl (up rfl (Eq.trans tp (congrArg Value.bool hg16)))))) (AF_ev rfl tp)) ?_
                  refine RW.nil ⟨rfl, rfl, up rfl (up rfl (up rfl (up rfl (up rfl (up rfl hs7))))), up rfl (up rfl (up rfl (up rfl (up rfl (up rfl hs8))))), up rfl (up rfl (up rfl (up rfl (up rfl (up rfl hs9))))), up rfl (up rfl (up rfl (up rfl (up rfl (up rfl hs10))))), up rfl (up rfl (up rfl (up rfl (up rfl (up rfl hs14))))), up rfl (up rfl (up rfl (up rfl (up rfl (up rfl hs15))))), (bool_eq (a := false) (up rfl (up rfl (up rfl (up rfl (up rfl (up rfl (Eq.trans hs16 (congrArg Value.bool hg16)))))))) (by simp only [hg16, Bool.true_and, Bool.false_and, Bool.true_or, Bool.false_or])), up rfl (up rfl (up rfl (up rfl (up rfl (up rfl hs17))))), up rfl (up rfl (up rfl (up rfl (up rfl (up rfl hs18))))), up rfl (up rfl (up rfl (up rfl (up rfl (up rfl hs80))))), up rfl (up rfl (up rfl (up rfl (up rfl (up rfl hs89))))), (bool_eq (a := decide (z > most)) tp (by simp only [hg16, Bool.true_and, Bool.false_and, Bool.true_or, Bool.false_or]))⟩
              rintro τ ⟨hs7, hs8, hs9, hs10, hs14, hs15, hs16, hs17, hs18, hs80, hs89, hs102⟩
              refine CW.cond (AF_ev rfl hs102) (fun hc17 => ?_) (fun hc17 => ?_)
              · have hc17_ := hc17
                try simp only [decide_eq_true_eq, decide_eq_false_iff_not, Bool.and_eq_true, Bool.or_eq_true, Bool.and_eq_false_iff, Bool.or_eq_false_iff, Bool.not_eq_true', Bool.not_eq_false', beq_iff_eq, beq_eq_false_iff_ne, bne_iff_ne, bne_eq_false_iff_eq, ne_eq, Int.not_lt, Int.not_le, gt_iff_lt, ge_iff_le] at hc17_
                refine CW.region ?_
                refine RW.soft Wd.a (v := .int .i64 z) (by exact E.move (AF_ev rfl hs18)) ?_
                refine RW.soft Wd.a (v := .int .i64 z) (by exact E.assign (AF_ev rfl tp)) ?_
                refine RW.fin (fun τ => τ 7 = .bool true ∧ τ 8 = .slice (some ⟨b9, o9, none⟩) ((madeR bits).length) c3 ∧ τ 9 = .slice (some ⟨g, 0, none⟩) (((ys.take 30).set i (v + dd)).length) c8 ∧ τ 10 = .int .i64 (bestOf (madeR bits) (ys.take 30) (madeR bits)) ∧ τ 14 = .int .i64 (bestOf (madeR bits) ((ys.take 30).set i (v + dd)) (madeR bits)) ∧ τ 15 = .int .i64 z ∧ τ 16 = .bool fst ∧ τ 17 = .int .i64 ((q : Nat) : Int) ∧ τ 18 = .int .i64 z ∧ τ 80 = .bool true ∧ τ 89 = .bool true ∧ τ 102 = .bool true) ⟨up rfl (up rfl hs7), up rfl (up rfl hs8), up rfl (up rfl hs9), up rfl (up rfl hs10), up rfl (up rfl hs14), tp, up rfl (up rfl hs16), up rfl (up rfl hs17), up rfl (up rfl hs18), up rfl (up rfl hs80), up rfl (up rfl hs89), up rfl (up rfl (Eq.trans hs102 (congrArg Value.bool hc17)))⟩ ?_
                rintro τ ⟨hs7, hs8, hs9, hs10, hs14, hs15, hs16, hs17, hs18, hs80, hs89, hs102⟩
                refine CW.region ?_
                refine RW.soft Wd.a (v := .bool false) (by exact E.assign rfl) ?_
                refine RW.nil ?_
                refine Bl.n ?_
                refine Th.n ?_
                refine CW.region ?_
                refine RW.soft Wd.a (v := .int .i64 ((q : Nat) : Int)) (by exact E.move (AF_ev rfl (up rfl hs17))) ?_
                refine RW.soft Wd.a (v := .int .i64 (((q : Nat) : Int) + 1)) (by exact E.add (k := .i64) (a := ((q : Nat) : Int)) (b := 1) (AF_ev rfl tp) rfl (show IntKind.i64.wrap (((q : Nat) : Int) + 1) = ((q : Nat) : Int) + 1 from (by rw [IntWalk.i64_in _ (by omega)]))) ?_
                refine RW.soft Wd.a (v := .int .i64 (((q : Nat) : Int) + 1)) (by exact E.assign (AF_ev rfl tp)) ?_
                refine RW.nil ?_
                refine Th.n ?_
                have hor : (fst || decide (z > most)) = true := by assumption
                have hmx2 : ∀ y ∈ (madeR bits).take (q + 1), placeOf ((ys.take 30).set i (v + dd)) y ≤ z := by
                  intro y hy
                  rw [List.take_add_one, hx] at hy
                  rcases List.mem_append.1 hy with h | h
                  · have h1 := hmx y h
                    have hq0 : q ≠ 0 := fun e => by subst e; rw [List.take_zero] at h; cases h
                    rw [hfst, decide_eq_false hq0, Bool.false_or] at hor
                    have := of_decide_eq_true hor
                    omega
                  · rw [Option.toList_some, List.mem_singleton] at h; subst h; rw [hpl]; exact Int.le_refl _
                exact ⟨(madeR bits).length - (q + 1), by omega, q + 1, z, false, rfl, hmx2, (by omega), rfl, up rfl (up rfl (up rfl (up rfl hs7))), up rfl (up rfl (up rfl (up rfl hs8))), up rfl (up rfl (up rfl (up rfl hs9))), up rfl (up rfl (up rfl (up rfl hs10))), up rfl (up rfl (up rfl (up rfl hs14))), up rfl (up rfl (up rfl (up rfl hs15))), up rfl (up rfl (up rfl tp)), (int_eq (a := ((q : Nat) : Int) + 1) tp (by omega)), hst⟩
              · have hc17_ := hc17
                try simp only [decide_eq_true_eq, decide_eq_false_iff_not, Bool.and_eq_true, Bool.or_eq_true, Bool.and_eq_false_iff, Bool.or_eq_false_iff, Bool.not_eq_true', Bool.not_eq_false', beq_iff_eq, beq_eq_false_iff_ne, bne_iff_ne, bne_eq_false_iff_eq, ne_eq, Int.not_lt, Int.not_le, gt_iff_lt, ge_iff_le] at hc17_
                refine CW.skip ?_
                refine Th.n ?_
                refine CW.region ?_
                refine RW.soft Wd.a (v := .bool false) (by exact E.assign rfl) ?_
                refine RW.nil ?_
                refine Bl.n ?_
                refine Th.n ?_
                refine CW.region ?_
                refine RW.soft Wd.a (v := .int .i64 ((q : Nat) : Int)) (by exact E.move (AF_ev rfl (up rfl hs17))) ?_
                refine RW.soft Wd.a (v := .int .i64 (((q : Nat) : Int) + 1)) (by exact E.add (k := .i64) (a := ((q : Nat) : Int)) (b := 1) (AF_ev rfl tp) rfl (show IntKind.i64.wrap (((q : Nat) : Int) + 1) = ((q : Nat) : Int) + 1 from (by rw [IntWalk.i64_in _ (by omega)]))) ?_
                refine RW.soft Wd.a (v := .int .i64 (((q : Nat) : Int) + 1)) (by exact E.assign (AF_ev rfl tp)) ?_
                refine RW.nil ?_
                refine Th.n ?_
                have hor : (fst || decide (z > most)) = false := by assumption
                have hmx2 : ∀ y ∈ (madeR bits).take (q + 1), placeOf ((ys.take 30).set i (v + dd)) y ≤ most := by
                  intro y hy
                  rw [List.take_add_one, hx] at hy
                  rcases List.mem_append.1 hy with h | h
                  · exact hmx y h
                  · rw [Option.toList_some, List.mem_singleton] at h; subst h; rw [hpl]
                    have := of_decide_eq_false (Bool.or_eq_false_iff.1 hor).2
                    omega
                exact ⟨(madeR bits).length - (q + 1), by omega, q + 1, most, false, rfl, hmx2, (by omega), rfl, up rfl (up rfl (up rfl (up rfl hs7))), up rfl (up rfl (up rfl (up rfl hs8))), up rfl (up rfl (up rfl (up rfl hs9))), up rfl (up rfl (up rfl (up rfl hs10))), up rfl (up rfl (up rfl (up rfl hs14))), up rfl (up rfl (up rfl (up rfl hs15))), up rfl (up rfl (up rfl tp)), (int_eq (a := ((q : Nat) : Int) + 1) tp (by omega)), hst⟩
            · have hc15_ := hc15
              try simp only [decide_eq_true_eq, decide_eq_false_iff_not, Bool.and_eq_true, Bool.or_eq_true, Bool.and_eq_false_iff, Bool.or_eq_false_iff, Bool.not_eq_true', Bool.not_eq_false', beq_iff_eq, beq_eq_false_iff_ne, bne_iff_ne, bne_eq_false_iff_eq, ne_eq, Int.not_lt, Int.not_le, gt_iff_lt, ge_iff_le] at hc15_
              refine CW.skip ?_
              refine Th.n ?_
              refine CW.seq ?_
              refine CW.seq ?_
              have hpl := place_out (zs := ((ys.take 30).set i (v + dd))) (i := x) (by omega)
              refine CW.cut (fun τ => τ 7 = .bool true ∧ τ 8 = .slice (some ⟨b9, o9, none⟩) ((madeR bits).length) c3 ∧ τ 9 = .slice (some ⟨g, 0, none⟩) (((ys.take 30).set i (v + dd)).length) c8 ∧ τ 10 = .int .i64 (bestOf (madeR bits) (ys.take 30) (madeR bits)) ∧ τ 14 = .int .i64 (bestOf (madeR bits) ((ys.take 30).set i (v + dd)) (madeR bits)) ∧ τ 15 = .int .i64 most ∧ τ 16 = .bool fst ∧ τ 17 = .int .i64 ((q : Nat) : Int) ∧ τ 18 = .int .i64 0 ∧ τ 80 = .bool true ∧ τ 89 = .bool false ∧ τ 102 = .bool (fst || (decide (0 > most)))) ?_ ?_
              · refine CW.region ?_
                refine RW.soft Wd.a (v := .bool fst) (by exact E.move (AF_ev rfl hs16)) ?_
                refine RW.soft Wd.a (v := .bool fst) (by exact E.move (AF_ev rfl tp)) ?_
                refine Or.elim (Bool.eq_false_or_eq_true fst) (fun hg18 => ?_) (fun hg18 => ?_)
                · have hg18_ := hg18
                  try simp only [decide_eq_true_eq, decide_eq_false_iff_not, Bool.and_eq_true, Bool.or_eq_true, Bool.and_eq_false_iff, Bool.or_eq_false_iff, Bool.not_eq_true', Bool.not_eq_false', beq_iff_eq, beq_eq_false_iff_ne, bne_iff_ne, bne_eq_false_iff_eq, ne_eq, Int.not_lt, Int.not_le, gt_iff_lt, ge_iff_le] at hg18_
                  refine RW.pass (by exact Wd.no (x := 98) (b := true) rfl (AF_ev rfl (Eq.trans tp (congrArg Value.bool hg18))) rfl) ?_
                  refine RW.pass (by exact Wd.no (x := 98) (b := true) rfl (AF_ev rfl (up rfl (Eq.trans tp (congrArg Value.bool hg18)))) rfl) ?_
                  refine RW.pass (by exact Wd.no (x := 98) (b := true) rfl (AF_ev rfl (up rfl (up rfl (Eq.trans tp (congrArg Value.bool hg18))))) rfl) ?_
                  refine RW.soft Wd.a (v := .bool true) (by exact E.pickT (AF_ev rfl (up rfl (up rfl (up rfl (Eq.trans tp (congrArg Value.bool hg18)))))) rfl) ?_
                  refine RW.nil ⟨rfl, rfl, up rfl (up rfl (up rfl (up rfl (up rfl (up rfl hs7))))), up rfl (up rfl (up rfl (up rfl (up rfl (up rfl hs8))))), up rfl (up rfl (up rfl (up rfl (up rfl (up rfl hs9))))), up rfl (up rfl (up rfl (up rfl (up rfl (up rfl hs10))))), up rfl (up rfl (up rfl (up rfl (up rfl (up rfl hs14))))), up rfl (up rfl (up rfl (up rfl (up rfl (up rfl hs15))))), (bool_eq (a := true) (up rfl (up rfl (up rfl (up rfl (up rfl (up rfl (Eq.trans hs16 (congrArg Value.bool hg18)))))))) (by simp only [hg18, Bool.true_and, Bool.false_and, Bool.true_or, Bool.false_or])), up rfl (up rfl (up rfl (up rfl (up rfl (up rfl hs17))))), up rfl (up rfl (up rfl (up rfl (up rfl (up rfl hs18))))), up rfl (up rfl (up rfl (up rfl (up rfl (up rfl hs80))))), up rfl (up rfl (up rfl (up rfl (up rfl (up rfl (Eq.trans hs89 (congrArg Value.bool hc15))))))), (bool_eq (a := true) tp (by simp only [hg18, Bool.true_and, Bool.false_and, Bool.true_or, Bool.false_or]))⟩
                · have hg18_ := hg18
                  try simp only [decide_eq_true_eq, decide_eq_false_iff_not, Bool.and_eq_true, Bool.or_eq_true, Bool.and_eq_false_iff, Bool.or_eq_false_iff, Bool.not_eq_true', Bool.not_eq_false', beq_iff_eq, beq_eq_false_iff_ne, bne_iff_ne, bne_eq_false_iff_eq, ne_eq, Int.not_lt, Int.not_le, gt_iff_lt, ge_iff_le] at hg18_
                  refine RW.soft (by exact Wd.yes (x := 98) rfl (AF_ev rfl (Eq.trans tp (congrArg Value.bool hg18)))) (v := .int .i64 0) (by exact E.move (AF_ev rfl (up rfl (up rfl hs18)))) ?_
                  refine RW.soft (by exact Wd.yes (x := 98) rfl (AF_ev rfl (up rfl (Eq.trans tp (congrArg Value.bool hg18))))) (v := .int .i64 most) (by exact E.move (AF_ev rfl (up rfl (up rfl (up rfl hs15))))) ?_
                  refine RW.soft (by exact Wd.yes (x := 98) rfl (AF_ev rfl (up rfl (up rfl (Eq.trans tp (congrArg Value.bool hg18)))))) (v := .bool (decide (0 > most))) (by exact E.gtr (k := .i64) (a := 0) (b := most) (AF_ev rfl (up rfl tp)) (AF_ev rfl tp)) ?_
                  refine RW.soft Wd.a (v := .bool (decide (0 > most))) (by exact E.pickF (AF_ev rfl (up rfl (up rfl (up rfl (Eq.trans tp (congrArg Value.bool hg18)))))) (AF_ev rfl tp)) ?_
                  refine RW.nil ⟨rfl, rfl, up rfl (up rfl (up rfl (up rfl (up rfl (up rfl hs7))))), up rfl (up rfl (up rfl (up rfl (up rfl (up rfl hs8))))), up rfl (up rfl (up rfl (up rfl (up rfl (up rfl hs9))))), up rfl (up rfl (up rfl (up rfl (up rfl (up rfl hs10))))), up rfl (up rfl (up rfl (up rfl (up rfl (up rfl hs14))))), up rfl (up rfl (up rfl (up rfl (up rfl (up rfl hs15))))), (bool_eq (a := false) (up rfl (up rfl (up rfl (up rfl (up rfl (up rfl (Eq.trans hs16 (congrArg Value.bool hg18)))))))) (by simp only [hg18, Bool.true_and, Bool.false_and, Bool.true_or, Bool.false_or])), up rfl (up rfl (up rfl (up rfl (up rfl (up rfl hs17))))), up rfl (up rfl (up rfl (up rfl (up rfl (up rfl hs18))))), up rfl (up rfl (up rfl (up rfl (up rfl (up rfl hs80))))), up rfl (up rfl (up rfl (up rfl (up rfl (up rfl (Eq.trans hs89 (congrArg Value.bool hc15))))))), (bool_eq (a := decide (0 > most)) tp (by simp only [hg18, Bool.true_and, Bool.false_and, Bool.true_or, Bool.false_or]))⟩
              rintro τ ⟨hs7, hs8, hs9, hs10, hs14, hs15, hs16, hs17, hs18, hs80, hs89, hs102⟩
              refine CW.cond (AF_ev rfl hs102) (fun hc19 => ?_) (fun hc19 => ?_)
              · have hc19_ := hc19
                try simp only [decide_eq_true_eq, decide_eq_false_iff_not, Bool.and_eq_true, Bool.or_eq_true, Bool.and_eq_false_iff, Bool.or_eq_false_iff, Bool.not_eq_true', Bool.not_eq_false', beq_iff_eq, beq_eq_false_iff_ne, bne_iff_ne, bne_eq_false_iff_eq, ne_eq, Int.not_lt, Int.not_le, gt_iff_lt, ge_iff_le] at hc19_
                refine CW.region ?_
                refine RW.soft Wd.a (v := .int .i64 0) (by exact E.move (AF_ev rfl hs18)) ?_
                refine RW.soft Wd.a (v := .int .i64 0) (by exact E.assign (AF_ev rfl tp)) ?_
                refine RW.fin (fun τ => τ 7 = .bool true ∧ τ 8 = .slice (some ⟨b9, o9, none⟩) ((madeR bits).length) c3 ∧ τ 9 = .slice (some ⟨g, 0, none⟩) (((ys.take 30).set i (v + dd)).length) c8 ∧ τ 10 = .int .i64 (bestOf (madeR bits) (ys.take 30) (madeR bits)) ∧ τ 14 = .int .i64 (bestOf (madeR bits) ((ys.take 30).set i (v + dd)) (madeR bits)) ∧ τ 15 = .int .i64 0 ∧ τ 16 = .bool fst ∧ τ 17 = .int .i64 ((q : Nat) : Int) ∧ τ 18 = .int .i64 0 ∧ τ 80 = .bool true ∧ τ 89 = .bool false ∧ τ 102 = .bool true) ⟨up rfl (up rfl hs7), up rfl (up rfl hs8), up rfl (up rfl hs9), up rfl (up rfl hs10), up rfl (up rfl hs14), tp, up rfl (up rfl hs16), up rfl (up rfl hs17), up rfl (up rfl hs18), up rfl (up rfl hs80), up rfl (up rfl hs89), up rfl (up rfl (Eq.trans hs102 (congrArg Value.bool hc19)))⟩ ?_
                rintro τ ⟨hs7, hs8, hs9, hs10, hs14, hs15, hs16, hs17, hs18, hs80, hs89, hs102⟩
                refine CW.region ?_
                refine RW.soft Wd.a (v := .bool false) (by exact E.assign rfl) ?_
                refine RW.nil ?_
                refine Bl.n ?_
                refine Th.n ?_
                refine CW.region ?_
                refine RW.soft Wd.a (v := .int .i64 ((q : Nat) : Int)) (by exact E.move (AF_ev rfl (up rfl hs17))) ?_
                refine RW.soft Wd.a (v := .int .i64 (((q : Nat) : Int) + 1)) (by exact E.add (k := .i64) (a := ((q : Nat) : Int)) (b := 1) (AF_ev rfl tp) rfl (show IntKind.i64.wrap (((q : Nat) : Int) + 1) = ((q : Nat) : Int) + 1 from (by rw [IntWalk.i64_in _ (by omega)]))) ?_
                refine RW.soft Wd.a (v := .int .i64 (((q : Nat) : Int) + 1)) (by exact E.assign (AF_ev rfl tp)) ?_
                refine RW.nil ?_
                refine Th.n ?_
                have hor : (fst || decide (0 > most)) = true := by assumption
                have hmx2 : ∀ y ∈ (madeR bits).take (q + 1), placeOf ((ys.take 30).set i (v + dd)) y ≤ 0 := by
                  intro y hy
                  rw [List.take_add_one, hx] at hy
                  rcases List.mem_append.1 hy with h | h
                  · have h1 := hmx y h
                    have hq0 : q ≠ 0 := fun e => by subst e; rw [List.take_zero] at h; cases h
                    rw [hfst, decide_eq_false hq0, Bool.false_or] at hor
                    have := of_decide_eq_true hor
                    omega
                  · rw [Option.toList_some, List.mem_singleton] at h; subst h; rw [hpl]; exact Int.le_refl _
                exact ⟨(madeR bits).length - (q + 1), by omega, q + 1, 0, false, rfl, hmx2, (by omega), rfl, up rfl (up rfl (up rfl (up rfl hs7))), up rfl (up rfl (up rfl (up rfl hs8))), up rfl (up rfl (up rfl (up rfl hs9))), up rfl (up rfl (up rfl (up rfl hs10))), up rfl (up rfl (up rfl (up rfl hs14))), up rfl (up rfl (up rfl (up rfl hs15))), up rfl (up rfl (up rfl tp)), (int_eq (a := ((q : Nat) : Int) + 1) tp (by omega)), hst⟩
              · have hc19_ := hc19
                try simp only [decide_eq_true_eq, decide_eq_false_iff_not, Bool.and_eq_true, Bool.or_eq_true, Bool.and_eq_false_iff, Bool.or_eq_false_iff, Bool.not_eq_true', Bool.not_eq_false', beq_iff_eq, beq_eq_false_iff_ne, bne_iff_ne, bne_eq_false_iff_eq, ne_eq, Int.not_lt, Int.not_le, gt_iff_lt, ge_iff_le] at hc19_
                refine CW.skip ?_
                refine Th.n ?_
                refine CW.region ?_
                refine RW.soft Wd.a (v := .bool false) (by exact E.assign rfl) ?_
                refine RW.nil ?_
                refine Bl.n ?_
                refine Th.n ?_
                refine CW.region ?_
                refine RW.soft Wd.a (v := .int .i64 ((q : Nat) : Int)) (by exact E.move (AF_ev rfl (up rfl hs17))) ?_
                refine RW.soft Wd.a (v := .int .i64 (((q : Nat) : Int) + 1)) (by exact E.add (k := .i64) (a := ((q : Nat) : Int)) (b := 1) (AF_ev rfl tp) rfl (show IntKind.i64.wrap (((q : Nat) : Int) + 1) = ((q : Nat) : Int) + 1 from (by rw [IntWalk.i64_in _ (by omega)]))) ?_
                refine RW.soft Wd.a (v := .int .i64 (((q : Nat) : Int) + 1)) (by exact E.assign (AF_ev rfl tp)) ?_
                refine RW.nil ?_
                refine Th.n ?_
                have hor : (fst || decide (0 > most)) = false := by assumption
                have hmx2 : ∀ y ∈ (madeR bits).take (q + 1), placeOf ((ys.take 30).set i (v + dd)) y ≤ most := by
                  intro y hy
                  rw [List.take_add_one, hx] at hy
                  rcases List.mem_append.1 hy with h | h
                  · exact hmx y h
                  · rw [Option.toList_some, List.mem_singleton] at h; subst h; rw [hpl]
                    have := of_decide_eq_false (Bool.or_eq_false_iff.1 hor).2
                    omega
                exact ⟨(madeR bits).length - (q + 1), by omega, q + 1, most, false, rfl, hmx2, (by omega), rfl, up rfl (up rfl (up rfl (up rfl hs7))), up rfl (up rfl (up rfl (up rfl hs8))), up rfl (up rfl (up rfl (up rfl hs9))), up rfl (up rfl (up rfl (up rfl hs10))), up rfl (up rfl (up rfl (up rfl hs14))), up rfl (up rfl (up rfl (up rfl hs15))), up rfl (up rfl (up rfl tp)), (int_eq (a := ((q : Nat) : Int) + 1) tp (by omega)), hst⟩
          · have hc14_ := hc14
            try simp only [decide_eq_true_eq, decide_eq_false_iff_not, Bool.and_eq_true, Bool.or_eq_true, Bool.and_eq_false_iff, Bool.or_eq_false_iff, Bool.not_eq_true', Bool.not_eq_false', beq_iff_eq, beq_eq_false_iff_ne, bne_iff_ne, bne_eq_false_iff_eq, ne_eq, Int.not_lt, Int.not_le, gt_iff_lt, ge_iff_le] at hc14_
            refine CW.exit ?_
            refine Th.x ?_
            refine Th.x ?_
            refine Bl.x ?_
            refine Th.n ?_
            refine CW.seq ?_
            rw [List.take_of_length_le (by omega)] at hmx
            have h0m : -9223372036854775808 ≤ most := Int.le_trans (Fit.place hFT2 ((madeR bits)[0]'hmp)).1 (hmx _ (List.getElem_mem hmp))
            refine CW.region ?_
            refine RW.soft Wd.a (v := .bool true) (by exact E.move (AF_ev rfl hs7)) ?_
            refine RW.soft Wd.a (v := .bool true) (by exact E.move (AF_ev rfl tp)) ?_
            refine RW.soft (by exact Wd.yes (x := 105) rfl (AF_ev rfl tp)) (v := .int .i64 (bestOf (madeR bits) ((ys.take 30).set i (v + dd)) (madeR bits))) (by exact E.move (AF_ev rfl (up rfl (up rfl hs14)))) ?_
            refine RW.soft (by exact Wd.yes (x := 105) rfl (AF_ev rfl (up rfl tp))) (v := .int .i64 (bestOf (madeR bits) (ys.take 30) (madeR bits))) (by exact E.move (AF_ev rfl (up rfl (up rfl (up rfl hs10))))) ?_
            refine RW.soft (by exact Wd.yes (x := 105) rfl (AF_ev rfl (up rfl (up rfl tp)))) (v := .bool true) (by exact E.b (a := decide ((bestOf (madeR bits) ((ys.take 30).set i (v + dd)) (madeR bits)) ≥ (bestOf (madeR bits) (ys.take 30) (madeR bits)))) (E.geq (k := .i64) (a := bestOf (madeR bits) ((ys.take 30).set i (v + dd)) (madeR bits)) (b := bestOf (madeR bits) (ys.take 30) (madeR bits)) (AF_ev rfl (up rfl tp)) (AF_ev rfl tp)) (decide_eq_true (best_rises fun x _ => place_set hv hd0.1 x))) ?_
            refine RW.soft Wd.a (v := .bool true) (by exact E.pickT (AF_ev rfl (up rfl (up rfl (up rfl tp)))) (AF_ev rfl tp)) ?_
            refine RW.soft Wd.a (v := .bool true) (by exact E.move (AF_ev rfl tp)) ?_
            refine RW.soft (by exact Wd.yes (x := 110) rfl (AF_ev rfl tp)) (v := .int .i64 (bestOf (madeR bits) ((ys.take 30).set i (v + dd)) (madeR bits))) (by exact E.move (AF_ev rfl (up rfl (up rfl (up rfl (up rfl (up rfl (up rfl (up rfl hs14))))))))) ?_
            refine RW.soft (by exact Wd.yes (x := 110) rfl (AF_ev rfl (up rfl tp))) (v := .int .i64 most) (by exact E.move (AF_ev rfl (up rfl (up rfl (up rfl (up rfl (up rfl (up rfl (up rfl (up rfl hs15)))))))))) ?_
            refine RW.soft (by exact Wd.yes (x := 110) rfl (AF_ev rfl (up rfl (up rfl tp)))) (v := .bool true) (by exact E.b (a := decide ((bestOf (madeR bits) ((ys.take 30).set i (v + dd)) (madeR bits)) ≤ most)) (E.leq (k := .i64) (a := bestOf (madeR bits) ((ys.take 30).set i (v + dd)) (madeR bits)) (b := most) (AF_ev rfl (up rfl tp)) (AF_ev rfl tp)) (decide_eq_true (best_top h0m hmx))) ?_
            refine RW.soft Wd.a (v := .bool true) (by exact E.pickT (AF_ev rfl (up rfl (up rfl (up rfl tp)))) (AF_ev rfl tp)) ?_
            refine RW.soft Wd.a (v := .bool true) (by exact E.assign (AF_ev rfl tp)) ?_
            refine RW.fin (fun τ => τ 6 = .bool true ∧ τ 7 = .bool true ∧ τ 8 = .slice X2 ((madeR bits).length) c3 ∧ τ 9 = .slice (some ⟨g, 0, none⟩) (((ys.take 30).set i (v + dd)).length) c8 ∧ τ 10 = .int .i64 (bestOf (madeR bits) (ys.take 30) (madeR bits)) ∧ τ 14 = .int .i64 (bestOf (madeR bits) ((ys.take 30).set i (v + dd)) (madeR bits)) ∧ τ 15 = .int .i64 most ∧ τ 16 = .bool fst ∧ τ 17 = .int .i64 ((q : Nat) : Int) ∧ τ 80 = .bool false) ⟨tp, up rfl (up rfl (up rfl (up rfl (up rfl (up rfl (up rfl (up rfl (up rfl (up rfl (up rfl (up rfl hs7))))))))))), up rfl (up rfl (up rfl (up rfl (up rfl (up rfl (up rfl (up rfl (up rfl (up rfl (up rfl (up rfl hs8))))))))))), up rfl (up rfl (up rfl (up rfl (up rfl (up rfl (up rfl (up rfl (up rfl (up rfl (up rfl (up rfl hs9))))))))))), up rfl (up rfl (up rfl (up rfl (up rfl (up rfl (up rfl (up rfl (up rfl (up rfl (up rfl (up rfl hs10))))))))))), up rfl (up rfl (up rfl (up rfl (up rfl (up rfl (up rfl (up rfl (up rfl (up rfl (up rfl (up rfl hs14))))))))))), up rfl (up rfl (up rfl (up rfl (up rfl (up rfl (up rfl (up rfl (up rfl (up rfl (up rfl (up rfl hs15))))))))))), up rfl (up rfl (up rfl (up rfl (up rfl (up rfl (up rfl (up rfl (up rfl (up rfl (up rfl (up rfl hs16))))))))))), up rfl (up rfl (up rfl (up rfl (up rfl (up rfl (up rfl (up rfl (up rfl (up rfl (up rfl (up rfl hs17))))))))))), up rfl (up rfl (up rfl (up rfl (up rfl (up rfl (up rfl (up rfl (up rfl (up rfl (up rfl (up rfl (Eq.trans hs80 (congrArg Value.bool hc14)))))))))))))⟩ ?_
            rintro τ ⟨hs6, hs7, hs8, hs9, hs10, hs14, hs15, hs16, hs17, hs80⟩
            refine CW.ret ?_
            refine ret1 (v := .bool true) rfl (by exact (.tmp (AF_ev rfl hs6) .nil)) ?_
            have hst := (hst.take .here).drop
            exact ⟨p, hleX2, rfl, hst⟩
        · have hc13_ := hc13
          try simp only [decide_eq_true_eq, decide_eq_false_iff_not, Bool.and_eq_true, Bool.or_eq_true, Bool.and_eq_false_iff, Bool.or_eq_false_iff, Bool.not_eq_true', Bool.not_eq_false', beq_iff_eq, beq_eq_false_iff_ne, bne_iff_ne, bne_eq_false_iff_eq, ne_eq, Int.not_lt, Int.not_le, gt_iff_lt, ge_iff_le] at hc13_
          refine CW.skip ?_
          refine Th.n ?_
          refine CW.seq ?_
          obtain ⟨i, hi⟩ : ∃ z : Nat, ((z : Nat) : Int) = -i0 := ⟨(-i0).toNat, by omega⟩
          rw [← hi] at hs12
          obtain ⟨dd, hd⟩ : ∃ z : Int, z = d0 := ⟨_, rfl⟩
          rw [← hd] at hs13
          have hd0 : 0 ≤ dd ∧ dd ≤ 1001 := by omega
          obtain ⟨v, hv⟩ : ∃ z, (ys.take 30)[i]? = some z := ⟨(ys.take 30)[i]'(by omega), List.getElem?_eq_getElem (by omega)⟩
          have hvb := hbg v (List.mem_of_getElem? hv)
          have hvf : I64 v := hFT v (List.mem_of_getElem? hv)
          unfold I64 at hvf
          obtain ⟨Xo, co, heo, hco, hmo, hlo, hbo⟩ := hst.shape
          cases heo
          obtain ⟨g, hgo⟩ := hbo (by omega)
          subst hgo
          refine CW.region ?_
          refine RW.soft Wd.a (v := .slice (some ⟨g, 0, none⟩) ((ys.take 30).length) c8) (by exact E.move (AF_ev rfl hs9)) ?_
          refine RW.soft Wd.a (v := .int .i64 ((i : Nat) : Int)) (by exact E.move (AF_ev rfl (up rfl hs12))) ?_
          refine RW.soft Wd.a (v := .slice (some ⟨g, 0, none⟩) ((ys.take 30).length) c8) (by exact E.move (AF_ev rfl (up rfl (up rfl hs9)))) ?_
          refine RW.soft Wd.a (v := .int .i64 ((i : Nat) : Int)) (by exact E.move (AF_ev rfl (up rfl (up rfl (up rfl hs12))))) ?_
          refine RW.soft Wd.a (v := .pointer (some ⟨g, i * 1, none⟩)) (by exact E.indexAddr (b := g) (o := 0) (l := (ys.take 30).length) (c := c8) (i := ((i : Nat) : Int)) Try.underlying58 sz3 (AF_ev rfl (up rfl tp)) (AF_ev rfl tp) (by omega) (by omega) (by simp)) ?_
          refine RW.soft Wd.a (v := .int .i64 v) (by exact E.load (a := ⟨g, i * 1, none⟩) Try.underlying3 rfl (AF_ev rfl tp) (hst.ocell .here (flat_get (j := 0) ienc_len hv (rfl)))) ?_
          refine RW.soft Wd.a (v := .int .i64 dd) (by exact E.move (AF_ev rfl (up rfl (up rfl (up rfl (up rfl (up rfl (up rfl hs13)))))))) ?_
          refine RW.soft Wd.a (v := .int .i64 (v + dd)) (by exact E.add (k := .i64) (a := v) (b := dd) (AF_ev rfl (up rfl tp)) (AF_ev rfl tp) (show IntKind.i64.wrap (v + dd) = v + dd from (by rw [IntWalk.i64_in _ (by omega)]))) ?_
          refine RW.soft Wd.a (v := .pointer (some ⟨g, i * 1, none⟩)) (by exact E.indexAddr (b := g) (o := 0) (l := (ys.take 30).length) (c := c8) (i := ((i : Nat) : Int)) Try.underlying58 sz3 (AF_ev rfl (up rfl (up rfl (up rfl (up rfl (up rfl (up rfl (up rfl tp)))))))) (AF_ev rfl (up rfl (up rfl (up rfl (up rfl (up rfl (up rfl tp))))))) (by omega) (by omega) (by simp)) ?_
          refine RW.hard Wd.a ?_
          refine H.storeInn (f := ienc) (i := i) (d := 0) (m := 1) (v := .int .i64 (v + dd)) (news := [.int .i64 (v + dd)]) (a' := v + dd) ienc_len (AF_ev rfl tp) (AF_ev rfl (up rfl tp)) hst .here hv (by omega) rfl rfl rfl sz3 (by omega) (rfl) (by simp [Value.oneCell']) fun w hst => ?_
          refine RW.fin (fun τ => τ 5 = .pointer (some ⟨b1, 0, none⟩) ∧ τ 7 = .bool true ∧ τ 8 = .slice X2 ((madeR bits).length) c3 ∧ τ 9 = .slice (some ⟨g, 0, none⟩) ((ys.take 30).length) c8 ∧ τ 10 = .int .i64 (bestOf (madeR bits) (ys.take 30) (madeR bits)) ∧ τ 11 = .int .i64 ((j : Nat) : Int) ∧ τ 12 = .int .i64 ((i : Nat) : Int) ∧ τ 13 = .int .i64 dd ∧ τ 32 = .bool false ∧ τ 43 = .bool false ∧ τ 55 = .bool true ∧ τ 62 = .bool false) ⟨u0 (up rfl (up rfl (up rfl (up rfl (up rfl (up rfl (up rfl (up rfl (up rfl hs5))))))))), u0 (up rfl (up rfl (up rfl (up rfl (up rfl (up rfl (up rfl (up rfl (up rfl hs7))))))))), u0 (up rfl (up rfl (up rfl (up rfl (up rfl (up rfl (up rfl (up rfl (up rfl hs8))))))))), u0 (up rfl (up rfl (up rfl (up rfl (up rfl (up rfl (up rfl (up rfl (up rfl hs9))))))))), u0 (up rfl (up rfl (up rfl (up rfl (up rfl (up rfl (up rfl (up rfl (up rfl hs10))))))))), u0 (up rfl (up rfl (up rfl (up rfl (up rfl (up rfl (up rfl (up rfl (up rfl hs11))))))))), u0 (up rfl (up rfl (up rfl (up rfl (up rfl (up rfl (up rfl (up rfl (up rfl hs12))))))))), u0 (up rfl (up rfl (up rfl (up rfl (up rfl (up rfl (up rfl (up rfl (up rfl hs13))))))))), u0 (up rfl (up rfl (up rfl (up rfl (up rfl (up rfl (up rfl (up rfl (up rfl hs32))))))))), u0 (up rfl (up rfl (up rfl (up rfl (up rfl (up rfl (up rfl (up rfl (up rfl hs43))))))))), u0 (up rfl (up rfl (up rfl (up rfl (up rfl (up rfl (up rfl (up rfl (up rfl hs55))))))))), u0 (up rfl (up rfl (up rfl (up rfl (up rfl (up rfl (up rfl (up rfl (up rfl (Eq.trans hs62 (congrArg Value.bool hc13)))))))))))⟩ ?_
          rintro τ ⟨hs5, hs7, hs8, hs9, hs10, hs11, hs12, hs13, hs32, hs43, hs55, hs62⟩
          refine CW.seq ?_
          -- row ((ys.take 30).set i (v + dd))
          have hFT2 : Fit ((ys.take 30).set i (v + dd)) := Fit.set hFT hv hvb hd0
          have hl2 : ((ys.take 30).set i (v + dd)).length = (ys.take 30).length := List.length_set
          rw [← hl2] at hs9 hst
          refine CW.region ?_
          refine RW.soft Wd.a (v := .slice X2 ((madeR bits).length) c3) (by exact E.move (AF_ev rfl hs8)) ?_
          refine RW.soft Wd.a (v := .slice (some ⟨g, 0, none⟩) (((ys.take 30).set i (v + dd)).length) c8) (by exact E.move (AF_ev rfl (up rfl hs9))) ?_
          have hst := hst.emp
          refine RW.hard Wd.a ?_
          refine H.call0 Try.func43 nm43 rfl (map2 (AF_ev rfl (up rfl tp)) (AF_ev rfl tp)) (Calls.mono (q_Agreed (zs := (madeR bits)) (ys := ((ys.take 30).set i (v + dd))) hLX2.tells (Nat.le_trans (made_le _) (by decide)) (own_TI (by first | rfl | omega | simp)) (by first | omega | decide) (made_pos _) (Nat.le_trans (made_le _) (by decide)) (fun n hn => by have := made_mem hn; omega) hFT2 hst) ?_)
          rintro _ w ⟨rfl, hst⟩
          have hst := hst.drop
          refine ⟨_, rfl, ?_⟩
          show RW _ _ _ _ _ _ _
          refine RW.soft Wd.a (v := .int .i64 (bestOf (madeR bits) ((ys.take 30).set i (v + dd)) (madeR bits))) (by exact E.assign (AF_ev rfl tp)) ?_
          refine RW.fin (fun τ => τ 5 = .pointer (some ⟨b1, 0, none⟩) ∧ τ 7 = .bool true ∧ τ 8 = .slice X2 ((madeR bits).length) c3 ∧ τ 9 = .slice (some ⟨g, 0, none⟩) (((ys.take 30).set i (v + dd)).length) c8 ∧ τ 10 = .int .i64 (bestOf (madeR bits) (ys.take 30) (madeR bits)) ∧ τ 11 = .int .i64 ((j : Nat) : Int) ∧ τ 12 = .int .i64 ((i : Nat) : Int) ∧ τ 13 = .int .i64 dd ∧ τ 14 = .int .i64 (bestOf (madeR bits) ((ys.take 30).set i (v + dd)) (madeR bits)) ∧ τ 32 = .bool false ∧ τ 43 = .bool false ∧ τ 55 = .bool true ∧ τ 62 = .bool false) ⟨up rfl (up rfl (up rfl (up rfl hs5))), up rfl (up rfl (up rfl (up rfl hs7))), up rfl (up rfl (up rfl (up rfl hs8))), up rfl (up rfl (up rfl (up rfl hs9))), up rfl (up rfl (up rfl (up rfl hs10))), up rfl (up rfl (up rfl (up rfl hs11))), up rfl (up rfl (up rfl (up rfl hs12))), up rfl (up rfl (up rfl (up rfl hs13))), tp, up rfl (up rfl (up rfl (up rfl hs32))), up rfl (up rfl (up rfl (up rfl hs43))), up rfl (up rfl (up rfl (up rfl hs55))), up rfl (up rfl (up rfl (up rfl hs62)))⟩ ?_
          rintro τ ⟨hs5, hs7, hs8, hs9, hs10, hs11, hs12, hs13, hs14, hs32, hs43, hs55, hs62⟩
          refine CW.seq ?_
          refine CW.region ?_
          refine RW.soft Wd.a (v := .int .i64 0) (by exact E.assign rfl) ?_
          refine RW.fin (fun τ => τ 5 = .pointer (some ⟨b1, 0, none⟩) ∧ τ 7 = .bool true ∧ τ 8 = .slice X2 ((madeR bits).length) c3 ∧ τ 9 = .slice (some ⟨g, 0, none⟩) (((ys.take 30).set i (v + dd)).length) c8 ∧ τ 10 = .int .i64 (bestOf (madeR bits) (ys.take 30) (madeR bits)) ∧ τ 11 = .int .i64 ((j : Nat) : Int) ∧ τ 12 = .int .i64 ((i : Nat) : Int) ∧ τ 13 = .int .i64 dd ∧ τ 14 = .int .i64 (bestOf (madeR bits) ((ys.take 30).set i (v + dd)) (madeR bits)) ∧ τ 15 = .int .i64 0 ∧ τ 32 = .bool false ∧ τ 43 = .bool false ∧ τ 55 = .bool true ∧ τ 62 = .bool false) ⟨up rfl hs5, up rfl hs7, up rfl hs8, up rfl hs9, up rfl hs10, up rfl hs11, up rfl hs12, up rfl hs13, up rfl hs14, tp, up rfl hs32, up rfl hs43, up rfl hs55, up rfl hs62⟩ ?_
          rintro τ ⟨hs5, hs7, hs8, hs9, hs10, hs11, hs12, hs13, hs14, hs15, hs32, hs43, hs55, hs62⟩
          refine CW.seq ?_
          refine CW.region ?_
          refine RW.soft Wd.a (v := .bool true) (by exact E.assign rfl) ?_
          refine RW.fin (fun τ => τ 5 = .pointer (some ⟨b1, 0, none⟩) ∧ τ 7 = .bool true ∧ τ 8 = .slice X2 ((madeR bits).length) c3 ∧ τ 9 = .slice (some ⟨g, 0, none⟩) (((ys.take 30).set i (v + dd)).length) c8 ∧ τ 10 = .int .i64 (bestOf (madeR bits) (ys.take 30) (madeR bits)) ∧ τ 11 = .int .i64 ((j : Nat) : Int) ∧ τ 12 = .int .i64 ((i : Nat) : Int) ∧ τ 13 = .int .i64 dd ∧ τ 14 = .int .i64 (bestOf (madeR bits) ((ys.take 30).set i (v + dd)) (madeR bits)) ∧ τ 15 = .int .i64 0 ∧ τ 16 = .bool true ∧ τ 32 = .bool false ∧ τ 43 = .bool false ∧ τ 55 = .bool true ∧ τ 62 = .bool false) ⟨up rfl hs5, up rfl hs7, up rfl hs8, up rfl hs9, up rfl hs10, up rfl hs11, up rfl hs12, up rfl hs13, up rfl hs14, up rfl hs15, tp, up rfl hs32, up rfl hs43, up rfl hs55, up rfl hs62⟩ ?_
          rintro τ ⟨hs5, hs7, hs8, hs9, hs10, hs11, hs12, hs13, hs14, hs15, hs16, hs32, hs43, hs55, hs62⟩
          refine CW.seq ?_
          refine CW.seq ?_
          refine CW.region ?_
          refine RW.soft Wd.a (v := .int .i64 0) (by exact E.assign rfl) ?_
          refine RW.fin (fun τ => τ 5 = .pointer (some ⟨b1, 0, none⟩) ∧ τ 7 = .bool true ∧ τ 8 = .slice X2 ((madeR bits).length) c3 ∧ τ 9 = .slice (some ⟨g, 0, none⟩) (((ys.take 30).set i (v + dd)).length) c8 ∧ τ 10 = .int .i64 (bestOf (madeR bits) (ys.take 30) (madeR bits)) ∧ τ 11 = .int .i64 ((j : Nat) : Int) ∧ τ 12 = .int .i64 ((i : Nat) : Int) ∧ τ 13 = .int .i64 dd ∧ τ 14 = .int .i64 (bestOf (madeR bits) ((ys.take 30).set i (v + dd)) (madeR bits)) ∧ τ 15 = .int .i64 0 ∧ τ 16 = .bool true ∧ τ 17 = .int .i64 0 ∧ τ 32 = .bool false ∧ τ 43 = .bool false ∧ τ 55 = .bool true ∧ τ 62 = .bool false) ⟨up rfl hs5, up rfl hs7, up rfl hs8, up rfl hs9, up rfl hs10, up rfl hs11, up rfl hs12, up rfl hs13, up rfl hs14, up rfl hs15, up rfl hs16, tp, up rfl hs32, up rfl hs43, up rfl hs55, up rfl hs62⟩ ?_
          rintro τ ⟨hs5, hs7, hs8, hs9, hs10, hs11, hs12, hs13, hs14, hs15, hs16, hs17, hs32, hs43, hs55, hs62⟩
          refine CW.block ?_
          have hst := (hst.take (.there .here)).drop
          refine CW.loop (fun (k : Nat) (τ : Fr) (w : World) => ∃ (q : Nat) (most : Int) (fst : Bool), fst = decide (q = 0) ∧ (∀ y ∈ (madeR bits).take q, placeOf ((ys.take 30).set i (v + dd)) y ≤ most) ∧ q ≤ (madeR bits).length ∧ k = (madeR bits).length - q ∧ τ 7 = .bool true ∧ τ 8 = .slice X2 ((madeR bits).length) c3 ∧ τ 9 = .slice (some ⟨g, 0, none⟩) (((ys.take 30).set i (v + dd)).length) c8 ∧ τ 10 = .int .i64 (bestOf (madeR bits) (ys.take 30) (madeR bits)) ∧ τ 14 = .int .i64 (bestOf (madeR bits) ((ys.take 30).set i (v + dd)) (madeR bits)) ∧ τ 15 = .int .i64 most ∧ τ 16 = .bool fst ∧ τ 17 = .int .i64 ((q : Nat) : Int) ∧ St p w (Own 3 1 (.slice (some ⟨g, 0, none⟩) (((ys.take 30).set i (v + dd)).length) c8) (((ys.take 30).set i (v + dd)).length) (((ys.take 30).set i (v + dd)).flatMap ienc) :: R)) ((madeR bits).length - 0) ⟨0, 0, true, rfl, (fun y hy => by rw [List.take_zero] at hy; cases hy), by omega, rfl, hs7, hs8, hs9, hs10, hs14, hs15, hs16, (int_eq (a := 0) hs17 (by omega)), hst⟩ ?_
          clear hst
          rintro k τ w ⟨q, most, fst, hfst, hmx, hq, hkq, hs7, hs8, hs9, hs10, hs14, hs15, hs16, hs17, hst⟩
          refine CW.seq ?_
          refine CW.seq ?_
          refine CW.region ?_
          refine RW.soft Wd.a (v := .int .i64 ((q : Nat) : Int)) (by exact E.move (AF_ev rfl hs17)) ?_
          refine RW.soft Wd.a (v := .slice X2 ((madeR bits).length) c3) (by exact E.move (AF_ev rfl (up rfl hs8))) ?_
          refine RW.soft Wd.a (v := .int .i64 (((madeR bits).length : Nat) : Int)) (by exact E.lenS (p := X2) (l := (madeR bits).length) (c := c3) Try.underlying58 (AF_ev rfl tp)) ?_
          refine RW.soft Wd.a (v := .bool (decide (((q : Nat) : Int) < (((madeR bits).length : Nat) : Int)))) (by exact E.lss (k := .i64) (a := ((q : Nat) : Int)) (b := (((madeR bits).length : Nat) : Int)) (AF_ev rfl (up rfl (up rfl tp))) (AF_ev rfl tp)) ?_
          refine RW.fin (fun τ => τ 7 = .bool true ∧ τ 8 = .slice X2 ((madeR bits).length) c3 ∧ τ 9 = .slice (some ⟨g, 0, none⟩) (((ys.take 30).set i (v + dd)).length) c8 ∧ τ 10 = .int .i64 (bestOf (madeR bits) (ys.take 30) (madeR bits)) ∧ τ 14 = .int .i64 (bestOf (madeR bits) ((ys.take 30).set i (v + dd)) (madeR bits)) ∧ τ 15 = .int .i64 most ∧ τ 16 = .bool fst ∧ τ 17 = .int .i64 ((q : Nat) : Int) ∧ τ 80 = .bool (decide (((q : Nat) : Int) < (((madeR bits).length : Nat) : Int)))) ⟨up rfl (up rfl (up rfl (up rfl hs7))), up rfl (up rfl (up rfl (up rfl hs8))), up rfl (up rfl (up rfl (up rfl hs9))), up rfl (up rfl (up rfl (up rfl hs10))), up rfl (up rfl (up rfl (up rfl hs14))), up rfl (up rfl (up rfl (up rfl hs15))), up rfl (up rfl (up rfl (up rfl hs16))), up rfl (up rfl (up rfl (up rfl hs17))), tp⟩ ?_
          rintro τ ⟨hs7, hs8, hs9, hs10, hs14, hs15, hs16, hs17, hs80⟩
          refine CW.cond (AF_ev rfl hs80) (fun hc20 => ?_) (fun hc20 => ?_)
          · have hc20_ := hc20
            try simp only [decide_eq_true_eq, decide_eq_false_iff_not, Bool.and_eq_true, Bool.or_eq_true, Bool.and_eq_false_iff, Bool.or_eq_false_iff, Bool.not_eq_true', Bool.not_eq_false', beq_iff_eq, beq_eq_false_iff_ne, bne_iff_ne, bne_eq_false_iff_eq, ne_eq, Int.not_lt, Int.not_le, gt_iff_lt, ge_iff_le] at hc20_
            refine CW.skip ?_
            refine Th.n ?_
            refine CW.seq ?_
            refine CW.block ?_
            refine CW.seq ?_
            refine CW.region ?_
            refine RW.soft Wd.a (v := .int .i64 0) (by exact E.assign rfl) ?_
            refine RW.fin (fun τ => τ 7 = .bool true ∧ τ 8 = .slice X2 ((madeR bits).length) c3 ∧ τ 9 = .slice (some ⟨g, 0, none⟩) (((ys.take 30).set i (v + dd)).length) c8 ∧ τ 10 = .int .i64 (bestOf (madeR bits) (ys.take 30) (madeR bits)) ∧ τ 14 = .int .i64 (bestOf (madeR bits) ((ys.take 30).set i (v + dd)) (madeR bits)) ∧ τ 15 = .int .i64 most ∧ τ 16 = .bool fst ∧ τ 17 = .int .i64 ((q : Nat) : Int) ∧ τ 18 = .int .i64 0 ∧ τ 80 = .bool true) ⟨up rfl hs7, up rfl hs8, up rfl hs9, up rfl hs10, up rfl hs14, up rfl hs15, up rfl hs16, up rfl hs17, tp, up rfl (Eq.trans hs80 (congrArg Value.bool hc20))⟩ ?_
            rintro τ ⟨hs7, hs8, hs9, hs10, hs14, hs15, hs16, hs17, hs18, hs80⟩
            refine CW.seq ?_
            refine CW.seq ?_
            obtain ⟨x, hx⟩ : ∃ z, (madeR bits)[q]? = some z := ⟨(madeR bits)[q]'(by omega), List.getElem?_eq_getElem (by omega)⟩
            obtain ⟨b9, o9, hp9, hcell9⟩ := Las.place hLX2 (by omega)
            subst hp9
            have hxm := made_mem (List.mem_of_getElem? hx)
            refine CW.region ?_
            refine RW.soft Wd.a (v := .slice (some ⟨b9, o9, none⟩) ((madeR bits).length) c3) (by exact E.move (AF_ev rfl hs8)) ?_
            refine RW.soft Wd.a (v := .int .i64 ((q : Nat) : Int)) (by exact E.move (AF_ev rfl (up rfl hs17))) ?_
            refine RW.soft Wd.a (v := .pointer (some ⟨b9, o9 + q * 1, none⟩)) (by exact E.indexAddr (b := b9) (o := o9) (l := (madeR bits).length) (c := c3) (i := ((q : Nat) : Int)) Try.underlying58 sz3 (AF_ev rfl (up rfl tp)) (AF_ev rfl tp) (by omega) (by omega) (by simp)) ?_
            refine RW.soft Wd.a (v := .int .i64 x) (by exact E.load (a := ⟨b9, o9 + q * 1, none⟩) Try.underlying3 rfl (AF_ev rfl tp) (by exact hcell9 hst _ _ (flat_get (j := 0) ienc_len hx (rfl)))) ?_
            refine RW.soft Wd.a (v := .slice (some ⟨g, 0, none⟩) (((ys.take 30).set i (v + dd)).length) c8) (by exact E.move (AF_ev rfl (up rfl (up rfl (up rfl (up rfl hs9)))))) ?_
            refine RW.soft Wd.a (v := .int .i64 ((((ys.take 30).set i (v + dd)).length : Nat) : Int)) (by exact E.lenS (p := (some ⟨g, 0, none⟩)) (l := ((ys.take 30).set i (v + dd)).length) (c := c8) Try.underlying58 (AF_ev rfl tp)) ?_
            refine RW.soft Wd.a (v := .bool (decide (x < ((((ys.take 30).set i (v + dd)).length : Nat) : Int)))) (by exact E.lss (k := .i64) (a := x) (b := ((((ys.take 30).set i (v + dd)).length : Nat) : Int)) (AF_ev rfl (up rfl (up rfl tp))) (AF_ev rfl tp)) ?_
            refine RW.fin (fun τ => τ 7 = .bool true ∧ τ 8 = .slice (some ⟨b9, o9, none⟩) ((madeR bits).length) c3 ∧ τ 9 = .slice (some ⟨g, 0, none⟩) (((ys.take 30).set i (v + dd)).length) c8 ∧ τ 10 = .int .i64 (bestOf (madeR bits) (ys.take 30) (madeR bits)) ∧ τ 14 = .int .i64 (bestOf (madeR bits) ((ys.take 30).set i (v + dd)) (madeR bits)) ∧ τ 15 = .int .i64 most ∧ τ 16 = .bool fst ∧ τ 17 = .int .i64 ((q : Nat) : Int) ∧ τ 18 = .int .i64 0 ∧ τ 80 = .bool true ∧ τ 89 = .bool (decide (x < ((((ys.take 30).set i (v + dd)).length : Nat) : Int)))) ⟨up rfl (up rfl (up rfl (up rfl (up rfl (up rfl (up rfl hs7)))))), up rfl (up rfl (up rfl (up rfl (up rfl (up rfl (up rfl hs8)))))), up rfl (up rfl (up rfl (up rfl (up rfl (up rfl (up rfl hs9)))))), up rfl (up rfl (up rfl (up rfl (up rfl (up rfl (up rfl hs10)))))), up rfl (up rfl (up rfl (up rfl (up rfl (up rfl (up rfl hs14)))))), up rfl (up rfl (up rfl (up rfl (up rfl (up rfl (up rfl hs15)))))), up rfl (up rfl (up rfl (up rfl (up rfl (up rfl (up rfl hs16)))))), up rfl (up rfl (up rfl (up rfl (up rfl (up rfl (up rfl hs17)))))), up rfl (up rfl (up rfl (up rfl (up rfl (up rfl (up rfl hs18)))))), up rfl (up rfl (up rfl (up rfl (up rfl (up rfl (up rfl hs80)))))), tp⟩ ?_
            rintro τ ⟨hs7, hs8, hs9, hs10, hs14, hs15, hs16, hs17, hs18, hs80, hs89⟩
            refine CW.cond (AF_ev rfl hs89) (fun hc21 => ?_) (fun hc21 => ?_)
            · have hc21_ := hc21
              try simp only [decide_eq_true_eq, decide_eq_false_iff_not, Bool.and_eq_true, Bool.or_eq_true, Bool.and_eq_false_iff, Bool.or_eq_false_iff, Bool.not_eq_true', Bool.not_eq_false', beq_iff_eq, beq_eq_false_iff_ne, bne_iff_ne, bne_eq_false_iff_eq, ne_eq, Int.not_lt, Int.not_le, gt_iff_lt, ge_iff_le] at hc21_
              obtain ⟨z, hz⟩ : ∃ z, ((ys.take 30).set i (v + dd))[x.toNat]? = some z := ⟨((ys.take 30).set i (v + dd))[x.toNat]'(by omega), List.getElem?_eq_getElem (by omega)⟩
              have hpl := place_in (by omega) hz
              refine CW.region ?_
              refine RW.soft Wd.a (v := .slice (some ⟨g, 0, none⟩) (((ys.take 30).set i (v + dd)).length) c8) (by exact E.move (AF_ev rfl hs9)) ?_
              refine RW.soft Wd.a (v := .slice (some ⟨b9, o9, none⟩) ((madeR bits).length) c3) (by exact E.move (AF_ev rfl (up rfl hs8))) ?_
              refine RW.soft Wd.a (v := .int .i64 ((q : Nat) : Int)) (by exact E.move (AF_ev rfl (up rfl (up rfl hs17)))) ?_
              refine RW.soft Wd.a (v := .pointer (some ⟨b9, o9 + q * 1, none⟩)) (by exact E.indexAddr (b := b9) (o := o9) (l := (madeR bits).length) (c := c3) (i := ((q : Nat) : Int)) Try.underlying58 sz3 (AF_ev rfl (up rfl tp)) (AF_ev rfl tp) (by omega) (by omega) (by simp)) ?_
              refine RW.soft Wd.a (v := .int .i64 x) (by exact E.load (a := ⟨b9, o9 + q * 1, none⟩) Try.underlying3 rfl (AF_ev rfl tp) (by exact hcell9 hst _ _ (flat_get (j := 0) ienc_len hx (rfl)))) ?_
              refine RW.soft Wd.a (v := .pointer (some ⟨g, (x).toNat * 1, none⟩)) (by exact E.indexAddr (b := g) (o := 0) (l := ((ys.take 30).set i (v + dd)).length) (c := c8) (i := x) Try.underlying58 sz3 (AF_ev rfl (up rfl (up rfl (up rfl (up rfl tp))))) (AF_ev rfl tp) (by omega) (by omega) (by simp)) ?_
              refine RW.soft Wd.a (v := .int .i64 z) (by exact E.load (a := ⟨g, (x).toNat * 1, none⟩) Try.underlying3 rfl (AF_ev rfl tp) (hst.ocell .here (flat_get (j := 0) ienc_len hz (rfl)))) ?_
              refine RW.soft Wd.a (v := .int .i64 z) (by exact E.assign (AF_ev rfl tp)) ?_
              refine RW.fin (fun τ => τ 7 = .bool true ∧ τ 8 = .slice (some ⟨b9, o9, none⟩) ((madeR bits).length) c3 ∧ τ 9 = .slice (some ⟨g, 0, none⟩) (((ys.take 30).set i (v + dd)).length) c8 ∧ τ 10 = .int .i64 (bestOf (madeR bits) (ys.take 30) (madeR bits)) ∧ τ 14 = .int .i64 (bestOf (madeR bits) ((ys.take 30).set i (v + dd)) (madeR bits)) ∧ τ 15 = .int .i64 most ∧ τ 16 = .bool fst ∧ τ 17 = .int .i64 ((q : Nat) : Int) ∧ τ 18 = .int .i64 z ∧ τ 80 = .bool true ∧ τ 89 = .bool true) ⟨up rfl (up rfl (up rfl (up rfl (up rfl (up rfl (up rfl (up rfl hs7))))))), up rfl (up rfl (up rfl (up rfl (up rfl (up rfl (up rfl (up rfl hs8))))))), up rfl (up rfl (up rfl (up rfl (up rfl (up rfl (up rfl (up rfl hs9))))))), up rfl (up rfl (up rfl (up rfl (up rfl (up rfl (up rfl (up rfl hs10))))))), up rfl (up rfl (up rfl (up rfl (up rfl (up rfl (up rfl (up rfl hs14))))))), up rfl (up rfl (up rfl (up rfl (up rfl (up rfl (up rfl (up rfl hs15))))))), up rfl (up rfl (up rfl (up rfl (up rfl (up rfl (up rfl (up rfl hs16))))))), up rfl (up rfl (up rfl (up rfl (up rfl (up rfl (up rfl (up rfl hs17))))))), tp, up rfl (up rfl (up rfl (up rfl (up rfl (up rfl (up rfl (up rfl hs80))))))), up rfl (up rfl (up rfl (up rfl (up rfl (up rfl (up rfl (up rfl (Eq.trans hs89 (congrArg Value.bool hc21)))))))))⟩ ?_
              rintro τ ⟨hs7, hs8, hs9, hs10, hs14, hs15, hs16, hs17, hs18, hs80, hs89⟩
              refine CW.seq ?_
              refine CW.seq ?_
              refine CW.cut (fun τ => τ 7 = .bool true ∧ τ 8 = .slice (some ⟨b9, o9, none⟩) ((madeR bits).length) c3 ∧ τ 9 = .slice (some ⟨g, 0, none⟩) (((ys.take 30).set i (v + dd)).length) c8 ∧ τ 10 = .int .i64 (bestOf (madeR bits) (ys.take 30) (madeR bits)) ∧ τ 14 = .int .i64 (bestOf (madeR bits) ((ys.take 30).set i (v + dd)) (madeR bits)) ∧ τ 15 = .int .i64 most ∧ τ 16 = .bool fst ∧ τ 17 = .int .i64 ((q : Nat) : Int) ∧ τ 18 = .int .i64 z ∧ τ 80 = .bool true ∧ τ 89 = .bool true ∧ τ 102 = .bool (fst || (decide (z > most)))) ?_ ?_
              · refine CW.region ?_
                refine RW.soft Wd.a (v := .bool fst) (by exact E.move (AF_ev rfl hs16)) ?_
                refine RW.soft Wd.a (v := .bool fst) (by exact E.move (AF_ev rfl tp)) ?_
                refine Or.elim (Bool.eq_false_or_eq_true fst) (fun hg22 => ?_) (fun hg22 => ?_)
                · have hg22_ := hg22
                  try simp only [decide_eq_true_eq, decide_eq_false_iff_not, Bool.and_eq_true, Bool.or_eq_true, Bool.and_eq_false_iff, Bool.or_eq_false_iff, Bool.not_eq_true', Bool.not_eq_false', beq_iff_eq, beq_eq_false_iff_ne, bne_iff_ne, bne_eq_false_iff_eq, ne_eq, Int.not_lt, Int.not_le, gt_iff_lt, ge_iff_le] at hg22_
                  refine RW.pass (by exact Wd.no (x := 98) (b := true) rfl (AF_ev rfl (Eq.trans tp (congrArg Value.bool hg22))) rfl) ?_
                  refine RW.pass (by exact Wd.no (x := 98) (b := true) rfl (AF_ev rfl (up rfl (Eq.trans tp (congrArg Value.bool hg22)))) rfl) ?_
                  refine RW.pass (by exact Wd.no (x := 98) (b := true) rfl (AF_ev rfl (up rfl (up rfl (Eq.trans tp (congrArg Value.bool hg22))))) rfl) ?_
                  refine RW.soft Wd.a (v := .bool true) (by exact E.pickT (AF_ev rfl (up rfl (up rfl (up rfl (Eq.trans tp (congrArg Value.bool hg22)))))) rfl) ?_
                  refine RW.nil ⟨rfl, rfl, up rfl (up rfl (up rfl (up rfl (up rfl (up rfl hs7))))), up rfl (up rfl (up rfl (up rfl (up rfl (up rfl hs8))))), up rfl (up rfl (up rfl (up rfl (up rfl (up rfl hs9))))), up rfl (up rfl (up rfl (up rfl (up rfl (up rfl hs10))))), up rfl (up rfl (up rfl (up rfl (up rfl (up rfl hs14))))), up rfl (up rfl (up rfl (up rfl (up rfl (up rfl hs15))))), (bool_eq (a := true) (up rfl (up rfl (up rfl (up rfl (up rfl (up rfl (Eq.trans hs16 (congrArg Value.bool hg22)))))))) (by simp only [hg22, Bool.true_and, Bool.false_and, Bool.true_or, Bool.false_or])), up rfl (up rfl (up rfl (up rfl (up rfl (up rfl hs17))))), up rfl (up rfl (up rfl (up rfl (up rfl (up rfl hs18))))), up rfl (up rfl (up rfl (up rfl (up rfl (up rfl hs80))))), up rfl (up rfl (up rfl (up rfl (up rfl (up rfl hs89))))), (bool_eq (a := true) tp (by simp only [hg22, Bool.true_and, Bool.false_and, Bool.true_or, Bool.false_or]))⟩
                · have hg22_ := hg22
                  try simp only [decide_eq_true_eq, decide_eq_false_iff_not, Bool.and_eq_true, Bool.or_eq_true, Bool.and_eq_false_iff, Bool.or_eq_false_iff, Bool.not_eq_true', Bool.not_eq_false', beq_iff_eq, beq_eq_false_iff_ne, bne_iff_ne, bne_eq_false_iff_eq, ne_eq, Int.not_lt, Int.not_le, gt_iff_lt, ge_iff_le] at hg22_
                  refine RW.soft (by exact Wd.yes (x := 98) rfl (AF_ev rfl (Eq.trans tp (congrArg Value.bool hg22)))) (v := .int .i64 z) (by exact E.move (AF_ev rfl (up rfl (up rfl hs18)))) ?_
                  refine RW.soft (by exact Wd.yes (x := 98) rfl (AF_ev rfl (up rfl (Eq.trans tp (congrArg Value.bool hg22))))) (v := .int .i64 most) (by exact E.move (AF_ev rfl (up rfl (up rfl (up rfl hs15))))) ?_
                  refine RW.soft (by exact Wd.yes (x := 98) rfl (AF_ev rfl (up rfl (up rfl (Eq.trans tp (congrArg Value.bool hg22)))))) (v := .bool (decide (z > most))) (by exact E.gtr (k := .i64) (a := z) (b := most) (AF_ev rfl (up rfl tp)) (AF_ev rfl tp)) ?_
                  refine RW.soft Wd.a (v := .bool (decide (z > most))) (by exact E.pickF (AF_ev rfl (up rfl (up rfl (up rfl (Eq.trans tp (congrArg Value.bool hg22)))))) (AF_ev rfl tp)) ?_
                  refine RW.nil ⟨rfl, rfl, up rfl (up rfl (up rfl (up rfl (up rfl (up rfl hs7))))), up rfl (up rfl (up rfl (up rfl (up rfl (up rfl hs8))))), up rfl (up rfl (up rfl (up rfl (up rfl (up rfl hs9))))), up rfl (up rfl (up rfl (up rfl (up rfl (up rfl hs10))))), up rfl (up rfl (up rfl (up rfl (up rfl (up rfl hs14))))), up rfl (up rfl (up rfl (up rfl (up rfl (up rfl hs15))))), (bool_eq (a := false) (up rfl (up rfl (up rfl (up rfl (up rfl (up rfl (Eq.trans hs16 (congrArg Value.bool hg22)))))))) (by simp only [hg22, Bool.true_and, Bool.false_and, Bool.true_or, Bool.false_or])), up rfl (up rfl (up rfl (up rfl (up rfl (up rfl hs17))))), up rfl (up rfl (up rfl (up rfl (up rfl (up rfl hs18))))), up rfl (up rfl (up rfl (up rfl (up rfl (up rfl hs80))))), up rfl (up rfl (up rfl (up rfl (up rfl (up rfl hs89))))), (bool_eq (a := decide (z > most)) tp (by simp only [hg22, Bool.true_and, Bool.false_and, Bool.true_or, Bool.false_or]))⟩
              rintro τ ⟨hs7, hs8, hs9, hs10, hs14, hs15, hs16, hs17, hs18, hs80, hs89, hs102⟩
              refine CW.cond (AF_ev rfl hs102) (fun hc23 => ?_) (fun hc23 => ?_)
              · have hc23_ := hc23
                try simp only [decide_eq_true_eq, decide_eq_false_iff_not, Bool.and_eq_true, Bool.or_eq_true, Bool.and_eq_false_iff, Bool.or_eq_false_iff, Bool.not_eq_true', Bool.not_eq_false', beq_iff_eq, beq_eq_false_iff_ne, bne_iff_ne, bne_eq_false_iff_eq, ne_eq, Int.not_lt, Int.not_le, gt_iff_lt, ge_iff_le] at hc23_
                refine CW.region ?_
                refine RW.soft Wd.a (v := .int .i64 z) (by exact E.move (AF_ev rfl hs18)) ?_
                refine RW.soft Wd.a (v := .int .i64 z) (by exact E.assign (AF_ev rfl tp)) ?_
                refine RW.fin (fun τ => τ 7 = .bool true ∧ τ 8 = .slice (some ⟨b9, o9, none⟩) ((madeR bits).length) c3 ∧ τ 9 = .slice (some ⟨g, 0, none⟩) (((ys.take 30).set i (v + dd)).length) c8 ∧ τ 10 = .int .i64 (bestOf (madeR bits) (ys.take 30) (madeR bits)) ∧ τ 14 = .int .i64 (bestOf (madeR bits) ((ys.take 30).set i (v + dd)) (madeR bits)) ∧ τ 15 = .int .i64 z ∧ τ 16 = .bool fst ∧ τ 17 = .int .i64 ((q : Nat) : Int) ∧ τ 18 = .int .i64 z ∧ τ 80 = .bool true ∧ τ 89 = .bool true ∧ τ 102 = .bool true) ⟨up rfl (up rfl hs7), up rfl (up rfl hs8), up rfl (up rfl hs9), up rfl (up rfl hs10), up rfl (up rfl hs14), tp, up rfl (up rfl hs16), up rfl (up rfl hs17), up rfl (up rfl hs18), up rfl (up rfl hs80), up rfl (up rfl hs89), up rfl (up rfl (Eq.trans hs102 (congrArg Value.bool hc23)))⟩ ?_
                rintro τ ⟨hs7, hs8, hs9, hs10, hs14, hs15, hs16, hs17, hs18, hs80, hs89, hs102⟩
                refine CW.region ?_
                refine RW.soft Wd.a (v := .bool false) (by exact E.assign rfl) ?_
                refine RW.nil ?_
                refine Bl.n ?_
                refine Th.n ?_
                refine CW.region ?_
                refine RW.soft Wd.a (v := .int .i64 ((q : Nat) : Int)) (by exact E.move (AF_ev rfl (up rfl hs17))) ?_
                refine RW.soft Wd.a (v := .int .i64 (((q : Nat) : Int) + 1)) (by exact E.add (k := .i64) (a := ((q : Nat) : Int)) (b := 1) (AF_ev rfl tp) rfl (show IntKind.i64.wrap (((q : Nat) : Int) + 1) = ((q : Nat) : Int) + 1 from (by rw [IntWalk.i64_in _ (by omega)]))) ?_
                refine RW.soft Wd.a (v := .int .i64 (((q : Nat) : Int) + 1)) (by exact E.assign (AF_ev rfl tp)) ?_
                refine RW.nil ?_
                refine Th.n ?_
                have hor : (fst || decide (z > most)) = true := by assumption
                have hmx2 : ∀ y ∈ (madeR bits).take (q + 1), placeOf ((ys.take 30).set i (v + dd)) y ≤ z := by
                  intro y hy
                  rw [List.take_add_one, hx] at hy
                  rcases List.mem_append.1 hy with h | h
                  · have h1 := hmx y h
                    have hq0 : q ≠ 0 := fun e => by subst e; rw [List.take_zero] at h; cases h
                    rw [hfst, decide_eq_false hq0, Bool.false_or] at hor
                    have := of_decide_eq_true hor
                    omega
                  · rw [Option.toList_some, List.mem_singleton] at h; subst h; rw [hpl]; exact Int.le_refl _
                exact ⟨(madeR bits).length - (q + 1), by omega, q + 1, z, false, rfl, hmx2, (by omega), rfl, up rfl (up rfl (up rfl (up rfl hs7))), up rfl (up rfl (up rfl (up rfl hs8))), up rfl (up rfl (up rfl (up rfl hs9))), up rfl (up rfl (up rfl (up rfl hs10))), up rfl (up rfl (up rfl (up rfl hs14))), up rfl (up rfl (up rfl (up rfl hs15))), up rfl (up rfl (up rfl tp)), (int_eq (a := ((q : Nat) : Int) + 1) tp (by omega)), hst⟩
              · have hc23_ := hc23
                try simp only [decide_eq_true_eq, decide_eq_false_iff_not, Bool.and_eq_true, Bool.or_eq_true, Bool.and_eq_false_iff, Bool.or_eq_false_iff, Bool.not_eq_true', Bool.not_eq_false', beq_iff_eq, beq_eq_false_iff_ne, bne_iff_ne, bne_eq_false_iff_eq, ne_eq, Int.not_lt, Int.not_le, gt_iff_lt, ge_iff_le] at hc23_
                refine CW.skip ?_
                refine Th.n ?_
                refine CW.region ?_
                refine RW.soft Wd.a (v := .bool false) (by exact E.assign rfl) ?_
                refine RW.nil ?_
                refine Bl.n ?_
                refine Th.n ?_
                refine CW.region ?_
                refine RW.soft Wd.a (v := .int .i64 ((q : Nat) : Int)) (by exact E.move (AF_ev rfl (up rfl hs17))) ?_
                refine RW.soft Wd.a (v := .int .i64 (((q : Nat) : Int) + 1)) (by exact E.add (k := .i64) (a := ((q : Nat) : Int)) (b := 1) (AF_ev rfl tp) rfl (show IntKind.i64.wrap (((q : Nat) : Int) + 1) = ((q : Nat) : Int) + 1 from (by rw [IntWalk.i64_in _ (by omega)]))) ?_
                refine RW.soft Wd.a (v := .int .i64 (((q : Nat) : Int) + 1)) (by exact E.assign (AF_ev rfl tp)) ?_
                refine RW.nil ?_
                refine Th.n ?_
                have hor : (fst || decide (z > most)) = false := by assumption
                have hmx2 : ∀ y ∈ (madeR bits).take (q + 1), placeOf ((ys.take 30).set i (v + dd)) y ≤ most := by
                  intro y hy
                  rw [List.take_add_one, hx] at hy
                  rcases List.mem_append.1 hy with h | h
                  · exact hmx y h
                  · rw [Option.toList_some, List.mem_singleton] at h; subst h; rw [hpl]
                    have := of_decide_eq_false (Bool.or_eq_false_iff.1 hor).2
                    omega
                exact ⟨(madeR bits).length - (q + 1), by omega, q + 1, most, false, rfl, hmx2, (by omega), rfl, up rfl (up rfl (up rfl (up rfl hs7))), up rfl (up rfl (up rfl (up rfl hs8))), up rfl (up rfl (up rfl (up rfl hs9))), up rfl (up rfl (up rfl (up rfl hs10))), up rfl (up rfl (up rfl (up rfl hs14))), up rfl (up rfl (up rfl (up rfl hs15))), up rfl (up rfl (up rfl tp)), (int_eq (a := ((q : Nat) : Int) + 1) tp (by omega)), hst⟩
            · have hc21_ := hc21
              try simp only [decide_eq_true_eq, decide_eq_false_iff_not, Bool.and_eq_true, Bool.or_eq_true, Bool.and_eq_false_iff, Bool.or_eq_false_iff, Bool.not_eq_true', Bool.not_eq_false', beq_iff_eq, beq_eq_false_iff_ne, bne_iff_ne, bne_eq_false_iff_eq, ne_eq, Int.not_lt, Int.not_le, gt_iff_lt, ge_iff_le] at hc21_
              refine CW.skip ?_
              refine Th.n ?_
              refine CW.seq ?_
              refine CW.seq ?_
              have hpl := place_out (zs := ((ys.take 30).set i (v + dd))) (i := x) (by omega)
              refine CW.cut (fun τ => τ 7 = .bool true ∧ τ 8 = .slice (some ⟨b9, o9, none⟩) ((madeR bits).length) c3 ∧ τ 9 = .slice (some ⟨g, 0, none⟩) (((ys.take 30).set i (v + dd)).length) c8 ∧ τ 10 = .int .i64 (bestOf (madeR bits) (ys.take 30) (madeR bits)) ∧ τ 14 = .int .i64 (bestOf (madeR bits) ((ys.take 30).set i (v + dd)) (madeR bits)) ∧ τ 15 = .int .i64 most ∧ τ 16 = .bool fst ∧ τ 17 = .int .i64 ((q : Nat) : Int) ∧ τ 18 = .int .i64 0 ∧ τ 80 = .bool true ∧ τ 89 = .bool false ∧ τ 102 = .bool (fst || (decide (0 > most)))) ?_ ?_
              · refine CW.region ?_
                refine RW.soft Wd.a (v := .bool fst) (by exact E.move (AF_ev rfl hs16)) ?_
                refine RW.soft Wd.a (v := .bool fst) (by exact E.move (AF_ev rfl tp)) ?_
                refine Or.elim (Bool.eq_false_or_eq_true fst) (fun hg24 => ?_) (fun hg24 => ?_)
                · have hg24_ := hg24
                  try simp only [decide_eq_true_eq, decide_eq_false_iff_not, Bool.and_eq_true, Bool.or_eq_true, Bool.and_eq_false_iff, Bool.or_eq_false_iff, Bool.not_eq_true', Bool.not_eq_false', beq_iff_eq, beq_eq_false_iff_ne, bne_iff_ne, bne_eq_false_iff_eq, ne_eq, Int.not_lt, Int.not_le, gt_iff_lt, ge_iff_le] at hg24_
                  refine RW.pass (by exact Wd.no (x := 98) (b := true) rfl (AF_ev rfl (Eq.trans tp (congrArg Value.bool hg24))) rfl) ?_
                  refine RW.pass (by exact Wd.no (x := 98) (b := true) rfl (AF_ev rfl (up rfl (Eq.trans tp (congrArg Value.bool hg24)))) rfl) ?_
                  refine RW.pass (by exact Wd.no (x := 98) (b := true) rfl (AF_ev rfl (up rfl (up rfl (Eq.trans tp (congrArg Value.bool hg24))))) rfl) ?_
                  refine RW.soft Wd.a (v := .bool true) (by exact E.pickT (AF_ev rfl (up rfl (up rfl (up rfl (Eq.trans tp (congrArg Value.bool hg24)))))) rfl) ?_
                  refine RW.nil ⟨rfl, rfl, up rfl (up rfl (up rfl (up rfl (up rfl (up rfl hs7))))), up rfl (up rfl (up rfl (up rfl (up rfl (up rfl hs8))))), up rfl (up rfl (up rfl (up rfl (up rfl (up rfl hs9))))), up rfl (up rfl (up rfl (up rfl (up rfl (up rfl hs10))))), up rfl (up rfl (up rfl (up rfl (up rfl (up rfl hs14))))), up rfl (up rfl (up rfl (up rfl (up rfl (up rfl hs15))))), (bool_eq (a := true) (up rfl (up rfl (up rfl (up rfl (up rfl (up rfl (Eq.trans hs16 (congrArg Value.bool hg24)))))))) (by simp only [hg24, Bool.true_and, Bool.false_and, Bool.true_or, Bool.false_or])), up rfl (up rfl (up rfl (up rfl (up rfl (up rfl hs17))))), up rfl (up rfl (up rfl (up rfl (up rfl (up rfl hs18))))), up rfl (up rfl (up rfl (up rfl (up rfl (up rfl hs80))))), up rfl (up rfl (up rfl (up rfl (up rfl (up rfl (Eq.trans hs89 (congrArg Value.bool hc21))))))), (bool_eq (a := true) tp (by simp only [hg24, Bool.true_and, Bool.false_and, Bool.true_or, Bool.false_or]))⟩
                · have hg24_ := hg24
                  try simp only [decide_eq_true_eq, decide_eq_false_iff_not, Bool.and_eq_true, Bool.or_eq_true, Bool.and_eq_false_iff, Bool.or_eq_false_iff, Bool.not_eq_true', Bool.not_eq_false', beq_iff_eq, beq_eq_false_iff_ne, bne_iff_ne, bne_eq_false_iff_eq, ne_eq, Int.not_lt, Int.not_le, gt_iff_lt, ge_iff_le] at hg24_
                  refine RW.soft (by exact Wd.yes (x := 98) rfl (AF_ev rfl (Eq.trans tp (congrArg Value.bool hg24)))) (v := .int .i64 0) (by exact E.move (AF_ev rfl (up rfl (up rfl hs18)))) ?_
                  refine RW.soft (by exact Wd.yes (x := 98) rfl (AF_ev rfl (up rfl (Eq.trans tp (congrArg Value.bool hg24))))) (v := .int .i64 most) (by exact E.move (AF_ev rfl (up rfl (up rfl (up rfl hs15))))) ?_
                  refine RW.soft (by exact Wd.yes (x := 98) rfl (AF_ev rfl (up rfl (up rfl (Eq.trans tp (congrArg Value.bool hg24)))))) (v := .bool (decide (0 > most))) (by exact E.gtr (k := .i64) (a := 0) (b := most) (AF_ev rfl (up rfl tp)) (AF_ev rfl tp)) ?_
                  refine RW.soft Wd.a (v := .bool (decide (0 > most))) (by exact E.pickF (AF_ev rfl (up rfl (up rfl (up rfl (Eq.trans tp (congrArg Value.bool hg24)))))) (AF_ev rfl tp)) ?_
                  refine RW.nil ⟨rfl, rfl, up rfl (up rfl (up rfl (up rfl (up rfl (up rfl hs7))))), up rfl (up rfl (up rfl (up rfl (up rfl (up rfl hs8))))), up rfl (up rfl (up rfl (up rfl (up rfl (up rfl hs9))))), up rfl (up rfl (up rfl (up rfl (up rfl (up rfl hs10))))), up rfl (up rfl (up rfl (up rfl (up rfl (up rfl hs14))))), up rfl (up rfl (up rfl (up rfl (up rfl (up rfl hs15))))), (bool_eq (a := false) (up rfl (up rfl (up rfl (up rfl (up rfl (up rfl (Eq.trans hs16 (congrArg Value.bool hg24)))))))) (by simp only [hg24, Bool.true_and, Bool.false_and, Bool.true_or, Bool.false_or])), up rfl (up rfl (up rfl (up rfl (up rfl (up rfl hs17))))), up rfl (up rfl (up rfl (up rfl (up rfl (up rfl hs18))))), up rfl (up rfl (up rfl (up rfl (up rfl (up rfl hs80))))), up rfl (up rfl (up rfl (up rfl (up rfl (up rfl (Eq.trans hs89 (congrArg Value.bool hc21))))))), (bool_eq (a := decide (0 > most)) tp (by simp only [hg24, Bool.true_and, Bool.false_and, Bool.true_or, Bool.false_or]))⟩
              rintro τ ⟨hs7, hs8, hs9, hs10, hs14, hs15, hs16, hs17, hs18, hs80, hs89, hs102⟩
              refine CW.cond (AF_ev rfl hs102) (fun hc25 => ?_) (fun hc25 => ?_)
              · have hc25_ := hc25
                try simp only [decide_eq_true_eq, decide_eq_false_iff_not, Bool.and_eq_true, Bool.or_eq_true, Bool.and_eq_false_iff, Bool.or_eq_false_iff, Bool.not_eq_true', Bool.not_eq_false', beq_iff_eq, beq_eq_false_iff_ne, bne_iff_ne, bne_eq_false_iff_eq, ne_eq, Int.not_lt, Int.not_le, gt_iff_lt, ge_iff_le] at hc25_
                refine CW.region ?_
                refine RW.soft Wd.a (v := .int .i64 0) (by exact E.move (AF_ev rfl hs18)) ?_
                refine RW.soft Wd.a (v := .int .i64 0) (by exact E.assign (AF_ev rfl tp)) ?_
                refine RW.fin (fun τ => τ 7 = .bool true ∧ τ 8 = .slice (some ⟨b9, o9, none⟩) ((madeR bits).length) c3 ∧ τ 9 = .slice (some ⟨g, 0, none⟩) (((ys.take 30).set i (v + dd)).length) c8 ∧ τ 10 = .int .i64 (bestOf (madeR bits) (ys.take 30) (madeR bits)) ∧ τ 14 = .int .i64 (bestOf (madeR bits) ((ys.take 30).set i (v + dd)) (madeR bits)) ∧ τ 15 = .int .i64 0 ∧ τ 16 = .bool fst ∧ τ 17 = .int .i64 ((q : Nat) : Int) ∧ τ 18 = .int .i64 0 ∧ τ 80 = .bool true ∧ τ 89 = .bool false ∧ τ 102 = .bool true) ⟨up rfl (up rfl hs7), up rfl (up rfl hs8), up rfl (up rfl hs9), up rfl (up rfl hs10), up rfl (up rfl hs14), tp, up rfl (up rfl hs16), up rfl (up rfl hs17), up rfl (up rfl hs18), up rfl (up rfl hs80), up rfl (up rfl hs89), up rfl (up rfl (Eq.trans hs102 (congrArg Value.bool hc25)))⟩ ?_
                rintro τ ⟨hs7, hs8, hs9, hs10, hs14, hs15, hs16, hs17, hs18, hs80, hs89, hs102⟩
                refine CW.region ?_
                refine RW.soft Wd.a (v := .bool false) (by exact E.assign rfl) ?_
                refine RW.nil ?_
                refine Bl.n ?_
                refine Th.n ?_
                refine CW.region ?_
                refine RW.soft Wd.a (v := .int .i64 ((q : Nat) : Int)) (by exact E.move (AF_ev rfl (up rfl hs17))) ?_
                refine RW.soft Wd.a (v := .int .i64 (((q : Nat) : Int) + 1)) (by exact E.add (k := .i64) (a := ((q : Nat) : Int)) (b := 1) (AF_ev rfl tp) rfl (show IntKind.i64.wrap (((q : Nat) : Int) + 1) = ((q : Nat) : Int) + 1 from (by rw [IntWalk.i64_in _ (by omega)]))) ?_
                refine RW.soft Wd.a (v := .int .i64 (((q : Nat) : Int) + 1)) (by exact E.assign (AF_ev rfl tp)) ?_
                refine RW.nil ?_
                refine Th.n ?_
                have hor : (fst || decide (0 > most)) = true := by assumption
                have hmx2 : ∀ y ∈ (madeR bits).take (q + 1), placeOf ((ys.take 30).set i (v + dd)) y ≤ 0 := by
                  intro y hy
                  rw [List.take_add_one, hx] at hy
                  rcases List.mem_append.1 hy with h | h
                  · have h1 := hmx y h
                    have hq0 : q ≠ 0 := fun e => by subst e; rw [List.take_zero] at h; cases h
                    rw [hfst, decide_eq_false hq0, Bool.false_or] at hor
                    have := of_decide_eq_true hor
                    omega
                  · rw [Option.toList_some, List.mem_singleton] at h; subst h; rw [hpl]; exact Int.le_refl _
                exact ⟨(madeR bits).length - (q + 1), by omega, q + 1, 0, false, rfl, hmx2, (by omega), rfl, up rfl (up rfl (up rfl (up rfl hs7))), up rfl (up rfl (up rfl (up rfl hs8))), up rfl (up rfl (up rfl (up rfl hs9))), up rfl (up rfl (up rfl (up rfl hs10))), up rfl (up rfl (up rfl (up rfl hs14))), up rfl (up rfl (up rfl (up rfl hs15))), up rfl (up rfl (up rfl tp)), (int_eq (a := ((q : Nat) : Int) + 1) tp (by omega)), hst⟩
              · have hc25_ := hc25
                try simp only [decide_eq_true_eq, decide_eq_false_iff_not, Bool.and_eq_true, Bool.or_eq_true, Bool.and_eq_false_iff, Bool.or_eq_false_iff, Bool.not_eq_true', Bool.not_eq_false', beq_iff_eq, beq_eq_false_iff_ne, bne_iff_ne, bne_eq_false_iff_eq, ne_eq, Int.not_lt, Int.not_le, gt_iff_lt, ge_iff_le] at hc25_
                refine CW.skip ?_
                refine Th.n ?_
                refine CW.region ?_
                refine RW.soft Wd.a (v := .bool false) (by exact E.assign rfl) ?_
                refine RW.nil ?_
                refine Bl.n ?_
                refine Th.n ?_
                refine CW.region ?_
                refine RW.soft Wd.a (v := .int .i64 ((q : Nat) : Int)) (by exact E.move (AF_ev rfl (up rfl hs17))) ?_
                refine RW.soft Wd.a (v := .int .i64 (((q : Nat) : Int) + 1)) (by exact E.add (k := .i64) (a := ((q : Nat) : Int)) (b := 1) (AF_ev rfl tp) rfl (show IntKind.i64.wrap (((q : Nat) : Int) + 1) = ((q : Nat) : Int) + 1 from (by rw [IntWalk.i64_in _ (by omega)]))) ?_
                refine RW.soft Wd.a (v := .int .i64 (((q : Nat) : Int) + 1)) (by exact E.assign (AF_ev rfl tp)) ?_
                refine RW.nil ?_
                refine Th.n ?_
                have hor : (fst || decide (0 > most)) = false := by assumption
                have hmx2 : ∀ y ∈ (madeR bits).take (q + 1), placeOf ((ys.take 30).set i (v + dd)) y ≤ most := by
                  intro y hy
                  rw [List.take_add_one, hx] at hy
                  rcases List.mem_append.1 hy with h | h
                  · exact hmx y h
                  · rw [Option.toList_some, List.mem_singleton] at h; subst h; rw [hpl]
                    have := of_decide_eq_false (Bool.or_eq_false_iff.1 hor).2
                    omega
                exact ⟨(madeR bits).length - (q + 1), by omega, q + 1, most, false, rfl, hmx2, (by omega), rfl, up rfl (up rfl (up rfl (up rfl hs7))), up rfl (up rfl (up rfl (up rfl hs8))), up rfl (up rfl (up rfl (up rfl hs9))), up rfl (up rfl (up rfl (up rfl hs10))), up rfl (up rfl (up rfl (up rfl hs14))), up rfl (up rfl (up rfl (up rfl hs15))), up rfl (up rfl (up rfl tp)), (int_eq (a := ((q : Nat) : Int) + 1) tp (by omega)), hst⟩
          · have hc20_ := hc20
            try simp only [decide_eq_true_eq, decide_eq_false_iff_not, Bool.and_eq_true, Bool.or_eq_true, Bool.and_eq_false_iff, Bool.or_eq_false_iff, Bool.not_eq_true', Bool.not_eq_false', beq_iff_eq, beq_eq_false_iff_ne, bne_iff_ne, bne_eq_false_iff_eq, ne_eq, Int.not_lt, Int.not_le, gt_iff_lt, ge_iff_le] at hc20_
            refine CW.exit ?_
            refine Th.x ?_
            refine Th.x ?_
            refine Bl.x ?_
            refine Th.n ?_
            refine CW.seq ?_
            rw [List.take_of_length_le (by omega)] at hmx
            have h0m : -9223372036854775808 ≤ most := Int.le_trans (Fit.place hFT2 ((madeR bits)[0]'hmp)).1 (hmx _ (List.getElem_mem hmp))
            refine CW.region ?_
            refine RW.soft Wd.a (v := .bool true) (by exact E.move (AF_ev rfl hs7)) ?_
            refine RW.soft Wd.a (v := .bool true) (by exact E.move (AF_ev rfl tp)) ?_
            refine RW.soft (by exact Wd.yes (x := 105) rfl (AF_ev rfl tp)) (v := .int .i64 (bestOf (madeR bits) ((ys.take 30).set i (v + dd)) (madeR bits))) (by exact E.move (AF_ev rfl (up rfl (up rfl hs14)))) ?_
            refine RW.soft (by exact Wd.yes (x := 105) rfl (AF_ev rfl (up rfl tp))) (v := .int .i64 (bestOf (madeR bits) (ys.take 30) (madeR bits))) (by exact E.move (AF_ev rfl (up rfl (up rfl (up rfl hs10))))) ?_
            refine RW.soft (by exact Wd.yes (x := 105) rfl (AF_ev rfl (up rfl (up rfl tp)))) (v := .bool true) (by exact E.b (a := decide ((bestOf (madeR bits) ((ys.take 30).set i (v + dd)) (madeR bits)) ≥ (bestOf (madeR bits) (ys.take 30) (madeR bits)))) (E.geq (k := .i64) (a := bestOf (madeR bits) ((ys.take 30).set i (v + dd)) (madeR bits)) (b := bestOf (madeR bits) (ys.take 30) (madeR bits)) (AF_ev rfl (up rfl tp)) (AF_ev rfl tp)) (decide_eq_true (best_rises fun x _ => place_set hv hd0.1 x))) ?_
            refine RW.soft Wd.a (v := .bool true) (by exact E.pickT (AF_ev rfl (up rfl (up rfl (up rfl tp)))) (AF_ev rfl tp)) ?_
            refine RW.soft Wd.a (v := .bool true) (by exact E.move (AF_ev rfl tp)) ?_
            refine RW.soft (by exact Wd.yes (x := 110) rfl (AF_ev rfl tp)) (v := .int .i64 (bestOf (madeR bits) ((ys.take 30).set i (v + dd)) (madeR bits))) (by exact E.move (AF_ev rfl (up rfl (up rfl (up rfl (up rfl (up rfl (up rfl (up rfl hs14))))))))) ?_
            refine RW.soft (by exact Wd.yes (x := 110) rfl (AF_ev rfl (up rfl tp))) (v := .int .i64 most) (by exact E.move (AF_ev rfl (up rfl (up rfl (up rfl (up rfl (up rfl (up rfl (up rfl (up rfl hs15)))))))))) ?_
            refine RW.soft (by exact Wd.yes (x := 110) rfl (AF_ev rfl (up rfl (up rfl tp)))) (v := .bool true) (by exact E.b (a := decide ((bestOf (madeR bits) ((ys.take 30).set i (v + dd)) (madeR bits)) ≤ most)) (E.leq (k := .i64) (a := bestOf (madeR bits) ((ys.take 30).set i (v + dd)) (madeR bits)) (b := most) (AF_ev rfl (up rfl tp)) (AF_ev rfl tp)) (decide_eq_true (best_top h0m hmx))) ?_
            refine RW.soft Wd.a (v := .bool true) (by exact E.pickT (AF_ev rfl (up rfl (up rfl (up rfl tp)))) (AF_ev rfl tp)) ?_
            refine RW.soft Wd.a (v := .bool true) (by exact E.assign (AF_ev rfl tp)) ?_
            refine RW.fin (fun τ => τ 6 = .bool true ∧ τ 7 = .bool true ∧ τ 8 = .slice X2 ((madeR bits).length) c3 ∧ τ 9 = .slice (some ⟨g, 0, none⟩) (((ys.take 30).set i (v + dd)).length) c8 ∧ τ 10 = .int .i64 (bestOf (madeR bits) (ys.take 30) (madeR bits)) ∧ τ 14 = .int .i64 (bestOf (madeR bits) ((ys.take 30).set i (v + dd)) (madeR bits)) ∧ τ 15 = .int .i64 most ∧ τ 16 = .bool fst ∧ τ 17 = .int .i64 ((q : Nat) : Int) ∧ τ 80 = .bool false) ⟨tp, up rfl (up rfl (up rfl (up rfl (up rfl (up rfl (up rfl (up rfl (up rfl (up rfl (up rfl (up rfl hs7))))))))))), up rfl (up rfl (up rfl (up rfl (up rfl (up rfl (up rfl (up rfl (up rfl (up rfl (up rfl (up rfl hs8))))))))))), up rfl (up rfl (up rfl (up rfl (up rfl (up rfl (up rfl (up rfl (up rfl (up rfl (up rfl (up rfl hs9))))))))))), up rfl (up rfl (up rfl (up rfl (up rfl (up rfl (up rfl (up rfl (up rfl (up rfl (up rfl (up rfl hs10))))))))))), up rfl (up rfl (up rfl (up rfl (up rfl (up rfl (up rfl (up rfl (up rfl (up rfl (up rfl (up rfl hs14))))))))))), up rfl (up rfl (up rfl (up rfl (up rfl (up rfl (up rfl (up rfl (up rfl (up rfl (up rfl (up rfl hs15))))))))))), up rfl (up rfl (up rfl (up rfl (up rfl (up rfl (up rfl (up rfl (up rfl (up rfl (up rfl (up rfl hs16))))))))))), up rfl (up rfl (up rfl (up rfl (up rfl (up rfl (up rfl (up rfl (up rfl (up rfl (up rfl (up rfl hs17))))))))))), up rfl (up rfl (up rfl (up rfl (up rfl (up rfl (up rfl (up rfl (up rfl (up rfl (up rfl (up rfl (Eq.trans hs80 (congrArg Value.bool hc20)))))))))))))⟩ ?_
            rintro τ ⟨hs6, hs7, hs8, hs9, hs10, hs14, hs15, hs16, hs17, hs80⟩
            refine CW.ret ?_
            refine ret1 (v := .bool true) rfl (by exact (.tmp (AF_ev rfl hs6) .nil)) ?_
            have hst := (hst.take .here).drop
            exact ⟨p, hleX2, rfl, hst⟩
      · have hc12_ := hc12
        try simp only [decide_eq_true_eq, decide_eq_false_iff_not, Bool.and_eq_true, Bool.or_eq_true, Bool.and_eq_false_iff, Bool.or_eq_false_iff, Bool.not_eq_true', Bool.not_eq_false', beq_iff_eq, beq_eq_false_iff_ne, bne_iff_ne, bne_eq_false_iff_eq, ne_eq, Int.not_lt, Int.not_le, gt_iff_lt, ge_iff_le] at hc12_
        refine CW.skip ?_
        refine Th.n ?_
        refine CW.seq ?_
        refine CW.region ?_
        refine RW.soft Wd.a (v := .pointer (some ⟨b1, 1, none⟩)) (by exact E.indexAddrA (b := b1) (o := 0) (i := 1) Try.underlying68 sz3 (AF_ev rfl hs5) rfl (by omega) (by omega) (by simp)) ?_
        refine RW.soft Wd.a (v := .int .i64 x1) (by exact E.load (a := ⟨b1, 1, none⟩) Try.underlying3 rfl (AF_ev rfl tp) (hst.cell (.there .here) rfl)) ?_
        refine RW.soft Wd.a (v := .int .i64 (Int.tmod x1 1001)) (by exact E.rem (k := .i64) (a := x1) (b := 1001) (AF_ev rfl tp) rfl (by omega) rfl) ?_
        refine RW.soft Wd.a (v := .int .i64 (Int.tmod x1 1001)) (by exact E.assign (AF_ev rfl tp)) ?_
        refine RW.fin (fun τ => τ 5 = .pointer (some ⟨b1, 0, none⟩) ∧ τ 7 = .bool true ∧ τ 8 = .slice X2 ((madeR bits).length) c3 ∧ τ 9 = .slice X7 ((ys.take 30).length) c8 ∧ τ 10 = .int .i64 (bestOf (madeR bits) (ys.take 30) (madeR bits)) ∧ τ 11 = .int .i64 ((j : Nat) : Int) ∧ τ 12 = .int .i64 i0 ∧ τ 13 = .int .i64 (Int.tmod x1 1001) ∧ τ 32 = .bool false ∧ τ 43 = .bool false ∧ τ 55 = .bool false) ⟨up rfl (up rfl (up rfl (up rfl hs5))), up rfl (up rfl (up rfl (up rfl hs7))), up rfl (up rfl (up rfl (up rfl hs8))), up rfl (up rfl (up rfl (up rfl hs9))), up rfl (up rfl (up rfl (up rfl hs10))), up rfl (up rfl (up rfl (up rfl hs11))), up rfl (up rfl (up rfl (up rfl hs12))), tp, up rfl (up rfl (up rfl (up rfl hs32))), up rfl (up rfl (up rfl (up rfl hs43))), up rfl (up rfl (up rfl (up rfl (Eq.trans hs55 (congrArg Value.bool hc12)))))⟩ ?_
        rintro τ ⟨hs5, hs7, hs8, hs9, hs10, hs11, hs12, hs13, hs32, hs43, hs55⟩
        refine CW.seq ?_
        refine CW.seq ?_
        have htn := tmod_near x1 (n := 1001) (by omega)
        obtain ⟨d0, hd0⟩ : ∃ z, z = Int.tmod x1 1001 := ⟨_, rfl⟩
        rw [← hd0] at hs13 htn
        refine CW.region ?_
        refine RW.soft Wd.a (v := .int .i64 d0) (by exact E.move (AF_ev rfl hs13)) ?_
        refine RW.soft Wd.a (v := .bool (decide (d0 < 0))) (by exact E.lss (k := .i64) (a := d0) (b := 0) (AF_ev rfl tp) rfl) ?_
        refine RW.fin (fun τ => τ 5 = .pointer (some ⟨b1, 0, none⟩) ∧ τ 7 = .bool true ∧ τ 8 = .slice X2 ((madeR bits).length) c3 ∧ τ 9 = .slice X7 ((ys.take 30).length) c8 ∧ τ 10 = .int .i64 (bestOf (madeR bits) (ys.take 30) (madeR bits)) ∧ τ 11 = .int .i64 ((j : Nat) : Int) ∧ τ 12 = .int .i64 i0 ∧ τ 13 = .int .i64 d0 ∧ τ 32 = .bool false ∧ τ 43 = .bool false ∧ τ 55 = .bool false ∧ τ 62 = .bool (decide (d0 < 0))) ⟨up rfl (up rfl hs5), up rfl (up rfl hs7), up rfl (up rfl hs8), up rfl (up rfl hs9), up rfl (up rfl hs10), up rfl (up rfl hs11), up rfl (up rfl hs12), up rfl (up rfl hs13), up rfl (up rfl hs32), up rfl (up rfl hs43), up rfl (up rfl hs55), tp⟩ ?_
        rintro τ ⟨hs5, hs7, hs8, hs9, hs10, hs11, hs12, hs13, hs32, hs43, hs55, hs62⟩
        refine CW.cond (AF_ev rfl hs62) (fun hc26 => ?_) (fun hc26 => ?_)
        · have hc26_ := hc26
          try simp only [decide_eq_true_eq, decide_eq_false_iff_not, Bool.and_eq_true, Bool.or_eq_true, Bool.and_eq_false_iff, Bool.or_eq_false_iff, Bool.not_eq_true', Bool.not_eq_false', beq_iff_eq, beq_eq_false_iff_ne, bne_iff_ne, bne_eq_false_iff_eq, ne_eq, Int.not_lt, Int.not_le, gt_iff_lt, ge_iff_le] at hc26_
          refine CW.region ?_
          refine RW.soft Wd.a (v := .int .i64 d0) (by exact E.move (AF_ev rfl hs13)) ?_
          refine RW.soft Wd.a (v := .int .i64 (-d0)) (by exact E.neg (k := .i64) (a := d0) (AF_ev rfl tp) (by rw [Int.zero_sub]; exact (show IntKind.i64.wrap (-d0) = -d0 from (by rw [IntWalk.i64_in _ (by omega)])))) ?_
          refine RW.soft Wd.a (v := .int .i64 (-d0)) (by exact E.assign (AF_ev rfl tp)) ?_
          refine RW.fin (fun τ => τ 5 = .pointer (some ⟨b1, 0, none⟩) ∧ τ 7 = .bool true ∧ τ 8 = .slice X2 ((madeR bits).length) c3 ∧ τ 9 = .slice X7 ((ys.take 30).length) c8 ∧ τ 10 = .int .i64 (bestOf (madeR bits) (ys.take 30) (madeR bits)) ∧ τ 11 = .int .i64 ((j : Nat) : Int) ∧ τ 12 = .int .i64 i0 ∧ τ 13 = .int .i64 (-d0) ∧ τ 32 = .bool false ∧ τ 43 = .bool false ∧ τ 55 = .bool false ∧ τ 62 = .bool true) ⟨up rfl (up rfl (up rfl hs5)), up rfl (up rfl (up rfl hs7)), up rfl (up rfl (up rfl hs8)), up rfl (up rfl (up rfl hs9)), up rfl (up rfl (up rfl hs10)), up rfl (up rfl (up rfl hs11)), up rfl (up rfl (up rfl hs12)), tp, up rfl (up rfl (up rfl hs32)), up rfl (up rfl (up rfl hs43)), up rfl (up rfl (up rfl hs55)), up rfl (up rfl (up rfl (Eq.trans hs62 (congrArg Value.bool hc26))))⟩ ?_
          rintro τ ⟨hs5, hs7, hs8, hs9, hs10, hs11, hs12, hs13, hs32, hs43, hs55, hs62⟩
          refine CW.seq ?_
          obtain ⟨i, hi⟩ : ∃ z : Nat, ((z : Nat) : Int) = i0 := ⟨(i0).toNat, by omega⟩
          rw [← hi] at hs12
          obtain ⟨dd, hd⟩ : ∃ z : Int, z = -d0 := ⟨_, rfl⟩
          rw [← hd] at hs13
          have hd0 : 0 ≤ dd ∧ dd ≤ 1001 := by omega
          obtain ⟨v, hv⟩ : ∃ z, (ys.take 30)[i]? = some z := ⟨(ys.take 30)[i]'(by omega), List.getElem?_eq_getElem (by omega)⟩
          have hvb := hbg v (List.mem_of_getElem? hv)
          have hvf : I64 v := hFT v (List.mem_of_getElem? hv)
          unfold I64 at hvf
          obtain ⟨Xo, co, heo, hco, hmo, hlo, hbo⟩ := hst.shape
          cases heo
          obtain ⟨g, hgo⟩ := hbo (by omega)
          subst hgo
          refine CW.region ?_
          refine RW.soft Wd.a (v := .slice (some ⟨g, 0, none⟩) ((ys.take 30).length) c8) (by exact E.move (AF_ev rfl hs9)) ?_
          refine RW.soft Wd.a (v := .int .i64 ((i : Nat) : Int)) (by exact E.move (AF_ev rfl (up rfl hs12))) ?_
          refine RW.soft Wd.a (v := .slice (some ⟨g, 0, none⟩) ((ys.take 30).length) c8) (by exact E.move (AF_ev rfl (up rfl (up rfl hs9)))) ?_
          refine RW.soft Wd.a (v := .int .i64 ((i : Nat) : Int)) (by exact E.move (AF_ev rfl (up rfl (up rfl (up rfl hs12))))) ?_
          refine RW.soft Wd.a (v := .pointer (some ⟨g, i * 1, none⟩)) (by exact E.indexAddr (b := g) (o := 0) (l := (ys.take 30).length) (c := c8) (i := ((i : Nat) : Int)) Try.underlying58 sz3 (AF_ev rfl (up rfl tp)) (AF_ev rfl tp) (by omega) (by omega) (by simp)) ?_
          refine RW.soft Wd.a (v := .int .i64 v) (by exact E.load (a := ⟨g, i * 1, none⟩) Try.underlying3 rfl (AF_ev rfl tp) (hst.ocell .here (flat_get (j := 0) ienc_len hv (rfl)))) ?_
          refine RW.soft Wd.a (v := .int .i64 dd) (by exact E.move (AF_ev rfl (up rfl (up rfl (up rfl (up rfl (up rfl (up rfl hs13)))))))) ?_
          refine RW.soft Wd.a (v := .int .i64 (v + dd)) (by exact E.add (k := .i64) (a := v) (b := dd) (AF_ev rfl (up rfl tp)) (AF_ev rfl tp) (show IntKind.i64.wrap (v + dd) = v + dd from (by rw [IntWalk.i64_in _ (by omega)]))) ?_
          refine RW.soft Wd.a (v := .pointer (some ⟨g, i * 1, none⟩)) (by exact E.indexAddr (b := g) (o := 0) (l := (ys.take 30).length) (c := c8) (i := ((i : Nat) : Int)) Try.underlying58 sz3 (AF_ev rfl (up rfl (up rfl (up rfl (up rfl (up rfl (up rfl (up rfl tp)))))))) (AF_ev rfl (up rfl (up rfl (up rfl (up rfl (up rfl (up rfl tp))))))) (by omega) (by omega) (by simp)) ?_
          refine RW.hard Wd.a ?_
          refine H.storeInn (f := ienc) (i := i) (d := 0) (m := 1) (v := .int .i64 (v + dd)) (news := [.int .i64 (v + dd)]) (a' := v + dd) ienc_len (AF_ev rfl tp) (AF_ev rfl (up rfl tp)) hst .here hv (by omega) rfl rfl rfl sz3 (by omega) (rfl) (by simp [Value.oneCell']) fun w hst => ?_
          refine RW.fin (fun τ => τ 5 = .pointer (some ⟨b1, 0, none⟩) ∧ τ 7 = .bool true ∧ τ 8 = .slice X2 ((madeR bits).length) c3 ∧ τ 9 = .slice (some ⟨g, 0, none⟩) ((ys.take 30).length) c8 ∧ τ 10 = .int .i64 (bestOf (madeR bits) (ys.take 30) (madeR bits)) ∧ τ 11 = .int .i64 ((j : Nat) : Int) ∧ τ 12 = .int .i64 ((i : Nat) : Int) ∧ τ 13 = .int .i64 dd ∧ τ 32 = .bool false ∧ τ 43 = .bool false ∧ τ 55 = .bool false ∧ τ 62 = .bool true) ⟨u0 (up rfl (up rfl (up rfl (up rfl (up rfl (up rfl (up rfl (up rfl (up rfl hs5))))))))), u0 (up rfl (up rfl (up rfl (up rfl (up rfl (up rfl (up rfl (up rfl (up rfl hs7))))))))), u0 (up rfl (up rfl (up rfl (up rfl (up rfl (up rfl (up rfl (up rfl (up rfl hs8))))))))), u0 (up rfl (up rfl (up rfl (up rfl (up rfl (up rfl (up rfl (up rfl (up rfl hs9))))))))), u0 (up rfl (up rfl (up rfl (up rfl (up rfl (up rfl (up rfl (up rfl (up rfl hs10))))))))), u0 (up rfl (up rfl (up rfl (up rfl (up rfl (up rfl (up rfl (up rfl (up rfl hs11))))))))), u0 (up rfl (up rfl (up rfl (up rfl (up rfl (up rfl (up rfl (up rfl (up rfl hs12))))))))), u0 (up rfl (up rfl (up rfl (up rfl (up rfl (up rfl (up rfl (up rfl (up rfl hs13))))))))), u0 (up rfl (up rfl (up rfl (up rfl (up rfl (up rfl (up rfl (up rfl (up rfl hs32))))))))), u0 (up rfl (up rfl (up rfl (up rfl (up rfl (up rfl (up rfl (up rfl (up rfl hs43))))))))), u0 (up rfl (up rfl (up rfl (up rfl (up rfl (up rfl (up rfl (up rfl (up rfl hs55))))))))), u0 (up rfl (up rfl (up rfl (up rfl (up rfl (up rfl (up rfl (up rfl (up rfl hs62)))))))))⟩ ?_
          rintro τ ⟨hs5, hs7, hs8, hs9, hs10, hs11, hs12, hs13, hs32, hs43, hs55, hs62⟩
          refine CW.seq ?_
          -- row ((ys.take 30).set i (v + dd))
          have hFT2 : Fit ((ys.take 30).set i (v + dd)) := Fit.set hFT hv hvb hd0
          have hl2 : ((ys.take 30).set i (v + dd)).length = (ys.take 30).length := List.length_set
          rw [← hl2] at hs9 hst
          refine CW.region ?_
          refine RW.soft Wd.a (v := .slice X2 ((madeR bits).length) c3) (by exact E.move (AF_ev rfl hs8)) ?_
          refine RW.soft Wd.a (v := .slice (some ⟨g, 0, none⟩) (((ys.take 30).set i (v + dd)).length) c8) (by exact E.move (AF_ev rfl (up rfl hs9))) ?_
          have hst := hst.emp
          refine RW.hard Wd.a ?_
          refine H.call0 Try.func43 nm43 rfl (map2 (AF_ev rfl (up rfl tp)) (AF_ev rfl tp)) (Calls.mono (q_Agreed (zs := (madeR bits)) (ys := ((ys.take 30).set i (v + dd))) hLX2.tells (Nat.le_trans (made_le _) (by decide)) (own_TI (by first | rfl | omega | simp)) (by first | omega | decide) (made_pos _) (Nat.le_trans (made_le _) (by decide)) (fun n hn => by have := made_mem hn; omega) hFT2 hst) ?_)
          rintro _ w ⟨rfl, hst⟩
          have hst := hst.drop
          refine ⟨_, rfl, ?_⟩
          show RW _ _ _ _ _ _ _
          refine RW.soft Wd.a (v := .int .i64 (bestOf (madeR bits) ((ys.take 30).set i (v + dd)) (madeR bits))) (by exact E.assign (AF_ev rfl tp)) ?_
          refine RW.fin (fun τ => τ 5 = .pointer (some ⟨b1, 0, none⟩) ∧ τ 7 = .bool true ∧ τ 8 = .slice X2 ((madeR bits).length) c3 ∧ τ 9 = .slice (some ⟨g, 0, none⟩) (((ys.take 30).set i (v + dd)).length) c8 ∧ τ 10 = .int .i64 (bestOf (madeR bits) (ys.take 30) (madeR bits)) ∧ τ 11 = .int .i64 ((j : Nat) : Int) ∧ τ 12 = .int .i64 ((i : Nat) : Int) ∧ τ 13 = .int .i64 dd ∧ τ 14 = .int .i64 (bestOf (madeR bits) ((ys.take 30).set i (v + dd)) (madeR bits)) ∧ τ 32 = .bool false ∧ τ 43 = .bool false ∧ τ 55 = .bool false ∧ τ 62 = .bool true) ⟨up rfl (up rfl (up rfl (up rfl hs5))), up rfl (up rfl (up rfl (up rfl hs7))), up rfl (up rfl (up rfl (up rfl hs8))), up rfl (up rfl (up rfl (up rfl hs9))), up rfl (up rfl (up rfl (up rfl hs10))), up rfl (up rfl (up rfl (up rfl hs11))), up rfl (up rfl (up rfl (up rfl hs12))), up rfl (up rfl (up rfl (up rfl hs13))), tp, up rfl (up rfl (up rfl (up rfl hs32))), up rfl (up rfl (up rfl (up rfl hs43))), up rfl (up rfl (up rfl (up rfl hs55))), up rfl (up rfl (up rfl (up rfl hs62)))⟩ ?_
          rintro τ ⟨hs5, hs7, hs8, hs9, hs10, hs11, hs12, hs13, hs14, hs32, hs43, hs55, hs62⟩
          refine CW.seq ?_
          refine CW.region ?_
          refine RW.soft Wd.a (v := .int .i64 0) (by exact E.assign rfl) ?_
          refine RW.fin (fun τ => τ 5 = .pointer (some ⟨b1, 0, none⟩) ∧ τ 7 = .bool true ∧ τ 8 = .slice X2 ((madeR bits).length) c3 ∧ τ 9 = .slice (some ⟨g, 0, none⟩) (((ys.take 30).set i (v + dd)).length) c8 ∧ τ 10 = .int .i64 (bestOf (madeR bits) (ys.take 30) (madeR bits)) ∧ τ 11 = .int .i64 ((j : Nat) : Int) ∧ τ 12 = .int .i64 ((i : Nat) : Int) ∧ τ 13 = .int .i64 dd ∧ τ 14 = .int .i64 (bestOf (madeR bits) ((ys.take 30).set i (v + dd)) (madeR bits)) ∧ τ 15 = .int .i64 0 ∧ τ 32 = .bool false ∧ τ 43 = .bool false ∧ τ 55 = .bool false ∧ τ 62 = .bool true) ⟨up rfl hs5, up rfl hs7, up rfl hs8, up rfl hs9, up rfl hs10, up rfl hs11, up rfl hs12, up rfl hs13, up rfl hs14, tp, up rfl hs32, up rfl hs43, up rfl hs55, up rfl hs62⟩ ?_
          rintro τ ⟨hs5, hs7, hs8, hs9, hs10, hs11, hs12, hs13, hs14, hs15, hs32, hs43, hs55, hs62⟩
          refine CW.seq ?_
          refine CW.region ?_
          refine RW.soft Wd.a (v := .bool true) (by exact E.assign rfl) ?_
          refine RW.fin (fun τ => τ 5 = .pointer (some ⟨b1, 0, none⟩) ∧ τ 7 = .bool true ∧ τ 8 = .slice X2 ((madeR bits).length) c3 ∧ τ 9 = .slice (some ⟨g, 0, none⟩) (((ys.take 30).set i (v + dd)).length) c8 ∧ τ 10 = .int .i64 (bestOf (madeR bits) (ys.take 30) (madeR bits)) ∧ τ 11 = .int .i64 ((j : Nat) : Int) ∧ τ 12 = .int .i64 ((i : Nat) : Int) ∧ τ 13 = .int .i64 dd ∧ τ 14 = .int .i64 (bestOf (madeR bits) ((ys.take 30).set i (v + dd)) (madeR bits)) ∧ τ 15 = .int .i64 0 ∧ τ 16 = .bool true ∧ τ 32 = .bool false ∧ τ 43 = .bool false ∧ τ 55 = .bool false ∧ τ 62 = .bool true) ⟨up rfl hs5, up rfl hs7, up rfl hs8, up rfl hs9, up rfl hs10, up rfl hs11, up rfl hs12, up rfl hs13, up rfl hs14, up rfl hs15, tp, up rfl hs32, up rfl hs43, up rfl hs55, up rfl hs62⟩ ?_
          rintro τ ⟨hs5, hs7, hs8, hs9, hs10, hs11, hs12, hs13, hs14, hs15, hs16, hs32, hs43, hs55, hs62⟩
          refine CW.seq ?_
          refine CW.seq ?_
          refine CW.region ?_
          refine RW.soft Wd.a (v := .int .i64 0) (by exact E.assign rfl) ?_
          refine RW.fin (fun τ => τ 5 = .pointer (some ⟨b1, 0, none⟩) ∧ τ 7 = .bool true ∧ τ 8 = .slice X2 ((madeR bits).length) c3 ∧ τ 9 = .slice (some ⟨g, 0, none⟩) (((ys.take 30).set i (v + dd)).length) c8 ∧ τ 10 = .int .i64 (bestOf (madeR bits) (ys.take 30) (madeR bits)) ∧ τ 11 = .int .i64 ((j : Nat) : Int) ∧ τ 12 = .int .i64 ((i : Nat) : Int) ∧ τ 13 = .int .i64 dd ∧ τ 14 = .int .i64 (bestOf (madeR bits) ((ys.take 30).set i (v + dd)) (madeR bits)) ∧ τ 15 = .int .i64 0 ∧ τ 16 = .bool true ∧ τ 17 = .int .i64 0 ∧ τ 32 = .bool false ∧ τ 43 = .bool false ∧ τ 55 = .bool false ∧ τ 62 = .bool true) ⟨up rfl hs5, up rfl hs7, up rfl hs8, up rfl hs9, up rfl hs10, up rfl hs11, up rfl hs12, up rfl hs13, up rfl hs14, up rfl hs15, up rfl hs16, tp, up rfl hs32, up rfl hs43, up rfl hs55, up rfl hs62⟩ ?_
          rintro τ ⟨hs5, hs7, hs8, hs9, hs10, hs11, hs12, hs13, hs14, hs15, hs16, hs17, hs32, hs43, hs55, hs62⟩
          refine CW.block ?_
          have hst := (hst.take (.there .here)).drop
          refine CW.loop (fun (k : Nat) (τ : Fr) (w : World) => ∃ (q : Nat) (most : Int) (fst : Bool), fst = decide (q = 0) ∧ (∀ y ∈ (madeR bits).take q, placeOf ((ys.take 30).set i (v + dd)) y ≤ most) ∧ q ≤ (madeR bits).length ∧ k = (madeR bits).length - q ∧ τ 7 = .bool true ∧ τ 8 = .slice X2 ((madeR bits).length) c3 ∧ τ 9 = .slice (some ⟨g, 0, none⟩) (((ys.take 30).set i (v + dd)).length) c8 ∧ τ 10 = .int .i64 (bestOf (madeR bits) (ys.take 30) (madeR bits)) ∧ τ 14 = .int .i64 (bestOf (madeR bits) ((ys.take 30).set i (v + dd)) (madeR bits)) ∧ τ 15 = .int .i64 most ∧ τ 16 = .bool fst ∧ τ 17 = .int .i64 ((q : Nat) : Int) ∧ St p w (Own 3 1 (.slice (some ⟨g, 0, none⟩) (((ys.take 30).set i (v + dd)).length) c8) (((ys.take 30).set i (v + dd)).length) (((ys.take 30).set i (v + dd)).flatMap ienc) :: R)) ((madeR bits).length - 0) ⟨0, 0, true, rfl, (fun y hy => by rw [List.take_zero] at hy; cases hy), by omega, rfl, hs7, hs8, hs9, hs10, hs14, hs15, hs16, (int_eq (a := 0) hs17 (by omega)), hst⟩ ?_
          clear hst
          rintro k τ w ⟨q, most, fst, hfst, hmx, hq, hkq, hs7, hs8, hs9, hs10, hs14, hs15, hs16, hs17, hst⟩
          refine CW.seq ?_
          refine CW.seq ?_
          refine CW.region ?_
          refine RW.soft Wd.a (v := .int .i64 ((q : Nat) : Int)) (by exact E.move (AF_ev rfl hs17)) ?_
          refine RW.soft Wd.a (v := .slice X2 ((madeR bits).length) c3) (by exact E.move (AF_ev rfl (up rfl hs8))) ?_
          refine RW.soft Wd.a (v := .int .i64 (((madeR bits).length : Nat) : Int)) (by exact E.lenS (p := X2) (l := (madeR bits).length) (c := c3) Try.underlying58 (AF_ev rfl tp)) ?_
          refine RW.soft Wd.a (v := .bool (decide (((q : Nat) : Int) < (((madeR bits).length : Nat) : Int)))) (by exact E.lss (k := .i64) (a := ((q : Nat) : Int)) (b := (((madeR bits).length : Nat) : Int)) (AF_ev rfl (up rfl (up rfl tp))) (AF_ev rfl tp)) ?_
          refine RW.fin (fun τ => τ 7 = .bool true ∧ τ 8 = .slice X2 ((madeR bits).length) c3 ∧ τ 9 = .slice (some ⟨g, 0, none⟩) (((ys.take 30).set i (v + dd)).length) c8 ∧ τ 10 = .int .i64 (bestOf (madeR bits) (ys.take 30) (madeR bits)) ∧ τ 14 = .int .i64 (bestOf (madeR bits) ((ys.take 30).set i (v + dd)) (madeR bits)) ∧ τ 15 = .int .i64 most ∧ τ 16 = .bool fst ∧ τ 17 = .int .i64 ((q : Nat) : Int) ∧ τ 80 = .bool (decide (((q : Nat) : Int) < (((madeR bits).length : Nat) : Int)))) ⟨up rfl (up rfl (up rfl (up rfl hs7))), up rfl (up rfl (up rfl (up rfl hs8))), up rfl (up rfl (up rfl (up rfl hs9))), up rfl (up rfl (up rfl (up rfl hs10))), up rfl (up rfl (up rfl (up rfl hs14))), up rfl (up rfl (up rfl (up rfl hs15))), up rfl (up rfl (up rfl (up rfl hs16))), up rfl (up rfl (up rfl (up rfl hs17))), tp⟩ ?_
          rintro τ ⟨hs7, hs8, hs9, hs10, hs14, hs15, hs16, hs17, hs80⟩
          refine CW.cond (AF_ev rfl hs80) (fun hc27 => ?_) (fun hc27 => ?_)
          · have hc27_ := hc27
            try simp only [decide_eq_true_eq, decide_eq_false_iff_not, Bool.and_eq_true, Bool.or_eq_true, Bool.and_eq_false_iff, Bool.or_eq_false_iff, Bool.not_eq_true', Bool.not_eq_false', beq_iff_eq, beq_eq_false_iff_ne, bne_iff_ne, bne_eq_false_iff_eq, ne_eq, Int.not_lt, Int.not_le, gt_iff_lt, ge_iff_le] at hc27_
            refine CW.skip ?_
            refine Th.n ?_
            refine CW.seq ?_
            refine CW.block ?_
            refine CW.seq ?_
            refine CW.region ?_
            refine RW.soft Wd.a (v := .int .i64 0) (by exact E.assign rfl) ?_
            refine RW.fin (fun τ => τ 7 = .bool true ∧ τ 8 = .slice X2 ((madeR bits).length) c3 ∧ τ 9 = .slice (some ⟨g, 0, none⟩) (((ys.take 30).set i (v + dd)).length) c8 ∧ τ 10 = .int .i64 (bestOf (madeR bits) (ys.take 30) (madeR bits)) ∧ τ 14 = .int .i64 (bestOf (madeR bits) ((ys.take 30).set i (v + dd)) (madeR bits)) ∧ τ 15 = .int .i64 most ∧ τ 16 = .bool fst ∧ τ 17 = .int .i64 ((q : Nat) : Int) ∧ τ 18 = .int .i64 0 ∧ τ 80 = .bool true) ⟨up rfl hs7, up rfl hs8, up rfl hs9, up rfl hs10, up rfl hs14, up rfl hs15, up rfl hs16, up rfl hs17, tp, up rfl (Eq.trans hs80 (congrArg Value.bool hc27))⟩ ?_
            rintro τ ⟨hs7, hs8, hs9, hs10, hs14, hs15, hs16, hs17, hs18, hs80⟩
            refine CW.seq ?_
            refine CW.seq ?_
            obtain ⟨x, hx⟩ : ∃ z, (madeR bits)[q]? = some z := ⟨(madeR bits)[q]'(by omega), List.getElem?_eq_getElem (by omega)⟩
            obtain ⟨b9, o9, hp9, hcell9⟩ := Las.place hLX2 (by omega)
            subst hp9
            have hxm := made_mem (List.mem_of_getElem? hx)
            refine CW.region ?_
            refine RW.soft Wd.a (v := .slice (some ⟨b9, o9, none⟩) ((madeR bits).length) c3) (by exact E.move (AF_ev rfl hs8)) ?_
            refine RW.soft Wd.a (v := .int .i64 ((q : Nat) : Int)) (by exact E.move (AF_ev rfl (up rfl hs17))) ?_
            refine RW.soft Wd.a (v := .pointer (some ⟨b9, o9 + q * 1, none⟩)) (by exact E.indexAddr (b := b9) (o := o9) (l := (madeR bits).length) (c := c3) (i := ((q : Nat) : Int)) Try.underlying58 sz3 (AF_ev rfl (up rfl tp)) (AF_ev rfl tp) (by omega) (by omega) (by simp)) ?_
            refine RW.soft Wd.a (v := .int .i64 x) (by exact E.load (a := ⟨b9, o9 + q * 1, none⟩) Try.underlying3 rfl (AF_ev rfl tp) (by exact hcell9 hst _ _ (flat_get (j := 0) ienc_len hx (rfl)))) ?_
            refine RW.soft Wd.a (v := .slice (some ⟨g, 0, none⟩) (((ys.take 30).set i (v + dd)).length) c8) (by exact E.move (AF_ev rfl (up rfl (up rfl (up rfl (up rfl hs9)))))) ?_
            refine RW.soft Wd.a (v := .int .i64 ((((ys.take 30).set i (v + dd)).length : Nat) : Int)) (by exact E.lenS (p := (some ⟨g, 0, none⟩)) (l := ((ys.take 30).set i (v + dd)).length) (c := c8) Try.underlying58 (AF_ev rfl tp)) ?_
            refine RW.soft Wd.a (v := .bool (decide (x < ((((ys.take 30).set i (v + dd)).length : Nat) : Int)))) (by exact E.lss (k := .i64) (a := x) (b := ((((ys.take 30).set i (v + dd)).length : Nat) : Int)) (AF_ev rfl (up rfl (up rfl tp))) (AF_ev rfl tp)) ?_
            refine RW.fin (fun τ => τ 7 = .bool true ∧ τ 8 = .slice (some ⟨b9, o9, none⟩) ((madeR bits).length) c3 ∧ τ 9 = .slice (some ⟨g, 0, none⟩) (((ys.take 30).set i (v + dd)).length) c8 ∧ τ 10 = .int .i64 (bestOf (madeR bits) (ys.take 30) (madeR bits)) ∧ τ 14 = .int .i64 (bestOf (madeR bits) ((ys.take 30).set i (v + dd)) (madeR bits)) ∧ τ 15 = .int .i64 most ∧ τ 16 = .bool fst ∧ τ 17 = .int .i64 ((q : Nat) : Int) ∧ τ 18 = .int .i64 0 ∧ τ 80 = .bool true ∧ τ 89 = .bool (decide (x < ((((ys.take 30).set i (v + dd)).length : Nat) : Int)))) ⟨up rfl (up rfl (up rfl (up rfl (up rfl (up rfl (up rfl hs7)))))), up rfl (up rfl (up rfl (up rfl (up rfl (up rfl (up rfl hs8)))))), up rfl (up rfl (up rfl (up rfl (up rfl (up rfl (up rfl hs9)))))), up rfl (up rfl (up rfl (up rfl (up rfl (up rfl (up rfl hs10)))))), up rfl (up rfl (up rfl (up rfl (up rfl (up rfl (up rfl hs14)))))), up rfl (up rfl (up rfl (up rfl (up rfl (up rfl (up rfl hs15)))))), up rfl (up rfl (up rfl (up rfl (up rfl (up rfl (up rfl hs16)))))), up rfl (up rfl (up rfl (up rfl (up rfl (up rfl (up rfl hs17)))))), up rfl (up rfl (up rfl (up rfl (up rfl (up rfl (up rfl hs18)))))), up rfl (up rfl (up rfl (up rfl (up rfl (up rfl (up rfl hs80)))))), tp⟩ ?_
            rintro τ ⟨hs7, hs8, hs9, hs10, hs14, hs15, hs16, hs17, hs18, hs80, hs89⟩
            refine CW.cond (AF_ev rfl hs89) (fun hc28 => ?_) (fun hc28 => ?_)
            · have hc28_ := hc28
              try simp only [decide_eq_true_eq, decide_eq_false_iff_not, Bool.and_eq_true, Bool.or_eq_true, Bool.and_eq_false_iff, Bool.or_eq_false_iff, Bool.not_eq_true', Bool.not_eq_false', beq_iff_eq, beq_eq_false_iff_ne, bne_iff_ne, bne_eq_false_iff_eq, ne_eq, Int.not_lt, Int.not_le, gt_iff_lt, ge_iff_le] at hc28_
              obtain ⟨z, hz⟩ : ∃ z, ((ys.take 30).set i (v + dd))[x.toNat]? = some z := ⟨((ys.take 30).set i (v + dd))[x.toNat]'(by omega), List.getElem?_eq_getElem (by omega)⟩
              have hpl := place_in (by omega) hz
              refine CW.region ?_
              refine RW.soft Wd.a (v := .slice (some ⟨g, 0, none⟩) (((ys.take 30).set i (v + dd)).length) c8) (by exact E.move (AF_ev rfl hs9)) ?_
              refine RW.soft Wd.a (v := .slice (some ⟨b9, o9, none⟩) ((madeR bits).length) c3) (by exact E.move (AF_ev rfl (up rfl hs8))) ?_
              refine RW.soft Wd.a (v := .int .i64 ((q : Nat) : Int)) (by exact E.move (AF_ev rfl (up rfl (up rfl hs17)))) ?_
              refine RW.soft Wd.a (v := .pointer (some ⟨b9, o9 + q * 1, none⟩)) (by exact E.indexAddr (b := b9) (o := o9) (l := (madeR bits).length) (c := c3) (i := ((q : Nat) : Int)) Try.underlying58 sz3 (AF_ev rfl (up rfl tp)) (AF_ev rfl tp) (by omega) (by omega) (by simp)) ?_
              refine RW.soft Wd.a (v := .int .i64 x) (by exact E.load (a := ⟨b9, o9 + q * 1, none⟩) Try.underlying3 rfl (AF_ev rfl tp) (by exact hcell9 hst _ _ (flat_get (j := 0) ienc_len hx (rfl)))) ?_
              refine RW.soft Wd.a (v := .pointer (some ⟨g, (x).toNat * 1, none⟩)) (by exact E.indexAddr (b := g) (o := 0) (l := ((ys.take 30).set i (v + dd)).length) (c := c8) (i := x) Try.underlying58 sz3 (AF_ev rfl (up rfl (up rfl (up rfl (up rfl tp))))) (AF_ev rfl tp) (by omega) (by omega) (by simp)) ?_
              refine RW.soft Wd.a (v := .int .i64 z) (by exact E.load (a := ⟨g, (x).toNat * 1, none⟩) Try.underlying3 rfl (AF_ev rfl tp) (hst.ocell .here (flat_get (j := 0) ienc_len hz (rfl)))) ?_
              refine RW.soft Wd.a (v := .int .i64 z) (by exact E.assign (AF_ev rfl tp)) ?_
              refine RW.fin (fun τ => τ 7 = .bool true ∧ τ 8 = .slice (some ⟨b9, o9, none⟩) ((madeR bits).length) c3 ∧ τ 9 = .slice (some ⟨g, 0, none⟩) (((ys.take 30).set i (v + dd)).length) c8 ∧ τ 10 = .int .i64 (bestOf (madeR bits) (ys.take 30) (madeR bits)) ∧ τ 14 = .int .i64 (bestOf (madeR bits) ((ys.take 30).set i (v + dd)) (madeR bits)) ∧ τ 15 = .int .i64 most ∧ τ 16 = .bool fst ∧ τ 17 = .int .i64 ((q : Nat) : Int) ∧ τ 18 = .int .i64 z ∧ τ 80 = .bool true ∧ τ 89 = .bool true) ⟨up rfl (up rfl (up rfl (up rfl (up rfl (up rfl (up rfl (up rfl hs7))))))), up rfl (up rfl (up rfl (up rfl (up rfl (up rfl (up rfl (up rfl hs8))))))), up rfl (up rfl (up rfl (up rfl (up rfl (up rfl (up rfl (up rfl hs9))))))), up rfl (up rfl (up rfl (up rfl (up rfl (up rfl (up rfl (up rfl hs10))))))), up rfl (up rfl (up rfl (up rfl (up rfl (up rfl (up rfl (up rfl hs14))))))), up rfl (up rfl (up rfl (up rfl (up rfl (up rfl (up rfl (up rfl hs15))))))), up rfl (up rfl (up rfl (up rfl (up rfl (up rfl (up rfl (up rfl hs16))))))), up rfl (up rfl (up rfl (up rfl (up rfl (up rfl (up rfl (up rfl hs17))))))), tp, up rfl (up rfl (up rfl (up rfl (up rfl (up rfl (up rfl (up rfl hs80))))))), up rfl (up rfl (up rfl (up rfl (up rfl (up rfl (up rfl (up rfl (Eq.trans hs89 (congrArg Value.bool hc28)))))))))⟩ ?_
              rintro τ ⟨hs7, hs8, hs9, hs10, hs14, hs15, hs16, hs17, hs18, hs80, hs89⟩
              refine CW.seq ?_
              refine CW.seq ?_
              refine CW.cut (fun τ => τ 7 = .bool true ∧ τ 8 = .slice (some ⟨b9, o9, none⟩) ((madeR bits).length) c3 ∧ τ 9 = .slice (some ⟨g, 0, none⟩) (((ys.take 30).set i (v + dd)).length) c8 ∧ τ 10 = .int .i64 (bestOf (madeR bits) (ys.take 30) (madeR bits)) ∧ τ 14 = .int .i64 (bestOf (madeR bits) ((ys.take 30).set i (v + dd)) (madeR bits)) ∧ τ 15 = .int .i64 most ∧ τ 16 = .bool fst ∧ τ 17 = .int .i64 ((q : Nat) : Int) ∧ τ 18 = .int .i64 z ∧ τ 80 = .bool true ∧ τ 89 = .bool true ∧ τ 102 = .bool (fst || (decide (z > most)))) ?_ ?_
              · refine CW.region ?_
                refine RW.soft Wd.a (v := .bool fst) (by exact E.move (AF_ev rfl hs16)) ?_
                refine RW.soft Wd.a (v := .bool fst) (by exact E.move (AF_ev rfl tp)) ?_
                refine Or.elim (Bool.eq_false_or_eq_true fst) (fun hg29 => ?_) (fun hg29 => ?_)
                · have hg29_ := hg29
                  try simp only [decide_eq_true_eq, decide_eq_false_iff_not, Bool.and_eq_true, Bool.or_eq_true, Bool.and_eq_false_iff, Bool.or_eq_false_iff, Bool.not_eq_true', Bool.not_eq_false', beq_iff_eq, beq_eq_false_iff_ne, bne_iff_ne, bne_eq_false_iff_eq, ne_eq, Int.not_lt, Int.not_le, gt_iff_lt, ge_iff_le] at hg29_
                  refine RW.pass (by exact Wd.no (x := 98) (b := true) rfl (AF_ev rfl (Eq.trans tp (congrArg Value.bool hg29))) rfl) ?_
                  refine RW.pass (by exact Wd.no (x := 98) (b := true) rfl (AF_ev rfl (up rfl (Eq.trans tp (congrArg Value.bool hg29)))) rfl) ?_
                  refine RW.pass (by exact Wd.no (x := 98) (b := true) rfl (AF_ev rfl (up rfl (up rfl (Eq.trans tp (congrArg Value.bool hg29))))) rfl) ?_
                  refine RW.soft Wd.a (v := .bool true) (by exact E.pickT (AF_ev rfl (up rfl (up rfl (up rfl (Eq.trans tp (congrArg Value.bool hg29)))))) rfl) ?_
                  refine RW.nil ⟨rfl, rfl, up rfl (up rfl (up rfl (up rfl (up rfl (up rfl hs7))))), up rfl (up rfl (up rfl (up rfl (up rfl (up rfl hs8))))), up rfl (up rfl (up rfl (up rfl (up rfl (up rfl hs9))))), up rfl (up rfl (up rfl (up rfl (up rfl (up rfl hs10))))), up rfl (up rfl (up rfl (up rfl (up rfl (up rfl hs14))))), up rfl (up rfl (up rfl (up rfl (up rfl (up rfl hs15))))), (bool_eq (a := true) (up rfl (up rfl (up rfl (up rfl (up rfl (up rfl (Eq.trans hs16 (congrArg Value.bool hg29)))))))) (by simp only [hg29, Bool.true_and, Bool.false_and, Bool.true_or, Bool.false_or])), up rfl (up rfl (up rfl (up rfl (up rfl (up rfl hs17))))), up rfl (up rfl (up rfl (up rfl (up rfl (up rfl hs18))))), up rfl (up rfl (up rfl (up rfl (up rfl (up rfl hs80))))), up rfl (up rfl (up rfl (up rfl (up rfl (up rfl hs89))))), (bool_eq (a := true) tp (by simp only [hg29, Bool.true_and, Bool.false_and, Bool.true_or, Bool.false_or]))⟩
                · have hg29_ := hg29
                  try simp only [decide_eq_true_eq, decide_eq_false_iff_not, Bool.and_eq_true, Bool.or_eq_true, Bool.and_eq_false_iff, Bool.or_eq_false_iff, Bool.not_eq_true', Bool.not_eq_false', beq_iff_eq, beq_eq_false_iff_ne, bne_iff_ne, bne_eq_false_iff_eq, ne_eq, Int.not_lt, Int.not_le, gt_iff_lt, ge_iff_le] at hg29_
                  refine RW.soft (by exact Wd.yes (x := 98) rfl (AF_ev rfl (Eq.trans tp (congrArg Value.bool hg29)))) (v := .int .i64 z) (by exact E.move (AF_ev rfl (up rfl (up rfl hs18)))) ?_
                  refine RW.soft (by exact Wd.yes (x := 98) rfl (AF_ev rfl (up rfl (Eq.trans tp (congrArg Value.bool hg29))))) (v := .int .i64 most) (by exact E.move (AF_ev rfl (up rfl (up rfl (up rfl hs15))))) ?_
                  refine RW.soft (by exact Wd.yes (x := 98) rfl (AF_ev rfl (up rfl (up rfl (Eq.trans tp (congrArg Value.bool hg29)))))) (v := .bool (decide (z > most))) (by exact E.gtr (k := .i64) (a := z) (b := most) (AF_ev rfl (up rfl tp)) (AF_ev rfl tp)) ?_
                  refine RW.soft Wd.a (v := .bool (decide (z > most))) (by exact E.pickF (AF_ev rfl (up rfl (up rfl (up rfl (Eq.trans tp (congrArg Value.bool hg29)))))) (AF_ev rfl tp)) ?_
                  refine RW.nil ⟨rfl, rfl, up rfl (up rfl (up rfl (up rfl (up rfl (up rfl hs7))))), up rfl (up rfl (up rfl (up rfl (up rfl (up rfl hs8))))), up rfl (up rfl (up rfl (up rfl (up rfl (up rfl hs9))))), up rfl (up rfl (up rfl (up rfl (up rfl (up rfl hs10))))), up rfl (up rfl (up rfl (up rfl (up rfl (up rfl hs14))))), up rfl (up rfl (up rfl (up rfl (up rfl (up rfl hs15))))), (bool_eq (a := false) (up rfl (up rfl (up rfl (up rfl (up rfl (up rfl (Eq.trans hs16 (congrArg Value.bool hg29)))))))) (by simp only [hg29, Bool.true_and, Bool.false_and, Bool.true_or, Bool.false_or])), up rfl (up rfl (up rfl (up rfl (up rfl (up rfl hs17))))), up rfl (up rfl (up rfl (up rfl (up rfl (up rfl hs18))))), up rfl (up rfl (up rfl (up rfl (up rfl (up rfl hs80))))), up rfl (up rfl (up rfl (up rfl (up rfl (up rfl hs89))))), (bool_eq (a := decide (z > most)) tp (by simp only [hg29, Bool.true_and, Bool.false_and, Bool.true_or, Bool.false_or]))⟩
              rintro τ ⟨hs7, hs8, hs9, hs10, hs14, hs15, hs16, hs17, hs18, hs80, hs89, hs102⟩
              refine CW.cond (AF_ev rfl hs102) (fun hc30 => ?_) (fun hc30 => ?_)
              · have hc30_ := hc30
                try simp only [decide_eq_true_eq, decide_eq_false_iff_not, Bool.and_eq_true, Bool.or_eq_true, Bool.and_eq_false_iff, Bool.or_eq_false_iff, Bool.not_eq_true', Bool.not_eq_false', beq_iff_eq, beq_eq_false_iff_ne, bne_iff_ne, bne_eq_false_iff_eq, ne_eq, Int.not_lt, Int.not_le, gt_iff_lt, ge_iff_le] at hc30_
                refine CW.region ?_
                refine RW.soft Wd.a (v := .int .i64 z) (by exact E.move (AF_ev rfl hs18)) ?_
                refine RW.soft Wd.a (v := .int .i64 z) (by exact E.assign (AF_ev rfl tp)) ?_
                refine RW.fin (fun τ => τ 7 = .bool true ∧ τ 8 = .slice (some ⟨b9, o9, none⟩) ((madeR bits).length) c3 ∧ τ 9 = .slice (some ⟨g, 0, none⟩) (((ys.take 30).set i (v + dd)).length) c8 ∧ τ 10 = .int .i64 (bestOf (madeR bits) (ys.take 30) (madeR bits)) ∧ τ 14 = .int .i64 (bestOf (madeR bits) ((ys.take 30).set i (v + dd)) (madeR bits)) ∧ τ 15 = .int .i64 z ∧ τ 16 = .bool fst ∧ τ 17 = .int .i64 ((q : Nat) : Int) ∧ τ 18 = .int .i64 z ∧ τ 80 = .bool true ∧ τ 89 = .bool true ∧ τ 102 = .bool true) ⟨up rfl (up rfl hs7), up rfl (up rfl hs8), up rfl (up rfl hs9), up rfl (up rfl hs10), up rfl (up rfl hs14), tp, up rfl (up rfl hs16), up rfl (up rfl hs17), up rfl (up rfl hs18), up rfl (up rfl hs80), up rfl (up rfl hs89), up rfl (up rfl (Eq.trans hs102 (congrArg Value.bool hc30)))⟩ ?_
                rintro τ ⟨hs7, hs8, hs9, hs10, hs14, hs15, hs16, hs17, hs18, hs80, hs89, hs102⟩
                refine CW.region ?_
                refine RW.soft Wd.a (v := .bool false) (by exact E.assign rfl) ?_
                refine RW.nil ?_
                refine Bl.n ?_
                refine Th.n ?_
                refine CW.region ?_
                refine RW.soft Wd.a (v := .int .i64 ((q : Nat) : Int)) (by exact E.move (AF_ev rfl (up rfl hs17))) ?_
                refine RW.soft Wd.a (v := .int .i64 (((q : Nat) : Int) + 1)) (by exact E.add (k := .i64) (a := ((q : Nat) : Int)) (b := 1) (AF_ev rfl tp) rfl (show IntKind.i64.wrap (((q : Nat) : Int) + 1) = ((q : Nat) : Int) + 1 from (by rw [IntWalk.i64_in _ (by omega)]))) ?_
                refine RW.soft Wd.a (v := .int .i64 (((q : Nat) : Int) + 1)) (by exact E.assign (AF_ev rfl tp)) ?_
                refine RW.nil ?_
                refine Th.n ?_
                have hor : (fst || decide (z > most)) = true := by assumption
                have hmx2 : ∀ y ∈ (madeR bits).take (q + 1), placeOf ((ys.take 30).set i (v + dd)) y ≤ z := by
                  intro y hy
                  rw [List.take_add_one, hx] at hy
                  rcases List.mem_append.1 hy with h | h
                  · have h1 := hmx y h
                    have hq0 : q ≠ 0 := fun e => by subst e; rw [List.take_zero] at h; cases h
                    rw [hfst, decide_eq_false hq0, Bool.false_or] at hor
                    have := of_decide_eq_true hor
                    omega
                  · rw [Option.toList_some, List.mem_singleton] at h; subst h; rw [hpl]; exact Int.le_refl _
                exact ⟨(madeR bits).length - (q + 1), by omega, q + 1, z, false, rfl, hmx2, (by omega), rfl, up rfl (up rfl (up rfl (up rfl hs7))), up rfl (up rfl (up rfl (up rfl hs8))), up rfl (up rfl (up rfl (up rfl hs9))), up rfl (up rfl (up rfl (up rfl hs10))), up rfl (up rfl (up rfl (up rfl hs14))), up rfl (up rfl (up rfl (up rfl hs15))), up rfl (up rfl (up rfl tp)), (int_eq (a := ((q : Nat) : Int) + 1) tp (by omega)), hst⟩
              · have hc30_ := hc30
                try simp only [decide_eq_true_eq, decide_eq_false_iff_not, Bool.and_eq_true, Bool.or_eq_true, Bool.and_eq_false_iff, Bool.or_eq_false_iff, Bool.not_eq_true', Bool.not_eq_false', beq_iff_eq, beq_eq_false_iff_ne, bne_iff_ne, bne_eq_false_iff_eq, ne_eq, Int.not_lt, Int.not_le, gt_iff_lt, ge_iff_le] at hc30_
                refine CW.skip ?_
                refine Th.n ?_
                refine CW.region ?_
                refine RW.soft Wd.a (v := .bool false) (by exact E.assign rfl) ?_
                refine RW.nil ?_
                refine Bl.n ?_
                refine Th.n ?_
                refine CW.region ?_
                refine RW.soft Wd.a (v := .int .i64 ((q : Nat) : Int)) (by exact E.move (AF_ev rfl (up rfl hs17))) ?_
                refine RW.soft Wd.a (v := .int .i64 (((q : Nat) : Int) + 1)) (by exact E.add (k := .i64) (a := ((q : Nat) : Int)) (b := 1) (AF_ev rfl tp) rfl (show IntKind.i64.wrap (((q : Nat) : Int) + 1) = ((q : Nat) : Int) + 1 from (by rw [IntWalk.i64_in _ (by omega)]))) ?_
                refine RW.soft Wd.a (v := .int .i64 (((q : Nat) : Int) + 1)) (by exact E.assign (AF_ev rfl tp)) ?_
                refine RW.nil ?_
                refine Th.n ?_
                have hor : (fst || decide (z > most)) = false := by assumption
                have hmx2 : ∀ y ∈ (madeR bits).take (q + 1), placeOf ((ys.take 30).set i (v + dd)) y ≤ most := by
                  intro y hy
                  rw [List.take_add_one, hx] at hy
                  rcases List.mem_append.1 hy with h | h
                  · exact hmx y h
                  · rw [Option.toList_some, List.mem_singleton] at h; subst h; rw [hpl]
                    have := of_decide_eq_false (Bool.or_eq_false_iff.1 hor).2
                    omega
                exact ⟨(madeR bits).length - (q + 1), by omega, q + 1, most, false, rfl, hmx2, (by omega), rfl, up rfl (up rfl (up rfl (up rfl hs7))), up rfl (up rfl (up rfl (up rfl hs8))), up rfl (up rfl (up rfl (up rfl hs9))), up rfl (up rfl (up rfl (up rfl hs10))), up rfl (up rfl (up rfl (up rfl hs14))), up rfl (up rfl (up rfl (up rfl hs15))), up rfl (up rfl (up rfl tp)), (int_eq (a := ((q : Nat) : Int) + 1) tp (by omega)), hst⟩
            · have hc28_ := hc28
              try simp only [decide_eq_true_eq, decide_eq_false_iff_not, Bool.and_eq_true, Bool.or_eq_true, Bool.and_eq_false_iff, Bool.or_eq_false_iff, Bool.not_eq_true', Bool.not_eq_false', beq_iff_eq, beq_eq_false_iff_ne, bne_iff_ne, bne_eq_false_iff_eq, ne_eq, Int.not_lt, Int.not_le, gt_iff_lt, ge_iff_le] at hc28_
              refine CW.skip ?_
              refine Th.n ?_
              refine CW.seq ?_
              refine CW.seq ?_
              have hpl := place_out (zs := ((ys.take 30).set i (v + dd))) (i := x) (by omega)
              refine CW.cut (fun τ => τ 7 = .bool true ∧ τ 8 = .slice (some ⟨b9, o9, none⟩) ((madeR bits).length) c3 ∧ τ 9 = .slice (some ⟨g, 0, none⟩) (((ys.take 30).set i (v + dd)).length) c8 ∧ τ 10 = .int .i64 (bestOf (madeR bits) (ys.take 30) (madeR bits)) ∧ τ 14 = .int .i64 (bestOf (madeR bits) ((ys.take 30).set i (v + dd)) (madeR bits)) ∧ τ 15 = .int .i64 most ∧ τ 16 = .bool fst ∧ τ 17 = .int .i64 ((q : Nat) : Int) ∧ τ 18 = .int .i64 0 ∧ τ 80 = .bool true ∧ τ 89 = .bool false ∧ τ 102 = .bool (fst || (decide (0 > most)))) ?_ ?_
              · refine CW.region ?_
                refine RW.soft Wd.a (v := .bool fst) (by exact E.move (AF_ev rfl hs16)) ?_
                refine RW.soft Wd.a (v := .bool fst) (by exact E.move (AF_ev rfl tp)) ?_
                refine Or.elim (Bool.eq_false_or_eq_true fst) (fun hg31 => ?_) (fun hg31 => ?_)
                · have hg31_ := hg31
                  try simp only [decide_eq_true_eq, decide_eq_false_iff_not, Bool.and_eq_true, Bool.or_eq_true, Bool.and_eq_false_iff, Bool.or_eq_false_iff, Bool.not_eq_true', Bool.not_eq_false', beq_iff_eq, beq_eq_false_iff_ne, bne_iff_ne, bne_eq_false_iff_eq, ne_eq, Int.not_lt, Int.not_le, gt_iff_lt, ge_iff_le] at hg31_
                  refine RW.pass (by exact Wd.no (x := 98) (b := true) rfl (AF_ev rfl (Eq.trans tp (congrArg Value.bool hg31))) rfl) ?_
                  refine RW.pass (by exact Wd.no (x := 98) (b := true) rfl (AF_ev rfl (up rfl (Eq.trans tp (congrArg Value.bool hg31)))) rfl) ?_
                  refine RW.pass (by exact Wd.no (x := 98) (b := true) rfl (AF_ev rfl (up rfl (up rfl (Eq.trans tp (congrArg Value.bool hg31))))) rfl) ?_
                  refine RW.soft Wd.a (v := .bool true) (by exact E.pickT (AF_ev rfl (up rfl (up rfl (up rfl (Eq.trans tp (congrArg Value.bool hg31)))))) rfl) ?_
                  refine RW.nil ⟨rfl, rfl, up rfl (up rfl (up rfl (up rfl (up rfl (up rfl hs7))))), up rfl (up rfl (up rfl (up rfl (up rfl (up rfl hs8))))), up rfl (up rfl (up rfl (up rfl (up rfl (up rfl hs9))))), up rfl (up rfl (up rfl (up rfl (up rfl (up rfl hs10))))), up rfl (up rfl (up rfl (up rfl (up rfl (up rfl hs14))))), up rfl (up rfl (up rfl (up rfl (up rfl (up rfl hs15))))), (bool_eq (a := true) (up rfl (up rfl (up rfl (up rfl (up rfl (up rfl (Eq.trans hs16 (congrArg Value.bool hg31)))))))) (by simp only [hg31, Bool.true_and, Bool.false_and, Bool.true_or, Bool.false_or])), up rfl (up rfl (up rfl (up rfl (up rfl (up rfl hs17))))), up rfl (up rfl (up rfl (up rfl (up rfl (up rfl hs18))))), up rfl (up rfl (up rfl (up rfl (up rfl (up rfl hs80))))), up rfl (up rfl (up rfl (up rfl (up rfl (up rfl (Eq.trans hs89 (congrArg Value.bool hc28))))))), (bool_eq (a := true) tp (by simp only [hg31, Bool.true_and, Bool.false_and, Bool.true_or, Bool.false_or]))⟩
                · have hg31_ := hg31
                  try simp only [decide_eq_true_eq, decide_eq_false_iff_not, Bool.and_eq_true, Bool.or_eq_true, Bool.and_eq_false_iff, Bool.or_eq_false_iff, Bool.not_eq_true', Bool.not_eq_false', beq_iff_eq, beq_eq_false_iff_ne, bne_iff_ne, bne_eq_false_iff_eq, ne_eq, Int.not_lt, Int.not_le, gt_iff_lt, ge_iff_le] at hg31_
                  refine RW.soft (by exact Wd.yes (x := 98) rfl (AF_ev rfl (Eq.trans tp (congrArg Value.bool hg31)))) (v := .int .i64 0) (by exact E.move (AF_ev rfl (up rfl (up rfl hs18)))) ?_
                  refine RW.soft (by exact Wd.yes (x := 98) rfl (AF_ev rfl (up rfl (Eq.trans tp (congrArg Value.bool hg31))))) (v := .int .i64 most) (by exact E.move (AF_ev rfl (up rfl (up rfl (up rfl hs15))))) ?_
                  refine RW.soft (by exact Wd.yes (x := 98) rfl (AF_ev rfl (up rfl (up rfl (Eq.trans tp (congrArg Value.bool hg31)))))) (v := .bool (decide (0 > most))) (by exact E.gtr (k := .i64) (a := 0) (b := most) (AF_ev rfl (up rfl tp)) (AF_ev rfl tp)) ?_
                  refine RW.soft Wd.a (v := .bool (decide (0 > most))) (by exact E.pickF (AF_ev rfl (up rfl (up rfl (up rfl (Eq.trans tp (congrArg Value.bool hg31)))))) (AF_ev rfl tp)) ?_
                  refine RW.nil ⟨rfl, rfl, up rfl (up rfl (up rfl (up rfl (up rfl (up rfl hs7))))), up rfl (up rfl (up rfl (up rfl (up rfl (up rfl hs8))))), up rfl (up rfl (up rfl (up rfl (up rfl (up rfl hs9))))), up rfl (up rfl (up rfl (up rfl (up rfl (up rfl hs10))))), up rfl (up rfl (up rfl (up rfl (up rfl (up rfl hs14))))), up rfl (up rfl (up rfl (up rfl (up rfl (up rfl hs15))))), (bool_eq (a := false) (up rfl (up rfl (up rfl (up rfl (up rfl (up rfl (Eq.trans hs16 (congrArg Value.bool hg31)))))))) (by simp only [hg31, Bool.true_and, Bool.false_and, Bool.true_or, Bool.false_or])), up rfl (up rfl (up rfl (up rfl (up rfl (up rfl hs17))))), up rfl (up rfl (up rfl (up rfl (up rfl (up rfl hs18))))), up rfl (up rfl (up rfl (up rfl (up rfl (up rfl hs80))))), up rfl (up rfl (up rfl (up rfl (up rfl (up rfl (Eq.trans hs89 (congrArg Value.bool hc28))))))), (bool_eq (a := decide (0 > most)) tp (by simp only [hg31, Bool.true_and, Bool.false_and, Bool.true_or, Bool.false_or]))⟩
              rintro τ ⟨hs7, hs8, hs9, hs10, hs14, hs15, hs16, hs17, hs18, hs80, hs89, hs102⟩
              refine CW.cond (AF_ev rfl hs102) (fun hc32 => ?_) (fun hc32 => ?_)
              · have hc32_ := hc32
                try simp only [decide_eq_true_eq, decide_eq_false_iff_not, Bool.and_eq_true, Bool.or_eq_true, Bool.and_eq_false_iff, Bool.or_eq_false_iff, Bool.not_eq_true', Bool.not_eq_false', beq_iff_eq, beq_eq_false_iff_ne, bne_iff_ne, bne_eq_false_iff_eq, ne_eq, Int.not_lt, Int.not_le, gt_iff_lt, ge_iff_le] at hc32_
                refine CW.region ?_
                refine RW.soft Wd.a (v := .int .i64 0) (by exact E.move (AF_ev rfl hs18)) ?_
                refine RW.soft Wd.a (v := .int .i64 0) (by exact E.assign (AF_ev rfl tp)) ?_
                refine RW.fin (fun τ => τ 7 = .bool true ∧ τ 8 = .slice (some ⟨b9, o9, none⟩) ((madeR bits).length) c3 ∧ τ 9 = .slice (some ⟨g, 0, none⟩) (((ys.take 30).set i (v + dd)).length) c8 ∧ τ 10 = .int .i64 (bestOf (madeR bits) (ys.take 30) (madeR bits)) ∧ τ 14 = .int .i64 (bestOf (madeR bits) ((ys.take 30).set i (v + dd)) (madeR bits)) ∧ τ 15 = .int .i64 0 ∧ τ 16 = .bool fst ∧ τ 17 = .int .i64 ((q : Nat) : Int) ∧ τ 18 = .int .i64 0 ∧ τ 80 = .bool true ∧ τ 89 = .bool false ∧ τ 102 = .bool true) ⟨up rfl (up rfl hs7), up rfl (up rfl hs8), up rfl (up rfl hs9), up rfl (up rfl hs10), up rfl (up rfl hs14), tp, up rfl (up rfl hs16), up rfl (up rfl hs17), up rfl (up rfl hs18), up rfl (up rfl hs80), up rfl (up rfl hs89), up rfl (up rfl (Eq.trans hs102 (congrArg Value.bool hc32)))⟩ ?_
                rintro τ ⟨hs7, hs8, hs9, hs10, hs14, hs15, hs16, hs17, hs18, hs80, hs89, hs102⟩
                refine CW.region ?_
                refine RW.soft Wd.a (v := .bool false) (by exact E.assign rfl) ?_
                refine RW.nil ?_
                refine Bl.n ?_
                refine Th.n ?_
                refine CW.region ?_
                refine RW.soft Wd.a (v := .int .i64 ((q : Nat) : Int)) (by exact E.move (AF_ev rfl (up rfl hs17))) ?_
                refine RW.soft Wd.a (v := .int .i64 (((q : Nat) : Int) + 1)) (by exact E.add (k := .i64) (a := ((q : Nat) : Int)) (b := 1) (AF_ev rfl tp) rfl (show IntKind.i64.wrap (((q : Nat) : Int) + 1) = ((q : Nat) : Int) + 1 from (by rw [IntWalk.i64_in _ (by omega)]))) ?_
                refine RW.soft Wd.a (v := .int .i64 (((q : Nat) : Int) + 1)) (by exact E.assign (AF_ev rfl tp)) ?_
                refine RW.nil ?_
                refine Th.n ?_
                have hor : (fst || decide (0 > most)) = true := by assumption
                have hmx2 : ∀ y ∈ (madeR bits).take (q + 1), placeOf ((ys.take 30).set i (v + dd)) y ≤ 0 := by
                  intro y hy
                  rw [List.take_add_one, hx] at hy
                  rcases List.mem_append.1 hy with h | h
                  · have h1 := hmx y h
                    have hq0 : q ≠ 0 := fun e => by subst e; rw [List.take_zero] at h; cases h
                    rw [hfst, decide_eq_false hq0, Bool.false_or] at hor
                    have := of_decide_eq_true hor
                    omega
                  · rw [Option.toList_some, List.mem_singleton] at h; subst h; rw [hpl]; exact Int.le_refl _
                exact ⟨(madeR bits).length - (q + 1), by omega, q + 1, 0, false, rfl, hmx2, (by omega), rfl, up rfl (up rfl (up rfl (up rfl hs7))), up rfl (up rfl (up rfl (up rfl hs8))), up rfl (up rfl (up rfl (up rfl hs9))), up rfl (up rfl (up rfl (up rfl hs10))), up rfl (up rfl (up rfl (up rfl hs14))), up rfl (up rfl (up rfl (up rfl hs15))), up rfl (up rfl (up rfl tp)), (int_eq (a := ((q : Nat) : Int) + 1) tp (by omega)), hst⟩
              · have hc32_ := hc32
                try simp only [decide_eq_true_eq, decide_eq_false_iff_not, Bool.and_eq_true, Bool.or_eq_true, Bool.and_eq_false_iff, Bool.or_eq_false_iff, Bool.not_eq_true', Bool.not_eq_false', beq_iff_eq, beq_eq_false_iff_ne, bne_iff_ne, bne_eq_false_iff_eq, ne_eq, Int.not_lt, Int.not_le, gt_iff_lt, ge_iff_le] at hc32_
                refine CW.skip ?_
                refine Th.n ?_
                refine CW.region ?_
                refine RW.soft Wd.a (v := .bool false) (by exact E.assign rfl) ?_
                refine RW.nil ?_
                refine Bl.n ?_
                refine Th.n ?_
                refine CW.region ?_
                refine RW.soft Wd.a (v := .int .i64 ((q : Nat) : Int)) (by exact E.move (AF_ev rfl (up rfl hs17))) ?_
                refine RW.soft Wd.a (v := .int .i64 (((q : Nat) : Int) + 1)) (by exact E.add (k := .i64) (a := ((q : Nat) : Int)) (b := 1) (AF_ev rfl tp) rfl (show IntKind.i64.wrap (((q : Nat) : Int) + 1) = ((q : Nat) : Int) + 1 from (by rw [IntWalk.i64_in _ (by omega)]))) ?_
                refine RW.soft Wd.a (v := .int .i64 (((q : Nat) : Int) + 1)) (by exact E.assign (AF_ev rfl tp)) ?_
                refine RW.nil ?_
                refine Th.n ?_
                have hor : (fst || decide (0 > most)) = false := by assumption
                have hmx2 : ∀ y ∈ (madeR bits).take (q + 1), placeOf ((ys.take 30).set i (v + dd)) y ≤ most := by
                  intro y hy
                  rw [List.take_add_one, hx] at hy
                  rcases List.mem_append.1 hy with h | h
                  · exact hmx y h
                  · rw [Option.toList_some, List.mem_singleton] at h; subst h; rw [hpl]
                    have := of_decide_eq_false (Bool.or_eq_false_iff.1 hor).2
                    omega
                exact ⟨(madeR bits).length - (q + 1), by omega, q + 1, most, false, rfl, hmx2, (by omega), rfl, up rfl (up rfl (up rfl (up rfl hs7))), up rfl (up rfl (up rfl (up rfl hs8))), up rfl (up rfl (up rfl (up rfl hs9))), up rfl (up rfl (up rfl (up rfl hs10))), up rfl (up rfl (up rfl (up rfl hs14))), up rfl (up rfl (up rfl (up rfl hs15))), up rfl (up rfl (up rfl tp)), (int_eq (a := ((q : Nat) : Int) + 1) tp (by omega)), hst⟩
          · have hc27_ := hc27
            try simp only [decide_eq_true_eq, decide_eq_false_iff_not, Bool.and_eq_true, Bool.or_eq_true, Bool.and_eq_false_iff, Bool.or_eq_false_iff, Bool.not_eq_true', Bool.not_eq_false', beq_iff_eq, beq_eq_false_iff_ne, bne_iff_ne, bne_eq_false_iff_eq, ne_eq, Int.not_lt, Int.not_le, gt_iff_lt, ge_iff_le] at hc27_
            refine CW.exit ?_
            refine Th.x ?_
            refine Th.x ?_
            refine Bl.x ?_
            refine Th.n ?_
            refine CW.seq ?_
            rw [List.take_of_length_le (by omega)] at hmx
            have h0m : -9223372036854775808 ≤ most := Int.le_trans (Fit.place hFT2 ((madeR bits)[0]'hmp)).1 (hmx _ (List.getElem_mem hmp))
            refine CW.region ?_
            refine RW.soft Wd.a (v := .bool true) (by exact E.move (AF_ev rfl hs7)) ?_
            refine RW.soft Wd.a (v := .bool true) (by exact E.move (AF_ev rfl tp)) ?_
            refine RW.soft (by exact Wd.yes (x := 105) rfl (AF_ev rfl tp)) (v := .int .i64 (bestOf (madeR bits) ((ys.take 30).set i (v + dd)) (madeR bits))) (by exact E.move (AF_ev rfl (up rfl (up rfl hs14)))) ?_
            refine RW.soft (by exact Wd.yes (x := 105) rfl (AF_ev rfl (up rfl tp))) (v := .int .i64 (bestOf (madeR bits) (ys.take 30) (madeR bits))) (by exact E.move (AF_ev rfl (up rfl (up rfl (up rfl hs10))))) ?_
            refine RW.soft (by exact Wd.yes (x := 105) rfl (AF_ev rfl (up rfl (up rfl tp)))) (v := .bool true) (by exact E.b (a := decide ((bestOf (madeR bits) ((ys.take 30).set i (v + dd)) (madeR bits)) ≥ (bestOf (madeR bits) (ys.take 30) (madeR bits)))) (E.geq (k := .i64) (a := bestOf (madeR bits) ((ys.take 30).set i (v + dd)) (madeR bits)) (b := bestOf (madeR bits) (ys.take 30) (madeR bits)) (AF_ev rfl (up rfl tp)) (AF_ev rfl tp)) (decide_eq_true (best_rises fun x _ => place_set hv hd0.1 x))) ?_
            refine RW.soft Wd.a (v := .bool true) (by exact E.pickT (AF_ev rfl (up rfl (up rfl (up rfl tp)))) (AF_ev rfl tp)) ?_
            refine RW.soft Wd.a (v := .bool true) (by exact E.move (AF_ev rfl tp)) ?_
            refine RW.soft (by exact Wd.yes (x := 110) rfl (AF_ev rfl tp)) (v := .int .i64 (bestOf (madeR bits) ((ys.take 30).set i (v + dd)) (madeR bits))) (by exact E.move (AF_ev rfl (up rfl (up rfl (up rfl (up rfl (up rfl (up rfl (up rfl hs14))))))))) ?_
            refine RW.soft (by exact Wd.yes (x := 110) rfl (AF_ev rfl (up rfl tp))) (v := .int .i64 most) (by exact E.move (AF_ev rfl (up rfl (up rfl (up rfl (up rfl (up rfl (up rfl (up rfl (up rfl hs15)))))))))) ?_
            refine RW.soft (by exact Wd.yes (x := 110) rfl (AF_ev rfl (up rfl (up rfl tp)))) (v := .bool true) (by exact E.b (a := decide ((bestOf (madeR bits) ((ys.take 30).set i (v + dd)) (madeR bits)) ≤ most)) (E.leq (k := .i64) (a := bestOf (madeR bits) ((ys.take 30).set i (v + dd)) (madeR bits)) (b := most) (AF_ev rfl (up rfl tp)) (AF_ev rfl tp)) (decide_eq_true (best_top h0m hmx))) ?_
            refine RW.soft Wd.a (v := .bool true) (by exact E.pickT (AF_ev rfl (up rfl (up rfl (up rfl tp)))) (AF_ev rfl tp)) ?_
            refine RW.soft Wd.a (v := .bool true) (by exact E.assign (AF_ev rfl tp)) ?_
            refine RW.fin (fun τ => τ 6 = .bool true ∧ τ 7 = .bool true ∧ τ 8 = .slice X2 ((madeR bits).length) c3 ∧ τ 9 = .slice (some ⟨g, 0, none⟩) (((ys.take 30).set i (v + dd)).length) c8 ∧ τ 10 = .int .i64 (bestOf (madeR bits) (ys.take 30) (madeR bits)) ∧ τ 14 = .int .i64 (bestOf (madeR bits) ((ys.take 30).set i (v + dd)) (madeR bits)) ∧ τ 15 = .int .i64 most ∧ τ 16 = .bool fst ∧ τ 17 = .int .i64 ((q : Nat) : Int) ∧ τ 80 = .bool false) ⟨tp, up rfl (up rfl (up rfl (up rfl (up rfl (up rfl (up rfl (up rfl (up rfl (up rfl (up rfl (up rfl hs7))))))))))), up rfl (up rfl (up rfl (up rfl (up rfl (up rfl (up rfl (up rfl (up rfl (up rfl (up rfl (up rfl hs8))))))))))), up rfl (up rfl (up rfl (up rfl (up rfl (up rfl (up rfl (up rfl (up rfl (up rfl (up rfl (up rfl hs9))))))))))), up rfl (up rfl (up rfl (up rfl (up rfl (up rfl (up rfl (up rfl (up rfl (up rfl (up rfl (up rfl hs10))))))))))), up rfl (up rfl (up rfl (up rfl (up rfl (up rfl (up rfl (up rfl (up rfl (up rfl (up rfl (up rfl hs14))))))))))), up rfl (up rfl (up rfl (up rfl (up rfl (up rfl (up rfl (up rfl (up rfl (up rfl (up rfl (up rfl hs15))))))))))), up rfl (up rfl (up rfl (up rfl (up rfl (up rfl (up rfl (up rfl (up rfl (up rfl (up rfl (up rfl hs16))))))))))), up rfl (up rfl (up rfl (up rfl (up rfl (up rfl (up rfl (up rfl (up rfl (up rfl (up rfl (up rfl hs17))))))))))), up rfl (up rfl (up rfl (up rfl (up rfl (up rfl (up rfl (up rfl (up rfl (up rfl (up rfl (up rfl (Eq.trans hs80 (congrArg Value.bool hc27)))))))))))))⟩ ?_
            rintro τ ⟨hs6, hs7, hs8, hs9, hs10, hs14, hs15, hs16, hs17, hs80⟩
            refine CW.ret ?_
            refine ret1 (v := .bool true) rfl (by exact (.tmp (AF_ev rfl hs6) .nil)) ?_
            have hst := (hst.take .here).drop
            exact ⟨p, hleX2, rfl, hst⟩
        · have hc26_ := hc26
          try simp only [decide_eq_true_eq, decide_eq_false_iff_not, Bool.and_eq_true, Bool.or_eq_true, Bool.and_eq_false_iff, Bool.or_eq_false_iff, Bool.not_eq_true', Bool.not_eq_false', beq_iff_eq, beq_eq_false_iff_ne, bne_iff_ne, bne_eq_false_iff_eq, ne_eq, Int.not_lt, Int.not_le, gt_iff_lt, ge_iff_le] at hc26_
          refine CW.skip ?_
          refine Th.n ?_
          refine CW.seq ?_
          obtain ⟨i, hi⟩ : ∃ z : Nat, ((z : Nat) : Int) = i0 := ⟨(i0).toNat, by omega⟩
          rw [← hi] at hs12
          obtain ⟨dd, hd⟩ : ∃ z : Int, z = d0 := ⟨_, rfl⟩
          rw [← hd] at hs13
          have hd0 : 0 ≤ dd ∧ dd ≤ 1001 := by omega
          obtain ⟨v, hv⟩ : ∃ z, (ys.take 30)[i]? = some z := ⟨(ys.take 30)[i]'(by omega), List.getElem?_eq_getElem (by omega)⟩
          have hvb := hbg v (List.mem_of_getElem? hv)
          have hvf : I64 v := hFT v (List.mem_of_getElem? hv)
          unfold I64 at hvf
          obtain ⟨Xo, co, heo, hco, hmo, hlo, hbo⟩ := hst.shape
          cases heo
          obtain ⟨g, hgo⟩ := hbo (by omega)
          subst hgo
          refine CW.region ?_
          refine RW.soft Wd.a (v := .slice (some ⟨g, 0, none⟩) ((ys.take 30).length) c8) (by exact E.move (AF_ev rfl hs9)) ?_
          refine RW.soft Wd.a (v := .int .i64 ((i : Nat) : Int)) (by exact E.move (AF_ev rfl (up rfl hs12))) ?_
          refine RW.soft Wd.a (v := .slice (some ⟨g, 0, none⟩) ((ys.take 30).length) c8) (by exact E.move (AF_ev rfl (up rfl (up rfl hs9)))) ?_
          refine RW.soft Wd.a (v := .int .i64 ((i : Nat) : Int)) (by exact E.move (AF_ev rfl (up rfl (up rfl (up rfl hs12))))) ?_
          refine RW.soft Wd.a (v := .pointer (some ⟨g, i * 1, none⟩)) (by exact E.indexAddr (b := g) (o := 0) (l := (ys.take 30).length) (c := c8) (i := ((i : Nat) : Int)) Try.underlying58 sz3 (AF_ev rfl (up rfl tp)) (AF_ev rfl tp) (by omega) (by omega) (by simp)) ?_
          refine RW.soft Wd.a (v := .int .i64 v) (by exact E.load (a := ⟨g, i * 1, none⟩) Try.underlying3 rfl (AF_ev rfl tp) (hst.ocell .here (flat_get (j := 0) ienc_len hv (rfl)))) ?_
          refine RW.soft Wd.a (v := .int .i64 dd) (by exact E.move (AF_ev rfl (up rfl (up rfl (up rfl (up rfl (up rfl (up rfl hs13)))))))) ?_
          refine RW.soft Wd.a (v := .int .i64 (v + dd)) (by exact E.add (k := .i64) (a := v) (b := dd) (AF_ev rfl (up rfl tp)) (AF_ev rfl tp) (show IntKind.i64.wrap (v + dd) = v + dd from (by rw [IntWalk.i64_in _ (by omega)]))) ?_
          refine RW.soft Wd.a (v := .pointer (some ⟨g, i * 1, none⟩)) (by exact E.indexAddr (b := g) (o := 0) (l := (ys.take 30).length) (c := c8) (i := ((i : Nat) : Int)) Try.underlying58 sz3 (AF_ev rfl (up rfl (up rfl (up rfl (up rfl (up rfl (up rfl (up rfl tp)))))))) (AF_ev rfl (up rfl (up rfl (up rfl (up rfl (up rfl (up rfl tp))))))) (by omega) (by omega) (by simp)) ?_
          refine RW.hard Wd.a ?_
          refine H.storeInn (f := ienc) (i := i) (d := 0) (m := 1) (v := .int .i64 (v + dd)) (news := [.int .i64 (v + dd)]) (a' := v + dd) ienc_len (AF_ev rfl tp) (AF_ev rfl (up rfl tp)) hst .here hv (by omega) rfl rfl rfl sz3 (by omega) (rfl) (by simp [Value.oneCell']) fun w hst => ?_
          refine RW.fin (fun τ => τ 5 = .pointer (some ⟨b1, 0, none⟩) ∧ τ 7 = .bool true ∧ τ 8 = .slice X2 ((madeR bits).length) c3 ∧ τ 9 = .slice (some ⟨g, 0, none⟩) ((ys.take 30).length) c8 ∧ τ 10 = .int .i64 (bestOf (madeR bits) (ys.take 30) (madeR bits)) ∧ τ 11 = .int .i64 ((j : Nat) : Int) ∧ τ 12 = .int .i64 ((i : Nat) : Int) ∧ τ 13 = .int .i64 dd ∧ τ 32 = .bool false ∧ τ 43 = .bool false ∧ τ 55 = .bool false ∧ τ 62 = .bool false) ⟨u0 (up rfl (up rfl (up rfl (up rfl (up rfl (up rfl (up rfl (up rfl (up rfl hs5))))))))), u0 (up rfl (up rfl (up rfl (up rfl (up rfl (up rfl (up rfl (up rfl (up rfl hs7))))))))), u0 (up rfl (up rfl (up rfl (up rfl (up rfl (up rfl (up rfl (up rfl (up rfl hs8))))))))), u0 (up rfl (up rfl (up rfl (up rfl (up rfl (up rfl (up rfl (up rfl (up rfl hs9))))))))), u0 (up rfl (up rfl (up rfl (up rfl (up rfl (up rfl (up rfl (up rfl (up rfl hs10))))))))), u0 (up rfl (up rfl (up rfl (up rfl (up rfl (up rfl (up rfl (up rfl (up rfl hs11))))))))), u0 (up rfl (up rfl (up rfl (up rfl (up rfl (up rfl (up rfl (up rfl (up rfl hs12))))))))), u0 (up rfl (up rfl (up rfl (up rfl (up rfl (up rfl (up rfl (up rfl (up rfl hs13))))))))), u0 (up rfl (up rfl (up rfl (up rfl (up rfl (up rfl (up rfl (up rfl (up rfl hs32))))))))), u0 (up rfl (up rfl (up rfl (up rfl (up rfl (up rfl (up rfl (up rfl (up rfl hs43))))))))), u0 (up rfl (up rfl (up rfl (up rfl (up rfl (up rfl (up rfl (up rfl (up rfl hs55))))))))), u0 (up rfl (up rfl (up rfl (up rfl (up rfl (up rfl (up rfl (up rfl (up rfl (Eq.trans hs62 (congrArg Value.bool hc26)))))))))))⟩ ?_
          rintro τ ⟨hs5, hs7, hs8, hs9, hs10, hs11, hs12, hs13, hs32, hs43, hs55, hs62⟩
          refine CW.seq ?_
          -- row ((ys.take 30).set i (v + dd))
          have hFT2 : Fit ((ys.take 30).set i (v + dd)) := Fit.set hFT hv hvb hd0
          have hl2 : ((ys.take 30).set i (v + dd)).length = (ys.take 30).length := List.length_set
          rw [← hl2] at hs9 hst
          refine CW.region ?_
          refine RW.soft Wd.a (v := .slice X2 ((madeR bits).length) c3) (by exact E.move (AF_ev rfl hs8)) ?_
          refine RW.soft Wd.a (v := .slice (some ⟨g, 0, none⟩) (((ys.take 30).set i (v + dd)).length) c8) (by exact E.move (AF_ev rfl (up rfl hs9))) ?_
          have hst := hst.emp
          refine RW.hard Wd.a ?_
          refine H.call0 Try.func43 nm43 rfl (map2 (AF_ev rfl (up rfl tp)) (AF_ev rfl tp)) (Calls.mono (q_Agreed (zs := (madeR bits)) (ys := ((ys.take 30).set i (v + dd))) hLX2.tells (Nat.le_trans (made_le _) (by decide)) (own_TI (by first | rfl | omega | simp)) (by first | omega | decide) (made_pos _) (Nat.le_trans (made_le _) (by decide)) (fun n hn => by have := made_mem hn; omega) hFT2 hst) ?_)
          rintro _ w ⟨rfl, hst⟩
          have hst := hst.drop
          refine ⟨_, rfl, ?_⟩
          show RW _ _ _ _ _ _ _
          refine RW.soft Wd.a (v := .int .i64 (bestOf (madeR bits) ((ys.take 30).set i (v + dd)) (madeR bits))) (by exact E.assign (AF_ev rfl tp)) ?_
          refine RW.fin (fun τ => τ 5 = .pointer (some ⟨b1, 0, none⟩) ∧ τ 7 = .bool true ∧ τ 8 = .slice X2 ((madeR bits).length) c3 ∧ τ 9 = .slice (some ⟨g, 0, none⟩) (((ys.take 30).set i (v + dd)).length) c8 ∧ τ 10 = .int .i64 (bestOf (madeR bits) (ys.take 30) (madeR bits)) ∧ τ 11 = .int .i64 ((j : Nat) : Int) ∧ τ 12 = .int .i64 ((i : Nat) : Int) ∧ τ 13 = .int .i64 dd ∧ τ 14 = .int .i64 (bestOf (madeR bits) ((ys.take 30).set i (v + dd)) (madeR bits)) ∧ τ 32 = .bool false ∧ τ 43 = .bool false ∧ τ 55 = .bool false ∧ τ 62 = .bool false) ⟨up rfl (up rfl (up rfl (up rfl hs5))), up rfl (up rfl (up rfl (up rfl hs7))), up rfl (up rfl (up rfl (up rfl hs8))), up rfl (up rfl (up rfl (up rfl hs9))), up rfl (up rfl (up rfl (up rfl hs10))), up rfl (up rfl (up rfl (up rfl hs11))), up rfl (up rfl (up rfl (up rfl hs12))), up rfl (up rfl (up rfl (up rfl hs13))), tp, up rfl (up rfl (up rfl (up rfl hs32))), up rfl (up rfl (up rfl (up rfl hs43))), up rfl (up rfl (up rfl (up rfl hs55))), up rfl (up rfl (up rfl (up rfl hs62)))⟩ ?_
          rintro τ ⟨hs5, hs7, hs8, hs9, hs10, hs11, hs12, hs13, hs14, hs32, hs43, hs55, hs62⟩
          refine CW.seq ?_
          refine CW.region ?_
          refine RW.soft Wd.a (v := .int .i64 0) (by exact E.assign rfl) ?_
          refine RW.fin (fun τ => τ 5 = .pointer (some ⟨b1, 0, none⟩) ∧ τ 7 = .bool true ∧ τ 8 = .slice X2 ((madeR bits).length) c3 ∧ τ 9 = .slice (some ⟨g, 0, none⟩) (((ys.take 30).set i (v + dd)).length) c8 ∧ τ 10 = .int .i64 (bestOf (madeR bits) (ys.take 30) (madeR bits)) ∧ τ 11 = .int .i64 ((j : Nat) : Int) ∧ τ 12 = .int .i64 ((i : Nat) : Int) ∧ τ 13 = .int .i64 dd ∧ τ 14 = .int .i64 (bestOf (madeR bits) ((ys.take 30).set i (v + dd)) (madeR bits)) ∧ τ 15 = .int .i64 0 ∧ τ 32 = .bool false ∧ τ 43 = .bool false ∧ τ 55 = .bool false ∧ τ 62 = .bool false) ⟨up rfl hs5, up rfl hs7, up rfl hs8, up rfl hs9, up rfl hs10, up rfl hs11, up rfl hs12, up rfl hs13, up rfl hs14, tp, up rfl hs32, up rfl hs43, up rfl hs55, up rfl hs62⟩ ?_
          rintro τ ⟨hs5, hs7, hs8, hs9, hs10, hs11, hs12, hs13, hs14, hs15, hs32, hs43, hs55, hs62⟩
          refine CW.seq ?_
          refine CW.region ?_
          refine RW.soft Wd.a (v := .bool true) (by exact E.assign rfl) ?_
          refine RW.fin (fun τ => τ 5 = .pointer (some ⟨b1, 0, none⟩) ∧ τ 7 = .bool true ∧ τ 8 = .slice X2 ((madeR bits).length) c3 ∧ τ 9 = .slice (some ⟨g, 0, none⟩) (((ys.take 30).set i (v + dd)).length) c8 ∧ τ 10 = .int .i64 (bestOf (madeR bits) (ys.take 30) (madeR bits)) ∧ τ 11 = .int .i64 ((j : Nat) : Int) ∧ τ 12 = .int .i64 ((i : Nat) : Int) ∧ τ 13 = .int .i64 dd ∧ τ 14 = .int .i64 (bestOf (madeR bits) ((ys.take 30).set i (v + dd)) (madeR bits)) ∧ τ 15 = .int .i64 0 ∧ τ 16 = .bool true ∧ τ 32 = .bool false ∧ τ 43 = .bool false ∧ τ 55 = .bool false ∧ τ 62 = .bool false) ⟨up rfl hs5, up rfl hs7, up rfl hs8, up rfl hs9, up rfl hs10, up rfl hs11, up rfl hs12, up rfl hs13, up rfl hs14, up rfl hs15, tp, up rfl hs32, up rfl hs43, up rfl hs55, up rfl hs62⟩ ?_
          rintro τ ⟨hs5, hs7, hs8, hs9, hs10, hs11, hs12, hs13, hs14, hs15, hs16, hs32, hs43, hs55, hs62⟩
          refine CW.seq ?_
          refine CW.seq ?_
          refine CW.region ?_
          refine RW.soft Wd.a (v := .int .i64 0) (by exact E.assign rfl) ?_
          refine RW.fin (fun τ => τ 5 = .pointer (some ⟨b1, 0, none⟩) ∧ τ 7 = .bool true ∧ τ 8 = .slice X2 ((madeR bits).length) c3 ∧ τ 9 = .slice (some ⟨g, 0, none⟩) (((ys.take 30).set i (v + dd)).length) c8 ∧ τ 10 = .int .i64 (bestOf (madeR bits) (ys.take 30) (madeR bits)) ∧ τ 11 = .int .i64 ((j : Nat) : Int) ∧ τ 12 = .int .i64 ((i : Nat) : Int) ∧ τ 13 = .int .i64 dd ∧ τ 14 = .int .i64 (bestOf (madeR bits) ((ys.take 30).set i (v + dd)) (madeR bits)) ∧ τ 15 = .int .i64 0 ∧ τ 16 = .bool true ∧ τ 17 = .int .i64 0 ∧ τ 32 = .bool false ∧ τ 43 = .bool false ∧ τ 55 = .bool false ∧ τ 62 = .bool false) ⟨up rfl hs5, up rfl hs7, up rfl hs8, up rfl hs9, up rfl hs10, up rfl hs11, up rfl hs12, up rfl hs13, up rfl hs14, up rfl hs15, up rfl hs16, tp, up rfl hs32, up rfl hs43, up rfl hs55, up rfl hs62⟩ ?_
          rintro τ ⟨hs5, hs7, hs8, hs9, hs10, hs11, hs12, hs13, hs14, hs15, hs16, hs17, hs32, hs43, hs55, hs62⟩
          refine CW.block ?_
          have hst := (hst.take (.there .here)).drop
          refine CW.loop (fun (k : Nat) (τ : Fr) (w : World) => ∃ (q : Nat) (most : Int) (fst : Bool), fst = decide (q = 0) ∧ (∀ y ∈ (madeR bits).take q, placeOf ((ys.take 30).set i (v + dd)) y ≤ most) ∧ q ≤ (madeR bits).length ∧ k = (madeR bits).length - q ∧ τ 7 = .bool true ∧ τ 8 = .slice X2 ((madeR bits).length) c3 ∧ τ 9 = .slice (some ⟨g, 0, none⟩) (((ys.take 30).set i (v + dd)).length) c8 ∧ τ 10 = .int .i64 (bestOf (madeR bits) (ys.take 30) (madeR bits)) ∧ τ 14 = .int .i64 (bestOf (madeR bits) ((ys.take 30).set i (v + dd)) (madeR bits)) ∧ τ 15 = .int .i64 most ∧ τ 16 = .bool fst ∧ τ 17 = .int .i64 ((q : Nat) : Int) ∧ St p w (Own 3 1 (.slice (some ⟨g, 0, none⟩) (((ys.take 30).set i (v + dd)).length) c8) (((ys.take 30).set i (v + dd)).length) (((ys.take 30).set i (v + dd)).flatMap ienc) :: R)) ((madeR bits).length - 0) ⟨0, 0, true, rfl, (fun y hy => by rw [List.take_zero] at hy; cases hy), by omega, rfl, hs7, hs8, hs9, hs10, hs14, hs15, hs16, (int_eq (a := 0) hs17 (by omega)), hst⟩ ?_
          clear hst
          rintro k τ w ⟨q, most, fst, hfst, hmx, hq, hkq, hs7, hs8, hs9, hs10, hs14, hs15, hs16, hs17, hst⟩
          refine CW.seq ?_
          refine CW.seq ?_
          refine CW.region ?_
          refine RW.soft Wd.a (v := .int .i64 ((q : Nat) : Int)) (by exact E.move (AF_ev rfl hs17)) ?_
          refine RW.soft Wd.a (v := .slice X2 ((madeR bits).length) c3) (by exact E.move (AF_ev rfl (up rfl hs8))) ?_
          refine RW.soft Wd.a (v := .int .i64 (((madeR bits).length : Nat) : Int)) (by exact E.lenS (p := X2) (l := (madeR bits).length) (c := c3) Try.underlying58 (AF_ev rfl tp)) ?_
          refine RW.soft Wd.a (v := .bool (decide (((q : Nat) : Int) < (((madeR bits).length : Nat) : Int)))) (by exact E.lss (k := .i64) (a := ((q : Nat) : Int)) (b := (((madeR bits).length : Nat) : Int)) (AF_ev rfl (up rfl (up rfl tp))) (AF_ev rfl tp)) ?_
          refine RW.fin (fun τ => τ 7 = .bool true ∧ τ 8 = .slice X2 ((madeR bits).length) c3 ∧ τ 9 = .slice (some ⟨g, 0, none⟩) (((ys.take 30).set i (v + dd)).length) c8 ∧ τ 10 = .int .i64 (bestOf (madeR bits) (ys.take 30) (madeR bits)) ∧ τ 14 = .int .i64 (bestOf (madeR bits) ((ys.take 30).set i (v + dd)) (madeR bits)) ∧ τ 15 = .int .i64 most ∧ τ 16 = .bool fst ∧ τ 17 = .int .i64 ((q : Nat) : Int) ∧ τ 80 = .bool (decide (((q : Nat) : Int) < (((madeR bits).length : Nat) : Int)))) ⟨up rfl (up rfl (up rfl (up rfl hs7))), up rfl (up rfl (up rfl (up rfl hs8))), up rfl (up rfl (up rfl (up rfl hs9))), up rfl (up rfl (up rfl (up rfl hs10))), up rfl (up rfl (up rfl (up rfl hs14))), up rfl (up rfl (up rfl (up rfl hs15))), up rfl (up rfl (up rfl (up rfl hs16))), up rfl (up rfl (up rfl (up rfl hs17))), tp⟩ ?_
          rintro τ ⟨hs7, hs8, hs9, hs10, hs14, hs15, hs16, hs17, hs80⟩
          refine CW.cond (AF_ev rfl hs80) (fun hc33 => ?_) (fun hc33 => ?_)
          · have hc33_ := hc33
            try simp only [decide_eq_true_eq, decide_eq_false_iff_not, Bool.and_eq_true, Bool.or_eq_true, Bool.and_eq_false_iff, Bool.or_eq_false_iff, Bool.not_eq_true', Bool.not_eq_false', beq_iff_eq, beq_eq_false_iff_ne, bne_iff_ne, bne_eq_false_iff_eq, ne_eq, Int.not_lt, Int.not_le, gt_iff_lt, ge_iff_le] at hc33_
            refine CW.skip ?_
            refine Th.n ?_
            refine CW.seq ?_
            refine CW.block ?_
            refine CW.seq ?_
            refine CW.region ?_
            refine RW.soft Wd.a (v := .int .i64 0) (by exact E.assign rfl) ?_
            refine RW.fin (fun τ => τ 7 = .bool true ∧ τ 8 = .slice X2 ((madeR bits).length) c3 ∧ τ 9 = .slice (some ⟨g, 0, none⟩) (((ys.take 30).set i (v + dd)).length) c8 ∧ τ 10 = .int .i64 (bestOf (madeR bits) (ys.take 30) (madeR bits)) ∧ τ 14 = .int .i64 (bestOf (madeR bits) ((ys.take 30).set i (v + dd)) (madeR bits)) ∧ τ 15 = .int .i64 most ∧ τ 16 = .bool fst ∧ τ 17 = .int .i64 ((q : Nat) : Int) ∧ τ 18 = .int .i64 0 ∧ τ 80 = .bool true) ⟨up rfl hs7, up rfl hs8, up rfl hs9, up rfl hs10, up rfl hs14, up rfl hs15, up rfl hs16, up rfl hs17, tp, up rfl (Eq.trans hs80 (congrArg Value.bool hc33))⟩ ?_
            rintro τ ⟨hs7, hs8, hs9, hs10, hs14, hs15, hs16, hs17, hs18, hs80⟩
            refine CW.seq ?_
            refine CW.seq ?_
            obtain ⟨x, hx⟩ : ∃ z, (madeR bits)[q]? = some z := ⟨(madeR bits)[q]'(by omega), List.getElem?_eq_getElem (by omega)⟩
            obtain ⟨b9, o9, hp9, hcell9⟩ := Las.place hLX2 (by omega)
            subst hp9
            have hxm := made_mem (List.mem_of_getElem? hx)
            refine CW.region ?_
            refine RW.soft Wd.a (v := .slice (some ⟨b9, o9, none⟩) ((madeR bits).length) c3) (by exact E.move (AF_ev rfl hs8)) ?_
            refine RW.soft Wd.a (v := .int .i64 ((q : Nat) : Int)) (by exact E.move (AF_ev rfl (up rfl hs17))) ?_
            refine RW.soft Wd.a (v := .pointer (some ⟨b9, o9 + q * 1, none⟩)) (by exact E.indexAddr (b := b9) (o := o9) (l := (madeR bits).length) (c := c3) (i := ((q : Nat) : Int)) Try.underlying58 sz3 (AF_ev rfl (up rfl tp)) (AF_ev rfl tp) (by omega) (by omega) (by simp)) ?_
            refine RW.soft Wd.a (v := .int .i64 x) (by exact E.load (a := ⟨b9, o9 + q * 1, none⟩) Try.underlying3 rfl (AF_ev rfl tp) (by exact hcell9 hst _ _ (flat_get (j := 0) ienc_len hx (rfl)))) ?_
            refine RW.soft Wd.a (v := .slice (some ⟨g, 0, none⟩) (((ys.take 30).set i (v + dd)).length) c8) (by exact E.move (AF_ev rfl (up rfl (up rfl (up rfl (up rfl hs9)))))) ?_
            refine RW.soft Wd.a (v := .int .i64 ((((ys.take 30).set i (v + dd)).length : Nat) : Int)) (by exact E.lenS (p := (some ⟨g, 0, none⟩)) (l := ((ys.take 30).set i (v + dd)).length) (c := c8) Try.underlying58 (AF_ev rfl tp)) ?_
            refine RW.soft Wd.a (v := .bool (decide (x < ((((ys.take 30).set i (v + dd)).length : Nat) : Int)))) (by exact E.lss (k := .i64) (a := x) (b := ((((ys.take 30).set i (v + dd)).length : Nat) : Int)) (AF_ev rfl (up rfl (up rfl tp))) (AF_ev rfl tp)) ?_
            refine RW.fin (fun τ => τ 7 = .bool true ∧ τ 8 = .slice (some ⟨b9, o9, none⟩) ((madeR bits).length) c3 ∧ τ 9 = .slice (some ⟨g, 0, none⟩) (((ys.take 30).set i (v + dd)).length) c8 ∧ τ 10 = .int .i64 (bestOf (madeR bits) (ys.take 30) (madeR bits)) ∧ τ 14 = .int .i64 (bestOf (madeR bits) ((ys.take 30).set i (v + dd)) (madeR bits)) ∧ τ 15 = .int .i64 most ∧ τ 16 = .bool fst ∧ τ 17 = .int .i64 ((q : Nat) : Int) ∧ τ 18 = .int .i64 0 ∧ τ 80 = .bool true ∧ τ 89 = .bool (decide (x < ((((ys.take 30).set i (v + dd)).length : Nat) : Int)))) ⟨up rfl (up rfl (up rfl (up rfl (up rfl (up rfl (up rfl hs7)))))), up rfl (up rfl (up rfl (up rfl (up rfl (up rfl (up rfl hs8)))))), up rfl (up rfl (up rfl (up rfl (up rfl (up rfl (up rfl hs9)))))), up rfl (up rfl (up rfl (up rfl (up rfl (up rfl (up rfl hs10)))))), up rfl (up rfl (up rfl (up rfl (up rfl (up rfl (up rfl hs14)))))), up rfl (up rfl (up rfl (up rfl (up rfl (up rfl (up rfl hs15)))))), up rfl (up rfl (up rfl (up rfl (up rfl (up rfl (up rfl hs16)))))), up rfl (up rfl (up rfl (up rfl (up rfl (up rfl (up rfl hs17)))))), up rfl (up rfl (up rfl (up rfl (up rfl (up rfl (up rfl hs18)))))), up rfl (up rfl (up rfl (up rfl (up rfl (up rfl (up rfl hs80)))))), tp⟩ ?_
            rintro τ ⟨hs7, hs8, hs9, hs10, hs14, hs15, hs16, hs17, hs18, hs80, hs89⟩
            refine CW.cond (AF_ev rfl hs89) (fun hc34 => ?_) (fun hc34 => ?_)
            · have hc34_ := hc34
              try simp only [decide_eq_true_eq, decide_eq_false_iff_not, Bool.and_eq_true, Bool.or_eq_true, Bool.and_eq_false_iff, Bool.or_eq_false_iff, Bool.not_eq_true', Bool.not_eq_false', beq_iff_eq, beq_eq_false_iff_ne, bne_iff_ne, bne_eq_false_iff_eq, ne_eq, Int.not_lt, Int.not_le, gt_iff_lt, ge_iff_le] at hc34_
              obtain ⟨z, hz⟩ : ∃ z, ((ys.take 30).set i (v + dd))[x.toNat]? = some z := ⟨((ys.take 30).set i (v + dd))[x.toNat]'(by omega), List.getElem?_eq_getElem (by omega)⟩
              have hpl := place_in (by omega) hz
              refine CW.region ?_
              refine RW.soft Wd.a (v := .slice (some ⟨g, 0, none⟩) (((ys.take 30).set i (v + dd)).length) c8) (by exact E.move (AF_ev rfl hs9)) ?_
              refine RW.soft Wd.a (v := .slice (some ⟨b9, o9, none⟩) ((madeR bits).length) c3) (by exact E.move (AF_ev rfl (up rfl hs8))) ?_
              refine RW.soft Wd.a (v := .int .i64 ((q : Nat) : Int)) (by exact E.move (AF_ev rfl (up rfl (up rfl hs17)))) ?_
              refine RW.soft Wd.a (v := .pointer (some ⟨b9, o9 + q * 1, none⟩)) (by exact E.indexAddr (b := b9) (o := o9) (l := (madeR bits).length) (c := c3) (i := ((q : Nat) : Int)) Try.underlying58 sz3 (AF_ev rfl (up rfl tp)) (AF_ev rfl tp) (by omega) (by omega) (by simp)) ?_
              refine RW.soft Wd.a (v := .int .i64 x) (by exact E.load (a := ⟨b9, o9 + q * 1, none⟩) Try.underlying3 rfl (AF_ev rfl tp) (by exact hcell9 hst _ _ (flat_get (j := 0) ienc_len hx (rfl)))) ?_
              refine RW.soft Wd.a (v := .pointer (some ⟨g, (x).toNat * 1, none⟩)) (by exact E.indexAddr (b := g) (o := 0) (l := ((ys.take 30).set i (v + dd)).length) (c := c8) (i := x) Try.underlying58 sz3 (AF_ev rfl (up rfl (up rfl (up rfl (up rfl tp))))) (AF_ev rfl tp) (by omega) (by omega) (by simp)) ?_
              refine RW.soft Wd.a (v := .int .i64 z) (by exact E.load (a := ⟨g, (x).toNat * 1, none⟩) Try.underlying3 rfl (AF_ev rfl tp) (hst.ocell .here (flat_get (j := 0) ienc_len hz (rfl)))) ?_
              refine RW.soft Wd.a (v := .int .i64 z) (by exact E.assign (AF_ev rfl tp)) ?_
              refine RW.fin (fun τ => τ 7 = .bool true ∧ τ 8 = .slice (some ⟨b9, o9, none⟩) ((madeR bits).length) c3 ∧ τ 9 = .slice (some ⟨g, 0, none⟩) (((ys.take 30).set i (v + dd)).length) c8 ∧ τ 10 = .int .i64 (bestOf (madeR bits) (ys.take 30) (madeR bits)) ∧ τ 14 = .int .i64 (bestOf (madeR bits) ((ys.take 30).set i (v + dd)) (madeR bits)) ∧ τ 15 = .int .i64 most ∧ τ 16 = .bool fst ∧ τ 17 = .int .i64 ((q : Nat) : Int) ∧ τ 18 = .int .i64 z ∧ τ 80 = .bool true ∧ τ 89 = .bool true) ⟨up rfl (up rfl (up rfl (up rfl (up rfl (up rfl (up rfl (up rfl hs7))))))), up rfl (up rfl (up rfl (up rfl (up rfl (up rfl (up rfl (up rfl hs8))))))), up rfl (up rfl (up rfl (up rfl (up rfl (up rfl (up rfl (up rfl hs9))))))), up rfl (up rfl (up rfl (up rfl (up rfl (up rfl (up rfl (up rfl hs10))))))), up rfl (up rfl (up rfl (up rfl (up rfl (up rfl (up rfl (up rfl hs14))))))), up rfl (up rfl (up rfl (up rfl (up rfl (up rfl (up rfl (up rfl hs15))))))), up rfl (up rfl (up rfl (up rfl (up rfl (up rfl (up rfl (up rfl hs16))))))), up rfl (up rfl (up rfl (up rfl (up rfl (up rfl (up rfl (up rfl hs17))))))), tp, up rfl (up rfl (up rfl (up rfl (up rfl (up rfl (up rfl (up rfl hs80))))))), up rfl (up rfl (up rfl (up rfl (up rfl (up rfl (up rfl (up rfl (Eq.trans hs89 (congrArg Value.bool hc34)))))))))⟩ ?_
              rintro τ ⟨hs7, hs8, hs9, hs10, hs14, hs15, hs16, hs17, hs18, hs80, hs89⟩
              refine CW.seq ?_
              refine CW.seq ?_
              refine CW.cut (fun τ => τ 7 = .bool true ∧ τ 8 = .slice (some ⟨b9, o9, none⟩) ((madeR bits).length) c3 ∧ τ 9 = .slice (some ⟨g, 0, none⟩) (((ys.take 30).set i (v + dd)).length) c8 ∧ τ 10 = .int .i64 (bestOf (madeR bits) (ys.take 30) (madeR bits)) ∧ τ 14 = .int .i64 (bestOf (madeR bits) ((ys.take 30).set i (v + dd)) (madeR bits)) ∧ τ 15 = .int .i64 most ∧ τ 16 = .bool fst ∧ τ 17 = .int .i64 ((q : Nat) : Int) ∧ τ 18 = .int .i64 z ∧ τ 80 = .bool true ∧ τ 89 = .bool true ∧ τ 102 = .bool (fst || (decide (z > most)))) ?_ ?_
              · refine CW.region ?_
                refine RW.soft Wd.a (v := .bool fst) (by exact E.move (AF_ev rfl hs16)) ?_
                refine RW.soft Wd.a (v := .bool fst) (by exact E.move (AF_ev rfl tp)) ?_
                refine Or.elim (Bool.eq_false_or_eq_true fst) (fun hg35 => ?_) (fun hg35 => ?_)
                · have hg35_ := hg35
                  try simp only [decide_eq_true_eq, decide_eq_false_iff_not, Bool.and_eq_true, Bool.or_eq_true, Bool.and_eq_false_iff, Bool.or_eq_false_iff, Bool.not_eq_true', Bool.not_eq_false', beq_iff_eq, beq_eq_false_iff_ne, bne_iff_ne, bne_eq_false_iff_eq, ne_eq, Int.not_lt, Int.not_le, gt_iff_lt, ge_iff_le] at hg35_
                  refine RW.pass (by exact Wd.no (x := 98) (b := true) rfl (AF_ev rfl (Eq.trans tp (congrArg Value.bool hg35))) rfl) ?_
                  refine RW.pass (by exact Wd.no (x := 98) (b := true) rfl (AF_ev rfl (up rfl (Eq.trans tp (congrArg Value.bool hg35)))) rfl) ?_
                  refine RW.pass (by exact Wd.no (x := 98) (b := true) rfl (AF_ev rfl (up rfl (up rfl (Eq.trans tp (congrArg Value.bool hg35))))) rfl) ?_
                  refine RW.soft Wd.a (v := .bool true) (by exact E.pickT (AF_ev rfl (up rfl (up rfl (up rfl (Eq.trans tp (congrArg Value.bool hg35)))))) rfl) ?_
                  refine RW.nil ⟨rfl, rfl, up rfl (up rfl (up rfl (up rfl (up rfl (up rfl hs7))))), up rfl (up rfl (up rfl (up rfl (up rfl (up rfl hs8))))), up rfl (up rfl (up rfl (up rfl (up rfl (up rfl hs9))))), up rfl (up rfl (up rfl (up rfl (up rfl (up rfl hs10))))), up rfl (up rfl (up rfl (up rfl (up rfl (up rfl hs14))))), up rfl (up rfl (up rfl (up rfl (up rfl (up rfl hs15))))), (bool_eq (a := true) (up rfl (up rfl (up rfl (up rfl (up rfl (up rfl (Eq.trans hs16 (congrArg Value.bool hg35)))))))) (by simp only [hg35, Bool.true_and, Bool.false_and, Bool.true_or, Bool.false_or])), up rfl (up rfl (up rfl (up rfl (up rfl (up rfl hs17))))), up rfl (up rfl (up rfl (up rfl (up rfl (up rfl hs18))))), up rfl (up rfl (up rfl (up rfl (up rfl (up rfl hs80))))), up rfl (up rfl (up rfl (up rfl (up rfl (up rfl hs89))))), (bool_eq (a := true) tp (by simp only [hg35, Bool.true_and, Bool.false_and, Bool.true_or, Bool.false_or]))⟩
                · have hg35_ := hg35
                  try simp only [decide_eq_true_eq, decide_eq_false_iff_not, Bool.and_eq_true, Bool.or_eq_true, Bool.and_eq_false_iff, Bool.or_eq_false_iff, Bool.not_eq_true', Bool.not_eq_false', beq_iff_eq, beq_eq_false_iff_ne, bne_iff_ne, bne_eq_false_iff_eq, ne_eq, Int.not_lt, Int.not_le, gt_iff_lt, ge_iff_le] at hg35_
                  refine RW.soft (by exact Wd.yes (x := 98) rfl (AF_ev rfl (Eq.trans tp (congrArg Value.bool hg35)))) (v := .int .i64 z) (by exact E.move (AF_ev rfl (up rfl (up rfl hs18)))) ?_
                  refine RW.soft (by exact Wd.yes (x := 98) rfl (AF_ev rfl (up rfl (Eq.trans tp (congrArg Value.bool hg35))))) (v := .int .i64 most) (by exact E.move (AF_ev rfl (up rfl (up rfl (up rfl hs15))))) ?_
                  refine RW.soft (by exact Wd.yes (x := 98) rfl (AF_ev rfl (up rfl (up rfl (Eq.trans tp (congrArg Value.bool hg35)))))) (v := .bool (decide (z > most))) (by exact E.gtr (k := .i64) (a := z) (b := most) (AF_ev rfl (up rfl tp)) (AF_ev rfl tp)) ?_
                  refine RW.soft Wd.a (v := .bool (decide (z > most))) (by exact E.pickF (AF_ev rfl (up rfl (up rfl (up rfl (Eq.trans tp (congrArg Value.bool hg35)))))) (AF_ev rfl tp)) ?_
                  refine RW.nil ⟨rfl, rfl, up rfl (up rfl (up rfl (up rfl (up rfl (up rfl hs7))))), up rfl (up rfl (up rfl (up rfl (up rfl (up rfl hs8))))), up rfl (up rfl (up rfl (up rfl (up rfl (up rfl hs9))))), up rfl (up rfl (up rfl (up rfl (up rfl (up rfl hs10))))), up rfl (up rfl (up rfl (up rfl (up rfl (up rfl hs14))))), up rfl (up rfl (up rfl (up rfl (up rfl (up rfl hs15))))), (bool_eq (a := false) (up rfl (up rfl (up rfl (up rfl (up rfl (up rfl (Eq.trans hs16 (congrArg Value.bool hg35)))))))) (by simp only [hg35, Bool.true_and, Bool.false_and, Bool.true_or, Bool.false_or])), up rfl (up rfl (up rfl (up rfl (up rfl (up rfl hs17))))), up rfl (up rfl (up rfl (up rfl (up rfl (up rfl hs18))))), up rfl (up rfl (up rfl (up rfl (up rfl (up rfl hs80))))), up rfl (up rfl (up rfl (up rfl (up rfl (up rfl hs89))))), (bool_eq (a := decide (z > most)) tp (by simp only [hg35, Bool.true_and, Bool.false_and, Bool.true_or, Bool.false_or]))⟩
              rintro τ ⟨hs7, hs8, hs9, hs10, hs14, hs15, hs16, hs17, hs18, hs80, hs89, hs102⟩
              refine CW.cond (AF_ev rfl hs102) (fun hc36 => ?_) (fun hc36 => ?_)
              · have hc36_ := hc36
                try simp only [decide_eq_true_eq, decide_eq_false_iff_not, Bool.and_eq_true, Bool.or_eq_true, Bool.and_eq_false_iff, Bool.or_eq_false_iff, Bool.not_eq_true', Bool.not_eq_false', beq_iff_eq, beq_eq_false_iff_ne, bne_iff_ne, bne_eq_false_iff_eq, ne_eq, Int.not_lt, Int.not_le, gt_iff_lt, ge_iff_le] at hc36_
                refine CW.region ?_
                refine RW.soft Wd.a (v := .int .i64 z) (by exact E.move (AF_ev rfl hs18)) ?_
                refine RW.soft Wd.a (v := .int .i64 z) (by exact E.assign (AF_ev rfl tp)) ?_
                refine RW.fin (fun τ => τ 7 = .bool true ∧ τ 8 = .slice (some ⟨b9, o9, none⟩) ((madeR bits).length) c3 ∧ τ 9 = .slice (some ⟨g, 0, none⟩) (((ys.take 30).set i (v + dd)).length) c8 ∧ τ 10 = .int .i64 (bestOf (madeR bits) (ys.take 30) (madeR bits)) ∧ τ 14 = .int .i64 (bestOf (madeR bits) ((ys.take 30).set i (v + dd)) (madeR bits)) ∧ τ 15 = .int .i64 z ∧ τ 16 = .bool fst ∧ τ 17 = .int .i64 ((q : Nat) : Int) ∧ τ 18 = .int .i64 z ∧ τ 80 = .bool true ∧ τ 89 = .bool true ∧ τ 102 = .bool true) ⟨up rfl (up rfl hs7), up rfl (up rfl hs8), up rfl (up rfl hs9), up rfl (up rfl hs10), up rfl (up rfl hs14), tp, up rfl (up rfl hs16), up rfl (up rfl hs17), up rfl (up rfl hs18), up rfl (up rfl hs80), up rfl (up rfl hs89), up rfl (up rfl (Eq.trans hs102 (congrArg Value.bool hc36)))⟩ ?_
                rintro τ ⟨hs7, hs8, hs9, hs10, hs14, hs15, hs16, hs17, hs18, hs80, hs89, hs102⟩
                refine CW.region ?_
                refine RW.soft Wd.a (v := .bool false) (by exact E.assign rfl) ?_
                refine RW.nil ?_
                refine Bl.n ?_
                refine Th.n ?_
                refine CW.region ?_
                refine RW.soft Wd.a (v := .int .i64 ((q : Nat) : Int)) (by exact E.move (AF_ev rfl (up rfl hs17))) ?_
                refine RW.soft Wd.a (v := .int .i64 (((q : Nat) : Int) + 1)) (by exact E.add (k := .i64) (a := ((q : Nat) : Int)) (b := 1) (AF_ev rfl tp) rfl (show IntKind.i64.wrap (((q : Nat) : Int) + 1) = ((q : Nat) : Int) + 1 from (by rw [IntWalk.i64_in _ (by omega)]))) ?_
                refine RW.soft Wd.a (v := .int .i64 (((q : Nat) : Int) + 1)) (by exact E.assign (AF_ev rfl tp)) ?_
                refine RW.nil ?_
                refine Th.n ?_
                have hor : (fst || decide (z > most)) = true := by assumption
                have hmx2 : ∀ y ∈ (madeR bits).take (q + 1), placeOf ((ys.take 30).set i (v + dd)) y ≤ z := by
                  intro y hy
                  rw [List.take_add_one, hx] at hy
                  rcases List.mem_append.1 hy with h | h
                  · have h1 := hmx y h
                    have hq0 : q ≠ 0 := fun e => by subst e; rw [List.take_zero] at h; cases h
                    rw [hfst, decide_eq_false hq0, Bool.false_or] at hor
                    have := of_decide_eq_true hor
                    omega
                  · rw [Option.toList_some, List.mem_singleton] at h; subst h; rw [hpl]; exact Int.le_refl _
                exact ⟨(madeR bits).length - (q + 1), by omega, q + 1, z, false, rfl, hmx2, (by omega), rfl, up rfl (up rfl (up rfl (up rfl hs7))), up rfl (up rfl (up rfl (up rfl hs8))), up rfl (up rfl (up rfl (up rfl hs9))), up rfl (up rfl (up rfl (up rfl hs10))), up rfl (up rfl (up rfl (up rfl hs14))), up rfl (up rfl (up rfl (up rfl hs15))), up rfl (up rfl (up rfl tp)), (int_eq (a := ((q : Nat) : Int) + 1) tp (by omega)), hst⟩
              · have hc36_ := hc36
                try simp only [decide_eq_true_eq, decide_eq_false_iff_not, Bool.and_eq_true, Bool.or_eq_true, Bool.and_eq_false_iff, Bool.or_eq_false_iff, Bool.not_eq_true', Bool.not_eq_false', beq_iff_eq, beq_eq_false_iff_ne, bne_iff_ne, bne_eq_false_iff_eq, ne_eq, Int.not_lt, Int.not_le, gt_iff_lt, ge_iff_le] at hc36_
                refine CW.skip ?_
                refine Th.n ?_
                refine CW.region ?_
                refine RW.soft Wd.a (v := .bool false) (by exact E.assign rfl) ?_
                refine RW.nil ?_
                refine Bl.n ?_
                refine Th.n ?_
                refine CW.region ?_
                refine RW.soft Wd.a (v := .int .i64 ((q : Nat) : Int)) (by exact E.move (AF_ev rfl (up rfl hs17))) ?_
                refine RW.soft Wd.a (v := .int .i64 (((q : Nat) : Int) + 1)) (by exact E.add (k := .i64) (a := ((q : Nat) : Int)) (b := 1) (AF_ev rfl tp) rfl (show IntKind.i64.wrap (((q : Nat) : Int) + 1) = ((q : Nat) : Int) + 1 from (by rw [IntWalk.i64_in _ (by omega)]))) ?_
                refine RW.soft Wd.a (v := .int .i64 (((q : Nat) : Int) + 1)) (by exact E.assign (AF_ev rfl tp)) ?_
                refine RW.nil ?_
                refine Th.n ?_
                have hor : (fst || decide (z > most)) = false := by assumption
                have hmx2 : ∀ y ∈ (madeR bits).take (q + 1), placeOf ((ys.take 30).set i (v + dd)) y ≤ most := by
                  intro y hy
                  rw [List.take_add_one, hx] at hy
                  rcases List.mem_append.1 hy with h | h
                  · exact hmx y h
                  · rw [Option.toList_some, List.mem_singleton] at h; subst h; rw [hpl]
                    have := of_decide_eq_false (Bool.or_eq_false_iff.1 hor).2
                    omega
                exact ⟨(madeR bits).length - (q + 1), by omega, q + 1, most, false, rfl, hmx2, (by omega), rfl, up rfl (up rfl (up rfl (up rfl hs7))), up rfl (up rfl (up rfl (up rfl hs8))), up rfl (up rfl (up rfl (up rfl hs9))), up rfl (up rfl (up rfl (up rfl hs10))), up rfl (up rfl (up rfl (up rfl hs14))), up rfl (up rfl (up rfl (up rfl hs15))), up rfl (up rfl (up rfl tp)), (int_eq (a := ((q : Nat) : Int) + 1) tp (by omega)), hst⟩
            · have hc34_ := hc34
              try simp only [decide_eq_true_eq, decide_eq_false_iff_not, Bool.and_eq_true, Bool.or_eq_true, Bool.and_eq_false_iff, Bool.or_eq_false_iff, Bool.not_eq_true', Bool.not_eq_false', beq_iff_eq, beq_eq_false_iff_ne, bne_iff_ne, bne_eq_false_iff_eq, ne_eq, Int.not_lt, Int.not_le, gt_iff_lt, ge_iff_le] at hc34_
              refine CW.skip ?_
              refine Th.n ?_
              refine CW.seq ?_
              refine CW.seq ?_
              have hpl := place_out (zs := ((ys.take 30).set i (v + dd))) (i := x) (by omega)
              refine CW.cut (fun τ => τ 7 = .bool true ∧ τ 8 = .slice (some ⟨b9, o9, none⟩) ((madeR bits).length) c3 ∧ τ 9 = .slice (some ⟨g, 0, none⟩) (((ys.take 30).set i (v + dd)).length) c8 ∧ τ 10 = .int .i64 (bestOf (madeR bits) (ys.take 30) (madeR bits)) ∧ τ 14 = .int .i64 (bestOf (madeR bits) ((ys.take 30).set i (v + dd)) (madeR bits)) ∧ τ 15 = .int .i64 most ∧ τ 16 = .bool fst ∧ τ 17 = .int .i64 ((q : Nat) : Int) ∧ τ 18 = .int .i64 0 ∧ τ 80 = .bool true ∧ τ 89 = .bool false ∧ τ 102 = .bool (fst || (decide (0 > most)))) ?_ ?_
              · refine CW.region ?_
                refine RW.soft Wd.a (v := .bool fst) (by exact E.move (AF_ev rfl hs16)) ?_
                refine RW.soft Wd.a (v := .bool fst) (by exact E.move (AF_ev rfl tp)) ?_
                refine Or.elim (Bool.eq_false_or_eq_true fst) (fun hg37 => ?_) (fun hg37 => ?_)
                · have hg37_ := hg37
                  try simp only [decide_eq_true_eq, decide_eq_false_iff_not, Bool.and_eq_true, Bool.or_eq_true, Bool.and_eq_false_iff, Bool.or_eq_false_iff, Bool.not_eq_true', Bool.not_eq_false', beq_iff_eq, beq_eq_false_iff_ne, bne_iff_ne, bne_eq_false_iff_eq, ne_eq, Int.not_lt, Int.not_le, gt_iff_lt, ge_iff_le] at hg37_
                  refine RW.pass (by exact Wd.no (x := 98) (b := true) rfl (AF_ev rfl (Eq.trans tp (congrArg Value.bool hg37))) rfl) ?_
                  refine RW.pass (by exact Wd.no (x := 98) (b := true) rfl (AF_ev rfl (up rfl (Eq.trans tp (congrArg Value.bool hg37)))) rfl) ?_
                  refine RW.pass (by exact Wd.no (x := 98) (b := true) rfl (AF_ev rfl (up rfl (up rfl (Eq.trans tp (congrArg Value.bool hg37))))) rfl) ?_
                  refine RW.soft Wd.a (v := .bool true) (by exact E.pickT (AF_ev rfl (up rfl (up rfl (up rfl (Eq.trans tp (congrArg Value.bool hg37)))))) rfl) ?_
                  refine RW.nil ⟨rfl, rfl, up rfl (up rfl (up rfl (up rfl (up rfl (up rfl hs7))))), up rfl (up rfl (up rfl (up rfl (up rfl (up rfl hs8))))), up rfl (up rfl (up rfl (up rfl (up rfl (up rfl hs9))))), up rfl (up rfl (up rfl (up rfl (up rfl (up rfl hs10))))), up rfl (up rfl (up rfl (up rfl (up rfl (up rfl hs14))))), up rfl (up rfl (up rfl (up rfl (up rfl (up rfl hs15))))), (bool_eq (a := true) (up rfl (up rfl (up rfl (up rfl (up rfl (up rfl (Eq.trans hs16 (congrArg Value.bool hg37)))))))) (by simp only [hg37, Bool.true_and, Bool.false_and, Bool.true_or, Bool.false_or])), up rfl (up rfl (up rfl (up rfl (up rfl (up rfl hs17))))), up rfl (up rfl (up rfl (up rfl (up rfl (up rfl hs18))))), up rfl (up rfl (up rfl (up rfl (up rfl (up rfl hs80))))), up rfl (up rfl (up rfl (up rfl (up rfl (up rfl (Eq.trans hs89 (congrArg Value.bool hc34))))))), (bool_eq (a := true) tp (by simp only [hg37, Bool.true_and, Bool.false_and, Bool.true_or, Bool.false_or]))⟩
                · have hg37_ := hg37
                  try simp only [decide_eq_true_eq, decide_eq_false_iff_not, Bool.and_eq_true, Bool.or_eq_true, Bool.and_eq_false_iff, Bool.or_eq_false_iff, Bool.not_eq_true', Bool.not_eq_false', beq_iff_eq, beq_eq_false_iff_ne, bne_iff_ne, bne_eq_false_iff_eq, ne_eq, Int.not_lt, Int.not_le, gt_iff_lt, ge_iff_le] at hg37_
                  refine RW.soft (by exact Wd.yes (x := 98) rfl (AF_ev rfl (Eq.trans tp (congrArg Value.bool hg37)))) (v := .int .i64 0) (by exact E.move (AF_ev rfl (up rfl (up rfl hs18)))) ?_
                  refine RW.soft (by exact Wd.yes (x := 98) rfl (AF_ev rfl (up rfl (Eq.trans tp (congrArg Value.bool hg37))))) (v := .int .i64 most) (by exact E.move (AF_ev rfl (up rfl (up rfl (up rfl hs15))))) ?_
                  refine RW.soft (by exact Wd.yes (x := 98) rfl (AF_ev rfl (up rfl (up rfl (Eq.trans tp (congrArg Value.bool hg37)))))) (v := .bool (decide (0 > most))) (by exact E.gtr (k := .i64) (a := 0) (b := most) (AF_ev rfl (up rfl tp)) (AF_ev rfl tp)) ?_
                  refine RW.soft Wd.a (v := .bool (decide (0 > most))) (by exact E.pickF (AF_ev rfl (up rfl (up rfl (up rfl (Eq.trans tp (congrArg Value.bool hg37)))))) (AF_ev rfl tp)) ?_
                  refine RW.nil ⟨rfl, rfl, up rfl (up rfl (up rfl (up rfl (up rfl (up rfl hs7))))), up rfl (up rfl (up rfl (up rfl (up rfl (up rfl hs8))))), up rfl (up rfl (up rfl (up rfl (up rfl (up rfl hs9))))), up rfl (up rfl (up rfl (up rfl (up rfl (up rfl hs10))))), up rfl (up rfl (up rfl (up rfl (up rfl (up rfl hs14))))), up rfl (up rfl (up rfl (up rfl (up rfl (up rfl hs15))))), (bool_eq (a := false) (up rfl (up rfl (up rfl (up rfl (up rfl (up rfl (Eq.trans hs16 (congrArg Value.bool hg37)))))))) (by simp only [hg37, Bool.true_and, Bool.false_and, Bool.true_or, Bool.false_or])), up rfl (up rfl (up rfl (up rfl (up rfl (up rfl hs17))))), up rfl (up rfl (up rfl (up rfl (up rfl (up rfl hs18))))), up rfl (up rfl (up rfl (up rfl (up rfl (up rfl hs80))))), up rfl (up rfl (up rfl (up rfl (up rfl (up rfl (Eq.trans hs89 (congrArg Value.bool hc34))))))), (bool_eq (a := decide (0 > most)) tp (by simp only [hg37, Bool.true_and, Bool.false_and, Bool.true_or, Bool.false_or]))⟩
              rintro τ ⟨hs7, hs8, hs9, hs10, hs14, hs15, hs16, hs17, hs18, hs80, hs89, hs102⟩
              refine CW.cond (AF_ev rfl hs102) (fun hc38 => ?_) (fun hc38 => ?_)
              · have hc38_ := hc38
                try simp only [decide_eq_true_eq, decide_eq_false_iff_not, Bool.and_eq_true, Bool.or_eq_true, Bool.and_eq_false_iff, Bool.or_eq_false_iff, Bool.not_eq_true', Bool.not_eq_false', beq_iff_eq, beq_eq_false_iff_ne, bne_iff_ne, bne_eq_false_iff_eq, ne_eq, Int.not_lt, Int.not_le, gt_iff_lt, ge_iff_le] at hc38_
                refine CW.region ?_
                refine RW.soft Wd.a (v := .int .i64 0) (by exact E.move (AF_ev rfl hs18)) ?_
                refine RW.soft Wd.a (v := .int .i64 0) (by exact E.assign (AF_ev rfl tp)) ?_
                refine RW.fin (fun τ => τ 7 = .bool true ∧ τ 8 = .slice (some ⟨b9, o9, none⟩) ((madeR bits).length) c3 ∧ τ 9 = .slice (some ⟨g, 0, none⟩) (((ys.take 30).set i (v + dd)).length) c8 ∧ τ 10 = .int .i64 (bestOf (madeR bits) (ys.take 30) (madeR bits)) ∧ τ 14 = .int .i64 (bestOf (madeR bits) ((ys.take 30).set i (v + dd)) (madeR bits)) ∧ τ 15 = .int .i64 0 ∧ τ 16 = .bool fst ∧ τ 17 = .int .i64 ((q : Nat) : Int) ∧ τ 18 = .int .i64 0 ∧ τ 80 = .bool true ∧ τ 89 = .bool false ∧ τ 102 = .bool true) ⟨up rfl (up rfl hs7), up rfl (up rfl hs8), up rfl (up rfl hs9), up rfl (up rfl hs10), up rfl (up rfl hs14), tp, up rfl (up rfl hs16), up rfl (up rfl hs17), up rfl (up rfl hs18), up rfl (up rfl hs80), up rfl (up rfl hs89), up rfl (up rfl (Eq.trans hs102 (congrArg Value.bool hc38)))⟩ ?_
                rintro τ ⟨hs7, hs8, hs9, hs10, hs14, hs15, hs16, hs17, hs18, hs80, hs89, hs102⟩
                refine CW.region ?_
                refine RW.soft Wd.a (v := .bool false) (by exact E.assign rfl) ?_
                refine RW.nil ?_
                refine Bl.n ?_
                refine Th.n ?_
                refine CW.region ?_
                refine RW.soft Wd.a (v := .int .i64 ((q : Nat) : Int)) (by exact E.move (AF_ev rfl (up rfl hs17))) ?_
                refine RW.soft Wd.a (v := .int .i64 (((q : Nat) : Int) + 1)) (by exact E.add (k := .i64) (a := ((q : Nat) : Int)) (b := 1) (AF_ev rfl tp) rfl (show IntKind.i64.wrap (((q : Nat) : Int) + 1) = ((q : Nat) : Int) + 1 from (by rw [IntWalk.i64_in _ (by omega)]))) ?_
                refine RW.soft Wd.a (v := .int .i64 (((q : Nat) : Int) + 1)) (by exact E.assign (AF_ev rfl tp)) ?_
                refine RW.nil ?_
                refine Th.n ?_
                have hor : (fst || decide (0 > most)) = true := by assumption
                have hmx2 : ∀ y ∈ (madeR bits).take (q + 1), placeOf ((ys.take 30).set i (v + dd)) y ≤ 0 := by
                  intro y hy
                  rw [List.take_add_one, hx] at hy
                  rcases List.mem_append.1 hy with h | h
                  · have h1 := hmx y h
                    have hq0 : q ≠ 0 := fun e => by subst e; rw [List.take_zero] at h; cases h
                    rw [hfst, decide_eq_false hq0, Bool.false_or] at hor
                    have := of_decide_eq_true hor
                    omega
                  · rw [Option.toList_some, List.mem_singleton] at h; subst h; rw [hpl]; exact Int.le_refl _
                exact ⟨(madeR bits).length - (q + 1), by omega, q + 1, 0, false, rfl, hmx2, (by omega), rfl, up rfl (up rfl (up rfl (up rfl hs7))), up rfl (up rfl (up rfl (up rfl hs8))), up rfl (up rfl (up rfl (up rfl hs9))), up rfl (up rfl (up rfl (up rfl hs10))), up rfl (up rfl (up rfl (up rfl hs14))), up rfl (up rfl (up rfl (up rfl hs15))), up rfl (up rfl (up rfl tp)), (int_eq (a := ((q : Nat) : Int) + 1) tp (by omega)), hst⟩
              · have hc38_ := hc38
                try simp only [decide_eq_true_eq, decide_eq_false_iff_not, Bool.and_eq_true, Bool.or_eq_true, Bool.and_eq_false_iff, Bool.or_eq_false_iff, Bool.not_eq_true', Bool.not_eq_false', beq_iff_eq, beq_eq_false_iff_ne, bne_iff_ne, bne_eq_false_iff_eq, ne_eq, Int.not_lt, Int.not_le, gt_iff_lt, ge_iff_le] at hc38_
                refine CW.skip ?_
                refine Th.n ?_
                refine CW.region ?_
                refine RW.soft Wd.a (v := .bool false) (by exact E.assign rfl) ?_
                refine RW.nil ?_
                refine Bl.n ?_
                refine Th.n ?_
                refine CW.region ?_
                refine RW.soft Wd.a (v := .int .i64 ((q : Nat) : Int)) (by exact E.move (AF_ev rfl (up rfl hs17))) ?_
                refine RW.soft Wd.a (v := .int .i64 (((q : Nat) : Int) + 1)) (by exact E.add (k := .i64) (a := ((q : Nat) : Int)) (b := 1) (AF_ev rfl tp) rfl (show IntKind.i64.wrap (((q : Nat) : Int) + 1) = ((q : Nat) : Int) + 1 from (by rw [IntWalk.i64_in _ (by omega)]))) ?_
                refine RW.soft Wd.a (v := .int .i64 (((q : Nat) : Int) + 1)) (by exact E.assign (AF_ev rfl tp)) ?_
                refine RW.nil ?_
                refine Th.n ?_
                have hor : (fst || decide (0 > most)) = false := by assumption
                have hmx2 : ∀ y ∈ (madeR bits).take (q + 1), placeOf ((ys.take 30).set i (v + dd)) y ≤ most := by
                  intro y hy
                  rw [List.take_add_one, hx] at hy
                  rcases List.mem_append.1 hy with h | h
                  · exact hmx y h
                  · rw [Option.toList_some, List.mem_singleton] at h; subst h; rw [hpl]
                    have := of_decide_eq_false (Bool.or_eq_false_iff.1 hor).2
                    omega
                exact ⟨(madeR bits).length - (q + 1), by omega, q + 1, most, false, rfl, hmx2, (by omega), rfl, up rfl (up rfl (up rfl (up rfl hs7))), up rfl (up rfl (up rfl (up rfl hs8))), up rfl (up rfl (up rfl (up rfl hs9))), up rfl (up rfl (up rfl (up rfl hs10))), up rfl (up rfl (up rfl (up rfl hs14))), up rfl (up rfl (up rfl (up rfl hs15))), up rfl (up rfl (up rfl tp)), (int_eq (a := ((q : Nat) : Int) + 1) tp (by omega)), hst⟩
          · have hc33_ := hc33
            try simp only [decide_eq_true_eq, decide_eq_false_iff_not, Bool.and_eq_true, Bool.or_eq_true, Bool.and_eq_false_iff, Bool.or_eq_false_iff, Bool.not_eq_true', Bool.not_eq_false', beq_iff_eq, beq_eq_false_iff_ne, bne_iff_ne, bne_eq_false_iff_eq, ne_eq, Int.not_lt, Int.not_le, gt_iff_lt, ge_iff_le] at hc33_
            refine CW.exit ?_
            refine Th.x ?_
            refine Th.x ?_
            refine Bl.x ?_
            refine Th.n ?_
            refine CW.seq ?_
            rw [List.take_of_length_le (by omega)] at hmx
            have h0m : -9223372036854775808 ≤ most := Int.le_trans (Fit.place hFT2 ((madeR bits)[0]'hmp)).1 (hmx _ (List.getElem_mem hmp))
            refine CW.region ?_
            refine RW.soft Wd.a (v := .bool true) (by exact E.move (AF_ev rfl hs7)) ?_
            refine RW.soft Wd.a (v := .bool true) (by exact E.move (AF_ev rfl tp)) ?_
            refine RW.soft (by exact Wd.yes (x := 105) rfl (AF_ev rfl tp)) (v := .int .i64 (bestOf (madeR bits) ((ys.take 30).set i (v + dd)) (madeR bits))) (by exact E.move (AF_ev rfl (up rfl (up rfl hs14)))) ?_
            refine RW.soft (by exact Wd.yes (x := 105) rfl (AF_ev rfl (up rfl tp))) (v := .int .i64 (bestOf (madeR bits) (ys.take 30) (madeR bits))) (by exact E.move (AF_ev rfl (up rfl (up rfl (up rfl hs10))))) ?_
            refine RW.soft (by exact Wd.yes (x := 105) rfl (AF_ev rfl (up rfl (up rfl tp)))) (v := .bool true) (by exact E.b (a := decide ((bestOf (madeR bits) ((ys.take 30).set i (v + dd)) (madeR bits)) ≥ (bestOf (madeR bits) (ys.take 30) (madeR bits)))) (E.geq (k := .i64) (a := bestOf (madeR bits) ((ys.take 30).set i (v + dd)) (madeR bits)) (b := bestOf (madeR bits) (ys.take 30) (madeR bits)) (AF_ev rfl (up rfl tp)) (AF_ev rfl tp)) (decide_eq_true (best_rises fun x _ => place_set hv hd0.1 x))) ?_
            refine RW.soft Wd.a (v := .bool true) (by exact E.pickT (AF_ev rfl (up rfl (up rfl (up rfl tp)))) (AF_ev rfl tp)) ?_
            refine RW.soft Wd.a (v := .bool true) (by exact E.move (AF_ev rfl tp)) ?_
            refine RW.soft (by exact Wd.yes (x := 110) rfl (AF_ev rfl tp)) (v := .int .i64 (bestOf (madeR bits) ((ys.take 30).set i (v + dd)) (madeR bits))) (by exact E.move (AF_ev rfl (up rfl (up rfl (up rfl (up rfl (up rfl (up rfl (up rfl hs14))))))))) ?_
            refine RW.soft (by exact Wd.yes (x := 110) rfl (AF_ev rfl (up rfl tp))) (v := .int .i64 most) (by exact E.move (AF_ev rfl (up rfl (up rfl (up rfl (up rfl (up rfl (up rfl (up rfl (up rfl hs15)))))))))) ?_
            refine RW.soft (by exact Wd.yes (x := 110) rfl (AF_ev rfl (up rfl (up rfl tp)))) (v := .bool true) (by exact E.b (a := decide ((bestOf (madeR bits) ((ys.take 30).set i (v + dd)) (madeR bits)) ≤ most)) (E.leq (k := .i64) (a := bestOf (madeR bits) ((ys.take 30).set i (v + dd)) (madeR bits)) (b := most) (AF_ev rfl (up rfl tp)) (AF_ev rfl tp)) (decide_eq_true (best_top h0m hmx))) ?_
            refine RW.soft Wd.a (v := .bool true) (by exact E.pickT (AF_ev rfl (up rfl (up rfl (up rfl tp)))) (AF_ev rfl tp)) ?_
            refine RW.soft Wd.a (v := .bool true) (by exact E.assign (AF_ev rfl tp)) ?_
            refine RW.fin (fun τ => τ 6 = .bool true ∧ τ 7 = .bool true ∧ τ 8 = .slice X2 ((madeR bits).length) c3 ∧ τ 9 = .slice (some ⟨g, 0, none⟩) (((ys.take 30).set i (v + dd)).length) c8 ∧ τ 10 = .int .i64 (bestOf (madeR bits) (ys.take 30) (madeR bits)) ∧ τ 14 = .int .i64 (bestOf (madeR bits) ((ys.take 30).set i (v + dd)) (madeR bits)) ∧ τ 15 = .int .i64 most ∧ τ 16 = .bool fst ∧ τ 17 = .int .i64 ((q : Nat) : Int) ∧ τ 80 = .bool false) ⟨tp, up rfl (up rfl (up rfl (up rfl (up rfl (up rfl (up rfl (up rfl (up rfl (up rfl (up rfl (up rfl hs7))))))))))), up rfl (up rfl (up rfl (up rfl (up rfl (up rfl (up rfl (up rfl (up rfl (up rfl (up rfl (up rfl hs8))))))))))), up rfl (up rfl (up rfl (up rfl (up rfl (up rfl (up rfl (up rfl (up rfl (up rfl (up rfl (up rfl hs9))))))))))), up rfl (up rfl (up rfl (up rfl (up rfl (up rfl (up rfl (up rfl (up rfl (up rfl (up rfl (up rfl hs10))))))))))), up rfl (up rfl (up rfl (up rfl (up rfl (up rfl (up rfl (up rfl (up rfl (up rfl (up rfl (up rfl hs14))))))))))), up rfl (up rfl (up rfl (up rfl (up rfl (up rfl (up rfl (up rfl (up rfl (up rfl (up rfl (up rfl hs15))))))))))), up rfl (up rfl (up rfl (up rfl (up rfl (up rfl (up rfl (up rfl (up rfl (up rfl (up rfl (up rfl hs16))))))))))), up rfl (up rfl (up rfl (up rfl (up rfl (up rfl (up rfl (up rfl (up rfl (up rfl (up rfl (up rfl hs17))))))))))), up rfl (up rfl (up rfl (up rfl (up rfl (up rfl (up rfl (up rfl (up rfl (up rfl (up rfl (up rfl (Eq.trans hs80 (congrArg Value.bool hc33)))))))))))))⟩ ?_
            rintro τ ⟨hs6, hs7, hs8, hs9, hs10, hs14, hs15, hs16, hs17, hs80⟩
            refine CW.ret ?_
            refine ret1 (v := .bool true) rfl (by exact (.tmp (AF_ev rfl hs6) .nil)) ?_
            have hst := (hst.take .here).drop
            exact ⟨p, hleX2, rfl, hst⟩
end Go.Proofs.Ytjagffnbobnofaa
