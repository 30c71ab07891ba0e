/- The functions of the package quorum, walked through operation by operation. -/
import Derived.Test.YtjagffnbobnofaaQ0
import Derived.Test.YtjagffnbobnofaaQ3
import Derived.Test.YtjagffnbobnofaaProg
namespace Go.Proofs.Ytjagffnbobnofaa
open Go.RowKit Go.SL Go.Q18
attribute [local irreducible] Go.SL.RW Go.SL.CW Go.SL.RD Go.SL.Hd Go.SL.St
set_option linter.unusedVariables false
set_option linter.unusedSimpArgs false

theorem inf5 : (Try.prog.info? 5).map (fun i => (i.zero, i.size, i.bytes)) = some (some (.int .u8 0), 1, 1) := by kernel_rfl
theorem mixed : Try.prog.follows .mixedOrders = true := by kernel_rfl
theorem nm56 : (Try.f56.name == "runtime.NumGoroutine") = false := by kernel_rfl
theorem nm73 : (Try.f73.name == "runtime.NumGoroutine") = false := by kernel_rfl
theorem sz3 : (Try.prog.info? 3).map (·.size) = some 1 := by kernel_rfl
theorem sz71 : (Try.prog.info? 71).map (·.size) = some 1 := by kernel_rfl

theorem q_Check {p : Pers} {w : World} {R : List Assn} {A : Assn} {X : Option Addr} {c : Nat} {zs : List Int} (hA : TI p A (.slice X zs.length c) zs) (hl : zs.length ≤ 1000000)  (hst : St p w (A :: R)) :
    Calls Try.prog 36 #[.slice X zs.length c] w fun e w => e = .returned (.int .i64 (checkI zs)) ∧ St p w (A :: R) := by
  refine enter Try.func36 rfl (by simp) (n := 23) rfl fun τ hτ => ?_
  have hs0 : τ 0 = .slice X zs.length c := hτ 0 (by simp)
  clear hτ
  refine CW.seq ?_
  refine CW.region ?_
  refine RW.soft Wd.a (v := .int .i64 0) (by exact E.assign rfl) ?_
  refine RW.fin (fun τ => τ 0 = .slice X zs.length c ∧ τ 2 = .int .i64 0) ⟨up rfl hs0, tp⟩ ?_
  rintro τ ⟨hs0, hs2⟩
  refine CW.seq ?_
  refine CW.region ?_
  refine RW.soft Wd.a (v := .int .i64 0) (by exact E.assign rfl) ?_
  refine RW.fin (fun τ => τ 0 = .slice X zs.length c ∧ τ 2 = .int .i64 0 ∧ τ 3 = .int .i64 0) ⟨up rfl hs0, up rfl hs2, tp⟩ ?_
  rintro τ ⟨hs0, hs2, hs3⟩
  refine CW.seq ?_
  refine CW.seq ?_
  refine CW.region ?_
  refine RW.soft Wd.a (v := .slice X zs.length c) (by exact E.move (AF_ev rfl hs0)) ?_
  refine RW.soft Wd.a (v := .int .i64 ((zs.length : Nat) : Int)) (by exact E.lenS (p := X) (l := zs.length) (c := c) Try.underlying58 (AF_ev rfl tp)) ?_
  refine RW.soft Wd.a (v := .int .i64 0) (by exact E.move rfl) ?_
  refine RW.fin (fun τ => τ 0 = .slice X zs.length c ∧ τ 2 = .int .i64 0 ∧ τ 3 = .int .i64 0 ∧ τ 6 = .slice X zs.length c ∧ τ 7 = .int .i64 ((zs.length : Nat) : Int) ∧ τ 8 = .int .i64 0) ⟨up rfl (up rfl (up rfl hs0)), up rfl (up rfl (up rfl hs2)), up rfl (up rfl (up rfl hs3)), up rfl (up rfl tp), up rfl tp, tp⟩ ?_
  rintro τ ⟨hs0, hs2, hs3, hs6, hs7, hs8⟩
  refine CW.block ?_
  refine CW.loop (fun (k : Nat) (τ : Fr) (w : World) => ∃ (j : Nat) (last : Int), okFrom 0 zs = okFrom last (zs.drop j) ∧ (0 ≤ last ∧ (j = 0 → last = 0) ∧ (0 < j → 0 < last)) ∧ j ≤ zs.length ∧ k = zs.length - j ∧ τ 6 = .slice X zs.length c ∧ τ 7 = .int .i64 ((zs.length : Nat) : Int) ∧ τ 8 = .int .i64 ((j : Nat) : Int) ∧ τ 3 = .int .i64 last ∧ St p w (A :: R)) (zs.length - 0) ⟨0, 0, rfl, (by omega), by omega, rfl, hs6, hs7, (int_eq (a := 0) hs8 (by omega)), hs3, hst⟩ ?_
  clear hst
  rintro k τ w ⟨j, last, hf, hlast, hj, hkj, hs6, hs7, hs8, hs3, hst⟩
  refine CW.seq ?_
  refine CW.region ?_
  refine RW.soft Wd.a (v := .bool (decide (((j : Nat) : Int) < ((zs.length : Nat) : Int)))) (by exact E.lss (k := .i64) (a := ((j : Nat) : Int)) (b := ((zs.length : Nat) : Int)) (AF_ev rfl hs8) (AF_ev rfl hs7)) ?_
  refine RW.fin (fun τ => τ 3 = .int .i64 last ∧ τ 6 = .slice X zs.length c ∧ τ 7 = .int .i64 ((zs.length : Nat) : Int) ∧ τ 8 = .int .i64 ((j : Nat) : Int) ∧ τ 9 = .bool (decide (((j : Nat) : Int) < ((zs.length : Nat) : Int)))) ⟨up rfl hs3, up rfl hs6, up rfl hs7, up rfl hs8, tp⟩ ?_
  rintro τ ⟨hs3, hs6, hs7, hs8, hs9⟩
  refine CW.seq ?_
  refine CW.cond (AF_ev rfl hs9) (fun hc1 => ?_) (fun hc1 => ?_)
  · have hc1_ := hc1
    try simp only [decide_eq_true_eq, decide_eq_false_iff_not, Bool.and_eq_true, Bool.or_eq_true, Bool.and_eq_false_iff, Bool.or_eq_false_iff, Bool.not_eq_true', Bool.not_eq_false', beq_iff_eq, beq_eq_false_iff_ne, bne_iff_ne, bne_eq_false_iff_eq, ne_eq, Int.not_lt, Int.not_le, gt_iff_lt, ge_iff_le] at hc1_
    refine CW.skip ?_
    refine Th.n ?_
    refine CW.seq ?_
    refine CW.block ?_
    refine CW.seq ?_
    obtain ⟨b0, o0, rfl, hcell0⟩ := TI.place hA (hst.take .here) (by omega)
    obtain ⟨x, hx⟩ : ∃ z, zs[j]? = some z := ⟨zs[j]'(by omega), List.getElem?_eq_getElem (by omega)⟩
    refine CW.region ?_
    refine RW.soft Wd.a (v := .pointer (some ⟨b0, o0 + j * 1, none⟩)) (by exact E.indexAddr (b := b0) (o := o0) (l := zs.length) (c := c) (i := ((j : Nat) : Int)) Try.underlying58 sz3 (AF_ev rfl hs6) (AF_ev rfl hs8) (by omega) (by omega) (by simp)) ?_
    refine RW.soft Wd.a (v := .int .i64 x) (by exact E.load (a := ⟨b0, o0 + j * 1, none⟩) Try.underlying3 rfl (AF_ev rfl tp) (by exact hcell0 (hst.take .here) _ _ (flat_get (j := 0) ienc_len hx (rfl)))) ?_
    refine RW.soft Wd.a (v := .int .i64 x) (by exact E.assign (AF_ev rfl tp)) ?_
    refine RW.fin (fun τ => τ 3 = .int .i64 last ∧ τ 5 = .int .i64 x ∧ τ 6 = .slice (some ⟨b0, o0, none⟩) zs.length c ∧ τ 7 = .int .i64 ((zs.length : Nat) : Int) ∧ τ 8 = .int .i64 ((j : Nat) : Int) ∧ τ 9 = .bool true) ⟨up rfl (up rfl (up rfl hs3)), tp, up rfl (up rfl (up rfl hs6)), up rfl (up rfl (up rfl hs7)), up rfl (up rfl (up rfl hs8)), up rfl (up rfl (up rfl (Eq.trans hs9 (congrArg Value.bool hc1))))⟩ ?_
    rintro τ ⟨hs3, hs5, hs6, hs7, hs8, hs9⟩
    refine CW.seq ?_
    refine CW.seq ?_
    refine CW.cut (fun τ => τ 3 = .int .i64 last ∧ τ 5 = .int .i64 x ∧ τ 6 = .slice (some ⟨b0, o0, none⟩) zs.length c ∧ τ 7 = .int .i64 ((zs.length : Nat) : Int) ∧ τ 8 = .int .i64 ((j : Nat) : Int) ∧ τ 9 = .bool true ∧ τ 18 = .bool ((decide (x ≤ last)) || (decide (x > 7)))) ?_ ?_
    · refine CW.region ?_
      refine RW.soft Wd.a (v := .int .i64 x) (by exact E.move (AF_ev rfl hs5)) ?_
      refine RW.soft Wd.a (v := .int .i64 last) (by exact E.move (AF_ev rfl (up rfl hs3))) ?_
      refine RW.soft Wd.a (v := .bool (decide (x ≤ last))) (by exact E.leq (k := .i64) (a := x) (b := last) (AF_ev rfl (up rfl tp)) (AF_ev rfl tp)) ?_
      refine RW.soft Wd.a (v := .bool (decide (x ≤ last))) (by exact E.move (AF_ev rfl tp)) ?_
      refine Or.elim (Bool.eq_false_or_eq_true (decide (x ≤ last))) (fun hg2 => ?_) (fun hg2 => ?_)
      · have hg2_ := hg2
        try simp only [decide_eq_true_eq, decide_eq_false_iff_not, Bool.and_eq_true, Bool.or_eq_true, Bool.and_eq_false_iff, Bool.or_eq_false_iff, Bool.not_eq_true', Bool.not_eq_false', beq_iff_eq, beq_eq_false_iff_ne, bne_iff_ne, bne_eq_false_iff_eq, ne_eq, Int.not_lt, Int.not_le, gt_iff_lt, ge_iff_le] at hg2_
        refine RW.pass (by exact Wd.no (x := 15) (b := true) rfl (AF_ev rfl (Eq.trans tp (congrArg Value.bool hg2))) rfl) ?_
        refine RW.pass (by exact Wd.no (x := 15) (b := true) rfl (AF_ev rfl (up rfl (Eq.trans tp (congrArg Value.bool hg2)))) rfl) ?_
        refine RW.soft Wd.a (v := .bool true) (by exact E.pickT (AF_ev rfl (up rfl (up rfl (Eq.trans tp (congrArg Value.bool hg2))))) rfl) ?_
        refine RW.nil ⟨rfl, rfl, up rfl (up rfl (up rfl (up rfl (up rfl (up rfl (up rfl hs3)))))), up rfl (up rfl (up rfl (up rfl (up rfl (up rfl (up rfl hs5)))))), up rfl (up rfl (up rfl (up rfl (up rfl (up rfl (up rfl hs6)))))), up rfl (up rfl (up rfl (up rfl (up rfl (up rfl (up rfl hs7)))))), up rfl (up rfl (up rfl (up rfl (up rfl (up rfl (up rfl hs8)))))), up rfl (up rfl (up rfl (up rfl (up rfl (up rfl (up rfl hs9)))))), (bool_eq (a := true) tp (by simp only [hg2, Bool.true_and, Bool.false_and, Bool.true_or, Bool.false_or]))⟩
      · have hg2_ := hg2
        try simp only [decide_eq_true_eq, decide_eq_false_iff_not, Bool.and_eq_true, Bool.or_eq_true, Bool.and_eq_false_iff, Bool.or_eq_false_iff, Bool.not_eq_true', Bool.not_eq_false', beq_iff_eq, beq_eq_false_iff_ne, bne_iff_ne, bne_eq_false_iff_eq, ne_eq, Int.not_lt, Int.not_le, gt_iff_lt, ge_iff_le] at hg2_
        refine RW.soft (by exact Wd.yes (x := 15) rfl (AF_ev rfl (Eq.trans tp (congrArg Value.bool hg2)))) (v := .int .i64 x) (by exact E.move (AF_ev rfl (up rfl (up rfl (up rfl (up rfl hs5)))))) ?_
        refine RW.soft (by exact Wd.yes (x := 15) rfl (AF_ev rfl (up rfl (Eq.trans tp (congrArg Value.bool hg2))))) (v := .bool (decide (x > 7))) (by exact E.gtr (k := .i64) (a := x) (b := 7) (AF_ev rfl tp) rfl) ?_
        refine RW.soft Wd.a (v := .bool (decide (x > 7))) (by exact E.pickF (AF_ev rfl (up rfl (up rfl (Eq.trans tp (congrArg Value.bool hg2))))) (AF_ev rfl tp)) ?_
        refine RW.nil ⟨rfl, rfl, up rfl (up rfl (up rfl (up rfl (up rfl (up rfl (up rfl hs3)))))), up rfl (up rfl (up rfl (up rfl (up rfl (up rfl (up rfl hs5)))))), up rfl (up rfl (up rfl (up rfl (up rfl (up rfl (up rfl hs6)))))), up rfl (up rfl (up rfl (up rfl (up rfl (up rfl (up rfl hs7)))))), up rfl (up rfl (up rfl (up rfl (up rfl (up rfl (up rfl hs8)))))), up rfl (up rfl (up rfl (up rfl (up rfl (up rfl (up rfl hs9)))))), (bool_eq (a := decide (x > 7)) tp (by simp only [hg2, Bool.true_and, Bool.false_and, Bool.true_or, Bool.false_or]))⟩
    rintro τ ⟨hs3, hs5, hs6, hs7, hs8, hs9, hs18⟩
    refine CW.cond (AF_ev rfl hs18) (fun hc3 => ?_) (fun hc3 => ?_)
    · have hc3_ := hc3
      try simp only [decide_eq_true_eq, decide_eq_false_iff_not, Bool.and_eq_true, Bool.or_eq_true, Bool.and_eq_false_iff, Bool.or_eq_false_iff, Bool.not_eq_true', Bool.not_eq_false', beq_iff_eq, beq_eq_false_iff_ne, bne_iff_ne, bne_eq_false_iff_eq, ne_eq, Int.not_lt, Int.not_le, gt_iff_lt, ge_iff_le] at hc3_
      refine CW.seq ?_
      refine CW.region ?_
      refine RW.soft Wd.a (v := .int .i64 192) (by exact E.assign rfl) ?_
      refine RW.fin (fun τ => τ 2 = .int .i64 192 ∧ τ 3 = .int .i64 last ∧ τ 5 = .int .i64 x ∧ τ 6 = .slice (some ⟨b0, o0, none⟩) zs.length c ∧ τ 7 = .int .i64 ((zs.length : Nat) : Int) ∧ τ 8 = .int .i64 ((j : Nat) : Int) ∧ τ 9 = .bool true ∧ τ 18 = .bool true) ⟨tp, up rfl hs3, up rfl hs5, up rfl hs6, up rfl hs7, up rfl hs8, up rfl hs9, up rfl (Eq.trans hs18 (congrArg Value.bool hc3))⟩ ?_
      rintro τ ⟨hs2, hs3, hs5, hs6, hs7, hs8, hs9, hs18⟩
      refine CW.ret ?_
      refine Th.r ?_
      refine Bl.r ?_
      refine Th.r ?_
      refine Th.r ?_
      refine Bl.r ?_
      refine Th.r ?_
      refine ret1 (v := .int .i64 192) rfl (by exact (.tmp (AF_ev rfl hs2) .nil)) ?_
      
      have hn : okFrom 0 zs = false := by rw [hf, okFrom_step hx]; rw [Bool.and_eq_false_iff, Bool.and_eq_false_iff, decide_eq_false_iff_not, decide_eq_false_iff_not]; left; omega
      exact ⟨by unfold checkI; rw [if_neg (by rw [hn]; simp)], hst⟩
    · have hc3_ := hc3
      try simp only [decide_eq_true_eq, decide_eq_false_iff_not, Bool.and_eq_true, Bool.or_eq_true, Bool.and_eq_false_iff, Bool.or_eq_false_iff, Bool.not_eq_true', Bool.not_eq_false', beq_iff_eq, beq_eq_false_iff_ne, bne_iff_ne, bne_eq_false_iff_eq, ne_eq, Int.not_lt, Int.not_le, gt_iff_lt, ge_iff_le] at hc3_
      refine CW.skip ?_
      refine Th.n ?_
      refine CW.region ?_
      refine RW.soft Wd.a (v := .int .i64 x) (by exact E.move (AF_ev rfl hs5)) ?_
      refine RW.soft Wd.a (v := .int .i64 x) (by exact E.assign (AF_ev rfl tp)) ?_
      refine RW.nil ?_
      refine Bl.n ?_
      refine Th.n ?_
      refine CW.region ?_
      refine RW.soft Wd.a (v := .int .i64 (((j : Nat) : Int) + 1)) (by exact E.add (k := .i64) (a := ((j : Nat) : Int)) (b := 1) (AF_ev rfl (up rfl (up rfl hs8))) rfl (show IntKind.i64.wrap (((j : Nat) : Int) + 1) = ((j : Nat) : Int) + 1 from (by rw [IntWalk.i64_in _ (by omega)]))) ?_
      refine RW.soft Wd.a (v := .int .i64 (((j : Nat) : Int) + 1)) (by exact E.move (AF_ev rfl tp)) ?_
      refine RW.nil ?_
      refine Th.n ?_
      have hf2 : okFrom 0 zs = okFrom x (zs.drop (j + 1)) := by rw [hf, okFrom_step hx]; simp [show last < x from by omega, show x ≤ 7 from by omega]
      exact ⟨zs.length - (j + 1), by omega, j + 1, x, hf2, (by omega), (by omega), rfl, up rfl (up rfl (up rfl (up rfl hs6))), up rfl (up rfl (up rfl (up rfl hs7))), (int_eq (a := ((j : Nat) : Int) + 1) tp (by omega)), up rfl (up rfl tp), hst⟩
  · have hc1_ := hc1
    try simp only [decide_eq_true_eq, decide_eq_false_iff_not, Bool.and_eq_true, Bool.or_eq_true, Bool.and_eq_false_iff, Bool.or_eq_false_iff, Bool.not_eq_true', Bool.not_eq_false', beq_iff_eq, beq_eq_false_iff_ne, bne_iff_ne, bne_eq_false_iff_eq, ne_eq, Int.not_lt, Int.not_le, gt_iff_lt, ge_iff_le] at hc1_
    refine CW.exit ?_
    refine Th.x ?_
    refine Th.x ?_
    refine Bl.x ?_
    refine Th.n ?_
    refine CW.seq ?_
    refine CW.seq ?_
    refine CW.region ?_
    refine RW.soft Wd.a (v := .int .i64 last) (by exact E.move (AF_ev rfl hs3)) ?_
    refine RW.soft Wd.a (v := .bool (last == 0)) (by exact E.eql (k := .i64) (a := last) (b := 0) (AF_ev rfl tp) rfl) ?_
    refine RW.fin (fun τ => τ 3 = .int .i64 last ∧ τ 6 = .slice X zs.length c ∧ τ 7 = .int .i64 ((zs.length : Nat) : Int) ∧ τ 8 = .int .i64 ((j : Nat) : Int) ∧ τ 9 = .bool false ∧ τ 22 = .bool (last == 0)) ⟨up rfl (up rfl hs3), up rfl (up rfl hs6), up rfl (up rfl hs7), up rfl (up rfl hs8), up rfl (up rfl (Eq.trans hs9 (congrArg Value.bool hc1))), tp⟩ ?_
    rintro τ ⟨hs3, hs6, hs7, hs8, hs9, hs22⟩
    refine CW.cond (AF_ev rfl hs22) (fun hc4 => ?_) (fun hc4 => ?_)
    · have hc4_ := hc4
      try simp only [decide_eq_true_eq, decide_eq_false_iff_not, Bool.and_eq_true, Bool.or_eq_true, Bool.and_eq_false_iff, Bool.or_eq_false_iff, Bool.not_eq_true', Bool.not_eq_false', beq_iff_eq, beq_eq_false_iff_ne, bne_iff_ne, bne_eq_false_iff_eq, ne_eq, Int.not_lt, Int.not_le, gt_iff_lt, ge_iff_le] at hc4_
      refine CW.seq ?_
      refine CW.region ?_
      refine RW.soft Wd.a (v := .int .i64 192) (by exact E.assign rfl) ?_
      refine RW.fin (fun τ => τ 2 = .int .i64 192 ∧ τ 3 = .int .i64 last ∧ τ 6 = .slice X zs.length c ∧ τ 7 = .int .i64 ((zs.length : Nat) : Int) ∧ τ 8 = .int .i64 ((j : Nat) : Int) ∧ τ 9 = .bool false ∧ τ 22 = .bool true) ⟨tp, up rfl hs3, up rfl hs6, up rfl hs7, up rfl hs8, up rfl hs9, up rfl (Eq.trans hs22 (congrArg Value.bool hc4))⟩ ?_
      rintro τ ⟨hs2, hs3, hs6, hs7, hs8, hs9, hs22⟩
      refine CW.ret ?_
      refine Th.r ?_
      refine ret1 (v := .int .i64 192) rfl (by exact (.tmp (AF_ev rfl hs2) .nil)) ?_
      
      have hz : zs = [] := List.eq_nil_of_length_eq_zero (by omega)
      exact ⟨by unfold checkI; rw [if_neg (by rw [hz]; simp)], hst⟩
    · have hc4_ := hc4
      try simp only [decide_eq_true_eq, decide_eq_false_iff_not, Bool.and_eq_true, Bool.or_eq_true, Bool.and_eq_false_iff, Bool.or_eq_false_iff, Bool.not_eq_true', Bool.not_eq_false', beq_iff_eq, beq_eq_false_iff_ne, bne_iff_ne, bne_eq_false_iff_eq, ne_eq, Int.not_lt, Int.not_le, gt_iff_lt, ge_iff_le] at hc4_
      refine CW.skip ?_
      refine Th.n ?_
      refine CW.seq ?_
      refine CW.region ?_
      refine RW.soft Wd.a (v := .int .i64 0) (by exact E.assign rfl) ?_
      refine RW.fin (fun τ => τ 2 = .int .i64 0 ∧ τ 3 = .int .i64 last ∧ τ 6 = .slice X zs.length c ∧ τ 7 = .int .i64 ((zs.length : Nat) : Int) ∧ τ 8 = .int .i64 ((j : Nat) : Int) ∧ τ 9 = .bool false ∧ τ 22 = .bool false) ⟨tp, up rfl hs3, up rfl hs6, up rfl hs7, up rfl hs8, up rfl hs9, up rfl (Eq.trans hs22 (congrArg Value.bool hc4))⟩ ?_
      rintro τ ⟨hs2, hs3, hs6, hs7, hs8, hs9, hs22⟩
      refine CW.ret ?_
      refine ret1 (v := .int .i64 0) rfl (by exact (.tmp (AF_ev rfl hs2) .nil)) ?_
      
      have hz : zs ≠ [] := fun h => by rw [h] at hj; simp only [List.length_nil] at hj; omega
      have hn : okFrom 0 zs = true := by rw [hf, List.drop_eq_nil_of_le (by omega)]; rfl
      exact ⟨by unfold checkI; rw [if_pos ⟨hn, hz⟩], hst⟩

theorem cont_more {zs : List Int} {j : Nat} {x id : Int} (h : (zs.take j).contains id = false) (hx : zs[j]? = some x) (hn : id ≠ x) : (zs.take (j + 1)).contains id = false := by
  rw [List.take_add_one, hx, List.contains_append, h]; simp [hn]
theorem cont_found {zs : List Int} {j : Nat} {x id : Int} (hx : zs[j]? = some x) (hn : id = x) : zs.contains id = true := by
  rw [List.contains_iff_mem]; subst hn; exact List.mem_of_getElem? hx
theorem cont_all {zs : List Int} {j : Nat} {id : Int} (h : (zs.take j).contains id = false) (hj : zs.length ≤ j) : zs.contains id = false := by
  rwa [List.take_of_length_le hj] at h

theorem q_Index {p : Pers} {w : World} {R : List Assn} {A : Assn} {X : Option Addr} {c : Nat} {zs : List Int} (hA : TI p A (.slice X zs.length c) zs) (hl : zs.length ≤ 1000000) (id : Int) (hst : St p w (A :: R)) :
    Calls Try.prog 73 #[.slice X zs.length c, .int .i64 id] w fun e w => ∃ i : Int, e = .returned (.int .i64 i) ∧ decide (i ≥ 0) = zs.contains id ∧ St p w (A :: R) := by
  refine enter Try.func73 rfl (by simp) (n := 19) rfl fun τ hτ => ?_
  have hs0 : τ 0 = .slice X zs.length c := hτ 0 (by simp)
  have hs1 : τ 1 = .int .i64 id := hτ 1 (by simp)
  clear hτ
  refine CW.seq ?_
  refine CW.region ?_
  refine RW.soft Wd.a (v := .int .i64 0) (by exact E.assign rfl) ?_
  refine RW.fin (fun τ => τ 0 = .slice X zs.length c ∧ τ 1 = .int .i64 id ∧ τ 4 = .int .i64 0) ⟨up rfl hs0, up rfl hs1, tp⟩ ?_
  rintro τ ⟨hs0, hs1, hs4⟩
  refine CW.seq ?_
  refine CW.seq ?_
  refine CW.region ?_
  refine RW.soft Wd.a (v := .slice X zs.length c) (by exact E.move (AF_ev rfl hs0)) ?_
  refine RW.soft Wd.a (v := .int .i64 ((zs.length : Nat) : Int)) (by exact E.lenS (p := X) (l := zs.length) (c := c) Try.underlying58 (AF_ev rfl tp)) ?_
  refine RW.soft Wd.a (v := .int .i64 0) (by exact E.move rfl) ?_
  refine RW.fin (fun τ => τ 0 = .slice X zs.length c ∧ τ 1 = .int .i64 id ∧ τ 4 = .int .i64 0 ∧ τ 7 = .int .i64 ((zs.length : Nat) : Int) ∧ τ 8 = .int .i64 0) ⟨up rfl (up rfl (up rfl hs0)), up rfl (up rfl (up rfl hs1)), up rfl (up rfl (up rfl hs4)), up rfl tp, tp⟩ ?_
  rintro τ ⟨hs0, hs1, hs4, hs7, hs8⟩
  refine CW.block ?_
  refine CW.loop (fun (k : Nat) (τ : Fr) (w : World) => ∃ (j : Nat), (zs.take j).contains id = false ∧ j ≤ zs.length ∧ k = zs.length - j ∧ τ 0 = .slice X zs.length c ∧ τ 1 = .int .i64 id ∧ τ 7 = .int .i64 ((zs.length : Nat) : Int) ∧ τ 8 = .int .i64 ((j : Nat) : Int) ∧ St p w (A :: R)) (zs.length - 0) ⟨0, rfl, by omega, rfl, hs0, hs1, hs7, (int_eq (a := 0) hs8 (by omega)), hst⟩ ?_
  clear hst
  rintro k τ w ⟨j, hf, hj, hkj, hs0, hs1, hs7, hs8, hst⟩
  refine CW.seq ?_
  refine CW.region ?_
  refine RW.soft Wd.a (v := .bool (decide (((j : Nat) : Int) < ((zs.length : Nat) : Int)))) (by exact E.lss (k := .i64) (a := ((j : Nat) : Int)) (b := ((zs.length : Nat) : Int)) (AF_ev rfl hs8) (AF_ev rfl hs7)) ?_
  refine RW.fin (fun τ => τ 0 = .slice X zs.length c ∧ τ 1 = .int .i64 id ∧ τ 7 = .int .i64 ((zs.length : Nat) : Int) ∧ τ 8 = .int .i64 ((j : Nat) : Int) ∧ τ 9 = .bool (decide (((j : Nat) : Int) < ((zs.length : Nat) : Int)))) ⟨up rfl hs0, up rfl hs1, up rfl hs7, up rfl hs8, tp⟩ ?_
  rintro τ ⟨hs0, hs1, hs7, hs8, hs9⟩
  refine CW.seq ?_
  refine CW.cond (AF_ev rfl hs9) (fun hc1 => ?_) (fun hc1 => ?_)
  · have hc1_ := hc1
    try simp only [decide_eq_true_eq, decide_eq_false_iff_not, Bool.and_eq_true, Bool.or_eq_true, Bool.and_eq_false_iff, Bool.or_eq_false_iff, Bool.not_eq_true', Bool.not_eq_false', beq_iff_eq, beq_eq_false_iff_ne, bne_iff_ne, bne_eq_false_iff_eq, ne_eq, Int.not_lt, Int.not_le, gt_iff_lt, ge_iff_le] at hc1_
    refine CW.skip ?_
    refine Th.n ?_
    refine CW.seq ?_
    refine CW.block ?_
    refine CW.seq ?_
    obtain ⟨b0, o0, rfl, hcell0⟩ := TI.place hA (hst.take .here) (by omega)
    obtain ⟨x, hx⟩ : ∃ z, zs[j]? = some z := ⟨zs[j]'(by omega), List.getElem?_eq_getElem (by omega)⟩
    refine CW.region ?_
    refine RW.soft Wd.a (v := .int .i64 ((j : Nat) : Int)) (by exact E.move (AF_ev rfl hs8)) ?_
    refine RW.soft Wd.a (v := .int .i64 ((j : Nat) : Int)) (by exact E.assign (AF_ev rfl tp)) ?_
    refine RW.fin (fun τ => τ 0 = .slice (some ⟨b0, o0, none⟩) zs.length c ∧ τ 1 = .int .i64 id ∧ τ 5 = .int .i64 ((j : Nat) : Int) ∧ τ 7 = .int .i64 ((zs.length : Nat) : Int) ∧ τ 8 = .int .i64 ((j : Nat) : Int) ∧ τ 9 = .bool true) ⟨up rfl (up rfl hs0), up rfl (up rfl hs1), tp, up rfl (up rfl hs7), up rfl (up rfl hs8), up rfl (up rfl (Eq.trans hs9 (congrArg Value.bool hc1)))⟩ ?_
    rintro τ ⟨hs0, hs1, hs5, hs7, hs8, hs9⟩
    refine CW.seq ?_
    refine CW.region ?_
    refine RW.soft Wd.a (v := .int .i64 id) (by exact E.move (AF_ev rfl hs1)) ?_
    refine RW.soft Wd.a (v := .slice (some ⟨b0, o0, none⟩) zs.length c) (by exact E.move (AF_ev rfl (up rfl hs0))) ?_
    refine RW.soft Wd.a (v := .int .i64 ((j : Nat) : Int)) (by exact E.move (AF_ev rfl (up rfl (up rfl hs5)))) ?_
    refine RW.soft Wd.a (v := .pointer (some ⟨b0, o0 + j * 1, none⟩)) (by exact E.indexAddr (b := b0) (o := o0) (l := zs.length) (c := c) (i := ((j : Nat) : Int)) Try.underlying58 sz3 (AF_ev rfl (up rfl tp)) (AF_ev rfl tp) (by omega) (by omega) (by simp)) ?_
    refine RW.soft Wd.a (v := .int .i64 x) (by exact E.load (a := ⟨b0, o0 + j * 1, none⟩) Try.underlying3 rfl (AF_ev rfl tp) (by exact hcell0 (hst.take .here) _ _ (flat_get (j := 0) ienc_len hx (rfl)))) ?_
    refine RW.soft Wd.a (v := .bool (id == x)) (by exact E.eql (k := .i64) (a := id) (b := x) (AF_ev rfl (up rfl (up rfl (up rfl (up rfl tp))))) (AF_ev rfl tp)) ?_
    refine RW.fin (fun τ => τ 0 = .slice (some ⟨b0, o0, none⟩) zs.length c ∧ τ 1 = .int .i64 id ∧ τ 5 = .int .i64 ((j : Nat) : Int) ∧ τ 7 = .int .i64 ((zs.length : Nat) : Int) ∧ τ 8 = .int .i64 ((j : Nat) : Int) ∧ τ 9 = .bool true ∧ τ 16 = .bool (id == x)) ⟨up rfl (up rfl (up rfl (up rfl (up rfl (up rfl hs0))))), up rfl (up rfl (up rfl (up rfl (up rfl (up rfl hs1))))), up rfl (up rfl (up rfl (up rfl (up rfl (up rfl hs5))))), up rfl (up rfl (up rfl (up rfl (up rfl (up rfl hs7))))), up rfl (up rfl (up rfl (up rfl (up rfl (up rfl hs8))))), up rfl (up rfl (up rfl (up rfl (up rfl (up rfl hs9))))), tp⟩ ?_
    rintro τ ⟨hs0, hs1, hs5, hs7, hs8, hs9, hs16⟩
    refine CW.cond (AF_ev rfl hs16) (fun hc2 => ?_) (fun hc2 => ?_)
    · have hc2_ := hc2
      try simp only [decide_eq_true_eq, decide_eq_false_iff_not, Bool.and_eq_true, Bool.or_eq_true, Bool.and_eq_false_iff, Bool.or_eq_false_iff, Bool.not_eq_true', Bool.not_eq_false', beq_iff_eq, beq_eq_false_iff_ne, bne_iff_ne, bne_eq_false_iff_eq, ne_eq, Int.not_lt, Int.not_le, gt_iff_lt, ge_iff_le] at hc2_
      refine CW.seq ?_
      refine CW.region ?_
      refine RW.soft Wd.a (v := .int .i64 ((j : Nat) : Int)) (by exact E.move (AF_ev rfl hs5)) ?_
      refine RW.soft Wd.a (v := .int .i64 ((j : Nat) : Int)) (by exact E.assign (AF_ev rfl tp)) ?_
      refine RW.fin (fun τ => τ 0 = .slice (some ⟨b0, o0, none⟩) zs.length c ∧ τ 1 = .int .i64 id ∧ τ 4 = .int .i64 ((j : Nat) : Int) ∧ τ 5 = .int .i64 ((j : Nat) : Int) ∧ τ 7 = .int .i64 ((zs.length : Nat) : Int) ∧ τ 8 = .int .i64 ((j : Nat) : Int) ∧ τ 9 = .bool true ∧ τ 16 = .bool true) ⟨up rfl (up rfl hs0), up rfl (up rfl hs1), tp, up rfl (up rfl hs5), up rfl (up rfl hs7), up rfl (up rfl hs8), up rfl (up rfl hs9), up rfl (up rfl (Eq.trans hs16 (congrArg Value.bool hc2)))⟩ ?_
      rintro τ ⟨hs0, hs1, hs4, hs5, hs7, hs8, hs9, hs16⟩
      refine CW.ret ?_
      refine Bl.r ?_
      refine Th.r ?_
      refine Th.r ?_
      refine Bl.r ?_
      refine Th.r ?_
      refine ret1 (v := .int .i64 ((j : Nat) : Int)) rfl (by exact (.tmp (AF_ev rfl hs4) .nil)) ?_
      
      exact ⟨_, rfl, by rw [cont_found hx (by omega)]; exact decide_eq_true (by omega), hst⟩
    · have hc2_ := hc2
      try simp only [decide_eq_true_eq, decide_eq_false_iff_not, Bool.and_eq_true, Bool.or_eq_true, Bool.and_eq_false_iff, Bool.or_eq_false_iff, Bool.not_eq_true', Bool.not_eq_false', beq_iff_eq, beq_eq_false_iff_ne, bne_iff_ne, bne_eq_false_iff_eq, ne_eq, Int.not_lt, Int.not_le, gt_iff_lt, ge_iff_le] at hc2_
      refine CW.skip ?_
      refine Bl.n ?_
      refine Th.n ?_
      refine CW.region ?_
      refine RW.soft Wd.a (v := .int .i64 (((j : Nat) : Int) + 1)) (by exact E.add (k := .i64) (a := ((j : Nat) : Int)) (b := 1) (AF_ev rfl hs8) rfl (show IntKind.i64.wrap (((j : Nat) : Int) + 1) = ((j : Nat) : Int) + 1 from (by rw [IntWalk.i64_in _ (by omega)]))) ?_
      refine RW.soft Wd.a (v := .int .i64 (((j : Nat) : Int) + 1)) (by exact E.move (AF_ev rfl tp)) ?_
      refine RW.nil ?_
      refine Th.n ?_
      have hf2 := cont_more hf hx (by omega)
      exact ⟨zs.length - (j + 1), by omega, j + 1, hf2, (by omega), rfl, up rfl (up rfl hs0), up rfl (up rfl hs1), up rfl (up rfl hs7), (int_eq (a := ((j : Nat) : Int) + 1) tp (by omega)), hst⟩
  · have hc1_ := hc1
    try simp only [decide_eq_true_eq, decide_eq_false_iff_not, Bool.and_eq_true, Bool.or_eq_true, Bool.and_eq_false_iff, Bool.or_eq_false_iff, Bool.not_eq_true', Bool.not_eq_false', beq_iff_eq, beq_eq_false_iff_ne, bne_iff_ne, bne_eq_false_iff_eq, ne_eq, Int.not_lt, Int.not_le, gt_iff_lt, ge_iff_le] at hc1_
    refine CW.exit ?_
    refine Th.x ?_
    refine Th.x ?_
    refine Bl.x ?_
    refine Th.n ?_
    refine CW.seq ?_
    refine CW.region ?_
    refine RW.soft Wd.a (v := .int .i64 (-1)) (by exact E.assign rfl) ?_
    refine RW.fin (fun τ => τ 0 = .slice X zs.length c ∧ τ 1 = .int .i64 id ∧ τ 4 = .int .i64 (-1) ∧ τ 7 = .int .i64 ((zs.length : Nat) : Int) ∧ τ 8 = .int .i64 ((j : Nat) : Int) ∧ τ 9 = .bool false) ⟨up rfl hs0, up rfl hs1, tp, up rfl hs7, up rfl hs8, up rfl (Eq.trans hs9 (congrArg Value.bool hc1))⟩ ?_
    rintro τ ⟨hs0, hs1, hs4, hs7, hs8, hs9⟩
    refine CW.ret ?_
    refine ret1 (v := .int .i64 (-1)) rfl (by exact (.tmp (AF_ev rfl hs4) .nil)) ?_
    
    exact ⟨-1, rfl, (cont_all hf (by omega)).symm, hst⟩

theorem q_Contains {p : Pers} {w : World} {R : List Assn} {A : Assn} {X : Option Addr} {c : Nat} {zs : List Int} (hA : TI p A (.slice X zs.length c) zs) (hl : zs.length ≤ 1000000) (id : Int) (hst : St p w (A :: R)) :
    Calls Try.prog 56 #[.slice X zs.length c, .int .i64 id] w fun e w => e = .returned (.bool (zs.contains id)) ∧ St p w (A :: R) := by
  refine enter Try.func56 rfl (by simp) (n := 9) rfl fun τ hτ => ?_
  have hs0 : τ 0 = .slice X zs.length c := hτ 0 (by simp)
  have hs1 : τ 1 = .int .i64 id := hτ 1 (by simp)
  clear hτ
  refine CW.seq ?_
  refine CW.region ?_
  refine RW.soft Wd.a (v := .bool false) (by exact E.assign rfl) ?_
  refine RW.fin (fun τ => τ 0 = .slice X zs.length c ∧ τ 1 = .int .i64 id ∧ τ 4 = .bool false) ⟨up rfl hs0, up rfl hs1, tp⟩ ?_
  rintro τ ⟨hs0, hs1, hs4⟩
  refine CW.seq ?_
  refine CW.region ?_
  refine RW.soft Wd.a (v := .slice X zs.length c) (by exact E.move (AF_ev rfl hs0)) ?_
  refine RW.soft Wd.a (v := .int .i64 id) (by exact E.move (AF_ev rfl (up rfl hs1))) ?_
  refine RW.hard Wd.a ?_
  refine H.call0 Try.func73 nm73 rfl (map2 (AF_ev rfl (up rfl tp)) (AF_ev rfl tp)) (Calls.mono (q_Index hA hl id hst) ?_)
  rintro _ w ⟨i1, rfl, hi1, hst⟩
  refine ⟨_, rfl, ?_⟩
  show RW _ _ _ _ _ _ _
  refine RW.soft Wd.a (v := .bool (zs.contains id)) (by exact E.b (a := decide (i1 ≥ 0)) (E.geq (k := .i64) (a := i1) (b := 0) (AF_ev rfl tp) rfl) hi1) ?_
  refine RW.soft Wd.a (v := .bool (zs.contains id)) (by exact E.assign (AF_ev rfl tp)) ?_
  refine RW.fin (fun τ => τ 0 = .slice X zs.length c ∧ τ 1 = .int .i64 id ∧ τ 4 = .bool (zs.contains id)) ⟨up rfl (up rfl (up rfl (up rfl (up rfl hs0)))), up rfl (up rfl (up rfl (up rfl (up rfl hs1)))), tp⟩ ?_
  rintro τ ⟨hs0, hs1, hs4⟩
  refine CW.ret ?_
  refine ret1 (v := .bool (zs.contains id)) rfl (by exact (.tmp (AF_ev rfl hs4) .nil)) ?_
  
  exact ⟨rfl, hst⟩

theorem q_Has {p : Pers} {w : World} {R : List Assn} {A : Assn} {X : Option Addr} {c : Nat} {zs : List Int} (hA : TI p A (.slice X zs.length c) zs) (hl : zs.length ≤ 1000000) (id : Int) (hst : St p w (A :: R)) :
    Calls Try.prog 38 #[.slice X zs.length c, .int .i64 id] w fun e w => e = .returned (.bool (zs.contains id)) ∧ St p w (A :: R) := by
  refine enter Try.func38 rfl (by simp) (n := 8) rfl fun τ hτ => ?_
  have hs0 : τ 0 = .slice X zs.length c := hτ 0 (by simp)
  have hs1 : τ 1 = .int .i64 id := hτ 1 (by simp)
  clear hτ
  refine CW.seq ?_
  refine CW.region ?_
  refine RW.soft Wd.a (v := .bool false) (by exact E.assign rfl) ?_
  refine RW.fin (fun τ => τ 0 = .slice X zs.length c ∧ τ 1 = .int .i64 id ∧ τ 4 = .bool false) ⟨up rfl hs0, up rfl hs1, tp⟩ ?_
  rintro τ ⟨hs0, hs1, hs4⟩
  refine CW.seq ?_
  refine CW.region ?_
  refine RW.soft Wd.a (v := .slice X zs.length c) (by exact E.move (AF_ev rfl hs0)) ?_
  refine RW.soft Wd.a (v := .int .i64 id) (by exact E.move (AF_ev rfl (up rfl hs1))) ?_
  refine RW.hard Wd.a ?_
  refine H.call0 Try.func56 nm56 rfl (map2 (AF_ev rfl (up rfl tp)) (AF_ev rfl tp)) (Calls.mono (q_Contains hA hl id hst) ?_)
  rintro _ w ⟨rfl, hst⟩
  refine ⟨_, rfl, ?_⟩
  show RW _ _ _ _ _ _ _
  refine RW.soft Wd.a (v := .bool (zs.contains id)) (by exact E.assign (AF_ev rfl tp)) ?_
  refine RW.fin (fun τ => τ 0 = .slice X zs.length c ∧ τ 1 = .int .i64 id ∧ τ 4 = .bool (zs.contains id)) ⟨up rfl (up rfl (up rfl (up rfl hs0))), up rfl (up rfl (up rfl (up rfl hs1))), tp⟩ ?_
  rintro τ ⟨hs0, hs1, hs4⟩
  refine CW.ret ?_
  refine ret1 (v := .bool (zs.contains id)) rfl (by exact (.tmp (AF_ev rfl hs4) .nil)) ?_
  
  exact ⟨rfl, hst⟩

theorem r_Has {p : Pers} {w : World} {R : List Assn} {A : Assn} {X : Option Addr} {c : Nat} {zs : List Int} (hA : TI p A (.slice X zs.length c) zs) (hl : zs.length ≤ 1000000) (id : Int) (hst : St p w (A :: R)) :
    Calls Try.prog 39 #[.slice X zs.length c, .int .i64 id] w fun e w => e = .returned (.bool (zs.contains id)) ∧ St p w (A :: R) := by
  refine enter Try.func39 rfl (by simp) (n := 18) rfl fun τ hτ => ?_
  have hs0 : τ 0 = .slice X zs.length c := hτ 0 (by simp)
  have hs1 : τ 1 = .int .i64 id := hτ 1 (by simp)
  clear hτ
  refine CW.seq ?_
  refine CW.region ?_
  refine RW.soft Wd.a (v := .bool false) (by exact E.assign rfl) ?_
  refine RW.fin (fun τ => τ 0 = .slice X zs.length c ∧ τ 1 = .int .i64 id ∧ τ 4 = .bool false) ⟨up rfl hs0, up rfl hs1, tp⟩ ?_
  rintro τ ⟨hs0, hs1, hs4⟩
  refine CW.seq ?_
  refine CW.seq ?_
  refine CW.region ?_
  refine RW.soft Wd.a (v := .int .i64 0) (by exact E.assign rfl) ?_
  refine RW.fin (fun τ => τ 0 = .slice X zs.length c ∧ τ 1 = .int .i64 id ∧ τ 4 = .bool false ∧ τ 5 = .int .i64 0) ⟨up rfl hs0, up rfl hs1, up rfl hs4, tp⟩ ?_
  rintro τ ⟨hs0, hs1, hs4, hs5⟩
  refine CW.block ?_
  refine CW.loop (fun (k : Nat) (τ : Fr) (w : World) => ∃ (j : Nat), (zs.take j).contains id = false ∧ j ≤ zs.length ∧ k = zs.length - j ∧ τ 0 = .slice X zs.length c ∧ τ 1 = .int .i64 id ∧ τ 5 = .int .i64 ((j : Nat) : Int) ∧ St p w (A :: R)) (zs.length - 0) ⟨0, rfl, by omega, rfl, hs0, hs1, (int_eq (a := 0) hs5 (by omega)), hst⟩ ?_
  clear hst
  rintro k τ w ⟨j, hf, hj, hkj, hs0, hs1, hs5, hst⟩
  refine CW.seq ?_
  refine CW.seq ?_
  refine CW.region ?_
  refine RW.soft Wd.a (v := .int .i64 ((j : Nat) : Int)) (by exact E.move (AF_ev rfl hs5)) ?_
  refine RW.soft Wd.a (v := .slice X zs.length c) (by exact E.move (AF_ev rfl (up rfl hs0))) ?_
  refine RW.soft Wd.a (v := .int .i64 ((zs.length : Nat) : Int)) (by exact E.lenS (p := X) (l := zs.length) (c := c) Try.underlying58 (AF_ev rfl tp)) ?_
  refine RW.soft Wd.a (v := .bool (decide (((j : Nat) : Int) < ((zs.length : Nat) : Int)))) (by exact E.lss (k := .i64) (a := ((j : Nat) : Int)) (b := ((zs.length : Nat) : Int)) (AF_ev rfl (up rfl (up rfl tp))) (AF_ev rfl tp)) ?_
  refine RW.fin (fun τ => τ 0 = .slice X zs.length c ∧ τ 1 = .int .i64 id ∧ τ 5 = .int .i64 ((j : Nat) : Int) ∧ τ 9 = .bool (decide (((j : Nat) : Int) < ((zs.length : Nat) : Int)))) ⟨up rfl (up rfl (up rfl (up rfl hs0))), up rfl (up rfl (up rfl (up rfl hs1))), up rfl (up rfl (up rfl (up rfl hs5))), tp⟩ ?_
  rintro τ ⟨hs0, hs1, hs5, hs9⟩
  refine CW.cond (AF_ev rfl hs9) (fun hc1 => ?_) (fun hc1 => ?_)
  · have hc1_ := hc1
    try simp only [decide_eq_true_eq, decide_eq_false_iff_not, Bool.and_eq_true, Bool.or_eq_true, Bool.and_eq_false_iff, Bool.or_eq_false_iff, Bool.not_eq_true', Bool.not_eq_false', beq_iff_eq, beq_eq_false_iff_ne, bne_iff_ne, bne_eq_false_iff_eq, ne_eq, Int.not_lt, Int.not_le, gt_iff_lt, ge_iff_le] at hc1_
    refine CW.skip ?_
    refine Th.n ?_
    refine CW.seq ?_
    refine CW.block ?_
    refine CW.seq ?_
    obtain ⟨b0, o0, rfl, hcell0⟩ := TI.place hA (hst.take .here) (by omega)
    obtain ⟨x, hx⟩ : ∃ z, zs[j]? = some z := ⟨zs[j]'(by omega), List.getElem?_eq_getElem (by omega)⟩
    refine CW.region ?_
    refine RW.soft Wd.a (v := .slice (some ⟨b0, o0, none⟩) zs.length c) (by exact E.move (AF_ev rfl hs0)) ?_
    refine RW.soft Wd.a (v := .int .i64 ((j : Nat) : Int)) (by exact E.move (AF_ev rfl (up rfl hs5))) ?_
    refine RW.soft Wd.a (v := .pointer (some ⟨b0, o0 + j * 1, none⟩)) (by exact E.indexAddr (b := b0) (o := o0) (l := zs.length) (c := c) (i := ((j : Nat) : Int)) Try.underlying58 sz3 (AF_ev rfl (up rfl tp)) (AF_ev rfl tp) (by omega) (by omega) (by simp)) ?_
    refine RW.soft Wd.a (v := .int .i64 x) (by exact E.load (a := ⟨b0, o0 + j * 1, none⟩) Try.underlying3 rfl (AF_ev rfl tp) (by exact hcell0 (hst.take .here) _ _ (flat_get (j := 0) ienc_len hx (rfl)))) ?_
    refine RW.soft Wd.a (v := .int .i64 id) (by exact E.move (AF_ev rfl (up rfl (up rfl (up rfl (up rfl hs1)))))) ?_
    refine RW.soft Wd.a (v := .bool (x == id)) (by exact E.eql (k := .i64) (a := x) (b := id) (AF_ev rfl (up rfl tp)) (AF_ev rfl tp)) ?_
    refine RW.fin (fun τ => τ 0 = .slice (some ⟨b0, o0, none⟩) zs.length c ∧ τ 1 = .int .i64 id ∧ τ 5 = .int .i64 ((j : Nat) : Int) ∧ τ 9 = .bool true ∧ τ 17 = .bool (x == id)) ⟨up rfl (up rfl (up rfl (up rfl (up rfl (up rfl hs0))))), up rfl (up rfl (up rfl (up rfl (up rfl (up rfl hs1))))), up rfl (up rfl (up rfl (up rfl (up rfl (up rfl hs5))))), up rfl (up rfl (up rfl (up rfl (up rfl (up rfl (Eq.trans hs9 (congrArg Value.bool hc1))))))), tp⟩ ?_
    rintro τ ⟨hs0, hs1, hs5, hs9, hs17⟩
    refine CW.cond (AF_ev rfl hs17) (fun hc2 => ?_) (fun hc2 => ?_)
    · have hc2_ := hc2
      try simp only [decide_eq_true_eq, decide_eq_false_iff_not, Bool.and_eq_true, Bool.or_eq_true, Bool.and_eq_false_iff, Bool.or_eq_false_iff, Bool.not_eq_true', Bool.not_eq_false', beq_iff_eq, beq_eq_false_iff_ne, bne_iff_ne, bne_eq_false_iff_eq, ne_eq, Int.not_lt, Int.not_le, gt_iff_lt, ge_iff_le] at hc2_
      refine CW.seq ?_
      refine CW.region ?_
      refine RW.soft Wd.a (v := .bool true) (by exact E.assign rfl) ?_
      refine RW.fin (fun τ => τ 0 = .slice (some ⟨b0, o0, none⟩) zs.length c ∧ τ 1 = .int .i64 id ∧ τ 4 = .bool true ∧ τ 5 = .int .i64 ((j : Nat) : Int) ∧ τ 9 = .bool true ∧ τ 17 = .bool true) ⟨up rfl hs0, up rfl hs1, tp, up rfl hs5, up rfl hs9, up rfl (Eq.trans hs17 (congrArg Value.bool hc2))⟩ ?_
      rintro τ ⟨hs0, hs1, hs4, hs5, hs9, hs17⟩
      refine CW.ret ?_
      refine Bl.r ?_
      refine Th.r ?_
      refine Th.r ?_
      refine Bl.r ?_
      refine Th.r ?_
      refine ret1 (v := .bool true) rfl (by exact (.tmp (AF_ev rfl hs4) .nil)) ?_
      
      exact ⟨by rw [cont_found hx (by omega)], hst⟩
    · have hc2_ := hc2
      try simp only [decide_eq_true_eq, decide_eq_false_iff_not, Bool.and_eq_true, Bool.or_eq_true, Bool.and_eq_false_iff, Bool.or_eq_false_iff, Bool.not_eq_true', Bool.not_eq_false', beq_iff_eq, beq_eq_false_iff_ne, bne_iff_ne, bne_eq_false_iff_eq, ne_eq, Int.not_lt, Int.not_le, gt_iff_lt, ge_iff_le] at hc2_
      refine CW.skip ?_
      refine Bl.n ?_
      refine Th.n ?_
      refine CW.region ?_
      refine RW.soft Wd.a (v := .int .i64 ((j : Nat) : Int)) (by exact E.move (AF_ev rfl hs5)) ?_
      refine RW.soft Wd.a (v := .int .i64 (((j : Nat) : Int) + 1)) (by exact E.add (k := .i64) (a := ((j : Nat) : Int)) (b := 1) (AF_ev rfl tp) rfl (show IntKind.i64.wrap (((j : Nat) : Int) + 1) = ((j : Nat) : Int) + 1 from (by rw [IntWalk.i64_in _ (by omega)]))) ?_
      refine RW.soft Wd.a (v := .int .i64 (((j : Nat) : Int) + 1)) (by exact E.assign (AF_ev rfl tp)) ?_
      refine RW.nil ?_
      refine Th.n ?_
      have hf2 := cont_more hf hx (by omega)
      exact ⟨zs.length - (j + 1), by omega, j + 1, hf2, (by omega), rfl, up rfl (up rfl (up rfl hs0)), up rfl (up rfl (up rfl hs1)), (int_eq (a := ((j : Nat) : Int) + 1) tp (by omega)), hst⟩
  · have hc1_ := hc1
    try simp only [decide_eq_true_eq, decide_eq_false_iff_not, Bool.and_eq_true, Bool.or_eq_true, Bool.and_eq_false_iff, Bool.or_eq_false_iff, Bool.not_eq_true', Bool.not_eq_false', beq_iff_eq, beq_eq_false_iff_ne, bne_iff_ne, bne_eq_false_iff_eq, ne_eq, Int.not_lt, Int.not_le, gt_iff_lt, ge_iff_le] at hc1_
    refine CW.exit ?_
    refine Th.x ?_
    refine Th.x ?_
    refine Bl.x ?_
    refine Th.n ?_
    refine CW.seq ?_
    refine CW.region ?_
    refine RW.soft Wd.a (v := .bool false) (by exact E.assign rfl) ?_
    refine RW.fin (fun τ => τ 0 = .slice X zs.length c ∧ τ 1 = .int .i64 id ∧ τ 4 = .bool false ∧ τ 5 = .int .i64 ((j : Nat) : Int) ∧ τ 9 = .bool false) ⟨up rfl hs0, up rfl hs1, tp, up rfl hs5, up rfl (Eq.trans hs9 (congrArg Value.bool hc1))⟩ ?_
    rintro τ ⟨hs0, hs1, hs4, hs5, hs9⟩
    refine CW.ret ?_
    refine ret1 (v := .bool false) rfl (by exact (.tmp (AF_ev rfl hs4) .nil)) ?_
    
    exact ⟨by rw [cont_all hf (by omega)], hst⟩

theorem place_in {zs : List Int} {i x : Int} (h0 : 0 ≤ i) (hx : zs[i.toNat]? = some x) : placeOf zs i = x := by
  have := (List.getElem?_eq_some_iff.1 hx).1
  unfold placeOf; rw [if_pos (by omega)]; simp [List.getD, hx]
theorem place_out {zs : List Int} {i : Int} (h : i < 0 ∨ i ≥ zs.length) : placeOf zs i = 0 := by
  unfold placeOf; rw [if_neg (by omega)]

theorem r_place {p : Pers} {w : World} {R : List Assn} {A : Assn} {X : Option Addr} {c : Nat} {zs : List Int} (hA : TI p A (.slice X zs.length c) zs) (hl : zs.length ≤ 1000000) (i : Int) (hst : St p w (A :: R)) :
    Calls Try.prog 60 #[.slice X zs.length c, .int .i64 i] w fun e w => e = .returned (.int .i64 (placeOf zs i)) ∧ St p w (A :: R) := by
  refine enter Try.func60 rfl (by simp) (n := 17) rfl fun τ hτ => ?_
  have hs0 : τ 0 = .slice X zs.length c := hτ 0 (by simp)
  have hs1 : τ 1 = .int .i64 i := hτ 1 (by simp)
  clear hτ
  refine CW.seq ?_
  refine CW.region ?_
  refine RW.soft Wd.a (v := .int .i64 0) (by exact E.assign rfl) ?_
  refine RW.fin (fun τ => τ 0 = .slice X zs.length c ∧ τ 1 = .int .i64 i ∧ τ 4 = .int .i64 0) ⟨up rfl hs0, up rfl hs1, tp⟩ ?_
  rintro τ ⟨hs0, hs1, hs4⟩
  refine CW.seq ?_
  refine CW.seq ?_
  refine CW.cut (fun τ => τ 0 = .slice X zs.length c ∧ τ 1 = .int .i64 i ∧ τ 4 = .int .i64 0 ∧ τ 12 = .bool ((decide (i < 0)) || (decide (i ≥ ((zs.length : Nat) : Int))))) ?_ ?_
  · refine CW.region ?_
    refine RW.soft Wd.a (v := .int .i64 i) (by exact E.move (AF_ev rfl hs1)) ?_
    refine RW.soft Wd.a (v := .bool (decide (i < 0))) (by exact E.lss (k := .i64) (a := i) (b := 0) (AF_ev rfl tp) rfl) ?_
    refine RW.soft Wd.a (v := .bool (decide (i < 0))) (by exact E.move (AF_ev rfl tp)) ?_
    refine Or.elim (Bool.eq_false_or_eq_true (decide (i < 0))) (fun hg1 => ?_) (fun hg1 => ?_)
    · have hg1_ := hg1
      try simp only [decide_eq_true_eq, decide_eq_false_iff_not, Bool.and_eq_true, Bool.or_eq_true, Bool.and_eq_false_iff, Bool.or_eq_false_iff, Bool.not_eq_true', Bool.not_eq_false', beq_iff_eq, beq_eq_false_iff_ne, bne_iff_ne, bne_eq_false_iff_eq, ne_eq, Int.not_lt, Int.not_le, gt_iff_lt, ge_iff_le] at hg1_
      refine RW.pass (by exact Wd.no (x := 7) (b := true) rfl (AF_ev rfl (Eq.trans tp (congrArg Value.bool hg1))) rfl) ?_
      refine RW.pass (by exact Wd.no (x := 7) (b := true) rfl (AF_ev rfl (up rfl (Eq.trans tp (congrArg Value.bool hg1)))) rfl) ?_
      refine RW.pass (by exact Wd.no (x := 7) (b := true) rfl (AF_ev rfl (up rfl (up rfl (Eq.trans tp (congrArg Value.bool hg1))))) rfl) ?_
      refine RW.pass (by exact Wd.no (x := 7) (b := true) rfl (AF_ev rfl (up rfl (up rfl (up rfl (Eq.trans tp (congrArg Value.bool hg1)))))) rfl) ?_
      refine RW.soft Wd.a (v := .bool true) (by exact E.pickT (AF_ev rfl (up rfl (up rfl (up rfl (up rfl (Eq.trans tp (congrArg Value.bool hg1))))))) rfl) ?_
      refine RW.nil ⟨rfl, rfl, up rfl (up rfl (up rfl (up rfl (up rfl (up rfl (up rfl (up rfl hs0))))))), up rfl (up rfl (up rfl (up rfl (up rfl (up rfl (up rfl (up rfl hs1))))))), up rfl (up rfl (up rfl (up rfl (up rfl (up rfl (up rfl (up rfl hs4))))))), (bool_eq (a := true) tp (by simp only [hg1, Bool.true_and, Bool.false_and, Bool.true_or, Bool.false_or]))⟩
    · have hg1_ := hg1
      try simp only [decide_eq_true_eq, decide_eq_false_iff_not, Bool.and_eq_true, Bool.or_eq_true, Bool.and_eq_false_iff, Bool.or_eq_false_iff, Bool.not_eq_true', Bool.not_eq_false', beq_iff_eq, beq_eq_false_iff_ne, bne_iff_ne, bne_eq_false_iff_eq, ne_eq, Int.not_lt, Int.not_le, gt_iff_lt, ge_iff_le] at hg1_
      refine RW.soft (by exact Wd.yes (x := 7) rfl (AF_ev rfl (Eq.trans tp (congrArg Value.bool hg1)))) (v := .int .i64 i) (by exact E.move (AF_ev rfl (up rfl (up rfl (up rfl hs1))))) ?_
      refine RW.soft (by exact Wd.yes (x := 7) rfl (AF_ev rfl (up rfl (Eq.trans tp (congrArg Value.bool hg1))))) (v := .slice X zs.length c) (by exact E.move (AF_ev rfl (up rfl (up rfl (up rfl (up rfl hs0)))))) ?_
      refine RW.soft (by exact Wd.yes (x := 7) rfl (AF_ev rfl (up rfl (up rfl (Eq.trans tp (congrArg Value.bool hg1)))))) (v := .int .i64 ((zs.length : Nat) : Int)) (by exact E.lenS (p := X) (l := zs.length) (c := c) Try.underlying58 (AF_ev rfl tp)) ?_
      refine RW.soft (by exact Wd.yes (x := 7) rfl (AF_ev rfl (up rfl (up rfl (up rfl (Eq.trans tp (congrArg Value.bool hg1))))))) (v := .bool (decide (i ≥ ((zs.length : Nat) : Int)))) (by exact E.geq (k := .i64) (a := i) (b := ((zs.length : Nat) : Int)) (AF_ev rfl (up rfl (up rfl tp))) (AF_ev rfl tp)) ?_
      refine RW.soft Wd.a (v := .bool (decide (i ≥ ((zs.length : Nat) : Int)))) (by exact E.pickF (AF_ev rfl (up rfl (up rfl (up rfl (up rfl (Eq.trans tp (congrArg Value.bool hg1))))))) (AF_ev rfl tp)) ?_
      refine RW.nil ⟨rfl, rfl, up rfl (up rfl (up rfl (up rfl (up rfl (up rfl (up rfl (up rfl hs0))))))), up rfl (up rfl (up rfl (up rfl (up rfl (up rfl (up rfl (up rfl hs1))))))), up rfl (up rfl (up rfl (up rfl (up rfl (up rfl (up rfl (up rfl hs4))))))), (bool_eq (a := decide (i ≥ ((zs.length : Nat) : Int))) tp (by simp only [hg1, Bool.true_and, Bool.false_and, Bool.true_or, Bool.false_or]))⟩
  rintro τ ⟨hs0, hs1, hs4, hs12⟩
  refine CW.cond (AF_ev rfl hs12) (fun hc2 => ?_) (fun hc2 => ?_)
  · have hc2_ := hc2
    try simp only [decide_eq_true_eq, decide_eq_false_iff_not, Bool.and_eq_true, Bool.or_eq_true, Bool.and_eq_false_iff, Bool.or_eq_false_iff, Bool.not_eq_true', Bool.not_eq_false', beq_iff_eq, beq_eq_false_iff_ne, bne_iff_ne, bne_eq_false_iff_eq, ne_eq, Int.not_lt, Int.not_le, gt_iff_lt, ge_iff_le] at hc2_
    refine CW.seq ?_
    refine CW.region ?_
    refine RW.soft Wd.a (v := .int .i64 0) (by exact E.assign rfl) ?_
    refine RW.fin (fun τ => τ 0 = .slice X zs.length c ∧ τ 1 = .int .i64 i ∧ τ 4 = .int .i64 0 ∧ τ 12 = .bool true) ⟨up rfl hs0, up rfl hs1, tp, up rfl (Eq.trans hs12 (congrArg Value.bool hc2))⟩ ?_
    rintro τ ⟨hs0, hs1, hs4, hs12⟩
    refine CW.ret ?_
    refine Th.r ?_
    refine ret1 (v := .int .i64 0) rfl (by exact (.tmp (AF_ev rfl hs4) .nil)) ?_
    
    exact ⟨by rw [place_out (by omega)], hst⟩
  · have hc2_ := hc2
    try simp only [decide_eq_true_eq, decide_eq_false_iff_not, Bool.and_eq_true, Bool.or_eq_true, Bool.and_eq_false_iff, Bool.or_eq_false_iff, Bool.not_eq_true', Bool.not_eq_false', beq_iff_eq, beq_eq_false_iff_ne, bne_iff_ne, bne_eq_false_iff_eq, ne_eq, Int.not_lt, Int.not_le, gt_iff_lt, ge_iff_le] at hc2_
    refine CW.skip ?_
    refine Th.n ?_
    refine CW.seq ?_
    obtain ⟨b0, o0, rfl, hcell0⟩ := TI.place hA (hst.take .here) (by omega)
    obtain ⟨x, hx⟩ : ∃ z, zs[i.toNat]? = some z := ⟨zs[i.toNat]'(by omega), List.getElem?_eq_getElem (by omega)⟩
    refine CW.region ?_
    refine RW.soft Wd.a (v := .slice (some ⟨b0, o0, none⟩) zs.length c) (by exact E.move (AF_ev rfl hs0)) ?_
    refine RW.soft Wd.a (v := .int .i64 i) (by exact E.move (AF_ev rfl (up rfl hs1))) ?_
    refine RW.soft Wd.a (v := .pointer (some ⟨b0, o0 + (i).toNat * 1, none⟩)) (by exact E.indexAddr (b := b0) (o := o0) (l := zs.length) (c := c) (i := i) Try.underlying58 sz3 (AF_ev rfl (up rfl tp)) (AF_ev rfl tp) (by omega) (by omega) rfl) ?_
    refine RW.soft Wd.a (v := .int .i64 x) (by exact E.load (a := ⟨b0, o0 + (i).toNat * 1, none⟩) Try.underlying3 rfl (AF_ev rfl tp) (by exact hcell0 (hst.take .here) _ _ (flat_get (j := 0) ienc_len hx (rfl)))) ?_
    refine RW.soft Wd.a (v := .int .i64 x) (by exact E.assign (AF_ev rfl tp)) ?_
    refine RW.fin (fun τ => τ 0 = .slice (some ⟨b0, o0, none⟩) zs.length c ∧ τ 1 = .int .i64 i ∧ τ 4 = .int .i64 x ∧ τ 12 = .bool false) ⟨up rfl (up rfl (up rfl (up rfl (up rfl hs0)))), up rfl (up rfl (up rfl (up rfl (up rfl hs1)))), tp, up rfl (up rfl (up rfl (up rfl (up rfl (Eq.trans hs12 (congrArg Value.bool hc2))))))⟩ ?_
    rintro τ ⟨hs0, hs1, hs4, hs12⟩
    refine CW.ret ?_
    refine ret1 (v := .int .i64 x) rfl (by exact (.tmp (AF_ev rfl hs4) .nil)) ?_
    
    exact ⟨by rw [place_in (by omega) hx], hst⟩

theorem q_few {p : Pers} {w : World} {R : List Assn} {A : Assn} {X : Option Addr} {c : Nat} {zs : List Int} (hA : TI p A (.slice X zs.length c) zs) (hl : zs.length ≤ 9223372036854775807)  (hst : St p w (A :: R)) :
    Calls Try.prog 32 #[.slice X zs.length c] w fun e w => ∃ X2 n2 c2, e = .returned (.slice X2 n2 c2) ∧ n2 = (zs.take 30).length ∧ TI p A (.slice X2 n2 c2) (zs.take 30) ∧ St p w (A :: R) := by
  refine enter Try.func32 rfl (by simp) (n := 9) rfl fun τ hτ => ?_
  have hs0 : τ 0 = .slice X zs.length c := hτ 0 (by simp)
  clear hτ
  refine CW.seq ?_
  refine CW.region ?_
  refine RW.soft Wd.a (v := .slice none 0 0) (by exact E.assign rfl) ?_
  refine RW.fin (fun τ => τ 0 = .slice X zs.length c ∧ τ 2 = .slice none 0 0) ⟨up rfl hs0, tp⟩ ?_
  rintro τ ⟨hs0, hs2⟩
  refine CW.seq ?_
  refine CW.seq ?_
  refine CW.region ?_
  refine RW.soft Wd.a (v := .slice X zs.length c) (by exact E.move (AF_ev rfl hs0)) ?_
  refine RW.soft Wd.a (v := .int .i64 ((zs.length : Nat) : Int)) (by exact E.lenS (p := X) (l := zs.length) (c := c) Try.underlying58 (AF_ev rfl tp)) ?_
  refine RW.soft Wd.a (v := .bool (decide (((zs.length : Nat) : Int) > 30))) (by exact E.gtr (k := .i64) (a := ((zs.length : Nat) : Int)) (b := 30) (AF_ev rfl tp) rfl) ?_
  refine RW.fin (fun τ => τ 0 = .slice X zs.length c ∧ τ 2 = .slice none 0 0 ∧ τ 5 = .bool (decide (((zs.length : Nat) : Int) > 30))) ⟨up rfl (up rfl (up rfl hs0)), up rfl (up rfl (up rfl hs2)), tp⟩ ?_
  rintro τ ⟨hs0, hs2, hs5⟩
  refine CW.cond (AF_ev rfl hs5) (fun hc1 => ?_) (fun hc1 => ?_)
  · have hc1_ := hc1
    try simp only [decide_eq_true_eq, decide_eq_false_iff_not, Bool.and_eq_true, Bool.or_eq_true, Bool.and_eq_false_iff, Bool.or_eq_false_iff, Bool.not_eq_true', Bool.not_eq_false', beq_iff_eq, beq_eq_false_iff_ne, bne_iff_ne, bne_eq_false_iff_eq, ne_eq, Int.not_lt, Int.not_le, gt_iff_lt, ge_iff_le] at hc1_
    refine CW.seq ?_
    obtain ⟨X9, c9, hsh, hcl⟩ := TI.shape hA (hst.take .here)
    cases hsh
    obtain ⟨b0, o0, rfl, hcell0⟩ := TI.place hA (hst.take .here) (by omega)
    refine CW.region ?_
    refine RW.soft Wd.a (v := .slice (some ⟨b0, o0, none⟩) zs.length c) (by exact E.move (AF_ev rfl hs0)) ?_
    refine RW.soft Wd.a (v := .slice (some ⟨b0, o0, none⟩) 30 c) (by exact E.slice (i := 0) (j := 30) Try.underlying58 sz3 (AF_ev rfl tp) rfl rfl (by omega) (by omega) (by simp)) ?_
    refine RW.soft Wd.a (v := .slice (some ⟨b0, o0, none⟩) 30 c) (by exact E.assign (AF_ev rfl tp)) ?_
    refine RW.fin (fun τ => τ 0 = .slice (some ⟨b0, o0, none⟩) zs.length c ∧ τ 2 = .slice (some ⟨b0, o0, none⟩) 30 c ∧ τ 5 = .bool true) ⟨up rfl (up rfl (up rfl hs0)), tp, up rfl (up rfl (up rfl (Eq.trans hs5 (congrArg Value.bool hc1))))⟩ ?_
    rintro τ ⟨hs0, hs2, hs5⟩
    refine CW.ret ?_
    refine Th.r ?_
    refine ret1 (v := .slice (some ⟨b0, o0, none⟩) 30 c) rfl (by exact (.tmp (AF_ev rfl hs2) .nil)) ?_
    
    exact ⟨_, 30, _, rfl, by rw [List.length_take]; omega, TI.take 30 hA (by omega), hst⟩
  · have hc1_ := hc1
    try simp only [decide_eq_true_eq, decide_eq_false_iff_not, Bool.and_eq_true, Bool.or_eq_true, Bool.and_eq_false_iff, Bool.or_eq_false_iff, Bool.not_eq_true', Bool.not_eq_false', beq_iff_eq, beq_eq_false_iff_ne, bne_iff_ne, bne_eq_false_iff_eq, ne_eq, Int.not_lt, Int.not_le, gt_iff_lt, ge_iff_le] at hc1_
    refine CW.skip ?_
    refine Th.n ?_
    refine CW.seq ?_
    refine CW.region ?_
    refine RW.soft Wd.a (v := .slice X zs.length c) (by exact E.move (AF_ev rfl hs0)) ?_
    refine RW.soft Wd.a (v := .slice X zs.length c) (by exact E.assign (AF_ev rfl tp)) ?_
    refine RW.fin (fun τ => τ 0 = .slice X zs.length c ∧ τ 2 = .slice X zs.length c ∧ τ 5 = .bool false) ⟨up rfl (up rfl hs0), tp, up rfl (up rfl (Eq.trans hs5 (congrArg Value.bool hc1)))⟩ ?_
    rintro τ ⟨hs0, hs2, hs5⟩
    refine CW.ret ?_
    refine ret1 (v := .slice X zs.length c) rfl (by exact (.tmp (AF_ev rfl hs2) .nil)) ?_
    
    have ht : zs.take 30 = zs := List.take_of_length_le (by omega)
    exact ⟨_, _, _, rfl, by rw [ht], by rw [ht]; exact hA, hst⟩

theorem q_ints {p : Pers} {w : World} {R : List Assn} {A B : Assn} {Xa Xb : Option Addr} {ca cb : Nat} {zs : List Int} (hA : TI p A (.slice Xa zs.length ca) zs) (hB : TI p B (.slice Xb zs.length cb) zs) (hl : zs.length ≤ 1000000) (hst : St p w (A :: B :: R)) :
    Calls Try.prog 35 #[.slice Xa zs.length ca, .slice Xb zs.length cb] w fun e w => e = .returned (.bool true) ∧ St p w (A :: B :: R) := by
  refine enter Try.func35 rfl (by simp) (n := 26) rfl fun τ hτ => ?_
  have hs0 : τ 0 = .slice Xa zs.length ca := hτ 0 (by simp)
  have hs1 : τ 1 = .slice Xb zs.length cb := hτ 1 (by simp)
  clear hτ
  refine CW.seq ?_
  refine CW.region ?_
  refine RW.soft Wd.a (v := .bool false) (by exact E.assign rfl) ?_
  refine RW.fin (fun τ => τ 0 = .slice Xa zs.length ca ∧ τ 1 = .slice Xb zs.length cb ∧ τ 4 = .bool false) ⟨up rfl hs0, up rfl hs1, tp⟩ ?_
  rintro τ ⟨hs0, hs1, hs4⟩
  refine CW.seq ?_
  refine CW.seq ?_
  refine CW.region ?_
  refine RW.soft Wd.a (v := .slice Xa zs.length ca) (by exact E.move (AF_ev rfl hs0)) ?_
  refine RW.soft Wd.a (v := .int .i64 ((zs.length : Nat) : Int)) (by exact E.lenS (p := Xa) (l := zs.length) (c := ca) Try.underlying58 (AF_ev rfl tp)) ?_
  refine RW.soft Wd.a (v := .slice Xb zs.length cb) (by exact E.move (AF_ev rfl (up rfl (up rfl hs1)))) ?_
  refine RW.soft Wd.a (v := .int .i64 ((zs.length : Nat) : Int)) (by exact E.lenS (p := Xb) (l := zs.length) (c := cb) Try.underlying58 (AF_ev rfl tp)) ?_
  refine RW.soft Wd.a (v := .bool false) (by exact E.b (a := ((zs.length : Nat) : Int) != ((zs.length : Nat) : Int)) (E.neq (k := .i64) (a := ((zs.length : Nat) : Int)) (b := ((zs.length : Nat) : Int)) (AF_ev rfl (up rfl (up rfl tp))) (AF_ev rfl tp)) (by simp)) ?_
  refine RW.fin (fun τ => τ 0 = .slice Xa zs.length ca ∧ τ 1 = .slice Xb zs.length cb ∧ τ 4 = .bool false ∧ τ 10 = .bool false) ⟨up rfl (up rfl (up rfl (up rfl (up rfl hs0)))), up rfl (up rfl (up rfl (up rfl (up rfl hs1)))), up rfl (up rfl (up rfl (up rfl (up rfl hs4)))), tp⟩ ?_
  rintro τ ⟨hs0, hs1, hs4, hs10⟩
  refine CW.condF (AF_ev rfl hs10) ?_
  refine CW.skip ?_
  refine Th.n ?_
  refine CW.seq ?_
  refine CW.seq ?_
  refine CW.region ?_
  refine RW.soft Wd.a (v := .int .i64 0) (by exact E.assign rfl) ?_
  refine RW.fin (fun τ => τ 0 = .slice Xa zs.length ca ∧ τ 1 = .slice Xb zs.length cb ∧ τ 4 = .bool false ∧ τ 5 = .int .i64 0 ∧ τ 10 = .bool false) ⟨up rfl hs0, up rfl hs1, up rfl hs4, tp, up rfl hs10⟩ ?_
  rintro τ ⟨hs0, hs1, hs4, hs5, hs10⟩
  refine CW.block ?_
  have hst := hst.take (.there .here)
  have hst := hst.take (.there .here)
  refine CW.loop (fun (k : Nat) (τ : Fr) (w : World) => ∃ (j : Nat), j ≤ zs.length ∧ k = zs.length - j ∧ τ 0 = .slice Xa zs.length ca ∧ τ 1 = .slice Xb zs.length cb ∧ τ 5 = .int .i64 ((j : Nat) : Int) ∧ St p w (A :: B :: R)) (zs.length - 0) ⟨0, by omega, rfl, hs0, hs1, (int_eq (a := 0) hs5 (by omega)), hst⟩ ?_
  clear hst
  rintro k τ w ⟨j, hj, hkj, hs0, hs1, hs5, hst⟩
  refine CW.seq ?_
  refine CW.seq ?_
  refine CW.region ?_
  refine RW.soft Wd.a (v := .int .i64 ((j : Nat) : Int)) (by exact E.move (AF_ev rfl hs5)) ?_
  refine RW.soft Wd.a (v := .slice Xa zs.length ca) (by exact E.move (AF_ev rfl (up rfl hs0))) ?_
  refine RW.soft Wd.a (v := .int .i64 ((zs.length : Nat) : Int)) (by exact E.lenS (p := Xa) (l := zs.length) (c := ca) Try.underlying58 (AF_ev rfl tp)) ?_
  refine RW.soft Wd.a (v := .bool (decide (((j : Nat) : Int) < ((zs.length : Nat) : Int)))) (by exact E.lss (k := .i64) (a := ((j : Nat) : Int)) (b := ((zs.length : Nat) : Int)) (AF_ev rfl (up rfl (up rfl tp))) (AF_ev rfl tp)) ?_
  refine RW.fin (fun τ => τ 0 = .slice Xa zs.length ca ∧ τ 1 = .slice Xb zs.length cb ∧ τ 5 = .int .i64 ((j : Nat) : Int) ∧ τ 14 = .bool (decide (((j : Nat) : Int) < ((zs.length : Nat) : Int)))) ⟨up rfl (up rfl (up rfl (up rfl hs0))), up rfl (up rfl (up rfl (up rfl hs1))), up rfl (up rfl (up rfl (up rfl hs5))), tp⟩ ?_
  rintro τ ⟨hs0, hs1, hs5, hs14⟩
  refine CW.cond (AF_ev rfl hs14) (fun hc1 => ?_) (fun hc1 => ?_)
  · have hc1_ := hc1
    try simp only [decide_eq_true_eq, decide_eq_false_iff_not, Bool.and_eq_true, Bool.or_eq_true, Bool.and_eq_false_iff, Bool.or_eq_false_iff, Bool.not_eq_true', Bool.not_eq_false', beq_iff_eq, beq_eq_false_iff_ne, bne_iff_ne, bne_eq_false_iff_eq, ne_eq, Int.not_lt, Int.not_le, gt_iff_lt, ge_iff_le] at hc1_
    refine CW.skip ?_
    refine Th.n ?_
    refine CW.seq ?_
    refine CW.block ?_
    refine CW.seq ?_
    obtain ⟨ba, oa, rfl, hca⟩ := TI.place hA (hst.take .here) (by omega)
    obtain ⟨bb, ob, rfl, hcb⟩ := TI.place hB (hst.take (.there .here)) (by omega)
    obtain ⟨x, hx⟩ : ∃ z, zs[j]? = some z := ⟨zs[j]'(by omega), List.getElem?_eq_getElem (by omega)⟩
    refine CW.regionD [0, 1, 2, 3, 4, 5, 6, 7, 8] (fun w => w.cell? ⟨ba, oa + j * 1, none⟩ = some (.int .i64 x) ∧ w.cell? ⟨bb, ob + j * 1, none⟩ = some (.int .i64 x)) mixed ?_
    have hst := hst.drew
    generalize w.drew = w at hst ⊢
    have hS : w.cell? ⟨ba, oa + j * 1, none⟩ = some (.int .i64 x) ∧ w.cell? ⟨bb, ob + j * 1, none⟩ = some (.int .i64 x) := ⟨(by exact hca (hst.take .here) _ _ (flat_get (j := 0) ienc_len hx (rfl))), (by exact hcb (hst.take (.there .here)) _ _ (flat_get (j := 0) ienc_len hx (rfl)))⟩
    refine RD.take 0 rfl (by kernel_rfl) Wd.a (v := .slice (some ⟨ba, oa, none⟩) zs.length ca) (fun w hS => by exact E.move (AF_ev rfl hs0)) hS ?_
    refine RD.take 1 rfl (by kernel_rfl) Wd.a (v := .int .i64 ((j : Nat) : Int)) (fun w hS => by exact E.move (AF_ev rfl (up rfl hs5))) hS ?_
    refine RD.take 2 rfl (by kernel_rfl) Wd.a (v := .pointer (some ⟨ba, oa + j * 1, none⟩)) (fun w hS => by exact E.indexAddr (b := ba) (o := oa) (l := zs.length) (c := ca) (i := ((j : Nat) : Int)) Try.underlying58 sz3 (AF_ev rfl (up rfl tp)) (AF_ev rfl tp) (by omega) (by omega) (by simp)) hS ?_
    refine RD.take 3 rfl (by kernel_rfl) Wd.a (v := .int .i64 x) (fun w hS => by exact E.load (a := ⟨ba, oa + j * 1, none⟩) Try.underlying3 rfl (AF_ev rfl tp) hS.1) hS ?_
    refine RD.take 4 rfl (by kernel_rfl) Wd.a (v := .slice (some ⟨bb, ob, none⟩) zs.length cb) (fun w hS => by exact E.move (AF_ev rfl (up rfl (up rfl (up rfl (up rfl hs1)))))) hS ?_
    refine RD.take 5 rfl (by kernel_rfl) Wd.a (v := .int .i64 ((j : Nat) : Int)) (fun w hS => by exact E.move (AF_ev rfl (up rfl (up rfl (up rfl (up rfl (up rfl hs5))))))) hS ?_
    refine RD.take 6 rfl (by kernel_rfl) Wd.a (v := .pointer (some ⟨bb, ob + j * 1, none⟩)) (fun w hS => by exact E.indexAddr (b := bb) (o := ob) (l := zs.length) (c := cb) (i := ((j : Nat) : Int)) Try.underlying58 sz3 (AF_ev rfl (up rfl tp)) (AF_ev rfl tp) (by omega) (by omega) (by simp)) hS ?_
    refine RD.take 7 rfl (by kernel_rfl) Wd.a (v := .int .i64 x) (fun w hS => by exact E.load (a := ⟨bb, ob + j * 1, none⟩) Try.underlying3 rfl (AF_ev rfl tp) hS.2) hS ?_
    refine RD.take 8 rfl (by kernel_rfl) Wd.a (v := .bool false) (fun w hS => by exact E.b (a := x != x) (E.neq (k := .i64) (a := x) (b := x) (AF_ev rfl (up rfl (up rfl (up rfl (up rfl tp))))) (AF_ev rfl tp)) (by simp)) hS ?_
    refine RD.fin (by kernel_rfl) (fun τ => τ 0 = .slice (some ⟨ba, oa, none⟩) zs.length ca ∧ τ 1 = .slice (some ⟨bb, ob, none⟩) zs.length cb ∧ τ 5 = .int .i64 ((j : Nat) : Int) ∧ τ 14 = .bool true ∧ τ 25 = .bool false) ⟨up rfl (up rfl (up rfl (up rfl (up rfl (up rfl (up rfl (up rfl (up rfl hs0)))))))), up rfl (up rfl (up rfl (up rfl (up rfl (up rfl (up rfl (up rfl (up rfl hs1)))))))), up rfl (up rfl (up rfl (up rfl (up rfl (up rfl (up rfl (up rfl (up rfl hs5)))))))), up rfl (up rfl (up rfl (up rfl (up rfl (up rfl (up rfl (up rfl (up rfl (Eq.trans hs14 (congrArg Value.bool hc1)))))))))), tp⟩ ?_
    rintro τ ⟨hs0, hs1, hs5, hs14, hs25⟩
    refine CW.condF (AF_ev rfl hs25) ?_
    refine CW.skip ?_
    refine Bl.n ?_
    refine Th.n ?_
    refine CW.region ?_
    refine RW.soft Wd.a (v := .int .i64 ((j : Nat) : Int)) (by exact E.move (AF_ev rfl hs5)) ?_
    refine RW.soft Wd.a (v := .int .i64 (((j : Nat) : Int) + 1)) (by exact E.add (k := .i64) (a := ((j : Nat) : Int)) (b := 1) (AF_ev rfl tp) rfl (show IntKind.i64.wrap (((j : Nat) : Int) + 1) = ((j : Nat) : Int) + 1 from (by rw [IntWalk.i64_in _ (by omega)]))) ?_
    refine RW.soft Wd.a (v := .int .i64 (((j : Nat) : Int) + 1)) (by exact E.assign (AF_ev rfl tp)) ?_
    refine RW.nil ?_
    refine Th.n ?_
    have hst := hst.take (.there .here)
    have hst := hst.take (.there .here)
    exact ⟨zs.length - (j + 1), by omega, j + 1, (by omega), rfl, up rfl (up rfl (up rfl hs0)), up rfl (up rfl (up rfl hs1)), (int_eq (a := ((j : Nat) : Int) + 1) tp (by omega)), hst⟩
  · have hc1_ := hc1
    try simp only [decide_eq_true_eq, decide_eq_false_iff_not, Bool.and_eq_true, Bool.or_eq_true, Bool.and_eq_false_iff, Bool.or_eq_false_iff, Bool.not_eq_true', Bool.not_eq_false', beq_iff_eq, beq_eq_false_iff_ne, bne_iff_ne, bne_eq_false_iff_eq, ne_eq, Int.not_lt, Int.not_le, gt_iff_lt, ge_iff_le] at hc1_
    refine CW.exit ?_
    refine Th.x ?_
    refine Th.x ?_
    refine Bl.x ?_
    refine Th.n ?_
    refine CW.seq ?_
    refine CW.region ?_
    refine RW.soft Wd.a (v := .bool true) (by exact E.assign rfl) ?_
    refine RW.fin (fun τ => τ 0 = .slice Xa zs.length ca ∧ τ 1 = .slice Xb zs.length cb ∧ τ 4 = .bool true ∧ τ 5 = .int .i64 ((j : Nat) : Int) ∧ τ 14 = .bool false) ⟨up rfl hs0, up rfl hs1, tp, up rfl hs5, up rfl (Eq.trans hs14 (congrArg Value.bool hc1))⟩ ?_
    rintro τ ⟨hs0, hs1, hs4, hs5, hs14⟩
    refine CW.ret ?_
    refine ret1 (v := .bool true) rfl (by exact (.tmp (AF_ev rfl hs4) .nil)) ?_
    have hst := hst.take (.there .here)
    have hst := hst.take (.there .here)
    exact ⟨rfl, hst⟩
end Go.Proofs.Ytjagffnbobnofaa
