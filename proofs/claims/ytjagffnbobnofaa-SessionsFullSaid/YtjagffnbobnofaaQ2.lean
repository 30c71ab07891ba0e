/- The functions of the package quorum, walked through operation by operation. -/
import Derived.Test.YtjagffnbobnofaaQ1
import Derived.Test.YtjagffnbobnofaaQ0
import Derived.Test.YtjagffnbobnofaaSM
namespace Go.Proofs.Ytjagffnbobnofaa
open Go.RowKit Go.SL Go.Q18
attribute [local irreducible] Go.SL.RW Go.SL.CW Go.SL.RD Go.SL.Hd Go.SL.St
set_option linter.unusedVariables false
set_option linter.unusedSimpArgs false

theorem nm39 : (Try.f39.name == "runtime.NumGoroutine") = false := by kernel_rfl

theorem r_Check {p : Pers} {w : World} {R : List Assn} {A : Assn} {X : Option Addr} {c : Nat} {zs : List Int} (hA : TI p A (.slice X zs.length c) zs) (hl : zs.length ≤ 1000000)  (hst : St p w (A :: R)) :
    Calls Try.prog 37 #[.slice X zs.length c] w fun e w => e = .returned (.int .i64 (checkI zs)) ∧ St p w (A :: R) := by
  refine enter Try.func37 rfl (by simp) (n := 46) rfl fun τ hτ => ?_
  have hs0 : τ 0 = .slice X zs.length c := hτ 0 (by simp)
  clear hτ
  refine CW.seq ?_
  refine CW.region ?_
  refine RW.soft Wd.a (v := .int .i64 0) (by exact E.assign rfl) ?_
  refine RW.fin (fun τ => τ 0 = .slice X zs.length c ∧ τ 2 = .int .i64 0) ⟨up rfl hs0, tp⟩ ?_
  rintro τ ⟨hs0, hs2⟩
  refine CW.seq ?_
  refine CW.seq ?_
  refine CW.cut (fun τ => τ 0 = .slice X zs.length c ∧ τ 2 = .int .i64 0 ∧ τ 11 = .bool ((decide (((zs.length : Nat) : Int) < 1)) || (decide (((zs.length : Nat) : Int) > 7)))) ?_ ?_
  · refine CW.region ?_
    refine RW.soft Wd.a (v := .slice X zs.length c) (by exact E.move (AF_ev rfl hs0)) ?_
    refine RW.soft Wd.a (v := .int .i64 ((zs.length : Nat) : Int)) (by exact E.lenS (p := X) (l := zs.length) (c := c) Try.underlying58 (AF_ev rfl tp)) ?_
    refine RW.soft Wd.a (v := .bool (decide (((zs.length : Nat) : Int) < 1))) (by exact E.lss (k := .i64) (a := ((zs.length : Nat) : Int)) (b := 1) (AF_ev rfl tp) rfl) ?_
    refine RW.soft Wd.a (v := .bool (decide (((zs.length : Nat) : Int) < 1))) (by exact E.move (AF_ev rfl tp)) ?_
    refine Or.elim (Bool.eq_false_or_eq_true (decide (((zs.length : Nat) : Int) < 1))) (fun hg1 => ?_) (fun hg1 => ?_)
    · have hg1_ := hg1
      try simp only [decide_eq_true_eq, decide_eq_false_iff_not, Bool.and_eq_true, Bool.or_eq_true, Bool.and_eq_false_iff, Bool.or_eq_false_iff, Bool.not_eq_true', Bool.not_eq_false', beq_iff_eq, beq_eq_false_iff_ne, bne_iff_ne, bne_eq_false_iff_eq, ne_eq, Int.not_lt, Int.not_le, gt_iff_lt, ge_iff_le] at hg1_
      refine RW.pass (by exact Wd.no (x := 7) (b := true) rfl (AF_ev rfl (Eq.trans tp (congrArg Value.bool hg1))) rfl) ?_
      refine RW.pass (by exact Wd.no (x := 7) (b := true) rfl (AF_ev rfl (up rfl (Eq.trans tp (congrArg Value.bool hg1)))) rfl) ?_
      refine RW.pass (by exact Wd.no (x := 7) (b := true) rfl (AF_ev rfl (up rfl (up rfl (Eq.trans tp (congrArg Value.bool hg1))))) rfl) ?_
      refine RW.soft Wd.a (v := .bool true) (by exact E.pickT (AF_ev rfl (up rfl (up rfl (up rfl (Eq.trans tp (congrArg Value.bool hg1)))))) rfl) ?_
      refine RW.nil ⟨rfl, rfl, up rfl (up rfl (up rfl (up rfl (up rfl (up rfl (up rfl (up rfl hs0))))))), up rfl (up rfl (up rfl (up rfl (up rfl (up rfl (up rfl (up rfl hs2))))))), (bool_eq (a := true) tp (by simp only [hg1, Bool.true_and, Bool.false_and, Bool.true_or, Bool.false_or]))⟩
    · have hg1_ := hg1
      try simp only [decide_eq_true_eq, decide_eq_false_iff_not, Bool.and_eq_true, Bool.or_eq_true, Bool.and_eq_false_iff, Bool.or_eq_false_iff, Bool.not_eq_true', Bool.not_eq_false', beq_iff_eq, beq_eq_false_iff_ne, bne_iff_ne, bne_eq_false_iff_eq, ne_eq, Int.not_lt, Int.not_le, gt_iff_lt, ge_iff_le] at hg1_
      refine RW.soft (by exact Wd.yes (x := 7) rfl (AF_ev rfl (Eq.trans tp (congrArg Value.bool hg1)))) (v := .slice X zs.length c) (by exact E.move (AF_ev rfl (up rfl (up rfl (up rfl (up rfl hs0)))))) ?_
      refine RW.soft (by exact Wd.yes (x := 7) rfl (AF_ev rfl (up rfl (Eq.trans tp (congrArg Value.bool hg1))))) (v := .int .i64 ((zs.length : Nat) : Int)) (by exact E.lenS (p := X) (l := zs.length) (c := c) Try.underlying58 (AF_ev rfl tp)) ?_
      refine RW.soft (by exact Wd.yes (x := 7) rfl (AF_ev rfl (up rfl (up rfl (Eq.trans tp (congrArg Value.bool hg1)))))) (v := .bool (decide (((zs.length : Nat) : Int) > 7))) (by exact E.gtr (k := .i64) (a := ((zs.length : Nat) : Int)) (b := 7) (AF_ev rfl tp) rfl) ?_
      refine RW.soft Wd.a (v := .bool (decide (((zs.length : Nat) : Int) > 7))) (by exact E.pickF (AF_ev rfl (up rfl (up rfl (up rfl (Eq.trans tp (congrArg Value.bool hg1)))))) (AF_ev rfl tp)) ?_
      refine RW.nil ⟨rfl, rfl, up rfl (up rfl (up rfl (up rfl (up rfl (up rfl (up rfl (up rfl hs0))))))), up rfl (up rfl (up rfl (up rfl (up rfl (up rfl (up rfl (up rfl hs2))))))), (bool_eq (a := decide (((zs.length : Nat) : Int) > 7)) tp (by simp only [hg1, Bool.true_and, Bool.false_and, Bool.true_or, Bool.false_or]))⟩
  rintro τ ⟨hs0, hs2, hs11⟩
  refine CW.cond (AF_ev rfl hs11) (fun hc2 => ?_) (fun hc2 => ?_)
  · have hc2_ := hc2
    try simp only [decide_eq_true_eq, decide_eq_false_iff_not, Bool.and_eq_true, Bool.or_eq_true, Bool.and_eq_false_iff, Bool.or_eq_false_iff, Bool.not_eq_true', Bool.not_eq_false', beq_iff_eq, beq_eq_false_iff_ne, bne_iff_ne, bne_eq_false_iff_eq, ne_eq, Int.not_lt, Int.not_le, gt_iff_lt, ge_iff_le] at hc2_
    refine CW.seq ?_
    refine CW.region ?_
    refine RW.soft Wd.a (v := .int .i64 192) (by exact E.assign rfl) ?_
    refine RW.fin (fun τ => τ 0 = .slice X zs.length c ∧ τ 2 = .int .i64 192 ∧ τ 11 = .bool true) ⟨up rfl hs0, tp, up rfl (Eq.trans hs11 (congrArg Value.bool hc2))⟩ ?_
    rintro τ ⟨hs0, hs2, hs11⟩
    refine CW.ret ?_
    refine Th.r ?_
    refine ret1 (v := .int .i64 192) rfl (by exact (.tmp (AF_ev rfl hs2) .nil)) ?_
    
    exact ⟨by
      unfold checkI; rw [if_neg]; rintro ⟨h1, h2⟩
      have h3 := okFrom_len h1 (by omega)
      have h4 : zs.length ≠ 0 := fun h => h2 (List.eq_nil_of_length_eq_zero h)
      omega, hst⟩
  · have hc2_ := hc2
    try simp only [decide_eq_true_eq, decide_eq_false_iff_not, Bool.and_eq_true, Bool.or_eq_true, Bool.and_eq_false_iff, Bool.or_eq_false_iff, Bool.not_eq_true', Bool.not_eq_false', beq_iff_eq, beq_eq_false_iff_ne, bne_iff_ne, bne_eq_false_iff_eq, ne_eq, Int.not_lt, Int.not_le, gt_iff_lt, ge_iff_le] at hc2_
    refine CW.skip ?_
    refine Th.n ?_
    refine CW.seq ?_
    refine CW.seq ?_
    refine CW.region ?_
    refine RW.soft Wd.a (v := .int .i64 0) (by exact E.assign rfl) ?_
    refine RW.fin (fun τ => τ 0 = .slice X zs.length c ∧ τ 2 = .int .i64 0 ∧ τ 3 = .int .i64 0 ∧ τ 11 = .bool false) ⟨up rfl hs0, up rfl hs2, tp, up rfl (Eq.trans hs11 (congrArg Value.bool hc2))⟩ ?_
    rintro τ ⟨hs0, hs2, hs3, hs11⟩
    refine CW.block ?_
    refine CW.loop (fun (k : Nat) (τ : Fr) (w : World) => ∃ (j : Nat) (pv : Int), okFrom 0 zs = okFrom pv (zs.drop j) ∧ ((j = 0 → pv = 0) ∧ (0 < j → zs[j - 1]? = some pv) ∧ 0 ≤ pv) ∧ j ≤ zs.length ∧ k = zs.length - j ∧ τ 0 = .slice X zs.length c ∧ τ 3 = .int .i64 ((j : Nat) : Int) ∧ St p w (A :: R)) (zs.length - 0) ⟨0, 0, rfl, ⟨fun _ => rfl, fun h => absurd h (by omega), Int.le_refl 0⟩, by omega, rfl, hs0, (int_eq (a := 0) hs3 (by omega)), hst⟩ ?_
    clear hst
    rintro k τ w ⟨j, pv, hf, hpv, hj, hkj, hs0, hs3, hst⟩
    refine CW.seq ?_
    refine CW.seq ?_
    refine CW.region ?_
    refine RW.soft Wd.a (v := .int .i64 ((j : Nat) : Int)) (by exact E.move (AF_ev rfl hs3)) ?_
    refine RW.soft Wd.a (v := .slice X zs.length c) (by exact E.move (AF_ev rfl (up rfl hs0))) ?_
    refine RW.soft Wd.a (v := .int .i64 ((zs.length : Nat) : Int)) (by exact E.lenS (p := X) (l := zs.length) (c := c) Try.underlying58 (AF_ev rfl tp)) ?_
    refine RW.soft Wd.a (v := .bool (decide (((j : Nat) : Int) < ((zs.length : Nat) : Int)))) (by exact E.lss (k := .i64) (a := ((j : Nat) : Int)) (b := ((zs.length : Nat) : Int)) (AF_ev rfl (up rfl (up rfl tp))) (AF_ev rfl tp)) ?_
    refine RW.fin (fun τ => τ 0 = .slice X zs.length c ∧ τ 3 = .int .i64 ((j : Nat) : Int) ∧ τ 15 = .bool (decide (((j : Nat) : Int) < ((zs.length : Nat) : Int)))) ⟨up rfl (up rfl (up rfl (up rfl hs0))), up rfl (up rfl (up rfl (up rfl hs3))), tp⟩ ?_
    rintro τ ⟨hs0, hs3, hs15⟩
    refine CW.cond (AF_ev rfl hs15) (fun hc3 => ?_) (fun hc3 => ?_)
    · have hc3_ := hc3
      try simp only [decide_eq_true_eq, decide_eq_false_iff_not, Bool.and_eq_true, Bool.or_eq_true, Bool.and_eq_false_iff, Bool.or_eq_false_iff, Bool.not_eq_true', Bool.not_eq_false', beq_iff_eq, beq_eq_false_iff_ne, bne_iff_ne, bne_eq_false_iff_eq, ne_eq, Int.not_lt, Int.not_le, gt_iff_lt, ge_iff_le] at hc3_
      refine CW.skip ?_
      refine Th.n ?_
      refine CW.seq ?_
      refine CW.block ?_
      refine CW.seq ?_
      obtain ⟨b0, o0, rfl, hcell0⟩ := TI.place hA (hst.take .here) (by omega)
      obtain ⟨x, hx⟩ : ∃ z, zs[j]? = some z := ⟨zs[j]'(by omega), List.getElem?_eq_getElem (by omega)⟩
      refine Or.elim (Bool.eq_false_or_eq_true (decide (x < 1))) (fun hx1 => ?_) (fun hx1 => ?_)
      · skip
        have hx1_ := of_decide_eq_true hx1
        refine CW.regionD [0, 1, 2, 3, 4, 5, 6, 7, 8, 9, 10, 11, 12, 13, 14, 15, 16, 17, 18, 19, 20, 21, 22, 23, 24, 25, 26, 27] (fun w => w.cell? ⟨b0, o0 + j * 1, none⟩ = some (.int .i64 x)) mixed ?_
        have hst := hst.drew
        generalize w.drew = w at hst ⊢
        have hS : w.cell? ⟨b0, o0 + j * 1, none⟩ = some (.int .i64 x) := (by exact hcell0 (hst.take .here) _ _ (flat_get (j := 0) ienc_len hx (rfl)))
        refine RD.take 0 rfl (by kernel_rfl) Wd.a (v := .slice (some ⟨b0, o0, none⟩) zs.length c) (fun w hS => by exact E.move (AF_ev rfl hs0)) hS ?_
        refine RD.take 1 rfl (by kernel_rfl) Wd.a (v := .int .i64 ((j : Nat) : Int)) (fun w hS => by exact E.move (AF_ev rfl (up rfl hs3))) hS ?_
        refine RD.take 2 rfl (by kernel_rfl) Wd.a (v := .pointer (some ⟨b0, o0 + j * 1, none⟩)) (fun w hS => by exact E.indexAddr (b := b0) (o := o0) (l := zs.length) (c := c) (i := ((j : Nat) : Int)) Try.underlying58 sz3 (AF_ev rfl (up rfl tp)) (AF_ev rfl tp) (by omega) (by omega) (by simp)) hS ?_
        refine RD.take 3 rfl (by kernel_rfl) Wd.a (v := .int .i64 x) (fun w hS => by exact E.load (a := ⟨b0, o0 + j * 1, none⟩) Try.underlying3 rfl (AF_ev rfl tp) hS) hS ?_
        refine RD.take 4 rfl (by kernel_rfl) Wd.a (v := .bool true) (fun w hS => by exact E.b (a := decide (x < 1)) (E.lss (k := .i64) (a := x) (b := 1) (AF_ev rfl tp) rfl) hx1) hS ?_
        refine RD.take 5 rfl (by kernel_rfl) Wd.a (v := .bool true) (fun w hS => by exact E.move (AF_ev rfl tp)) hS ?_
        refine RD.pass 6 rfl (by kernel_rfl) (by exact Wd.no (x := 23) (b := true) rfl (AF_ev rfl tp) rfl) hS ?_
        refine RD.pass 7 rfl (by kernel_rfl) (by exact Wd.no (x := 23) (b := true) rfl (AF_ev rfl (up rfl tp)) rfl) hS ?_
        refine RD.pass 8 rfl (by kernel_rfl) (by exact Wd.no (x := 23) (b := true) rfl (AF_ev rfl (up rfl (up rfl tp))) rfl) hS ?_
        refine RD.pass 9 rfl (by kernel_rfl) (by exact Wd.no (x := 23) (b := true) rfl (AF_ev rfl (up rfl (up rfl (up rfl tp)))) rfl) hS ?_
        refine RD.pass 10 rfl (by kernel_rfl) (by exact Wd.no (x := 23) (b := true) rfl (AF_ev rfl (up rfl (up rfl (up rfl (up rfl tp))))) rfl) hS ?_
        refine RD.take 11 rfl (by kernel_rfl) Wd.a (v := .bool true) (fun w hS => by exact E.pickT (AF_ev rfl (up rfl (up rfl (up rfl (up rfl (up rfl tp)))))) rfl) hS ?_
        refine RD.take 12 rfl (by kernel_rfl) Wd.a (v := .bool true) (fun w hS => by exact E.move (AF_ev rfl tp)) hS ?_
        refine RD.pass 13 rfl (by kernel_rfl) (by exact Wd.no (x := 30) (b := true) rfl (AF_ev rfl tp) rfl) hS ?_
        refine RD.pass 14 rfl (by kernel_rfl) (by exact Wd.no (x := 30) (b := true) rfl (AF_ev rfl (up rfl tp)) rfl) hS ?_
        refine RD.pass 15 rfl (by kernel_rfl) (by exact Wd.no (x := 30) (b := true) rfl (AF_ev rfl (up rfl (up rfl tp))) rfl) hS ?_
        refine RD.pass 16 rfl (by kernel_rfl) (by exact Wd.u (x := 33) rfl (AF_ev rfl tp)) hS ?_
        refine RD.pass 17 rfl (by kernel_rfl) (by exact Wd.u (x := 33) rfl (AF_ev rfl (up rfl tp))) hS ?_
        refine RD.pass 18 rfl (by kernel_rfl) (by exact Wd.u (x := 33) rfl (AF_ev rfl (up rfl (up rfl tp)))) hS ?_
        refine RD.pass 19 rfl (by kernel_rfl) (by exact Wd.u (x := 33) rfl (AF_ev rfl (up rfl (up rfl (up rfl tp))))) hS ?_
        refine RD.pass 20 rfl (by kernel_rfl) (by exact Wd.u (x := 33) rfl (AF_ev rfl (up rfl (up rfl (up rfl (up rfl tp)))))) hS ?_
        refine RD.pass 21 rfl (by kernel_rfl) (by exact Wd.u (x := 33) rfl (AF_ev rfl (up rfl (up rfl (up rfl (up rfl (up rfl tp))))))) hS ?_
        refine RD.pass 22 rfl (by kernel_rfl) (by exact Wd.u (x := 33) rfl (AF_ev rfl (up rfl (up rfl (up rfl (up rfl (up rfl (up rfl tp)))))))) hS ?_
        refine RD.pass 23 rfl (by kernel_rfl) (by exact Wd.u (x := 33) rfl (AF_ev rfl (up rfl (up rfl (up rfl (up rfl (up rfl (up rfl (up rfl tp))))))))) hS ?_
        refine RD.pass 24 rfl (by kernel_rfl) (by exact Wd.u (x := 33) rfl (AF_ev rfl (up rfl (up rfl (up rfl (up rfl (up rfl (up rfl (up rfl (up rfl tp)))))))))) hS ?_
        refine RD.pass 25 rfl (by kernel_rfl) (by exact Wd.u (x := 33) rfl (AF_ev rfl (up rfl (up rfl (up rfl (up rfl (up rfl (up rfl (up rfl (up rfl (up rfl tp))))))))))) hS ?_
        refine RD.pass 26 rfl (by kernel_rfl) (by exact Wd.no (x := 30) (b := true) rfl (AF_ev rfl (up rfl (up rfl (up rfl (up rfl (up rfl (up rfl (up rfl (up rfl (up rfl (up rfl (up rfl (up rfl (up rfl tp)))))))))))))) rfl) hS ?_
        refine RD.take 27 rfl (by kernel_rfl) Wd.a (v := .bool true) (fun w hS => by exact E.pickT (AF_ev rfl (up rfl (up rfl (up rfl (up rfl (up rfl (up rfl (up rfl (up rfl (up rfl (up rfl (up rfl (up rfl (up rfl (up rfl tp))))))))))))))) rfl) hS ?_
        refine RD.fin (by kernel_rfl) (fun τ => τ 0 = .slice (some ⟨b0, o0, none⟩) zs.length c ∧ τ 3 = .int .i64 ((j : Nat) : Int) ∧ τ 15 = .bool true ∧ τ 45 = .bool true) ⟨up rfl (up rfl (up rfl (up rfl (up rfl (up rfl (up rfl (up rfl (up rfl (up rfl (up rfl (up rfl (up rfl (up rfl (up rfl (up rfl (up rfl (up rfl (up rfl (up rfl (up rfl (up rfl (up rfl (up rfl (up rfl (up rfl (up rfl (up rfl hs0))))))))))))))))))))))))))), up rfl (up rfl (up rfl (up rfl (up rfl (up rfl (up rfl (up rfl (up rfl (up rfl (up rfl (up rfl (up rfl (up rfl (up rfl (up rfl (up rfl (up rfl (up rfl (up rfl (up rfl (up rfl (up rfl (up rfl (up rfl (up rfl (up rfl (up rfl hs3))))))))))))))))))))))))))), up rfl (up rfl (up rfl (up rfl (up rfl (up rfl (up rfl (up rfl (up rfl (up rfl (up rfl (up rfl (up rfl (up rfl (up rfl (up rfl (up rfl (up rfl (up rfl (up rfl (up rfl (up rfl (up rfl (up rfl (up rfl (up rfl (up rfl (up rfl (Eq.trans hs15 (congrArg Value.bool hc3))))))))))))))))))))))))))))), tp⟩ ?_
        rintro τ ⟨hs0, hs3, hs15, hs45⟩
        refine CW.condT (AF_ev rfl hs45) ?_
        refine CW.seq ?_
        refine CW.region ?_
        refine RW.soft Wd.a (v := .int .i64 192) (by exact E.assign rfl) ?_
        refine RW.fin (fun τ => τ 0 = .slice (some ⟨b0, o0, none⟩) zs.length c ∧ τ 2 = .int .i64 192 ∧ τ 3 = .int .i64 ((j : Nat) : Int) ∧ τ 15 = .bool true ∧ τ 45 = .bool true) ⟨up rfl hs0, tp, up rfl hs3, up rfl hs15, up rfl hs45⟩ ?_
        rintro τ ⟨hs0, hs2, hs3, hs15, hs45⟩
        refine CW.ret ?_
        refine Bl.r ?_
        refine Th.r ?_
        refine Th.r ?_
        refine Bl.r ?_
        refine Th.r ?_
        refine ret1 (v := .int .i64 192) rfl (by exact (.tmp (AF_ev rfl hs2) .nil)) ?_
        
        have hn : okFrom 0 zs = false := by
          have h0 := hpv.2.2
          skip
          rw [hf, okFrom_step hx, Bool.and_eq_false_iff, Bool.and_eq_false_iff, decide_eq_false_iff_not, decide_eq_false_iff_not]
          left; omega
        exact ⟨by unfold checkI; rw [if_neg (by rw [hn]; simp)], hst⟩
      · skip
        refine Or.elim (Bool.eq_false_or_eq_true (decide (x > 7))) (fun hx7 => ?_) (fun hx7 => ?_)
        · skip
          have hx1_ := of_decide_eq_false hx1
          have hx7_ := of_decide_eq_true hx7
          refine CW.regionD [0, 1, 2, 3, 4, 5, 6, 7, 8, 9, 10, 11, 12, 13, 14, 15, 16, 17, 18, 19, 20, 21, 22, 23, 24, 25, 26, 27] (fun w => w.cell? ⟨b0, o0 + j * 1, none⟩ = some (.int .i64 x)) mixed ?_
          have hst := hst.drew
          generalize w.drew = w at hst ⊢
          have hS : w.cell? ⟨b0, o0 + j * 1, none⟩ = some (.int .i64 x) := (by exact hcell0 (hst.take .here) _ _ (flat_get (j := 0) ienc_len hx (rfl)))
          refine RD.take 0 rfl (by kernel_rfl) Wd.a (v := .slice (some ⟨b0, o0, none⟩) zs.length c) (fun w hS => by exact E.move (AF_ev rfl hs0)) hS ?_
          refine RD.take 1 rfl (by kernel_rfl) Wd.a (v := .int .i64 ((j : Nat) : Int)) (fun w hS => by exact E.move (AF_ev rfl (up rfl hs3))) hS ?_
          refine RD.take 2 rfl (by kernel_rfl) Wd.a (v := .pointer (some ⟨b0, o0 + j * 1, none⟩)) (fun w hS => by exact E.indexAddr (b := b0) (o := o0) (l := zs.length) (c := c) (i := ((j : Nat) : Int)) Try.underlying58 sz3 (AF_ev rfl (up rfl tp)) (AF_ev rfl tp) (by omega) (by omega) (by simp)) hS ?_
          refine RD.take 3 rfl (by kernel_rfl) Wd.a (v := .int .i64 x) (fun w hS => by exact E.load (a := ⟨b0, o0 + j * 1, none⟩) Try.underlying3 rfl (AF_ev rfl tp) hS) hS ?_
          refine RD.take 4 rfl (by kernel_rfl) Wd.a (v := .bool false) (fun w hS => by exact E.b (a := decide (x < 1)) (E.lss (k := .i64) (a := x) (b := 1) (AF_ev rfl tp) rfl) hx1) hS ?_
          refine RD.take 5 rfl (by kernel_rfl) Wd.a (v := .bool false) (fun w hS => by exact E.move (AF_ev rfl tp)) hS ?_
          refine RD.take 6 rfl (by kernel_rfl) (by exact Wd.yes (x := 23) rfl (AF_ev rfl tp)) (v := .slice (some ⟨b0, o0, none⟩) zs.length c) (fun w hS => by exact E.move (AF_ev rfl (up rfl (up rfl (up rfl (up rfl (up rfl (up rfl hs0)))))))) hS ?_
          refine RD.take 7 rfl (by kernel_rfl) (by exact Wd.yes (x := 23) rfl (AF_ev rfl (up rfl tp))) (v := .int .i64 ((j : Nat) : Int)) (fun w hS => by exact E.move (AF_ev rfl (up rfl (up rfl (up rfl (up rfl (up rfl (up rfl (up rfl hs3))))))))) hS ?_
          refine RD.take 8 rfl (by kernel_rfl) (by exact Wd.yes (x := 23) rfl (AF_ev rfl (up rfl (up rfl tp)))) (v := .pointer (some ⟨b0, o0 + j * 1, none⟩)) (fun w hS => by exact E.indexAddr (b := b0) (o := o0) (l := zs.length) (c := c) (i := ((j : Nat) : Int)) Try.underlying58 sz3 (AF_ev rfl (up rfl tp)) (AF_ev rfl tp) (by omega) (by omega) (by simp)) hS ?_
          refine RD.take 9 rfl (by kernel_rfl) (by exact Wd.yes (x := 23) rfl (AF_ev rfl (up rfl (up rfl (up rfl tp))))) (v := .int .i64 x) (fun w hS => by exact E.load (a := ⟨b0, o0 + j * 1, none⟩) Try.underlying3 rfl (AF_ev rfl tp) hS) hS ?_
          refine RD.take 10 rfl (by kernel_rfl) (by exact Wd.yes (x := 23) rfl (AF_ev rfl (up rfl (up rfl (up rfl (up rfl tp)))))) (v := .bool true) (fun w hS => by exact E.b (a := decide (x > 7)) (E.gtr (k := .i64) (a := x) (b := 7) (AF_ev rfl tp) rfl) hx7) hS ?_
          refine RD.take 11 rfl (by kernel_rfl) Wd.a (v := .bool true) (fun w hS => by exact E.pickF (AF_ev rfl (up rfl (up rfl (up rfl (up rfl (up rfl tp)))))) (AF_ev rfl tp)) hS ?_
          refine RD.take 12 rfl (by kernel_rfl) Wd.a (v := .bool true) (fun w hS => by exact E.move (AF_ev rfl tp)) hS ?_
          refine RD.pass 13 rfl (by kernel_rfl) (by exact Wd.no (x := 30) (b := true) rfl (AF_ev rfl tp) rfl) hS ?_
          refine RD.pass 14 rfl (by kernel_rfl) (by exact Wd.no (x := 30) (b := true) rfl (AF_ev rfl (up rfl tp)) rfl) hS ?_
          refine RD.pass 15 rfl (by kernel_rfl) (by exact Wd.no (x := 30) (b := true) rfl (AF_ev rfl (up rfl (up rfl tp))) rfl) hS ?_
          refine RD.pass 16 rfl (by kernel_rfl) (by exact Wd.u (x := 33) rfl (AF_ev rfl tp)) hS ?_
          refine RD.pass 17 rfl (by kernel_rfl) (by exact Wd.u (x := 33) rfl (AF_ev rfl (up rfl tp))) hS ?_
          refine RD.pass 18 rfl (by kernel_rfl) (by exact Wd.u (x := 33) rfl (AF_ev rfl (up rfl (up rfl tp)))) hS ?_
          refine RD.pass 19 rfl (by kernel_rfl) (by exact Wd.u (x := 33) rfl (AF_ev rfl (up rfl (up rfl (up rfl tp))))) hS ?_
          refine RD.pass 20 rfl (by kernel_rfl) (by exact Wd.u (x := 33) rfl (AF_ev rfl (up rfl (up rfl (up rfl (up rfl tp)))))) hS ?_
          refine RD.pass 21 rfl (by kernel_rfl) (by exact Wd.u (x := 33) rfl (AF_ev rfl (up rfl (up rfl (up rfl (up rfl (up rfl tp))))))) hS ?_
          refine RD.pass 22 rfl (by kernel_rfl) (by exact Wd.u (x := 33) rfl (AF_ev rfl (up rfl (up rfl (up rfl (up rfl (up rfl (up rfl tp)))))))) hS ?_
          refine RD.pass 23 rfl (by kernel_rfl) (by exact Wd.u (x := 33) rfl (AF_ev rfl (up rfl (up rfl (up rfl (up rfl (up rfl (up rfl (up rfl tp))))))))) hS ?_
          refine RD.pass 24 rfl (by kernel_rfl) (by exact Wd.u (x := 33) rfl (AF_ev rfl (up rfl (up rfl (up rfl (up rfl (up rfl (up rfl (up rfl (up rfl tp)))))))))) hS ?_
          refine RD.pass 25 rfl (by kernel_rfl) (by exact Wd.u (x := 33) rfl (AF_ev rfl (up rfl (up rfl (up rfl (up rfl (up rfl (up rfl (up rfl (up rfl (up rfl tp))))))))))) hS ?_
          refine RD.pass 26 rfl (by kernel_rfl) (by exact Wd.no (x := 30) (b := true) rfl (AF_ev rfl (up rfl (up rfl (up rfl (up rfl (up rfl (up rfl (up rfl (up rfl (up rfl (up rfl (up rfl (up rfl (up rfl tp)))))))))))))) rfl) hS ?_
          refine RD.take 27 rfl (by kernel_rfl) Wd.a (v := .bool true) (fun w hS => by exact E.pickT (AF_ev rfl (up rfl (up rfl (up rfl (up rfl (up rfl (up rfl (up rfl (up rfl (up rfl (up rfl (up rfl (up rfl (up rfl (up rfl tp))))))))))))))) rfl) hS ?_
          refine RD.fin (by kernel_rfl) (fun τ => τ 0 = .slice (some ⟨b0, o0, none⟩) zs.length c ∧ τ 3 = .int .i64 ((j : Nat) : Int) ∧ τ 15 = .bool true ∧ τ 45 = .bool true) ⟨up rfl (up rfl (up rfl (up rfl (up rfl (up rfl (up rfl (up rfl (up rfl (up rfl (up rfl (up rfl (up rfl (up rfl (up rfl (up rfl (up rfl (up rfl (up rfl (up rfl (up rfl (up rfl (up rfl (up rfl (up rfl (up rfl (up rfl (up rfl hs0))))))))))))))))))))))))))), up rfl (up rfl (up rfl (up rfl (up rfl (up rfl (up rfl (up rfl (up rfl (up rfl (up rfl (up rfl (up rfl (up rfl (up rfl (up rfl (up rfl (up rfl (up rfl (up rfl (up rfl (up rfl (up rfl (up rfl (up rfl (up rfl (up rfl (up rfl hs3))))))))))))))))))))))))))), up rfl (up rfl (up rfl (up rfl (up rfl (up rfl (up rfl (up rfl (up rfl (up rfl (up rfl (up rfl (up rfl (up rfl (up rfl (up rfl (up rfl (up rfl (up rfl (up rfl (up rfl (up rfl (up rfl (up rfl (up rfl (up rfl (up rfl (up rfl (Eq.trans hs15 (congrArg Value.bool hc3))))))))))))))))))))))))))))), tp⟩ ?_
          rintro τ ⟨hs0, hs3, hs15, hs45⟩
          refine CW.condT (AF_ev rfl hs45) ?_
          refine CW.seq ?_
          refine CW.region ?_
          refine RW.soft Wd.a (v := .int .i64 192) (by exact E.assign rfl) ?_
          refine RW.fin (fun τ => τ 0 = .slice (some ⟨b0, o0, none⟩) zs.length c ∧ τ 2 = .int .i64 192 ∧ τ 3 = .int .i64 ((j : Nat) : Int) ∧ τ 15 = .bool true ∧ τ 45 = .bool true) ⟨up rfl hs0, tp, up rfl hs3, up rfl hs15, up rfl hs45⟩ ?_
          rintro τ ⟨hs0, hs2, hs3, hs15, hs45⟩
          refine CW.ret ?_
          refine Bl.r ?_
          refine Th.r ?_
          refine Th.r ?_
          refine Bl.r ?_
          refine Th.r ?_
          refine ret1 (v := .int .i64 192) rfl (by exact (.tmp (AF_ev rfl hs2) .nil)) ?_
          
          have hn : okFrom 0 zs = false := by
            have h0 := hpv.2.2
            skip
            rw [hf, okFrom_step hx, Bool.and_eq_false_iff, Bool.and_eq_false_iff, decide_eq_false_iff_not, decide_eq_false_iff_not]
            left; omega
          exact ⟨by unfold checkI; rw [if_neg (by rw [hn]; simp)], hst⟩
        · skip
          refine Or.elim (Bool.eq_false_or_eq_true (decide (((j : Nat) : Int) > 0))) (fun hj0 => ?_) (fun hj0 => ?_)
          · skip
            have hx1_ := of_decide_eq_false hx1
            have hx7_ := of_decide_eq_false hx7
            have hj0_ := of_decide_eq_true hj0
            obtain ⟨y, hy⟩ : ∃ z, zs[(((j : Nat) : Int) - 1).toNat]? = some z := ⟨zs[(((j : Nat) : Int) - 1).toNat]'(by omega), List.getElem?_eq_getElem (by omega)⟩
            refine CW.regionD [0, 1, 2, 3, 4, 5, 6, 7, 8, 9, 10, 11, 12, 13, 14, 15, 16, 17, 18, 19, 20, 21, 22, 23, 24, 25, 26, 27] (fun w => w.cell? ⟨b0, o0 + j * 1, none⟩ = some (.int .i64 x) ∧ w.cell? ⟨b0, o0 + (((j : Nat) : Int) - 1).toNat * 1, none⟩ = some (.int .i64 y)) mixed ?_
            have hst := hst.drew
            generalize w.drew = w at hst ⊢
            have hS : w.cell? ⟨b0, o0 + j * 1, none⟩ = some (.int .i64 x) ∧ w.cell? ⟨b0, o0 + (((j : Nat) : Int) - 1).toNat * 1, none⟩ = some (.int .i64 y) := ⟨(by exact hcell0 (hst.take .here) _ _ (flat_get (j := 0) ienc_len hx (rfl))), (by exact hcell0 (hst.take .here) _ _ (flat_get (j := 0) ienc_len hy (rfl)))⟩
            refine RD.take 0 rfl (by kernel_rfl) Wd.a (v := .slice (some ⟨b0, o0, none⟩) zs.length c) (fun w hS => by exact E.move (AF_ev rfl hs0)) hS ?_
            refine RD.take 1 rfl (by kernel_rfl) Wd.a (v := .int .i64 ((j : Nat) : Int)) (fun w hS => by exact E.move (AF_ev rfl (up rfl hs3))) hS ?_
            refine RD.take 2 rfl (by kernel_rfl) Wd.a (v := .pointer (some ⟨b0, o0 + j * 1, none⟩)) (fun w hS => by exact E.indexAddr (b := b0) (o := o0) (l := zs.length) (c := c) (i := ((j : Nat) : Int)) Try.underlying58 sz3 (AF_ev rfl (up rfl tp)) (AF_ev rfl tp) (by omega) (by omega) (by simp)) hS ?_
            refine RD.take 3 rfl (by kernel_rfl) Wd.a (v := .int .i64 x) (fun w hS => by exact E.load (a := ⟨b0, o0 + j * 1, none⟩) Try.underlying3 rfl (AF_ev rfl tp) hS.1) hS ?_
            refine RD.take 4 rfl (by kernel_rfl) Wd.a (v := .bool false) (fun w hS => by exact E.b (a := decide (x < 1)) (E.lss (k := .i64) (a := x) (b := 1) (AF_ev rfl tp) rfl) hx1) hS ?_
            refine RD.take 5 rfl (by kernel_rfl) Wd.a (v := .bool false) (fun w hS => by exact E.move (AF_ev rfl tp)) hS ?_
            refine RD.take 6 rfl (by kernel_rfl) (by exact Wd.yes (x := 23) rfl (AF_ev rfl tp)) (v := .slice (some ⟨b0, o0, none⟩) zs.length c) (fun w hS => by exact E.move (AF_ev rfl (up rfl (up rfl (up rfl (up rfl (up rfl (up rfl hs0)))))))) hS ?_
            refine RD.take 7 rfl (by kernel_rfl) (by exact Wd.yes (x := 23) rfl (AF_ev rfl (up rfl tp))) (v := .int .i64 ((j : Nat) : Int)) (fun w hS => by exact E.move (AF_ev rfl (up rfl (up rfl (up rfl (up rfl (up rfl (up rfl (up rfl hs3))))))))) hS ?_
            refine RD.take 8 rfl (by kernel_rfl) (by exact Wd.yes (x := 23) rfl (AF_ev rfl (up rfl (up rfl tp)))) (v := .pointer (some ⟨b0, o0 + j * 1, none⟩)) (fun w hS => by exact E.indexAddr (b := b0) (o := o0) (l := zs.length) (c := c) (i := ((j : Nat) : Int)) Try.underlying58 sz3 (AF_ev rfl (up rfl tp)) (AF_ev rfl tp) (by omega) (by omega) (by simp)) hS ?_
            refine RD.take 9 rfl (by kernel_rfl) (by exact Wd.yes (x := 23) rfl (AF_ev rfl (up rfl (up rfl (up rfl tp))))) (v := .int .i64 x) (fun w hS => by exact E.load (a := ⟨b0, o0 + j * 1, none⟩) Try.underlying3 rfl (AF_ev rfl tp) hS.1) hS ?_
            refine RD.take 10 rfl (by kernel_rfl) (by exact Wd.yes (x := 23) rfl (AF_ev rfl (up rfl (up rfl (up rfl (up rfl tp)))))) (v := .bool false) (fun w hS => by exact E.b (a := decide (x > 7)) (E.gtr (k := .i64) (a := x) (b := 7) (AF_ev rfl tp) rfl) hx7) hS ?_
            refine RD.take 11 rfl (by kernel_rfl) Wd.a (v := .bool false) (fun w hS => by exact E.pickF (AF_ev rfl (up rfl (up rfl (up rfl (up rfl (up rfl tp)))))) (AF_ev rfl tp)) hS ?_
            refine RD.take 12 rfl (by kernel_rfl) Wd.a (v := .bool false) (fun w hS => by exact E.move (AF_ev rfl tp)) hS ?_
            refine RD.take 13 rfl (by kernel_rfl) (by exact Wd.yes (x := 30) rfl (AF_ev rfl tp)) (v := .int .i64 ((j : Nat) : Int)) (fun w hS => by exact E.move (AF_ev rfl (up rfl (up rfl (up rfl (up rfl (up rfl (up rfl (up rfl (up rfl (up rfl (up rfl (up rfl (up rfl (up rfl hs3))))))))))))))) hS ?_
            refine RD.take 14 rfl (by kernel_rfl) (by exact Wd.yes (x := 30) rfl (AF_ev rfl (up rfl tp))) (v := .bool true) (fun w hS => by exact E.b (a := decide (((j : Nat) : Int) > 0)) (E.gtr (k := .i64) (a := ((j : Nat) : Int)) (b := 0) (AF_ev rfl tp) rfl) hj0) hS ?_
            refine RD.take 15 rfl (by kernel_rfl) (by exact Wd.yes (x := 30) rfl (AF_ev rfl (up rfl (up rfl tp)))) (v := .bool true) (fun w hS => by exact E.move (AF_ev rfl tp)) hS ?_
            refine RD.take 16 rfl (by kernel_rfl) (by exact Wd.yes (x := 33) rfl (AF_ev rfl tp)) (v := .slice (some ⟨b0, o0, none⟩) zs.length c) (fun w hS => by exact E.move (AF_ev rfl (up rfl (up rfl (up rfl (up rfl (up rfl (up rfl (up rfl (up rfl (up rfl (up rfl (up rfl (up rfl (up rfl (up rfl (up rfl (up rfl hs0)))))))))))))))))) hS ?_
            refine RD.take 17 rfl (by kernel_rfl) (by exact Wd.yes (x := 33) rfl (AF_ev rfl (up rfl tp))) (v := .int .i64 ((j : Nat) : Int)) (fun w hS => by exact E.move (AF_ev rfl (up rfl (up rfl (up rfl (up rfl (up rfl (up rfl (up rfl (up rfl (up rfl (up rfl (up rfl (up rfl (up rfl (up rfl (up rfl (up rfl (up rfl hs3))))))))))))))))))) hS ?_
            refine RD.take 18 rfl (by kernel_rfl) (by exact Wd.yes (x := 33) rfl (AF_ev rfl (up rfl (up rfl tp)))) (v := .pointer (some ⟨b0, o0 + j * 1, none⟩)) (fun w hS => by exact E.indexAddr (b := b0) (o := o0) (l := zs.length) (c := c) (i := ((j : Nat) : Int)) Try.underlying58 sz3 (AF_ev rfl (up rfl tp)) (AF_ev rfl tp) (by omega) (by omega) (by simp)) hS ?_
            refine RD.take 19 rfl (by kernel_rfl) (by exact Wd.yes (x := 33) rfl (AF_ev rfl (up rfl (up rfl (up rfl tp))))) (v := .int .i64 x) (fun w hS => by exact E.load (a := ⟨b0, o0 + j * 1, none⟩) Try.underlying3 rfl (AF_ev rfl tp) hS.1) hS ?_
            refine RD.take 20 rfl (by kernel_rfl) (by exact Wd.yes (x := 33) rfl (AF_ev rfl (up rfl (up rfl (up rfl (up rfl tp)))))) (v := .slice (some ⟨b0, o0, none⟩) zs.length c) (fun w hS => by exact E.move (AF_ev rfl (up rfl (up rfl (up rfl (up rfl (up rfl (up rfl (up rfl (up rfl (up rfl (up rfl (up rfl (up rfl (up rfl (up rfl (up rfl (up rfl (up rfl (up rfl (up rfl (up rfl hs0)))))))))))))))))))))) hS ?_
            refine RD.take 21 rfl (by kernel_rfl) (by exact Wd.yes (x := 33) rfl (AF_ev rfl (up rfl (up rfl (up rfl (up rfl (up rfl tp))))))) (v := .int .i64 ((j : Nat) : Int)) (fun w hS => by exact E.move (AF_ev rfl (up rfl (up rfl (up rfl (up rfl (up rfl (up rfl (up rfl (up rfl (up rfl (up rfl (up rfl (up rfl (up rfl (up rfl (up rfl (up rfl (up rfl (up rfl (up rfl (up rfl (up rfl hs3))))))))))))))))))))))) hS ?_
            refine RD.take 22 rfl (by kernel_rfl) (by exact Wd.yes (x := 33) rfl (AF_ev rfl (up rfl (up rfl (up rfl (up rfl (up rfl (up rfl tp)))))))) (v := .int .i64 (((j : Nat) : Int) - 1)) (fun w hS => by exact E.sub (k := .i64) (a := ((j : Nat) : Int)) (b := 1) (AF_ev rfl tp) rfl (show IntKind.i64.wrap (((j : Nat) : Int) - 1) = ((j : Nat) : Int) - 1 from (by rw [IntWalk.i64_in _ (by omega)]))) hS ?_
            refine RD.take 23 rfl (by kernel_rfl) (by exact Wd.yes (x := 33) rfl (AF_ev rfl (up rfl (up rfl (up rfl (up rfl (up rfl (up rfl (up rfl tp))))))))) (v := .pointer (some ⟨b0, o0 + (((j : Nat) : Int) - 1).toNat * 1, none⟩)) (fun w hS => by exact E.indexAddr (b := b0) (o := o0) (l := zs.length) (c := c) (i := ((j : Nat) : Int) - 1) Try.underlying58 sz3 (AF_ev rfl (up rfl (up rfl tp))) (AF_ev rfl tp) (by omega) (by omega) rfl) hS ?_
            refine RD.take 24 rfl (by kernel_rfl) (by exact Wd.yes (x := 33) rfl (AF_ev rfl (up rfl (up rfl (up rfl (up rfl (up rfl (up rfl (up rfl (up rfl tp)))))))))) (v := .int .i64 y) (fun w hS => by exact E.load (a := ⟨b0, o0 + (((j : Nat) : Int) - 1).toNat * 1, none⟩) Try.underlying3 rfl (AF_ev rfl tp) hS.2) hS ?_
            refine RD.take 25 rfl (by kernel_rfl) (by exact Wd.yes (x := 33) rfl (AF_ev rfl (up rfl (up rfl (up rfl (up rfl (up rfl (up rfl (up rfl (up rfl (up rfl tp))))))))))) (v := .bool (decide (x ≤ y))) (fun w hS => by exact E.leq (k := .i64) (a := x) (b := y) (AF_ev rfl (up rfl (up rfl (up rfl (up rfl (up rfl tp)))))) (AF_ev rfl tp)) hS ?_
            refine RD.take 26 rfl (by kernel_rfl) (by exact Wd.yes (x := 30) rfl (AF_ev rfl (up rfl (up rfl (up rfl (up rfl (up rfl (up rfl (up rfl (up rfl (up rfl (up rfl (up rfl (up rfl (up rfl tp))))))))))))))) (v := .bool (decide (x ≤ y))) (fun w hS => by exact E.pickT (AF_ev rfl (up rfl (up rfl (up rfl (up rfl (up rfl (up rfl (up rfl (up rfl (up rfl (up rfl tp))))))))))) (AF_ev rfl tp)) hS ?_
            refine RD.take 27 rfl (by kernel_rfl) Wd.a (v := .bool (decide (x ≤ y))) (fun w hS => by exact E.pickF (AF_ev rfl (up rfl (up rfl (up rfl (up rfl (up rfl (up rfl (up rfl (up rfl (up rfl (up rfl (up rfl (up rfl (up rfl (up rfl tp))))))))))))))) (AF_ev rfl tp)) hS ?_
            refine RD.fin (by kernel_rfl) (fun τ => τ 0 = .slice (some ⟨b0, o0, none⟩) zs.length c ∧ τ 3 = .int .i64 ((j : Nat) : Int) ∧ τ 15 = .bool true ∧ τ 45 = .bool (decide (x ≤ y))) ⟨up rfl (up rfl (up rfl (up rfl (up rfl (up rfl (up rfl (up rfl (up rfl (up rfl (up rfl (up rfl (up rfl (up rfl (up rfl (up rfl (up rfl (up rfl (up rfl (up rfl (up rfl (up rfl (up rfl (up rfl (up rfl (up rfl (up rfl (up rfl hs0))))))))))))))))))))))))))), up rfl (up rfl (up rfl (up rfl (up rfl (up rfl (up rfl (up rfl (up rfl (up rfl (up rfl (up rfl (up rfl (up rfl (up rfl (up rfl (up rfl (up rfl (up rfl (up rfl (up rfl (up rfl (up rfl (up rfl (up rfl (up rfl (up rfl (up rfl hs3))))))))))))))))))))))))))), up rfl (up rfl (up rfl (up rfl (up rfl (up rfl (up rfl (up rfl (up rfl (up rfl (up rfl (up rfl (up rfl (up rfl (up rfl (up rfl (up rfl (up rfl (up rfl (up rfl (up rfl (up rfl (up rfl (up rfl (up rfl (up rfl (up rfl (up rfl (Eq.trans hs15 (congrArg Value.bool hc3))))))))))))))))))))))))))))), tp⟩ ?_
            rintro τ ⟨hs0, hs3, hs15, hs45⟩
            refine CW.cond (AF_ev rfl hs45) (fun hc4 => ?_) (fun hc4 => ?_)
            · have hc4_ := hc4
              try simp only [decide_eq_true_eq, decide_eq_false_iff_not, Bool.and_eq_true, Bool.or_eq_true, Bool.and_eq_false_iff, Bool.or_eq_false_iff, Bool.not_eq_true', Bool.not_eq_false', beq_iff_eq, beq_eq_false_iff_ne, bne_iff_ne, bne_eq_false_iff_eq, ne_eq, Int.not_lt, Int.not_le, gt_iff_lt, ge_iff_le] at hc4_
              refine CW.seq ?_
              refine CW.region ?_
              refine RW.soft Wd.a (v := .int .i64 192) (by exact E.assign rfl) ?_
              refine RW.fin (fun τ => τ 0 = .slice (some ⟨b0, o0, none⟩) zs.length c ∧ τ 2 = .int .i64 192 ∧ τ 3 = .int .i64 ((j : Nat) : Int) ∧ τ 15 = .bool true ∧ τ 45 = .bool true) ⟨up rfl hs0, tp, up rfl hs3, up rfl hs15, up rfl (Eq.trans hs45 (congrArg Value.bool hc4))⟩ ?_
              rintro τ ⟨hs0, hs2, hs3, hs15, hs45⟩
              refine CW.ret ?_
              refine Bl.r ?_
              refine Th.r ?_
              refine Th.r ?_
              refine Bl.r ?_
              refine Th.r ?_
              refine ret1 (v := .int .i64 192) rfl (by exact (.tmp (AF_ev rfl hs2) .nil)) ?_
              
              have hn : okFrom 0 zs = false := by
                have h0 := hpv.2.2
                have h1 := hpv.2.1 (by omega)
                have h2 : (((j : Nat) : Int) - 1).toNat = j - 1 := by omega
                rw [h2, h1] at hy
                cases hy
                rw [hf, okFrom_step hx, Bool.and_eq_false_iff, Bool.and_eq_false_iff, decide_eq_false_iff_not, decide_eq_false_iff_not]
                left; omega
              exact ⟨by unfold checkI; rw [if_neg (by rw [hn]; simp)], hst⟩
            · have hc4_ := hc4
              try simp only [decide_eq_true_eq, decide_eq_false_iff_not, Bool.and_eq_true, Bool.or_eq_true, Bool.and_eq_false_iff, Bool.or_eq_false_iff, Bool.not_eq_true', Bool.not_eq_false', beq_iff_eq, beq_eq_false_iff_ne, bne_iff_ne, bne_eq_false_iff_eq, ne_eq, Int.not_lt, Int.not_le, gt_iff_lt, ge_iff_le] at hc4_
              refine CW.skip ?_
              refine Bl.n ?_
              refine Th.n ?_
              refine CW.region ?_
              refine RW.soft Wd.a (v := .int .i64 ((j : Nat) : Int)) (by exact E.move (AF_ev rfl hs3)) ?_
              refine RW.soft Wd.a (v := .int .i64 (((j : Nat) : Int) + 1)) (by exact E.add (k := .i64) (a := ((j : Nat) : Int)) (b := 1) (AF_ev rfl tp) rfl (show IntKind.i64.wrap (((j : Nat) : Int) + 1) = ((j : Nat) : Int) + 1 from (by rw [IntWalk.i64_in _ (by omega)]))) ?_
              refine RW.soft Wd.a (v := .int .i64 (((j : Nat) : Int) + 1)) (by exact E.assign (AF_ev rfl tp)) ?_
              refine RW.nil ?_
              refine Th.n ?_
              have hlt : pv < x := by
                have h1 := hpv.2.1 (by omega)
                have h2 : (((j : Nat) : Int) - 1).toNat = j - 1 := by omega
                rw [h2, h1] at hy
                cases hy
                omega
              have hf2 : okFrom 0 zs = okFrom x (zs.drop (j + 1)) := by rw [hf, okFrom_step hx]; simp [hlt, show x ≤ 7 from by omega]
              have hpv2 : (j + 1 = 0 → x = 0) ∧ (0 < j + 1 → zs[j + 1 - 1]? = some x) ∧ 0 ≤ x := ⟨by omega, fun _ => hx, by omega⟩
              exact ⟨zs.length - (j + 1), by omega, j + 1, x, hf2, hpv2, (by omega), rfl, up rfl (up rfl (up rfl hs0)), (int_eq (a := ((j : Nat) : Int) + 1) tp (by omega)), hst⟩
          · skip
            have hx1_ := of_decide_eq_false hx1
            have hx7_ := of_decide_eq_false hx7
            have hj0_ := of_decide_eq_false hj0
            refine CW.regionD [0, 1, 2, 3, 4, 5, 6, 7, 8, 9, 10, 11, 12, 13, 14, 15, 16, 17, 18, 19, 20, 21, 22, 23, 24, 25, 26, 27] (fun w => w.cell? ⟨b0, o0 + j * 1, none⟩ = some (.int .i64 x)) mixed ?_
            have hst := hst.drew
            generalize w.drew = w at hst ⊢
            have hS : w.cell? ⟨b0, o0 + j * 1, none⟩ = some (.int .i64 x) := (by exact hcell0 (hst.take .here) _ _ (flat_get (j := 0) ienc_len hx (rfl)))
            refine RD.take 0 rfl (by kernel_rfl) Wd.a (v := .slice (some ⟨b0, o0, none⟩) zs.length c) (fun w hS => by exact E.move (AF_ev rfl hs0)) hS ?_
            refine RD.take 1 rfl (by kernel_rfl) Wd.a (v := .int .i64 ((j : Nat) : Int)) (fun w hS => by exact E.move (AF_ev rfl (up rfl hs3))) hS ?_
            refine RD.take 2 rfl (by kernel_rfl) Wd.a (v := .pointer (some ⟨b0, o0 + j * 1, none⟩)) (fun w hS => by exact E.indexAddr (b := b0) (o := o0) (l := zs.length) (c := c) (i := ((j : Nat) : Int)) Try.underlying58 sz3 (AF_ev rfl (up rfl tp)) (AF_ev rfl tp) (by omega) (by omega) (by simp)) hS ?_
            refine RD.take 3 rfl (by kernel_rfl) Wd.a (v := .int .i64 x) (fun w hS => by exact E.load (a := ⟨b0, o0 + j * 1, none⟩) Try.underlying3 rfl (AF_ev rfl tp) hS) hS ?_
            refine RD.take 4 rfl (by kernel_rfl) Wd.a (v := .bool false) (fun w hS => by exact E.b (a := decide (x < 1)) (E.lss (k := .i64) (a := x) (b := 1) (AF_ev rfl tp) rfl) hx1) hS ?_
            refine RD.take 5 rfl (by kernel_rfl) Wd.a (v := .bool false) (fun w hS => by exact E.move (AF_ev rfl tp)) hS ?_
            refine RD.take 6 rfl (by kernel_rfl) (by exact Wd.yes (x := 23) rfl (AF_ev rfl tp)) (v := .slice (some ⟨b0, o0, none⟩) zs.length c) (fun w hS => by exact E.move (AF_ev rfl (up rfl (up rfl (up rfl (up rfl (up rfl (up rfl hs0)))))))) hS ?_
            refine RD.take 7 rfl (by kernel_rfl) (by exact Wd.yes (x := 23) rfl (AF_ev rfl (up rfl tp))) (v := .int .i64 ((j : Nat) : Int)) (fun w hS => by exact E.move (AF_ev rfl (up rfl (up rfl (up rfl (up rfl (up rfl (up rfl (up rfl hs3))))))))) hS ?_
            refine RD.take 8 rfl (by kernel_rfl) (by exact Wd.yes (x := 23) rfl (AF_ev rfl (up rfl (up rfl tp)))) (v := .pointer (some ⟨b0, o0 + j * 1, none⟩)) (fun w hS => by exact E.indexAddr (b := b0) (o := o0) (l := zs.length) (c := c) (i := ((j : Nat) : Int)) Try.underlying58 sz3 (AF_ev rfl (up rfl tp)) (AF_ev rfl tp) (by omega) (by omega) (by simp)) hS ?_
            refine RD.take 9 rfl (by kernel_rfl) (by exact Wd.yes (x := 23) rfl (AF_ev rfl (up rfl (up rfl (up rfl tp))))) (v := .int .i64 x) (fun w hS => by exact E.load (a := ⟨b0, o0 + j * 1, none⟩) Try.underlying3 rfl (AF_ev rfl tp) hS) hS ?_
            refine RD.take 10 rfl (by kernel_rfl) (by exact Wd.yes (x := 23) rfl (AF_ev rfl (up rfl (up rfl (up rfl (up rfl tp)))))) (v := .bool false) (fun w hS => by exact E.b (a := decide (x > 7)) (E.gtr (k := .i64) (a := x) (b := 7) (AF_ev rfl tp) rfl) hx7) hS ?_
            refine RD.take 11 rfl (by kernel_rfl) Wd.a (v := .bool false) (fun w hS => by exact E.pickF (AF_ev rfl (up rfl (up rfl (up rfl (up rfl (up rfl tp)))))) (AF_ev rfl tp)) hS ?_
            refine RD.take 12 rfl (by kernel_rfl) Wd.a (v := .bool false) (fun w hS => by exact E.move (AF_ev rfl tp)) hS ?_
            refine RD.take 13 rfl (by kernel_rfl) (by exact Wd.yes (x := 30) rfl (AF_ev rfl tp)) (v := .int .i64 ((j : Nat) : Int)) (fun w hS => by exact E.move (AF_ev rfl (up rfl (up rfl (up rfl (up rfl (up rfl (up rfl (up rfl (up rfl (up rfl (up rfl (up rfl (up rfl (up rfl hs3))))))))))))))) hS ?_
            refine RD.take 14 rfl (by kernel_rfl) (by exact Wd.yes (x := 30) rfl (AF_ev rfl (up rfl tp))) (v := .bool false) (fun w hS => by exact E.b (a := decide (((j : Nat) : Int) > 0)) (E.gtr (k := .i64) (a := ((j : Nat) : Int)) (b := 0) (AF_ev rfl tp) rfl) hj0) hS ?_
            refine RD.take 15 rfl (by kernel_rfl) (by exact Wd.yes (x := 30) rfl (AF_ev rfl (up rfl (up rfl tp)))) (v := .bool false) (fun w hS => by exact E.move (AF_ev rfl tp)) hS ?_
            refine RD.pass 16 rfl (by kernel_rfl) (by exact Wd.no (x := 33) (b := false) rfl (AF_ev rfl tp) rfl) hS ?_
            refine RD.pass 17 rfl (by kernel_rfl) (by exact Wd.no (x := 33) (b := false) rfl (AF_ev rfl (up rfl tp)) rfl) hS ?_
            refine RD.pass 18 rfl (by kernel_rfl) (by exact Wd.no (x := 33) (b := false) rfl (AF_ev rfl (up rfl (up rfl tp))) rfl) hS ?_
            refine RD.pass 19 rfl (by kernel_rfl) (by exact Wd.no (x := 33) (b := false) rfl (AF_ev rfl (up rfl (up rfl (up rfl tp)))) rfl) hS ?_
            refine RD.pass 20 rfl (by kernel_rfl) (by exact Wd.no (x := 33) (b := false) rfl (AF_ev rfl (up rfl (up rfl (up rfl (up rfl tp))))) rfl) hS ?_
            refine RD.pass 21 rfl (by kernel_rfl) (by exact Wd.no (x := 33) (b := false) rfl (AF_ev rfl (up rfl (up rfl (up rfl (up rfl (up rfl tp)))))) rfl) hS ?_
            refine RD.pass 22 rfl (by kernel_rfl) (by exact Wd.no (x := 33) (b := false) rfl (AF_ev rfl (up rfl (up rfl (up rfl (up rfl (up rfl (up rfl tp))))))) rfl) hS ?_
            refine RD.pass 23 rfl (by kernel_rfl) (by exact Wd.no (x := 33) (b := false) rfl (AF_ev rfl (up rfl (up rfl (up rfl (up rfl (up rfl (up rfl (up rfl tp)))))))) rfl) hS ?_
            refine RD.pass 24 rfl (by kernel_rfl) (by exact Wd.no (x := 33) (b := false) rfl (AF_ev rfl (up rfl (up rfl (up rfl (up rfl (up rfl (up rfl (up rfl (up rfl tp))))))))) rfl) hS ?_
            refine RD.pass 25 rfl (by kernel_rfl) (by exact Wd.no (x := 33) (b := false) rfl (AF_ev rfl (up rfl (up rfl (up rfl (up rfl (up rfl (up rfl (up rfl (up rfl (up rfl tp)))))))))) rfl) hS ?_
            refine RD.take 26 rfl (by kernel_rfl) (by exact Wd.yes (x := 30) rfl (AF_ev rfl (up rfl (up rfl (up rfl (up rfl (up rfl (up rfl (up rfl (up rfl (up rfl (up rfl (up rfl (up rfl (up rfl tp))))))))))))))) (v := .bool false) (fun w hS => by exact E.pickF (AF_ev rfl (up rfl (up rfl (up rfl (up rfl (up rfl (up rfl (up rfl (up rfl (up rfl (up rfl tp))))))))))) rfl) hS ?_
            refine RD.take 27 rfl (by kernel_rfl) Wd.a (v := .bool false) (fun w hS => by exact E.pickF (AF_ev rfl (up rfl (up rfl (up rfl (up rfl (up rfl (up rfl (up rfl (up rfl (up rfl (up rfl (up rfl (up rfl (up rfl (up rfl tp))))))))))))))) (AF_ev rfl tp)) hS ?_
            refine RD.fin (by kernel_rfl) (fun τ => τ 0 = .slice (some ⟨b0, o0, none⟩) zs.length c ∧ τ 3 = .int .i64 ((j : Nat) : Int) ∧ τ 15 = .bool true ∧ τ 45 = .bool false) ⟨up rfl (up rfl (up rfl (up rfl (up rfl (up rfl (up rfl (up rfl (up rfl (up rfl (up rfl (up rfl (up rfl (up rfl (up rfl (up rfl (up rfl (up rfl (up rfl (up rfl (up rfl (up rfl (up rfl (up rfl (up rfl (up rfl (up rfl (up rfl hs0))))))))))))))))))))))))))), up rfl (up rfl (up rfl (up rfl (up rfl (up rfl (up rfl (up rfl (up rfl (up rfl (up rfl (up rfl (up rfl (up rfl (up rfl (up rfl (up rfl (up rfl (up rfl (up rfl (up rfl (up rfl (up rfl (up rfl (up rfl (up rfl (up rfl (up rfl hs3))))))))))))))))))))))))))), up rfl (up rfl (up rfl (up rfl (up rfl (up rfl (up rfl (up rfl (up rfl (up rfl (up rfl (up rfl (up rfl (up rfl (up rfl (up rfl (up rfl (up rfl (up rfl (up rfl (up rfl (up rfl (up rfl (up rfl (up rfl (up rfl (up rfl (up rfl (Eq.trans hs15 (congrArg Value.bool hc3))))))))))))))))))))))))))))), tp⟩ ?_
            rintro τ ⟨hs0, hs3, hs15, hs45⟩
            refine CW.condF (AF_ev rfl hs45) ?_
            refine CW.skip ?_
            refine Bl.n ?_
            refine Th.n ?_
            refine CW.region ?_
            refine RW.soft Wd.a (v := .int .i64 ((j : Nat) : Int)) (by exact E.move (AF_ev rfl hs3)) ?_
            refine RW.soft Wd.a (v := .int .i64 (((j : Nat) : Int) + 1)) (by exact E.add (k := .i64) (a := ((j : Nat) : Int)) (b := 1) (AF_ev rfl tp) rfl (show IntKind.i64.wrap (((j : Nat) : Int) + 1) = ((j : Nat) : Int) + 1 from (by rw [IntWalk.i64_in _ (by omega)]))) ?_
            refine RW.soft Wd.a (v := .int .i64 (((j : Nat) : Int) + 1)) (by exact E.assign (AF_ev rfl tp)) ?_
            refine RW.nil ?_
            refine Th.n ?_
            have hlt : pv < x := by
              have := hpv.1 (by omega)
              omega
            have hf2 : okFrom 0 zs = okFrom x (zs.drop (j + 1)) := by rw [hf, okFrom_step hx]; simp [hlt, show x ≤ 7 from by omega]
            have hpv2 : (j + 1 = 0 → x = 0) ∧ (0 < j + 1 → zs[j + 1 - 1]? = some x) ∧ 0 ≤ x := ⟨by omega, fun _ => hx, by omega⟩
            exact ⟨zs.length - (j + 1), by omega, j + 1, x, hf2, hpv2, (by omega), rfl, up rfl (up rfl (up rfl hs0)), (int_eq (a := ((j : Nat) : Int) + 1) tp (by omega)), hst⟩
    · have hc3_ := hc3
      try simp only [decide_eq_true_eq, decide_eq_false_iff_not, Bool.and_eq_true, Bool.or_eq_true, Bool.and_eq_false_iff, Bool.or_eq_false_iff, Bool.not_eq_true', Bool.not_eq_false', beq_iff_eq, beq_eq_false_iff_ne, bne_iff_ne, bne_eq_false_iff_eq, ne_eq, Int.not_lt, Int.not_le, gt_iff_lt, ge_iff_le] at hc3_
      refine CW.exit ?_
      refine Th.x ?_
      refine Th.x ?_
      refine Bl.x ?_
      refine Th.n ?_
      refine CW.seq ?_
      refine CW.region ?_
      refine RW.soft Wd.a (v := .int .i64 0) (by exact E.assign rfl) ?_
      refine RW.fin (fun τ => τ 0 = .slice X zs.length c ∧ τ 2 = .int .i64 0 ∧ τ 3 = .int .i64 ((j : Nat) : Int) ∧ τ 15 = .bool false) ⟨up rfl hs0, tp, up rfl hs3, up rfl (Eq.trans hs15 (congrArg Value.bool hc3))⟩ ?_
      rintro τ ⟨hs0, hs2, hs3, hs15⟩
      refine CW.ret ?_
      refine ret1 (v := .int .i64 0) rfl (by exact (.tmp (AF_ev rfl hs2) .nil)) ?_
      
      have hz : zs ≠ [] := fun h => by rw [h] at hj; simp only [List.length_nil] at hj; omega
      have hn : okFrom 0 zs = true := by rw [hf, List.drop_eq_nil_of_le (by omega)]; rfl
      exact ⟨by unfold checkI; rw [if_pos ⟨hn, hz⟩], hst⟩

def cntOf (zs ys : List Int) : Nat := (zs.filter fun n => ys.contains n).length
theorem cnt_step {zs ys : List Int} {j : Nat} {x : Int} (hx : zs[j]? = some x) : cntOf (zs.take (j + 1)) ys = cntOf (zs.take j) ys + (if ys.contains x = true then 1 else 0) := by
  unfold cntOf
  rw [List.take_add_one, hx, List.filter_append, List.length_append, Option.toList_some]
  cases h : ys.contains x <;> simp only [List.filter, h] <;> rfl
theorem cnt_le (zs ys : List Int) : cntOf zs ys ≤ zs.length := List.length_filter_le _ _

theorem r_Most {p : Pers} {w : World} {R : List Assn} {A : Assn} {X : Option Addr} {c : Nat} {zs : List Int} (hA : TI p A (.slice X zs.length c) zs) (hl : zs.length ≤ 1000000) {B : Assn} {Y : Option Addr} {d : Nat} {ys : List Int} (hB : TI p B (.slice Y ys.length d) ys) (hm : ys.length ≤ 1000000) (hst : St p w (A :: B :: R)) :
    Calls Try.prog 42 #[.slice X zs.length c, .slice Y ys.length d] w fun e w => e = .returned (.bool (decide (2 * ((cntOf zs ys : Nat) : Int) > ((zs.length : Nat) : Int)))) ∧ St p w (A :: B :: R) := by
  refine enter Try.func42 rfl (by simp) (n := 26) rfl fun τ hτ => ?_
  have hs0 : τ 0 = .slice X zs.length c := hτ 0 (by simp)
  have hs1 : τ 1 = .slice Y ys.length d := hτ 1 (by simp)
  clear hτ
  refine CW.seq ?_
  refine CW.region ?_
  refine RW.soft Wd.a (v := .bool false) (by exact E.assign rfl) ?_
  refine RW.fin (fun τ => τ 0 = .slice X zs.length c ∧ τ 1 = .slice Y ys.length d ∧ τ 4 = .bool false) ⟨up rfl hs0, up rfl hs1, tp⟩ ?_
  rintro τ ⟨hs0, hs1, hs4⟩
  refine CW.seq ?_
  refine CW.region ?_
  refine RW.soft Wd.a (v := .int .i64 0) (by exact E.assign rfl) ?_
  refine RW.fin (fun τ => τ 0 = .slice X zs.length c ∧ τ 1 = .slice Y ys.length d ∧ τ 4 = .bool false ∧ τ 5 = .int .i64 0) ⟨up rfl hs0, up rfl hs1, up rfl hs4, tp⟩ ?_
  rintro τ ⟨hs0, hs1, hs4, hs5⟩
  refine CW.seq ?_
  refine CW.seq ?_
  refine CW.region ?_
  refine RW.soft Wd.a (v := .int .i64 0) (by exact E.assign rfl) ?_
  refine RW.fin (fun τ => τ 0 = .slice X zs.length c ∧ τ 1 = .slice Y ys.length d ∧ τ 4 = .bool false ∧ τ 5 = .int .i64 0 ∧ τ 6 = .int .i64 0) ⟨up rfl hs0, up rfl hs1, up rfl hs4, up rfl hs5, tp⟩ ?_
  rintro τ ⟨hs0, hs1, hs4, hs5, hs6⟩
  refine CW.block ?_
  have hst := hst.take (.there .here)
  have hst := hst.take (.there .here)
  have hc0 : cntOf (zs.take 0) ys = 0 := rfl
  refine CW.loop (fun (k : Nat) (τ : Fr) (w : World) => ∃ (j : Nat), j ≤ zs.length ∧ k = zs.length - j ∧ τ 0 = .slice X zs.length c ∧ τ 1 = .slice Y ys.length d ∧ τ 5 = .int .i64 ((cntOf (zs.take j) ys : Nat) : Int) ∧ τ 6 = .int .i64 ((j : Nat) : Int) ∧ St p w (A :: B :: R)) (zs.length - 0) ⟨0, by omega, rfl, hs0, hs1, (int_eq (a := 0) hs5 (by omega)), (int_eq (a := 0) hs6 (by omega)), hst⟩ ?_
  clear hst
  rintro k τ w ⟨j, hj, hkj, hs0, hs1, hs5, hs6, hst⟩
  refine CW.seq ?_
  refine CW.seq ?_
  refine CW.region ?_
  refine RW.soft Wd.a (v := .int .i64 ((j : Nat) : Int)) (by exact E.move (AF_ev rfl hs6)) ?_
  refine RW.soft Wd.a (v := .slice X zs.length c) (by exact E.move (AF_ev rfl (up rfl hs0))) ?_
  refine RW.soft Wd.a (v := .int .i64 ((zs.length : Nat) : Int)) (by exact E.lenS (p := X) (l := zs.length) (c := c) Try.underlying58 (AF_ev rfl tp)) ?_
  refine RW.soft Wd.a (v := .bool (decide (((j : Nat) : Int) < ((zs.length : Nat) : Int)))) (by exact E.lss (k := .i64) (a := ((j : Nat) : Int)) (b := ((zs.length : Nat) : Int)) (AF_ev rfl (up rfl (up rfl tp))) (AF_ev rfl tp)) ?_
  refine RW.fin (fun τ => τ 0 = .slice X zs.length c ∧ τ 1 = .slice Y ys.length d ∧ τ 5 = .int .i64 ((cntOf (zs.take j) ys : Nat) : Int) ∧ τ 6 = .int .i64 ((j : Nat) : Int) ∧ τ 10 = .bool (decide (((j : Nat) : Int) < ((zs.length : Nat) : Int)))) ⟨up rfl (up rfl (up rfl (up rfl hs0))), up rfl (up rfl (up rfl (up rfl hs1))), up rfl (up rfl (up rfl (up rfl hs5))), up rfl (up rfl (up rfl (up rfl hs6))), tp⟩ ?_
  rintro τ ⟨hs0, hs1, hs5, hs6, hs10⟩
  refine CW.cond (AF_ev rfl hs10) (fun hc1 => ?_) (fun hc1 => ?_)
  · have hc1_ := hc1
    try simp only [decide_eq_true_eq, decide_eq_false_iff_not, Bool.and_eq_true, Bool.or_eq_true, Bool.and_eq_false_iff, Bool.or_eq_false_iff, Bool.not_eq_true', Bool.not_eq_false', beq_iff_eq, beq_eq_false_iff_ne, bne_iff_ne, bne_eq_false_iff_eq, ne_eq, Int.not_lt, Int.not_le, gt_iff_lt, ge_iff_le] at hc1_
    refine CW.skip ?_
    refine Th.n ?_
    refine CW.seq ?_
    refine CW.block ?_
    refine CW.seq ?_
    have hcl := cnt_le (zs.take j) ys
    have htl : (zs.take j).length ≤ zs.length := by rw [List.length_take]; omega
    obtain ⟨b0, o0, rfl, hcell0⟩ := TI.place hA (hst.take .here) (by omega)
    obtain ⟨x, hx⟩ : ∃ z, zs[j]? = some z := ⟨zs[j]'(by omega), List.getElem?_eq_getElem (by omega)⟩
    refine CW.region ?_
    refine RW.soft Wd.a (v := .slice Y ys.length d) (by exact E.move (AF_ev rfl hs1)) ?_
    refine RW.soft Wd.a (v := .slice (some ⟨b0, o0, none⟩) zs.length c) (by exact E.move (AF_ev rfl (up rfl hs0))) ?_
    refine RW.soft Wd.a (v := .int .i64 ((j : Nat) : Int)) (by exact E.move (AF_ev rfl (up rfl (up rfl hs6)))) ?_
    refine RW.soft Wd.a (v := .pointer (some ⟨b0, o0 + j * 1, none⟩)) (by exact E.indexAddr (b := b0) (o := o0) (l := zs.length) (c := c) (i := ((j : Nat) : Int)) Try.underlying58 sz3 (AF_ev rfl (up rfl tp)) (AF_ev rfl tp) (by omega) (by omega) (by simp)) ?_
    refine RW.soft Wd.a (v := .int .i64 x) (by exact E.load (a := ⟨b0, o0 + j * 1, none⟩) Try.underlying3 rfl (AF_ev rfl tp) (by exact hcell0 (hst.take .here) _ _ (flat_get (j := 0) ienc_len hx (rfl)))) ?_
    have hst := hst.take (.there .here)
    refine RW.hard Wd.a ?_
    refine H.call0 Try.func39 nm39 rfl (map2 (AF_ev rfl (up rfl (up rfl (up rfl (up rfl tp))))) (AF_ev rfl tp)) (Calls.mono (r_Has hB hm x hst) ?_)
    rintro _ w ⟨rfl, hst⟩
    refine ⟨_, rfl, ?_⟩
    show RW _ _ _ _ _ _ _
    refine RW.fin (fun τ => τ 0 = .slice (some ⟨b0, o0, none⟩) zs.length c ∧ τ 1 = .slice Y ys.length d ∧ τ 5 = .int .i64 ((cntOf (zs.take j) ys : Nat) : Int) ∧ τ 6 = .int .i64 ((j : Nat) : Int) ∧ τ 10 = .bool true ∧ τ 18 = .bool (ys.contains x)) ⟨up rfl (up rfl (up rfl (up rfl (up rfl (up rfl hs0))))), up rfl (up rfl (up rfl (up rfl (up rfl (up rfl hs1))))), up rfl (up rfl (up rfl (up rfl (up rfl (up rfl hs5))))), up rfl (up rfl (up rfl (up rfl (up rfl (up rfl hs6))))), up rfl (up rfl (up rfl (up rfl (up rfl (up rfl (Eq.trans hs10 (congrArg Value.bool hc1))))))), tp⟩ ?_
    rintro τ ⟨hs0, hs1, hs5, hs6, hs10, hs18⟩
    refine CW.cond (AF_ev rfl hs18) (fun hc2 => ?_) (fun hc2 => ?_)
    · have hc2_ := hc2
      try simp only [decide_eq_true_eq, decide_eq_false_iff_not, Bool.and_eq_true, Bool.or_eq_true, Bool.and_eq_false_iff, Bool.or_eq_false_iff, Bool.not_eq_true', Bool.not_eq_false', beq_iff_eq, beq_eq_false_iff_ne, bne_iff_ne, bne_eq_false_iff_eq, ne_eq, Int.not_lt, Int.not_le, gt_iff_lt, ge_iff_le] at hc2_
      refine CW.region ?_
      refine RW.soft Wd.a (v := .int .i64 ((cntOf (zs.take j) ys : Nat) : Int)) (by exact E.move (AF_ev rfl hs5)) ?_
      refine RW.soft Wd.a (v := .int .i64 (((cntOf (zs.take j) ys : Nat) : Int) + 1)) (by exact E.add (k := .i64) (a := ((cntOf (zs.take j) ys : Nat) : Int)) (b := 1) (AF_ev rfl tp) rfl (show IntKind.i64.wrap (((cntOf (zs.take j) ys : Nat) : Int) + 1) = ((cntOf (zs.take j) ys : Nat) : Int) + 1 from (by rw [IntWalk.i64_in _ (by omega)]))) ?_
      refine RW.soft Wd.a (v := .int .i64 (((cntOf (zs.take j) ys : Nat) : Int) + 1)) (by exact E.assign (AF_ev rfl tp)) ?_
      refine RW.nil ?_
      refine Bl.n ?_
      refine Th.n ?_
      refine CW.region ?_
      refine RW.soft Wd.a (v := .int .i64 ((j : Nat) : Int)) (by exact E.move (AF_ev rfl (up rfl (up rfl (up rfl hs6))))) ?_
      refine RW.soft Wd.a (v := .int .i64 (((j : Nat) : Int) + 1)) (by exact E.add (k := .i64) (a := ((j : Nat) : Int)) (b := 1) (AF_ev rfl tp) rfl (show IntKind.i64.wrap (((j : Nat) : Int) + 1) = ((j : Nat) : Int) + 1 from (by rw [IntWalk.i64_in _ (by omega)]))) ?_
      refine RW.soft Wd.a (v := .int .i64 (((j : Nat) : Int) + 1)) (by exact E.assign (AF_ev rfl tp)) ?_
      refine RW.nil ?_
      refine Th.n ?_
      have hcs := cnt_step (ys := ys) hx
      rw [if_pos (by rw [hc2])] at hcs
      have hst := hst.take (.there .here)
      exact ⟨zs.length - (j + 1), by omega, j + 1, (by omega), rfl, up rfl (up rfl (up rfl (up rfl (up rfl (up rfl hs0))))), up rfl (up rfl (up rfl (up rfl (up rfl (up rfl hs1))))), (int_eq (a := ((cntOf (zs.take j) ys : Nat) : Int) + 1) (up rfl (up rfl (up rfl tp))) (by omega)), (int_eq (a := ((j : Nat) : Int) + 1) tp (by omega)), hst⟩
    · have hc2_ := hc2
      try simp only [decide_eq_true_eq, decide_eq_false_iff_not, Bool.and_eq_true, Bool.or_eq_true, Bool.and_eq_false_iff, Bool.or_eq_false_iff, Bool.not_eq_true', Bool.not_eq_false', beq_iff_eq, beq_eq_false_iff_ne, bne_iff_ne, bne_eq_false_iff_eq, ne_eq, Int.not_lt, Int.not_le, gt_iff_lt, ge_iff_le] at hc2_
      refine CW.skip ?_
      refine Bl.n ?_
      refine Th.n ?_
      refine CW.region ?_
      refine RW.soft Wd.a (v := .int .i64 ((j : Nat) : Int)) (by exact E.move (AF_ev rfl hs6)) ?_
      refine RW.soft Wd.a (v := .int .i64 (((j : Nat) : Int) + 1)) (by exact E.add (k := .i64) (a := ((j : Nat) : Int)) (b := 1) (AF_ev rfl tp) rfl (show IntKind.i64.wrap (((j : Nat) : Int) + 1) = ((j : Nat) : Int) + 1 from (by rw [IntWalk.i64_in _ (by omega)]))) ?_
      refine RW.soft Wd.a (v := .int .i64 (((j : Nat) : Int) + 1)) (by exact E.assign (AF_ev rfl tp)) ?_
      refine RW.nil ?_
      refine Th.n ?_
      have hcs := cnt_step (ys := ys) hx
      rw [if_neg (by rw [hc2]; decide)] at hcs
      have hst := hst.take (.there .here)
      exact ⟨zs.length - (j + 1), by omega, j + 1, (by omega), rfl, up rfl (up rfl (up rfl hs0)), up rfl (up rfl (up rfl hs1)), (int_eq (a := ((cntOf (zs.take j) ys : Nat) : Int)) (up rfl (up rfl (up rfl hs5))) (by omega)), (int_eq (a := ((j : Nat) : Int) + 1) tp (by omega)), hst⟩
  · have hc1_ := hc1
    try simp only [decide_eq_true_eq, decide_eq_false_iff_not, Bool.and_eq_true, Bool.or_eq_true, Bool.and_eq_false_iff, Bool.or_eq_false_iff, Bool.not_eq_true', Bool.not_eq_false', beq_iff_eq, beq_eq_false_iff_ne, bne_iff_ne, bne_eq_false_iff_eq, ne_eq, Int.not_lt, Int.not_le, gt_iff_lt, ge_iff_le] at hc1_
    refine CW.exit ?_
    refine Th.x ?_
    refine Th.x ?_
    refine Bl.x ?_
    refine Th.n ?_
    refine CW.seq ?_
    have hcl := cnt_le zs ys
    have hjz : zs.take j = zs := List.take_of_length_le (by omega)
    rw [hjz] at hs5
    refine CW.region ?_
    refine RW.soft Wd.a (v := .int .i64 ((cntOf zs ys : Nat) : Int)) (by exact E.move (AF_ev rfl hs5)) ?_
    refine RW.soft Wd.a (v := .int .i64 (2 * ((cntOf zs ys : Nat) : Int))) (by exact E.mul (k := .i64) (a := 2) (b := ((cntOf zs ys : Nat) : Int)) rfl (AF_ev rfl tp) (show IntKind.i64.wrap (2 * ((cntOf zs ys : Nat) : Int)) = 2 * ((cntOf zs ys : Nat) : Int) from (by rw [IntWalk.i64_in _ (by omega)]))) ?_
    refine RW.soft Wd.a (v := .slice X zs.length c) (by exact E.move (AF_ev rfl (up rfl (up rfl hs0)))) ?_
    refine RW.soft Wd.a (v := .int .i64 ((zs.length : Nat) : Int)) (by exact E.lenS (p := X) (l := zs.length) (c := c) Try.underlying58 (AF_ev rfl tp)) ?_
    refine RW.soft Wd.a (v := .bool (decide ((2 * ((cntOf zs ys : Nat) : Int)) > ((zs.length : Nat) : Int)))) (by exact E.gtr (k := .i64) (a := 2 * ((cntOf zs ys : Nat) : Int)) (b := ((zs.length : Nat) : Int)) (AF_ev rfl (up rfl (up rfl tp))) (AF_ev rfl tp)) ?_
    refine RW.soft Wd.a (v := .bool (decide ((2 * ((cntOf zs ys : Nat) : Int)) > ((zs.length : Nat) : Int)))) (by exact E.assign (AF_ev rfl tp)) ?_
    refine RW.fin (fun τ => τ 0 = .slice X zs.length c ∧ τ 1 = .slice Y ys.length d ∧ τ 4 = .bool (decide ((2 * ((cntOf zs ys : Nat) : Int)) > ((zs.length : Nat) : Int))) ∧ τ 5 = .int .i64 ((cntOf zs ys : Nat) : Int) ∧ τ 6 = .int .i64 ((j : Nat) : Int) ∧ τ 10 = .bool false) ⟨up rfl (up rfl (up rfl (up rfl (up rfl (up rfl hs0))))), up rfl (up rfl (up rfl (up rfl (up rfl (up rfl hs1))))), tp, up rfl (up rfl (up rfl (up rfl (up rfl (up rfl hs5))))), up rfl (up rfl (up rfl (up rfl (up rfl (up rfl hs6))))), up rfl (up rfl (up rfl (up rfl (up rfl (up rfl (Eq.trans hs10 (congrArg Value.bool hc1)))))))⟩ ?_
    rintro τ ⟨hs0, hs1, hs4, hs5, hs6, hs10⟩
    refine CW.ret ?_
    refine ret1 (v := .bool (decide ((2 * ((cntOf zs ys : Nat) : Int)) > ((zs.length : Nat) : Int)))) rfl (by exact (.tmp (AF_ev rfl hs4) .nil)) ?_
    have hst := hst.take (.there .here)
    have hst := hst.take (.there .here)
    exact ⟨rfl, hst⟩
end Go.Proofs.Ytjagffnbobnofaa
