/- The calls of the package keyring, walked through operation by operation. -/
import Derived.Test.YtdlcjoonhojpfaaK26
import Derived.Test.YtdlcjoonhojpfaaK18
import Derived.Test.YtdlcjoonhojpfaaK14
import Derived.Test.YtdlcjoonhojpfaaK13
import Derived.Test.YtdlcjoonhojpfaaK12
import Derived.Test.YtdlcjoonhojpfaaK11
import Derived.Test.YtdlcjoonhojpfaaK10
import Derived.Test.YtdlcjoonhojpfaaK9
import Derived.Test.YtdlcjoonhojpfaaK8
import Derived.Test.YtdlcjoonhojpfaaK7
import Derived.Test.YtdlcjoonhojpfaaK6
import Derived.Test.YtdlcjoonhojpfaaK5
import Derived.Test.YtdlcjoonhojpfaaK4
import Derived.Test.YtdlcjoonhojpfaaK3
import Derived.Test.YtdlcjoonhojpfaaK22
import Derived.Test.YtdlcjoonhojpfaaK25
namespace Go.Proofs.Ytdlcjoonhojpfaa
open Go.RowKit Go.SL Go.K13
attribute [local irreducible] Go.SL.RW Go.SL.CW Go.SL.RD Go.SL.Hd Go.SL.St
set_option linter.unusedVariables false
set_option linter.unusedSimpArgs false

theorem nm61 : (Try.f61.name == "runtime.NumGoroutine") = false := by kernel_rfl

theorem bad_found {rs : List RingM} {j : Nat} {o : Bool} {Y : Option Addr} {d : Nat} {vs : List Ver} (hr : rs[j]? = some ⟨o, Y, d, vs⟩) (hb : badR vs = true) : badK (rs.map RingM.view) = true := by
  unfold badK
  rw [any_view, any_found hr (show (fun r : RingM => badR r.vers) ⟨o, Y, d, vs⟩ = true from hb), Bool.or_true]

theorem ref_Of {p : Pers} {w : World} {R : List Assn} {A : Assn} {X : Option Addr} {c : Nat} {rs : List RingM} (hA : Tells13 p A (.slice X rs.length c) rs) (h12 : rs.length ≤ 12) (h8 : ∀ r ∈ rs, r.vers.length ≤ 8) (hst : St p w (A :: R)) :
    Calls Try.prog 63 #[.slice X rs.length c] w fun e w => ∃ v, e = .returned (.tuple #[v, .int .i64 (if badK (rs.map RingM.view) = true then 1 else 0)]) ∧ St p w (A :: R) := by
  refine enter Try.func63 rfl (by simp) (n := 75) rfl fun τ hτ => ?_
  have hs0 : τ 0 = .slice X rs.length c := hτ 0 (by simp)
  clear hτ
  refine CW.seq ?_
  refine CW.region ?_
  refine RW.soft Wd.a (v := .pointer none) (by exact E.assign rfl) ?_
  refine RW.soft Wd.a (v := .int .i64 0) (by exact E.assign rfl) ?_
  refine RW.fin (fun τ => τ 0 = .slice X rs.length c ∧ τ 2 = .pointer none ∧ τ 3 = .int .i64 0) ⟨up rfl (up rfl hs0), up rfl tp, tp⟩ ?_
  rintro τ ⟨hs0, hs2, hs3⟩
  refine CW.seq ?_
  refine CW.seq ?_
  refine CW.region ?_
  refine RW.soft Wd.a (v := .slice X rs.length c) (by exact E.move (AF_ev rfl hs0)) ?_
  refine RW.soft Wd.a (v := .int .i64 ((rs.length : Nat) : Int)) (by exact E.lenS (p := X) (l := rs.length) (c := c) Try.underlying71 (AF_ev rfl tp)) ?_
  refine RW.soft Wd.a (v := .bool (decide (((rs.length : Nat) : Int) > 8))) (by exact E.gtr (k := .i64) (a := ((rs.length : Nat) : Int)) (b := 8) (AF_ev rfl tp) rfl) ?_
  refine RW.fin (fun τ => τ 0 = .slice X rs.length c ∧ τ 2 = .pointer none ∧ τ 3 = .int .i64 0 ∧ τ 10 = .bool (decide (((rs.length : Nat) : Int) > 8))) ⟨up rfl (up rfl (up rfl hs0)), up rfl (up rfl (up rfl hs2)), up rfl (up rfl (up rfl hs3)), tp⟩ ?_
  rintro τ ⟨hs0, hs2, hs3, hs10⟩
  refine CW.cond (AF_ev rfl hs10) (fun hc1 => ?_) (fun hc1 => ?_)
  · have hc1_ := hc1
    try simp only [decide_eq_true_eq, decide_eq_false_iff_not, Bool.and_eq_true, Bool.or_eq_true, Bool.and_eq_false_iff, Bool.or_eq_false_iff, Bool.not_eq_true', Bool.not_eq_false', beq_iff_eq, beq_eq_false_iff_ne, bne_iff_ne, bne_eq_false_iff_eq, ne_eq, Int.not_lt, Int.not_le, gt_iff_lt, ge_iff_le] at hc1_
    refine CW.seq ?_
    refine CW.region ?_
    refine RW.soft Wd.a (v := .pointer none) (by exact E.assign rfl) ?_
    refine RW.soft Wd.a (v := .int .i64 1) (by exact E.assign rfl) ?_
    refine RW.fin (fun τ => τ 0 = .slice X rs.length c ∧ τ 2 = .pointer none ∧ τ 3 = .int .i64 1 ∧ τ 10 = .bool true) ⟨up rfl (up rfl hs0), up rfl tp, tp, up rfl (up rfl (Eq.trans hs10 (congrArg Value.bool hc1)))⟩ ?_
    rintro τ ⟨hs0, hs2, hs3, hs10⟩
    refine CW.ret ?_
    refine Th.r ?_
    refine retN (rs := [.tmp 2, .tmp 3]) (vs := [.pointer none, .int .i64 1]) rfl (by exact (.tmp (AF_ev rfl hs2) (.tmp (AF_ev rfl hs3) .nil))) (by simp) ?_
    
    exact ⟨_, by rw [if_pos (by unfold badK; rw [List.length_map, hc1]; rfl)], hst⟩
  · have hc1_ := hc1
    try simp only [decide_eq_true_eq, decide_eq_false_iff_not, Bool.and_eq_true, Bool.or_eq_true, Bool.and_eq_false_iff, Bool.or_eq_false_iff, Bool.not_eq_true', Bool.not_eq_false', beq_iff_eq, beq_eq_false_iff_ne, bne_iff_ne, bne_eq_false_iff_eq, ne_eq, Int.not_lt, Int.not_le, gt_iff_lt, ge_iff_le] at hc1_
    refine CW.skip ?_
    refine Th.n ?_
    refine CW.seq ?_
    refine CW.seq ?_
    refine CW.region ?_
    refine RW.soft Wd.a (v := .int .i64 0) (by exact E.assign rfl) ?_
    refine RW.fin (fun τ => τ 0 = .slice X rs.length c ∧ τ 2 = .pointer none ∧ τ 3 = .int .i64 0 ∧ τ 4 = .int .i64 0 ∧ τ 10 = .bool false) ⟨up rfl hs0, up rfl hs2, up rfl hs3, tp, up rfl (Eq.trans hs10 (congrArg Value.bool hc1))⟩ ?_
    rintro τ ⟨hs0, hs2, hs3, hs4, hs10⟩
    refine CW.block ?_
    refine CW.loop (fun (k : Nat) (τ : Fr) (w : World) => ∃ (j : Nat), (rs.take j).any (fun r => badR r.vers) = false ∧ j ≤ rs.length ∧ k = rs.length - j ∧ τ 0 = .slice X rs.length c ∧ τ 4 = .int .i64 ((j : Nat) : Int) ∧ St p w (A :: R)) (rs.length - 0) ⟨0, rfl, by omega, rfl, hs0, (int_eq (a := 0) hs4 (by omega)), hst⟩ ?_
    clear hst
    rintro k τ w ⟨j, hf, hj, hkj, hs0, hs4, hst⟩
    refine CW.seq ?_
    refine CW.seq ?_
    refine CW.region ?_
    refine RW.soft Wd.a (v := .int .i64 ((j : Nat) : Int)) (by exact E.move (AF_ev rfl hs4)) ?_
    refine RW.soft Wd.a (v := .slice X rs.length c) (by exact E.move (AF_ev rfl (up rfl hs0))) ?_
    refine RW.soft Wd.a (v := .int .i64 ((rs.length : Nat) : Int)) (by exact E.lenS (p := X) (l := rs.length) (c := c) Try.underlying71 (AF_ev rfl tp)) ?_
    refine RW.soft Wd.a (v := .bool (decide (((j : Nat) : Int) < ((rs.length : Nat) : Int)))) (by exact E.lss (k := .i64) (a := ((j : Nat) : Int)) (b := ((rs.length : Nat) : Int)) (AF_ev rfl (up rfl (up rfl tp))) (AF_ev rfl tp)) ?_
    refine RW.fin (fun τ => τ 0 = .slice X rs.length c ∧ τ 4 = .int .i64 ((j : Nat) : Int) ∧ τ 14 = .bool (decide (((j : Nat) : Int) < ((rs.length : Nat) : Int)))) ⟨up rfl (up rfl (up rfl (up rfl hs0))), up rfl (up rfl (up rfl (up rfl hs4))), tp⟩ ?_
    rintro τ ⟨hs0, hs4, hs14⟩
    refine CW.cond (AF_ev rfl hs14) (fun hc2 => ?_) (fun hc2 => ?_)
    · have hc2_ := hc2
      try simp only [decide_eq_true_eq, decide_eq_false_iff_not, Bool.and_eq_true, Bool.or_eq_true, Bool.and_eq_false_iff, Bool.or_eq_false_iff, Bool.not_eq_true', Bool.not_eq_false', beq_iff_eq, beq_eq_false_iff_ne, bne_iff_ne, bne_eq_false_iff_eq, ne_eq, Int.not_lt, Int.not_le, gt_iff_lt, ge_iff_le] at hc2_
      refine CW.skip ?_
      refine Th.n ?_
      refine CW.seq ?_
      refine CW.block ?_
      refine CW.seq ?_
      refine CW.seq ?_
      have hjl : j < rs.length := by omega
      obtain ⟨b0, o0, rfl, hcell0⟩ := hA.place (hst.take .here) (by omega)
      obtain ⟨⟨o, Y, d, vs⟩, hr⟩ : ∃ z, rs[j]? = some z := ⟨rs[j], List.getElem?_eq_getElem hjl⟩
      have hx := hr
      have hv8 : vs.length ≤ 8 := h8 _ (List.mem_of_getElem? hr)
      refine CW.cut (fun τ => τ 0 = .slice (some ⟨b0, o0, none⟩) rs.length c ∧ τ 4 = .int .i64 ((j : Nat) : Int) ∧ τ 14 = .bool true ∧ τ 32 = .bool ((decide (((vs.length : Nat) : Int) < 1)) || (decide (((vs.length : Nat) : Int) > 4)))) ?_ ?_
      · refine CW.region ?_
        refine RW.soft Wd.a (v := .slice (some ⟨b0, o0, none⟩) rs.length c) (by exact E.move (AF_ev rfl hs0)) ?_
        refine RW.soft Wd.a (v := .int .i64 ((j : Nat) : Int)) (by exact E.move (AF_ev rfl (up rfl hs4))) ?_
        refine RW.soft Wd.a (v := .pointer (some ⟨b0, o0 + j * 2, none⟩)) (by exact E.indexAddr (b := b0) (o := o0) (l := rs.length) (c := c) (i := ((j : Nat) : Int)) Try.underlying71 sz84 (AF_ev rfl (up rfl tp)) (AF_ev rfl tp) (by omega) (by omega) (by simp)) ?_
        refine RW.soft Wd.a (v := .pointer (some ⟨b0, o0 + j * 2 + 1, none⟩)) (by exact E.fieldAddr (b := b0) (o := o0 + j * 2) (f := { name := "L", type := 82, offset := 1, embedded := false, tag := "", pkgPath := "", byteOffset := 8 }) (AF_ev rfl tp) Try.underlying84 rfl sz82 rfl) ?_
        refine RW.soft Wd.a (v := .slice Y vs.length d) (by exact E.load (a := ⟨b0, o0 + j * 2 + 1, none⟩) Try.underlying82 rfl (AF_ev rfl tp) (by rw [Nat.add_assoc]; exact hcell0 (hst.take .here) _ _ (flat_get (j := 1) RingM.enc_len hr (rfl)))) ?_
        refine RW.soft Wd.a (v := .int .i64 ((vs.length : Nat) : Int)) (by exact E.lenS (p := Y) (l := vs.length) (c := d) Try.underlying82 (AF_ev rfl tp)) ?_
        refine RW.soft Wd.a (v := .bool (decide (((vs.length : Nat) : Int) < 1))) (by exact E.lss (k := .i64) (a := ((vs.length : Nat) : Int)) (b := 1) (AF_ev rfl tp) rfl) ?_
        refine RW.soft Wd.a (v := .bool (decide (((vs.length : Nat) : Int) < 1))) (by exact E.move (AF_ev rfl tp)) ?_
        refine Or.elim (Bool.eq_false_or_eq_true (decide (((vs.length : Nat) : Int) < 1))) (fun hg3 => ?_) (fun hg3 => ?_)
        · have hg3_ := hg3
          try simp only [decide_eq_true_eq, decide_eq_false_iff_not, Bool.and_eq_true, Bool.or_eq_true, Bool.and_eq_false_iff, Bool.or_eq_false_iff, Bool.not_eq_true', Bool.not_eq_false', beq_iff_eq, beq_eq_false_iff_ne, bne_iff_ne, bne_eq_false_iff_eq, ne_eq, Int.not_lt, Int.not_le, gt_iff_lt, ge_iff_le] at hg3_
          refine RW.pass (by exact Wd.no (x := 24) (b := true) rfl (AF_ev rfl (Eq.trans tp (congrArg Value.bool hg3))) rfl) ?_
          refine RW.pass (by exact Wd.no (x := 24) (b := true) rfl (AF_ev rfl (up rfl (Eq.trans tp (congrArg Value.bool hg3)))) rfl) ?_
          refine RW.pass (by exact Wd.no (x := 24) (b := true) rfl (AF_ev rfl (up rfl (up rfl (Eq.trans tp (congrArg Value.bool hg3))))) rfl) ?_
          refine RW.pass (by exact Wd.no (x := 24) (b := true) rfl (AF_ev rfl (up rfl (up rfl (up rfl (Eq.trans tp (congrArg Value.bool hg3)))))) rfl) ?_
          refine RW.pass (by exact Wd.no (x := 24) (b := true) rfl (AF_ev rfl (up rfl (up rfl (up rfl (up rfl (Eq.trans tp (congrArg Value.bool hg3))))))) rfl) ?_
          refine RW.pass (by exact Wd.no (x := 24) (b := true) rfl (AF_ev rfl (up rfl (up rfl (up rfl (up rfl (up rfl (Eq.trans tp (congrArg Value.bool hg3)))))))) rfl) ?_
          refine RW.pass (by exact Wd.no (x := 24) (b := true) rfl (AF_ev rfl (up rfl (up rfl (up rfl (up rfl (up rfl (up rfl (Eq.trans tp (congrArg Value.bool hg3))))))))) rfl) ?_
          refine RW.soft Wd.a (v := .bool true) (by exact E.pickT (AF_ev rfl (up rfl (up rfl (up rfl (up rfl (up rfl (up rfl (up rfl (Eq.trans tp (congrArg Value.bool hg3)))))))))) rfl) ?_
          refine RW.nil ⟨rfl, rfl, up rfl (up rfl (up rfl (up rfl (up rfl (up rfl (up rfl (up rfl (up rfl (up rfl (up rfl (up rfl (up rfl (up rfl (up rfl (up rfl hs0))))))))))))))), up rfl (up rfl (up rfl (up rfl (up rfl (up rfl (up rfl (up rfl (up rfl (up rfl (up rfl (up rfl (up rfl (up rfl (up rfl (up rfl hs4))))))))))))))), up rfl (up rfl (up rfl (up rfl (up rfl (up rfl (up rfl (up rfl (up rfl (up rfl (up rfl (up rfl (up rfl (up rfl (up rfl (up rfl (Eq.trans hs14 (congrArg Value.bool hc2))))))))))))))))), (bool_eq (a := true) tp (by simp only [hg3, Bool.true_and, Bool.false_and, Bool.true_or, Bool.false_or]))⟩
        · have hg3_ := hg3
          try simp only [decide_eq_true_eq, decide_eq_false_iff_not, Bool.and_eq_true, Bool.or_eq_true, Bool.and_eq_false_iff, Bool.or_eq_false_iff, Bool.not_eq_true', Bool.not_eq_false', beq_iff_eq, beq_eq_false_iff_ne, bne_iff_ne, bne_eq_false_iff_eq, ne_eq, Int.not_lt, Int.not_le, gt_iff_lt, ge_iff_le] at hg3_
          refine RW.soft (by exact Wd.yes (x := 24) rfl (AF_ev rfl (Eq.trans tp (congrArg Value.bool hg3)))) (v := .slice (some ⟨b0, o0, none⟩) rs.length c) (by exact E.move (AF_ev rfl (up rfl (up rfl (up rfl (up rfl (up rfl (up rfl (up rfl (up rfl hs0)))))))))) ?_
          refine RW.soft (by exact Wd.yes (x := 24) rfl (AF_ev rfl (up rfl (Eq.trans tp (congrArg Value.bool hg3))))) (v := .int .i64 ((j : Nat) : Int)) (by exact E.move (AF_ev rfl (up rfl (up rfl (up rfl (up rfl (up rfl (up rfl (up rfl (up rfl (up rfl hs4))))))))))) ?_
          refine RW.soft (by exact Wd.yes (x := 24) rfl (AF_ev rfl (up rfl (up rfl (Eq.trans tp (congrArg Value.bool hg3)))))) (v := .pointer (some ⟨b0, o0 + j * 2, none⟩)) (by exact E.indexAddr (b := b0) (o := o0) (l := rs.length) (c := c) (i := ((j : Nat) : Int)) Try.underlying71 sz84 (AF_ev rfl (up rfl tp)) (AF_ev rfl tp) (by omega) (by omega) (by simp)) ?_
          refine RW.soft (by exact Wd.yes (x := 24) rfl (AF_ev rfl (up rfl (up rfl (up rfl (Eq.trans tp (congrArg Value.bool hg3))))))) (v := .pointer (some ⟨b0, o0 + j * 2 + 1, none⟩)) (by exact E.fieldAddr (b := b0) (o := o0 + j * 2) (f := { name := "L", type := 82, offset := 1, embedded := false, tag := "", pkgPath := "", byteOffset := 8 }) (AF_ev rfl tp) Try.underlying84 rfl sz82 rfl) ?_
          refine RW.soft (by exact Wd.yes (x := 24) rfl (AF_ev rfl (up rfl (up rfl (up rfl (up rfl (Eq.trans tp (congrArg Value.bool hg3)))))))) (v := .slice Y vs.length d) (by exact E.load (a := ⟨b0, o0 + j * 2 + 1, none⟩) Try.underlying82 rfl (AF_ev rfl tp) (by rw [Nat.add_assoc]; exact hcell0 (hst.take .here) _ _ (flat_get (j := 1) RingM.enc_len hr (rfl)))) ?_
          refine RW.soft (by exact Wd.yes (x := 24) rfl (AF_ev rfl (up rfl (up rfl (up rfl (up rfl (up rfl (Eq.trans tp (congrArg Value.bool hg3))))))))) (v := .int .i64 ((vs.length : Nat) : Int)) (by exact E.lenS (p := Y) (l := vs.length) (c := d) Try.underlying82 (AF_ev rfl tp)) ?_
          refine RW.soft (by exact Wd.yes (x := 24) rfl (AF_ev rfl (up rfl (up rfl (up rfl (up rfl (up rfl (up rfl (Eq.trans tp (congrArg Value.bool hg3)))))))))) (v := .bool (decide (((vs.length : Nat) : Int) > 4))) (by exact E.gtr (k := .i64) (a := ((vs.length : Nat) : Int)) (b := 4) (AF_ev rfl tp) rfl) ?_
          refine RW.soft Wd.a (v := .bool (decide (((vs.length : Nat) : Int) > 4))) (by exact E.pickF (AF_ev rfl (up rfl (up rfl (up rfl (up rfl (up rfl (up rfl (up rfl (Eq.trans tp (congrArg Value.bool hg3)))))))))) (AF_ev rfl tp)) ?_
          refine RW.nil ⟨rfl, rfl, up rfl (up rfl (up rfl (up rfl (up rfl (up rfl (up rfl (up rfl (up rfl (up rfl (up rfl (up rfl (up rfl (up rfl (up rfl (up rfl hs0))))))))))))))), up rfl (up rfl (up rfl (up rfl (up rfl (up rfl (up rfl (up rfl (up rfl (up rfl (up rfl (up rfl (up rfl (up rfl (up rfl (up rfl hs4))))))))))))))), up rfl (up rfl (up rfl (up rfl (up rfl (up rfl (up rfl (up rfl (up rfl (up rfl (up rfl (up rfl (up rfl (up rfl (up rfl (up rfl (Eq.trans hs14 (congrArg Value.bool hc2))))))))))))))))), (bool_eq (a := decide (((vs.length : Nat) : Int) > 4)) tp (by simp only [hg3, Bool.true_and, Bool.false_and, Bool.true_or, Bool.false_or]))⟩
      rintro τ ⟨hs0, hs4, hs14, hs32⟩
      refine CW.cond (AF_ev rfl hs32) (fun hc4 => ?_) (fun hc4 => ?_)
      · have hc4_ := hc4
        try simp only [decide_eq_true_eq, decide_eq_false_iff_not, Bool.and_eq_true, Bool.or_eq_true, Bool.and_eq_false_iff, Bool.or_eq_false_iff, Bool.not_eq_true', Bool.not_eq_false', beq_iff_eq, beq_eq_false_iff_ne, bne_iff_ne, bne_eq_false_iff_eq, ne_eq, Int.not_lt, Int.not_le, gt_iff_lt, ge_iff_le] at hc4_
        refine CW.seq ?_
        refine CW.region ?_
        refine RW.soft Wd.a (v := .pointer none) (by exact E.assign rfl) ?_
        refine RW.soft Wd.a (v := .int .i64 1) (by exact E.assign rfl) ?_
        refine RW.fin (fun τ => τ 0 = .slice (some ⟨b0, o0, none⟩) rs.length c ∧ τ 2 = .pointer none ∧ τ 3 = .int .i64 1 ∧ τ 4 = .int .i64 ((j : Nat) : Int) ∧ τ 14 = .bool true ∧ τ 32 = .bool true) ⟨up rfl (up rfl hs0), up rfl tp, tp, up rfl (up rfl hs4), up rfl (up rfl hs14), up rfl (up rfl (Eq.trans hs32 (congrArg Value.bool hc4)))⟩ ?_
        rintro τ ⟨hs0, hs2, hs3, hs4, hs14, hs32⟩
        refine CW.ret ?_
        refine Th.r ?_
        refine Bl.r ?_
        refine Th.r ?_
        refine Th.r ?_
        refine Bl.r ?_
        refine Th.r ?_
        refine retN (rs := [.tmp 2, .tmp 3]) (vs := [.pointer none, .int .i64 1]) rfl (by exact (.tmp (AF_ev rfl hs2) (.tmp (AF_ev rfl hs3) .nil))) (by simp) ?_
        
        exact ⟨_, by rw [if_pos (bad_found hr (by unfold badR; rw [hc4]; rfl))], hst⟩
      · have hc4_ := hc4
        try simp only [decide_eq_true_eq, decide_eq_false_iff_not, Bool.and_eq_true, Bool.or_eq_true, Bool.and_eq_false_iff, Bool.or_eq_false_iff, Bool.not_eq_true', Bool.not_eq_false', beq_iff_eq, beq_eq_false_iff_ne, bne_iff_ne, bne_eq_false_iff_eq, ne_eq, Int.not_lt, Int.not_le, gt_iff_lt, ge_iff_le] at hc4_
        refine CW.skip ?_
        refine Th.n ?_
        refine CW.seq ?_
        refine CW.region ?_
        refine RW.soft Wd.a (v := .int .i64 0) (by exact E.assign rfl) ?_
        refine RW.fin (fun τ => τ 0 = .slice (some ⟨b0, o0, none⟩) rs.length c ∧ τ 4 = .int .i64 ((j : Nat) : Int) ∧ τ 5 = .int .i64 0 ∧ τ 14 = .bool true ∧ τ 32 = .bool false) ⟨up rfl hs0, up rfl hs4, tp, up rfl hs14, up rfl (Eq.trans hs32 (congrArg Value.bool hc4))⟩ ?_
        rintro τ ⟨hs0, hs4, hs5, hs14, hs32⟩
        refine CW.block ?_
        refine CW.loop (fun (k : Nat) (τ : Fr) (w : World) => ∃ (q : Nat), (vs.take q).any badV = false ∧ q ≤ vs.length ∧ k = vs.length - q ∧ τ 0 = .slice (some ⟨b0, o0, none⟩) rs.length c ∧ τ 4 = .int .i64 ((j : Nat) : Int) ∧ τ 5 = .int .i64 ((q : Nat) : Int) ∧ St p w (A :: R)) (vs.length - 0) ⟨0, rfl, by omega, rfl, hs0, hs4, (int_eq (a := 0) hs5 (by omega)), hst⟩ ?_
        clear hst
        rintro k τ w ⟨q, hfq, hq, hkq, hs0, hs4, hs5, hst⟩
        refine CW.seq ?_
        refine CW.seq ?_
        refine CW.region ?_
        refine RW.soft Wd.a (v := .int .i64 ((q : Nat) : Int)) (by exact E.move (AF_ev rfl hs5)) ?_
        refine RW.soft Wd.a (v := .slice (some ⟨b0, o0, none⟩) rs.length c) (by exact E.move (AF_ev rfl (up rfl hs0))) ?_
        refine RW.soft Wd.a (v := .int .i64 ((j : Nat) : Int)) (by exact E.move (AF_ev rfl (up rfl (up rfl hs4)))) ?_
        refine RW.soft Wd.a (v := .pointer (some ⟨b0, o0 + j * 2, none⟩)) (by exact E.indexAddr (b := b0) (o := o0) (l := rs.length) (c := c) (i := ((j : Nat) : Int)) Try.underlying71 sz84 (AF_ev rfl (up rfl tp)) (AF_ev rfl tp) (by omega) (by omega) (by simp)) ?_
        refine RW.soft Wd.a (v := .pointer (some ⟨b0, o0 + j * 2 + 1, none⟩)) (by exact E.fieldAddr (b := b0) (o := o0 + j * 2) (f := { name := "L", type := 82, offset := 1, embedded := false, tag := "", pkgPath := "", byteOffset := 8 }) (AF_ev rfl tp) Try.underlying84 rfl sz82 rfl) ?_
        refine RW.soft Wd.a (v := .slice Y vs.length d) (by exact E.load (a := ⟨b0, o0 + j * 2 + 1, none⟩) Try.underlying82 rfl (AF_ev rfl tp) (by rw [Nat.add_assoc]; exact hcell0 (hst.take .here) _ _ (flat_get (j := 1) RingM.enc_len hr (rfl)))) ?_
        refine RW.soft Wd.a (v := .int .i64 ((vs.length : Nat) : Int)) (by exact E.lenS (p := Y) (l := vs.length) (c := d) Try.underlying82 (AF_ev rfl tp)) ?_
        refine RW.soft Wd.a (v := .bool (decide (((q : Nat) : Int) < ((vs.length : Nat) : Int)))) (by exact E.lss (k := .i64) (a := ((q : Nat) : Int)) (b := ((vs.length : Nat) : Int)) (AF_ev rfl (up rfl (up rfl (up rfl (up rfl (up rfl (up rfl tp))))))) (AF_ev rfl tp)) ?_
        refine RW.fin (fun τ => τ 0 = .slice (some ⟨b0, o0, none⟩) rs.length c ∧ τ 4 = .int .i64 ((j : Nat) : Int) ∧ τ 5 = .int .i64 ((q : Nat) : Int) ∧ τ 40 = .bool (decide (((q : Nat) : Int) < ((vs.length : Nat) : Int)))) ⟨up rfl (up rfl (up rfl (up rfl (up rfl (up rfl (up rfl (up rfl hs0))))))), up rfl (up rfl (up rfl (up rfl (up rfl (up rfl (up rfl (up rfl hs4))))))), up rfl (up rfl (up rfl (up rfl (up rfl (up rfl (up rfl (up rfl hs5))))))), tp⟩ ?_
        rintro τ ⟨hs0, hs4, hs5, hs40⟩
        refine CW.cond (AF_ev rfl hs40) (fun hc5 => ?_) (fun hc5 => ?_)
        · have hc5_ := hc5
          try simp only [decide_eq_true_eq, decide_eq_false_iff_not, Bool.and_eq_true, Bool.or_eq_true, Bool.and_eq_false_iff, Bool.or_eq_false_iff, Bool.not_eq_true', Bool.not_eq_false', beq_iff_eq, beq_eq_false_iff_ne, bne_iff_ne, bne_eq_false_iff_eq, ne_eq, Int.not_lt, Int.not_le, gt_iff_lt, ge_iff_le] at hc5_
          refine CW.skip ?_
          refine Th.n ?_
          refine CW.seq ?_
          refine CW.block ?_
          refine CW.seq ?_
          obtain ⟨b1, o1, rfl, hcx1⟩ := hA.rowPlace hr (hst.take .here) (by omega)
          obtain ⟨x, hxq⟩ : ∃ z, vs[q]? = some z := ⟨vs[q]'(by omega), List.getElem?_eq_getElem (by omega)⟩
          refine CW.region ?_
          refine RW.soft Wd.a (v := .slice (some ⟨b0, o0, none⟩) rs.length c) (by exact E.move (AF_ev rfl hs0)) ?_
          refine RW.soft Wd.a (v := .int .i64 ((j : Nat) : Int)) (by exact E.move (AF_ev rfl (up rfl hs4))) ?_
          refine RW.soft Wd.a (v := .pointer (some ⟨b0, o0 + j * 2, none⟩)) (by exact E.indexAddr (b := b0) (o := o0) (l := rs.length) (c := c) (i := ((j : Nat) : Int)) Try.underlying71 sz84 (AF_ev rfl (up rfl tp)) (AF_ev rfl tp) (by omega) (by omega) (by simp)) ?_
          refine RW.soft Wd.a (v := .pointer (some ⟨b0, o0 + j * 2 + 1, none⟩)) (by exact E.fieldAddr (b := b0) (o := o0 + j * 2) (f := { name := "L", type := 82, offset := 1, embedded := false, tag := "", pkgPath := "", byteOffset := 8 }) (AF_ev rfl tp) Try.underlying84 rfl sz82 rfl) ?_
          refine RW.soft Wd.a (v := .slice (some ⟨b1, o1, none⟩) vs.length d) (by exact E.load (a := ⟨b0, o0 + j * 2 + 1, none⟩) Try.underlying82 rfl (AF_ev rfl tp) (by rw [Nat.add_assoc]; exact hcell0 (hst.take .here) _ _ (flat_get (j := 1) RingM.enc_len hr (rfl)))) ?_
          refine RW.soft Wd.a (v := .int .i64 ((q : Nat) : Int)) (by exact E.move (AF_ev rfl (up rfl (up rfl (up rfl (up rfl (up rfl hs5))))))) ?_
          refine RW.soft Wd.a (v := .pointer (some ⟨b1, o1 + q * 34, none⟩)) (by exact E.indexAddr (b := b1) (o := o1) (l := vs.length) (c := d) (i := ((q : Nat) : Int)) Try.underlying82 sz86 (AF_ev rfl (up rfl tp)) (AF_ev rfl tp) (by omega) (by omega) (by simp)) ?_
          refine RW.soft Wd.a (v := .agg (Ver.enc x).toArray) (by exact E.loadN (b := b1) (o := o1 + q * 34) (cs := Ver.enc x) Try.underlying86 rfl sz86 (AF_ev rfl tp) (Ver.enc_len _) (fun j v hv => by rw [Nat.add_assoc]; exact hcx1 (hst.take .here) _ _ (flat_get Ver.enc_len hxq (hv)))) ?_
          refine RW.hard Wd.a ?_
          refine H.alloc zr86k hst fun b6 w hst => ?_
          refine RW.hard Wd.a ?_
          refine H.storeWhole (b := b6) (m := 34) (v := .agg (Ver.enc x).toArray) (news := Ver.enc x) (AF_ev rfl tp) (AF_ev rfl (up rfl tp)) hst .here rfl (Ver.enc_len _) (by rw [List.size_toArray]; exact (Ver.enc_len _)) sz86 (Ver.one _) fun w hst => ?_
          refine RW.fin (fun τ => τ 0 = .slice (some ⟨b0, o0, none⟩) rs.length c ∧ τ 4 = .int .i64 ((j : Nat) : Int) ∧ τ 5 = .int .i64 ((q : Nat) : Int) ∧ τ 6 = .pointer (some ⟨b6, 0, none⟩) ∧ τ 40 = .bool true) ⟨u0 (up rfl (up rfl (up rfl (up rfl (up rfl (up rfl (up rfl (up rfl (up rfl hs0))))))))), u0 (up rfl (up rfl (up rfl (up rfl (up rfl (up rfl (up rfl (up rfl (up rfl hs4))))))))), u0 (up rfl (up rfl (up rfl (up rfl (up rfl (up rfl (up rfl (up rfl (up rfl hs5))))))))), u0 tp, u0 (up rfl (up rfl (up rfl (up rfl (up rfl (up rfl (up rfl (up rfl (up rfl (Eq.trans hs40 (congrArg Value.bool hc5)))))))))))⟩ ?_
          rintro τ ⟨hs0, hs4, hs5, hs6, hs40⟩
          refine CW.seq ?_
          refine CW.region ?_
          refine RW.soft Wd.a (v := .pointer (some ⟨b6, 0, none⟩)) (by exact E.fieldAddr (b := b6) (o := 0) (f := { name := "Material", type := 74, offset := 0, embedded := false, tag := "", pkgPath := "", byteOffset := 0 }) (AF_ev rfl hs6) Try.underlying86 rfl sz74 rfl) ?_
          refine RW.soft Wd.a (v := .agg (bk x.mat).toArray) (by exact E.loadN (b := b6) (o := 0) (cs := bk x.mat) Try.underlying74 rfl sz74 (AF_ev rfl tp) (bk_len _) (St.cellsOf hst .here (fun j v hv => by rw [Nat.zero_add]; exact Ver.at_mat _ hv))) ?_
          refine RW.soft Wd.a (v := .agg (bk kz).toArray) (by exact E.build (vs := #[]) (by simp) (build74z _)) ?_
          refine RW.soft Wd.a (v := .bool (decide (x.mat = kz))) (by exact E.eql74 (a := x.mat) (b := kz) (AF_ev rfl (up rfl tp)) (AF_ev rfl tp)) ?_
          refine RW.soft Wd.a (v := .bool (decide (x.mat = kz))) (by exact E.assign (AF_ev rfl tp)) ?_
          refine RW.fin (fun τ => τ 0 = .slice (some ⟨b0, o0, none⟩) rs.length c ∧ τ 4 = .int .i64 ((j : Nat) : Int) ∧ τ 5 = .int .i64 ((q : Nat) : Int) ∧ τ 6 = .pointer (some ⟨b6, 0, none⟩) ∧ τ 7 = .bool (decide (x.mat = kz)) ∧ τ 40 = .bool true) ⟨up rfl (up rfl (up rfl (up rfl (up rfl hs0)))), up rfl (up rfl (up rfl (up rfl (up rfl hs4)))), up rfl (up rfl (up rfl (up rfl (up rfl hs5)))), up rfl (up rfl (up rfl (up rfl (up rfl hs6)))), tp, up rfl (up rfl (up rfl (up rfl (up rfl hs40))))⟩ ?_
          rintro τ ⟨hs0, hs4, hs5, hs6, hs7, hs40⟩
          refine CW.seq ?_
          refine CW.cut (fun τ => τ 0 = .slice (some ⟨b0, o0, none⟩) rs.length c ∧ τ 4 = .int .i64 ((j : Nat) : Int) ∧ τ 5 = .int .i64 ((q : Nat) : Int) ∧ τ 6 = .pointer (some ⟨b6, 0, none⟩) ∧ τ 7 = .bool (decide (x.mat = kz)) ∧ τ 40 = .bool true ∧ τ 70 = .bool (((decide (x.uses < 0)) || (decide (x.uses > 16))) || (x.gone && (!(decide (x.mat = kz)))))) ?_ ?_
          · refine CW.region ?_
            refine RW.soft Wd.a (v := .pointer (some ⟨b6, 32, none⟩)) (by exact E.fieldAddr (b := b6) (o := 0) (f := { name := "Uses", type := 3, offset := 32, embedded := false, tag := "", pkgPath := "", byteOffset := 32 }) (AF_ev rfl hs6) Try.underlying86 rfl sz3 rfl) ?_
            refine RW.soft Wd.a (v := .int .i64 x.uses) (by exact E.load (a := ⟨b6, 32, none⟩) Try.underlying3 rfl (AF_ev rfl tp) (hst.cell .here (by rw [List.getElem?_toArray]; exact Ver.at_uses _))) ?_
            refine RW.soft Wd.a (v := .bool (decide (x.uses < 0))) (by exact E.lss (k := .i64) (a := x.uses) (b := 0) (AF_ev rfl tp) rfl) ?_
            refine RW.soft Wd.a (v := .bool (decide (x.uses < 0))) (by exact E.move (AF_ev rfl tp)) ?_
            refine Or.elim (Bool.eq_false_or_eq_true (decide (x.uses < 0))) (fun hg7 => ?_) (fun hg7 => ?_)
            · have hg7_ := hg7
              try simp only [decide_eq_true_eq, decide_eq_false_iff_not, Bool.and_eq_true, Bool.or_eq_true, Bool.and_eq_false_iff, Bool.or_eq_false_iff, Bool.not_eq_true', Bool.not_eq_false', beq_iff_eq, beq_eq_false_iff_ne, bne_iff_ne, bne_eq_false_iff_eq, ne_eq, Int.not_lt, Int.not_le, gt_iff_lt, ge_iff_le] at hg7_
              refine RW.pass (by exact Wd.no (x := 58) (b := true) rfl (AF_ev rfl (Eq.trans tp (congrArg Value.bool hg7))) rfl) ?_
              refine RW.pass (by exact Wd.no (x := 58) (b := true) rfl (AF_ev rfl (up rfl (Eq.trans tp (congrArg Value.bool hg7)))) rfl) ?_
              refine RW.pass (by exact Wd.no (x := 58) (b := true) rfl (AF_ev rfl (up rfl (up rfl (Eq.trans tp (congrArg Value.bool hg7))))) rfl) ?_
              refine RW.soft Wd.a (v := .bool true) (by exact E.pickT (AF_ev rfl (up rfl (up rfl (up rfl (Eq.trans tp (congrArg Value.bool hg7)))))) rfl) ?_
              refine RW.soft Wd.a (v := .bool true) (by exact E.move (AF_ev rfl tp)) ?_
              refine RW.pass (by exact Wd.no (x := 63) (b := true) rfl (AF_ev rfl tp) rfl) ?_
              refine RW.pass (by exact Wd.no (x := 63) (b := true) rfl (AF_ev rfl (up rfl tp)) rfl) ?_
              refine RW.pass (by exact Wd.no (x := 63) (b := true) rfl (AF_ev rfl (up rfl (up rfl tp))) rfl) ?_
              refine RW.pass (by exact Wd.u (x := 66) rfl (AF_ev rfl tp)) ?_
              refine RW.pass (by exact Wd.u (x := 66) rfl (AF_ev rfl (up rfl tp))) ?_
              refine RW.pass (by exact Wd.no (x := 63) (b := true) rfl (AF_ev rfl (up rfl (up rfl (up rfl (up rfl (up rfl tp)))))) rfl) ?_
              refine RW.soft Wd.a (v := .bool true) (by exact E.pickT (AF_ev rfl (up rfl (up rfl (up rfl (up rfl (up rfl (up rfl tp))))))) rfl) ?_
              refine RW.nil ⟨rfl, rfl, up rfl (up rfl (up rfl (up rfl (up rfl (up rfl (up rfl (up rfl (up rfl (up rfl (up rfl (up rfl (up rfl (up rfl (up rfl (up rfl hs0))))))))))))))), up rfl (up rfl (up rfl (up rfl (up rfl (up rfl (up rfl (up rfl (up rfl (up rfl (up rfl (up rfl (up rfl (up rfl (up rfl (up rfl hs4))))))))))))))), up rfl (up rfl (up rfl (up rfl (up rfl (up rfl (up rfl (up rfl (up rfl (up rfl (up rfl (up rfl (up rfl (up rfl (up rfl (up rfl hs5))))))))))))))), up rfl (up rfl (up rfl (up rfl (up rfl (up rfl (up rfl (up rfl (up rfl (up rfl (up rfl (up rfl (up rfl (up rfl (up rfl (up rfl hs6))))))))))))))), up rfl (up rfl (up rfl (up rfl (up rfl (up rfl (up rfl (up rfl (up rfl (up rfl (up rfl (up rfl (up rfl (up rfl (up rfl (up rfl hs7))))))))))))))), up rfl (up rfl (up rfl (up rfl (up rfl (up rfl (up rfl (up rfl (up rfl (up rfl (up rfl (up rfl (up rfl (up rfl (up rfl (up rfl hs40))))))))))))))), (bool_eq (a := true) tp (by simp only [hg7, Bool.true_and, Bool.false_and, Bool.true_or, Bool.false_or]))⟩
            · have hg7_ := hg7
              try simp only [decide_eq_true_eq, decide_eq_false_iff_not, Bool.and_eq_true, Bool.or_eq_true, Bool.and_eq_false_iff, Bool.or_eq_false_iff, Bool.not_eq_true', Bool.not_eq_false', beq_iff_eq, beq_eq_false_iff_ne, bne_iff_ne, bne_eq_false_iff_eq, ne_eq, Int.not_lt, Int.not_le, gt_iff_lt, ge_iff_le] at hg7_
              refine RW.soft (by exact Wd.yes (x := 58) rfl (AF_ev rfl (Eq.trans tp (congrArg Value.bool hg7)))) (v := .pointer (some ⟨b6, 32, none⟩)) (by exact E.fieldAddr (b := b6) (o := 0) (f := { name := "Uses", type := 3, offset := 32, embedded := false, tag := "", pkgPath := "", byteOffset := 32 }) (AF_ev rfl (up rfl (up rfl (up rfl (up rfl hs6))))) Try.underlying86 rfl sz3 rfl) ?_
              refine RW.soft (by exact Wd.yes (x := 58) rfl (AF_ev rfl (up rfl (Eq.trans tp (congrArg Value.bool hg7))))) (v := .int .i64 x.uses) (by exact E.load (a := ⟨b6, 32, none⟩) Try.underlying3 rfl (AF_ev rfl tp) (hst.cell .here (by rw [List.getElem?_toArray]; exact Ver.at_uses _))) ?_
              refine RW.soft (by exact Wd.yes (x := 58) rfl (AF_ev rfl (up rfl (up rfl (Eq.trans tp (congrArg Value.bool hg7)))))) (v := .bool (decide (x.uses > 16))) (by exact E.gtr (k := .i64) (a := x.uses) (b := 16) (AF_ev rfl tp) rfl) ?_
              refine RW.soft Wd.a (v := .bool (decide (x.uses > 16))) (by exact E.pickF (AF_ev rfl (up rfl (up rfl (up rfl (Eq.trans tp (congrArg Value.bool hg7)))))) (AF_ev rfl tp)) ?_
              refine RW.soft Wd.a (v := .bool (decide (x.uses > 16))) (by exact E.move (AF_ev rfl tp)) ?_
              refine Or.elim (Bool.eq_false_or_eq_true (decide (x.uses > 16))) (fun hg8 => ?_) (fun hg8 => ?_)
              · have hg8_ := hg8
                try simp only [decide_eq_true_eq, decide_eq_false_iff_not, Bool.and_eq_true, Bool.or_eq_true, Bool.and_eq_false_iff, Bool.or_eq_false_iff, Bool.not_eq_true', Bool.not_eq_false', beq_iff_eq, beq_eq_false_iff_ne, bne_iff_ne, bne_eq_false_iff_eq, ne_eq, Int.not_lt, Int.not_le, gt_iff_lt, ge_iff_le] at hg8_
                refine RW.pass (by exact Wd.no (x := 63) (b := true) rfl (AF_ev rfl (Eq.trans tp (congrArg Value.bool hg8))) rfl) ?_
                refine RW.pass (by exact Wd.no (x := 63) (b := true) rfl (AF_ev rfl (up rfl (Eq.trans tp (congrArg Value.bool hg8)))) rfl) ?_
                refine RW.pass (by exact Wd.no (x := 63) (b := true) rfl (AF_ev rfl (up rfl (up rfl (Eq.trans tp (congrArg Value.bool hg8))))) rfl) ?_
                refine RW.pass (by exact Wd.u (x := 66) rfl (AF_ev rfl tp)) ?_
                refine RW.pass (by exact Wd.u (x := 66) rfl (AF_ev rfl (up rfl tp))) ?_
                refine RW.pass (by exact Wd.no (x := 63) (b := true) rfl (AF_ev rfl (up rfl (up rfl (up rfl (up rfl (up rfl (Eq.trans tp (congrArg Value.bool hg8)))))))) rfl) ?_
                refine RW.soft Wd.a (v := .bool true) (by exact E.pickT (AF_ev rfl (up rfl (up rfl (up rfl (up rfl (up rfl (up rfl (Eq.trans tp (congrArg Value.bool hg8))))))))) rfl) ?_
                refine RW.nil ⟨rfl, rfl, up rfl (up rfl (up rfl (up rfl (up rfl (up rfl (up rfl (up rfl (up rfl (up rfl (up rfl (up rfl (up rfl (up rfl (up rfl (up rfl hs0))))))))))))))), up rfl (up rfl (up rfl (up rfl (up rfl (up rfl (up rfl (up rfl (up rfl (up rfl (up rfl (up rfl (up rfl (up rfl (up rfl (up rfl hs4))))))))))))))), up rfl (up rfl (up rfl (up rfl (up rfl (up rfl (up rfl (up rfl (up rfl (up rfl (up rfl (up rfl (up rfl (up rfl (up rfl (up rfl hs5))))))))))))))), up rfl (up rfl (up rfl (up rfl (up rfl (up rfl (up rfl (up rfl (up rfl (up rfl (up rfl (up rfl (up rfl (up rfl (up rfl (up rfl hs6))))))))))))))), up rfl (up rfl (up rfl (up rfl (up rfl (up rfl (up rfl (up rfl (up rfl (up rfl (up rfl (up rfl (up rfl (up rfl (up rfl (up rfl hs7))))))))))))))), up rfl (up rfl (up rfl (up rfl (up rfl (up rfl (up rfl (up rfl (up rfl (up rfl (up rfl (up rfl (up rfl (up rfl (up rfl (up rfl hs40))))))))))))))), (bool_eq (a := true) tp (by simp only [hg7, hg8, Bool.true_and, Bool.false_and, Bool.true_or, Bool.false_or]))⟩
              · have hg8_ := hg8
                try simp only [decide_eq_true_eq, decide_eq_false_iff_not, Bool.and_eq_true, Bool.or_eq_true, Bool.and_eq_false_iff, Bool.or_eq_false_iff, Bool.not_eq_true', Bool.not_eq_false', beq_iff_eq, beq_eq_false_iff_ne, bne_iff_ne, bne_eq_false_iff_eq, ne_eq, Int.not_lt, Int.not_le, gt_iff_lt, ge_iff_le] at hg8_
                refine RW.soft (by exact Wd.yes (x := 63) rfl (AF_ev rfl (Eq.trans tp (congrArg Value.bool hg8)))) (v := .pointer (some ⟨b6, 33, none⟩)) (by exact E.fieldAddr (b := b6) (o := 0) (f := { name := "Gone", type := 4, offset := 33, embedded := false, tag := "", pkgPath := "", byteOffset := 40 }) (AF_ev rfl (up rfl (up rfl (up rfl (up rfl (up rfl (up rfl (up rfl (up rfl (up rfl hs6)))))))))) Try.underlying86 rfl sz4 rfl) ?_
                refine RW.soft (by exact Wd.yes (x := 63) rfl (AF_ev rfl (up rfl (Eq.trans tp (congrArg Value.bool hg8))))) (v := .bool x.gone) (by exact E.load (a := ⟨b6, 33, none⟩) Try.underlying4 rfl (AF_ev rfl tp) (hst.cell .here (by rw [List.getElem?_toArray]; exact Ver.at_gone _))) ?_
                refine RW.soft (by exact Wd.yes (x := 63) rfl (AF_ev rfl (up rfl (up rfl (Eq.trans tp (congrArg Value.bool hg8)))))) (v := .bool x.gone) (by exact E.move (AF_ev rfl tp)) ?_
                refine Or.elim (Bool.eq_false_or_eq_true x.gone) (fun hg9 => ?_) (fun hg9 => ?_)
                · have hg9_ := hg9
                  try simp only [decide_eq_true_eq, decide_eq_false_iff_not, Bool.and_eq_true, Bool.or_eq_true, Bool.and_eq_false_iff, Bool.or_eq_false_iff, Bool.not_eq_true', Bool.not_eq_false', beq_iff_eq, beq_eq_false_iff_ne, bne_iff_ne, bne_eq_false_iff_eq, ne_eq, Int.not_lt, Int.not_le, gt_iff_lt, ge_iff_le] at hg9_
                  refine RW.soft (by exact Wd.yes (x := 66) rfl (AF_ev rfl (Eq.trans tp (congrArg Value.bool hg9)))) (v := .bool (decide (x.mat = kz))) (by exact E.move (AF_ev rfl (up rfl (up rfl (up rfl (up rfl (up rfl (up rfl (up rfl (up rfl (up rfl (up rfl (up rfl (up rfl hs7)))))))))))))) ?_
                  refine RW.soft (by exact Wd.yes (x := 66) rfl (AF_ev rfl (up rfl (Eq.trans tp (congrArg Value.bool hg9))))) (v := .bool (!(decide (x.mat = kz)))) (by exact E.not (b := decide (x.mat = kz)) (AF_ev rfl tp)) ?_
                  refine RW.soft (by exact Wd.yes (x := 63) rfl (AF_ev rfl (up rfl (up rfl (up rfl (up rfl (up rfl (Eq.trans tp (congrArg Value.bool hg8))))))))) (v := .bool (!(decide (x.mat = kz)))) (by exact E.pickT (AF_ev rfl (up rfl (up rfl (Eq.trans tp (congrArg Value.bool hg9))))) (AF_ev rfl tp)) ?_
                  refine RW.soft Wd.a (v := .bool (!(decide (x.mat = kz)))) (by exact E.pickF (AF_ev rfl (up rfl (up rfl (up rfl (up rfl (up rfl (up rfl (Eq.trans tp (congrArg Value.bool hg8))))))))) (AF_ev rfl tp)) ?_
                  refine RW.nil ⟨rfl, rfl, up rfl (up rfl (up rfl (up rfl (up rfl (up rfl (up rfl (up rfl (up rfl (up rfl (up rfl (up rfl (up rfl (up rfl (up rfl (up rfl hs0))))))))))))))), up rfl (up rfl (up rfl (up rfl (up rfl (up rfl (up rfl (up rfl (up rfl (up rfl (up rfl (up rfl (up rfl (up rfl (up rfl (up rfl hs4))))))))))))))), up rfl (up rfl (up rfl (up rfl (up rfl (up rfl (up rfl (up rfl (up rfl (up rfl (up rfl (up rfl (up rfl (up rfl (up rfl (up rfl hs5))))))))))))))), up rfl (up rfl (up rfl (up rfl (up rfl (up rfl (up rfl (up rfl (up rfl (up rfl (up rfl (up rfl (up rfl (up rfl (up rfl (up rfl hs6))))))))))))))), up rfl (up rfl (up rfl (up rfl (up rfl (up rfl (up rfl (up rfl (up rfl (up rfl (up rfl (up rfl (up rfl (up rfl (up rfl (up rfl hs7))))))))))))))), up rfl (up rfl (up rfl (up rfl (up rfl (up rfl (up rfl (up rfl (up rfl (up rfl (up rfl (up rfl (up rfl (up rfl (up rfl (up rfl hs40))))))))))))))), (bool_eq (a := !(decide (x.mat = kz))) tp (by simp only [hg7, hg8, hg9, Bool.true_and, Bool.false_and, Bool.true_or, Bool.false_or]))⟩
                · have hg9_ := hg9
                  try simp only [decide_eq_true_eq, decide_eq_false_iff_not, Bool.and_eq_true, Bool.or_eq_true, Bool.and_eq_false_iff, Bool.or_eq_false_iff, Bool.not_eq_true', Bool.not_eq_false', beq_iff_eq, beq_eq_false_iff_ne, bne_iff_ne, bne_eq_false_iff_eq, ne_eq, Int.not_lt, Int.not_le, gt_iff_lt, ge_iff_le] at hg9_
                  refine RW.pass (by exact Wd.no (x := 66) (b := false) rfl (AF_ev rfl (Eq.trans tp (congrArg Value.bool hg9))) rfl) ?_
                  refine RW.pass (by exact Wd.no (x := 66) (b := false) rfl (AF_ev rfl (up rfl (Eq.trans tp (congrArg Value.bool hg9)))) rfl) ?_
                  refine RW.soft (by exact Wd.yes (x := 63) rfl (AF_ev rfl (up rfl (up rfl (up rfl (up rfl (up rfl (Eq.trans tp (congrArg Value.bool hg8))))))))) (v := .bool false) (by exact E.pickF (AF_ev rfl (up rfl (up rfl (Eq.trans tp (congrArg Value.bool hg9))))) rfl) ?_
                  refine RW.soft Wd.a (v := .bool false) (by exact E.pickF (AF_ev rfl (up rfl (up rfl (up rfl (up rfl (up rfl (up rfl (Eq.trans tp (congrArg Value.bool hg8))))))))) (AF_ev rfl tp)) ?_
                  refine RW.nil ⟨rfl, rfl, up rfl (up rfl (up rfl (up rfl (up rfl (up rfl (up rfl (up rfl (up rfl (up rfl (up rfl (up rfl (up rfl (up rfl (up rfl (up rfl hs0))))))))))))))), up rfl (up rfl (up rfl (up rfl (up rfl (up rfl (up rfl (up rfl (up rfl (up rfl (up rfl (up rfl (up rfl (up rfl (up rfl (up rfl hs4))))))))))))))), up rfl (up rfl (up rfl (up rfl (up rfl (up rfl (up rfl (up rfl (up rfl (up rfl (up rfl (up rfl (up rfl (up rfl (up rfl (up rfl hs5))))))))))))))), up rfl (up rfl (up rfl (up rfl (up rfl (up rfl (up rfl (up rfl (up rfl (up rfl (up rfl (up rfl (up rfl (up rfl (up rfl (up rfl hs6))))))))))))))), up rfl (up rfl (up rfl (up rfl (up rfl (up rfl (up rfl (up rfl (up rfl (up rfl (up rfl (up rfl (up rfl (up rfl (up rfl (up rfl hs7))))))))))))))), up rfl (up rfl (up rfl (up rfl (up rfl (up rfl (up rfl (up rfl (up rfl (up rfl (up rfl (up rfl (up rfl (up rfl (up rfl (up rfl hs40))))))))))))))), (bool_eq (a := false) tp (by simp only [hg7, hg8, hg9, Bool.true_and, Bool.false_and, Bool.true_or, Bool.false_or]))⟩
          rintro τ ⟨hs0, hs4, hs5, hs6, hs7, hs40, hs70⟩
          refine CW.cond (AF_ev rfl hs70) (fun hc10 => ?_) (fun hc10 => ?_)
          · have hc10_ := hc10
            try simp only [decide_eq_true_eq, decide_eq_false_iff_not, Bool.and_eq_true, Bool.or_eq_true, Bool.and_eq_false_iff, Bool.or_eq_false_iff, Bool.not_eq_true', Bool.not_eq_false', beq_iff_eq, beq_eq_false_iff_ne, bne_iff_ne, bne_eq_false_iff_eq, ne_eq, Int.not_lt, Int.not_le, gt_iff_lt, ge_iff_le] at hc10_
            refine CW.seq ?_
            refine CW.region ?_
            refine RW.soft Wd.a (v := .pointer none) (by exact E.assign rfl) ?_
            refine RW.soft Wd.a (v := .int .i64 1) (by exact E.assign rfl) ?_
            refine RW.fin (fun τ => τ 0 = .slice (some ⟨b0, o0, none⟩) rs.length c ∧ τ 2 = .pointer none ∧ τ 3 = .int .i64 1 ∧ τ 4 = .int .i64 ((j : Nat) : Int) ∧ τ 5 = .int .i64 ((q : Nat) : Int) ∧ τ 6 = .pointer (some ⟨b6, 0, none⟩) ∧ τ 7 = .bool (decide (x.mat = kz)) ∧ τ 40 = .bool true ∧ τ 70 = .bool true) ⟨up rfl (up rfl hs0), up rfl tp, tp, up rfl (up rfl hs4), up rfl (up rfl hs5), up rfl (up rfl hs6), up rfl (up rfl hs7), up rfl (up rfl hs40), up rfl (up rfl (Eq.trans hs70 (congrArg Value.bool hc10)))⟩ ?_
            rintro τ ⟨hs0, hs2, hs3, hs4, hs5, hs6, hs7, hs40, hs70⟩
            refine CW.ret ?_
            refine Bl.r ?_
            refine Th.r ?_
            refine Th.r ?_
            refine Bl.r ?_
            refine Bl.r ?_
            refine Th.r ?_
            refine Th.r ?_
            refine Bl.r ?_
            refine Th.r ?_
            refine retN (rs := [.tmp 2, .tmp 3]) (vs := [.pointer none, .int .i64 1]) rfl (by exact (.tmp (AF_ev rfl hs2) (.tmp (AF_ev rfl hs3) .nil))) (by simp) ?_
            have hst := hst.take (.there .here)
            have hst := (hst.take (.there .here)).drop
            exact ⟨_, by rw [if_pos (bad_found hr (by unfold badR; rw [any_found hxq (show badV x = true from hc10), Bool.or_true]))], hst⟩
          · have hc10_ := hc10
            try simp only [decide_eq_true_eq, decide_eq_false_iff_not, Bool.and_eq_true, Bool.or_eq_true, Bool.and_eq_false_iff, Bool.or_eq_false_iff, Bool.not_eq_true', Bool.not_eq_false', beq_iff_eq, beq_eq_false_iff_ne, bne_iff_ne, bne_eq_false_iff_eq, ne_eq, Int.not_lt, Int.not_le, gt_iff_lt, ge_iff_le] at hc10_
            refine CW.skip ?_
            refine Bl.n ?_
            refine Th.n ?_
            refine CW.region ?_
            refine RW.soft Wd.a (v := .int .i64 ((q : Nat) : Int)) (by exact E.move (AF_ev rfl hs5)) ?_
            refine RW.soft Wd.a (v := .int .i64 (((q : Nat) : Int) + 1)) (by exact E.add (k := .i64) (a := ((q : Nat) : Int)) (b := 1) (AF_ev rfl tp) rfl (show IntKind.i64.wrap (((q : Nat) : Int) + 1) = ((q : Nat) : Int) + 1 from (by rw [IntWalk.i64_in _ (by omega)]))) ?_
            refine RW.soft Wd.a (v := .int .i64 (((q : Nat) : Int) + 1)) (by exact E.assign (AF_ev rfl tp)) ?_
            refine RW.nil ?_
            refine Th.n ?_
            have hfq2 := any_more hfq hxq (show badV x = false from hc10)
            have hst := hst.take (.there .here)
            have hst := (hst.take (.there .here)).drop
            exact ⟨vs.length - (q + 1), by omega, q + 1, hfq2, (by omega), rfl, up rfl (up rfl (up rfl hs0)), up rfl (up rfl (up rfl hs4)), (int_eq (a := ((q : Nat) : Int) + 1) tp (by omega)), hst⟩
        · have hc5_ := hc5
          try simp only [decide_eq_true_eq, decide_eq_false_iff_not, Bool.and_eq_true, Bool.or_eq_true, Bool.and_eq_false_iff, Bool.or_eq_false_iff, Bool.not_eq_true', Bool.not_eq_false', beq_iff_eq, beq_eq_false_iff_ne, bne_iff_ne, bne_eq_false_iff_eq, ne_eq, Int.not_lt, Int.not_le, gt_iff_lt, ge_iff_le] at hc5_
          refine CW.exit ?_
          refine Th.x ?_
          refine Th.x ?_
          refine Bl.x ?_
          refine Bl.n ?_
          refine Th.n ?_
          refine CW.region ?_
          refine RW.soft Wd.a (v := .int .i64 ((j : Nat) : Int)) (by exact E.move (AF_ev rfl hs4)) ?_
          refine RW.soft Wd.a (v := .int .i64 (((j : Nat) : Int) + 1)) (by exact E.add (k := .i64) (a := ((j : Nat) : Int)) (b := 1) (AF_ev rfl tp) rfl (show IntKind.i64.wrap (((j : Nat) : Int) + 1) = ((j : Nat) : Int) + 1 from (by rw [IntWalk.i64_in _ (by omega)]))) ?_
          refine RW.soft Wd.a (v := .int .i64 (((j : Nat) : Int) + 1)) (by exact E.assign (AF_ev rfl tp)) ?_
          refine RW.nil ?_
          refine Th.n ?_
          have hbr : badR vs = false := by unfold badR; rw [hc4, any_all hfq (by omega)]; rfl
          have hf2 := any_more hf hr (show badR vs = false from hbr)
          exact ⟨rs.length - (j + 1), by omega, j + 1, hf2, (by omega), rfl, up rfl (up rfl (up rfl hs0)), (int_eq (a := ((j : Nat) : Int) + 1) tp (by omega)), hst⟩
    · have hc2_ := hc2
      try simp only [decide_eq_true_eq, decide_eq_false_iff_not, Bool.and_eq_true, Bool.or_eq_true, Bool.and_eq_false_iff, Bool.or_eq_false_iff, Bool.not_eq_true', Bool.not_eq_false', beq_iff_eq, beq_eq_false_iff_ne, bne_iff_ne, bne_eq_false_iff_eq, ne_eq, Int.not_lt, Int.not_le, gt_iff_lt, ge_iff_le] at hc2_
      refine CW.exit ?_
      refine Th.x ?_
      refine Th.x ?_
      refine Bl.x ?_
      refine Th.n ?_
      refine CW.seq ?_
      refine CW.region ?_
      refine RW.soft Wd.a (v := .slice X rs.length c) (by exact E.move (AF_ev rfl hs0)) ?_
      refine RW.hard Wd.a ?_
      refine H.call0 Try.func61 nm61 rfl (map1 (AF_ev rfl tp)) (Calls.mono (ref_Copy hA h12 h8 hst) ?_)
      rintro _ w ⟨v11, rfl, hst⟩
      obtain ⟨Xv11, cv11, rfl, hcv11⟩ := rowsShape hst
      refine ⟨_, rfl, ?_⟩
      show RW _ _ _ _ _ _ _
      refine RW.soft Wd.a (v := .agg #[.slice Xv11 ((rs.map RingM.view).length) cv11]) (by exact E.build (vs := #[(0, .slice Xv11 ((rs.map RingM.view).length) cv11)]) (bld1 (AF_ev rfl tp)) (by kernel_rfl)) ?_
      refine RW.hard Wd.a ?_
      refine H.box (v := .agg #[.slice Xv11 ((rs.map RingM.view).length) cv11]) (AF_ev rfl tp) hst fun b12 w hst => ?_
      refine RW.soft Wd.a (v := .pointer (some ⟨b12, 0, none⟩)) (by exact E.assign (AF_ev rfl tp)) ?_
      refine RW.soft Wd.a (v := .int .i64 0) (by exact E.assign rfl) ?_
      refine RW.fin (fun τ => τ 0 = .slice X rs.length c ∧ τ 2 = .pointer (some ⟨b12, 0, none⟩) ∧ τ 3 = .int .i64 0 ∧ τ 4 = .int .i64 ((j : Nat) : Int) ∧ τ 14 = .bool false) ⟨up rfl (up rfl (up rfl (up rfl (up rfl (up rfl hs0))))), up rfl tp, tp, up rfl (up rfl (up rfl (up rfl (up rfl (up rfl hs4))))), up rfl (up rfl (up rfl (up rfl (up rfl (up rfl (Eq.trans hs14 (congrArg Value.bool hc2)))))))⟩ ?_
      rintro τ ⟨hs0, hs2, hs3, hs4, hs14⟩
      refine CW.ret ?_
      refine retN (rs := [.tmp 2, .tmp 3]) (vs := [.pointer (some ⟨b12, 0, none⟩), .int .i64 0]) rfl (by exact (.tmp (AF_ev rfl hs2) (.tmp (AF_ev rfl hs3) .nil))) (by simp) ?_
      have hst := hst.take (.there (.there .here))
      have hst := (hst.take (.there .here)).drop
      have hst := (hst.take (.there .here)).drop
      exact ⟨_, by rw [if_neg (by rw [(show badK (rs.map RingM.view) = false from by unfold badK; rw [any_view, List.length_map, hc1, any_all hf (by omega)]; rfl)]; decide)], hst⟩
end Go.Proofs.Ytdlcjoonhojpfaa
