/- The calls of the package keyring, walked through operation by operation. -/
import Derived.Test.YtjpjejldinpcnaaKA6
import Derived.Test.YtjpjejldinpcnaaKA5
import Derived.Test.YtjpjejldinpcnaaKA4
import Derived.Test.YtjpjejldinpcnaaKA3
namespace Go.Proofs.Ytjpjejldinpcnaa
open Go.RowKit Go.SL Go.K13
attribute [local irreducible] Go.SL.RW Go.SL.CW Go.SL.RD Go.SL.Hd Go.SL.St
set_option linter.unusedVariables false
set_option linter.unusedSimpArgs false

theorem inf5 : (Try.prog.info? 5).map (fun i => (i.zero, i.size, i.bytes)) = some (some (.int .u8 0), 1, 1) := by kernel_rfl
theorem nm62 : (Try.f62.name == "runtime.NumGoroutine") = false := by kernel_rfl
theorem sz3 : (Try.prog.info? 3).map (·.size) = some 1 := by kernel_rfl
theorem sz54 : (Try.prog.info? 54).map (·.size) = some 1 := by kernel_rfl
theorem sz106 : (Try.prog.info? 106).map (·.size) = some 1 := by kernel_rfl
theorem sz108 : (Try.prog.info? 108).map (·.size) = some 2 := by kernel_rfl
theorem sz105 : (Try.prog.info? 105).map (·.size) = some 34 := by kernel_rfl
theorem sz125 : (Try.prog.info? 125).map (·.size) = some 1 := by kernel_rfl

theorem key_no {p : Pers} {w : World} {R : List Assn} {X : Option Addr} {n c b : Nat} (id : Int) (hid : -9223372036854775808 ≤ id ∧ id ≤ 9223372036854775807) (hno : id < 1 ∨ id > n) (hn : n ≤ 8) (hst : St p w (pt b (.cells #[.slice X n c] 103) :: R)) :
    Calls Try.prog 62 #[.pointer (some ⟨b, 0, none⟩), .int .i64 id] w fun e w => e = .returned (.pointer none) ∧ St p w (pt b (.cells #[.slice X n c] 103) :: R) := by
  refine enter Try.func62 rfl (by simp) (n := 23) rfl fun τ hτ => ?_
  have hs0 : τ 0 = .pointer (some ⟨b, 0, none⟩) := hτ 0 (by simp)
  have hs1 : τ 1 = .int .i64 id := hτ 1 (by simp)
  clear hτ
  refine CW.seq ?_
  refine CW.region ?_
  refine RW.soft Wd.a (v := .pointer none) (by exact E.assign rfl) ?_
  refine RW.fin (fun τ => τ 0 = .pointer (some ⟨b, 0, none⟩) ∧ τ 1 = .int .i64 id ∧ τ 4 = .pointer none) ⟨up rfl hs0, up rfl hs1, tp⟩ ?_
  rintro τ ⟨hs0, hs1, hs4⟩
  refine CW.seq ?_
  refine CW.seq ?_
  refine CW.cut (fun τ => τ 0 = .pointer (some ⟨b, 0, none⟩) ∧ τ 1 = .int .i64 id ∧ τ 4 = .pointer none ∧ τ 15 = .bool ((decide (id < 1)) || (decide (id > ((n : Nat) : Int))))) ?_ ?_
  · refine CW.region ?_
    refine RW.soft Wd.a (v := .int .i64 id) (by exact E.move (AF_ev rfl hs1)) ?_
    refine RW.soft Wd.a (v := .bool (decide (id < 1))) (by exact E.lss (k := .i64) (a := id) (b := 1) (AF_ev rfl tp) rfl) ?_
    refine RW.soft Wd.a (v := .bool (decide (id < 1))) (by exact E.move (AF_ev rfl tp)) ?_
    refine Or.elim (Bool.eq_false_or_eq_true (decide (id < 1))) (fun hg1 => ?_) (fun hg1 => ?_)
    · have hg1_ := hg1
      try simp only [decide_eq_true_eq, decide_eq_false_iff_not, Bool.and_eq_true, Bool.or_eq_true, Bool.and_eq_false_iff, Bool.or_eq_false_iff, Bool.not_eq_true', Bool.not_eq_false', beq_iff_eq, beq_eq_false_iff_ne, bne_iff_ne, bne_eq_false_iff_eq, ne_eq, Int.not_lt, Int.not_le, gt_iff_lt, ge_iff_le] at hg1_
      refine RW.pass (by exact Wd.no (x := 7) (b := true) rfl (AF_ev rfl (Eq.trans tp (congrArg Value.bool hg1))) rfl) ?_
      refine RW.pass (by exact Wd.no (x := 7) (b := true) rfl (AF_ev rfl (up rfl (Eq.trans tp (congrArg Value.bool hg1)))) rfl) ?_
      refine RW.pass (by exact Wd.no (x := 7) (b := true) rfl (AF_ev rfl (up rfl (up rfl (Eq.trans tp (congrArg Value.bool hg1))))) rfl) ?_
      refine RW.pass (by exact Wd.no (x := 7) (b := true) rfl (AF_ev rfl (up rfl (up rfl (up rfl (Eq.trans tp (congrArg Value.bool hg1)))))) rfl) ?_
      refine RW.pass (by exact Wd.no (x := 7) (b := true) rfl (AF_ev rfl (up rfl (up rfl (up rfl (up rfl (Eq.trans tp (congrArg Value.bool hg1))))))) rfl) ?_
      refine RW.pass (by exact Wd.no (x := 7) (b := true) rfl (AF_ev rfl (up rfl (up rfl (up rfl (up rfl (up rfl (Eq.trans tp (congrArg Value.bool hg1)))))))) rfl) ?_
      refine RW.pass (by exact Wd.no (x := 7) (b := true) rfl (AF_ev rfl (up rfl (up rfl (up rfl (up rfl (up rfl (up rfl (Eq.trans tp (congrArg Value.bool hg1))))))))) rfl) ?_
      refine RW.soft Wd.a (v := .bool true) (by exact E.pickT (AF_ev rfl (up rfl (up rfl (up rfl (up rfl (up rfl (up rfl (up rfl (Eq.trans tp (congrArg Value.bool hg1)))))))))) rfl) ?_
      refine RW.nil ⟨rfl, rfl, up rfl (up rfl (up rfl (up rfl (up rfl (up rfl (up rfl (up rfl (up rfl (up rfl (up rfl hs0)))))))))), up rfl (up rfl (up rfl (up rfl (up rfl (up rfl (up rfl (up rfl (up rfl (up rfl (up rfl hs1)))))))))), up rfl (up rfl (up rfl (up rfl (up rfl (up rfl (up rfl (up rfl (up rfl (up rfl (up rfl hs4)))))))))), (bool_eq (a := true) tp (by simp only [hg1, Bool.true_and, Bool.false_and, Bool.true_or, Bool.false_or]))⟩
    · have hg1_ := hg1
      try simp only [decide_eq_true_eq, decide_eq_false_iff_not, Bool.and_eq_true, Bool.or_eq_true, Bool.and_eq_false_iff, Bool.or_eq_false_iff, Bool.not_eq_true', Bool.not_eq_false', beq_iff_eq, beq_eq_false_iff_ne, bne_iff_ne, bne_eq_false_iff_eq, ne_eq, Int.not_lt, Int.not_le, gt_iff_lt, ge_iff_le] at hg1_
      refine RW.soft (by exact Wd.yes (x := 7) rfl (AF_ev rfl (Eq.trans tp (congrArg Value.bool hg1)))) (v := .int .i64 id) (by exact E.move (AF_ev rfl (up rfl (up rfl (up rfl hs1))))) ?_
      refine RW.soft (by exact Wd.yes (x := 7) rfl (AF_ev rfl (up rfl (Eq.trans tp (congrArg Value.bool hg1))))) (v := .pointer (some ⟨b, 0, none⟩)) (by exact E.move (AF_ev rfl (up rfl (up rfl (up rfl (up rfl hs0)))))) ?_
      refine RW.soft (by exact Wd.yes (x := 7) rfl (AF_ev rfl (up rfl (up rfl (Eq.trans tp (congrArg Value.bool hg1)))))) (v := .pointer (some ⟨b, 0, none⟩)) (by exact E.nilCheck (a := ⟨b, 0, none⟩) (AF_ev rfl tp)) ?_
      refine RW.soft (by exact Wd.yes (x := 7) rfl (AF_ev rfl (up rfl (up rfl (up rfl (Eq.trans tp (congrArg Value.bool hg1))))))) (v := .pointer (some ⟨b, 0, none⟩)) (by exact E.fieldAddr (b := b) (o := 0) (f := { name := "l", type := 54, offset := 0, embedded := false, tag := "", pkgPath := "strongroom/keyring", byteOffset := 0 }) (AF_ev rfl tp) Try.underlying103 rfl sz54 rfl) ?_
      refine RW.soft (by exact Wd.yes (x := 7) rfl (AF_ev rfl (up rfl (up rfl (up rfl (up rfl (Eq.trans tp (congrArg Value.bool hg1)))))))) (v := .slice X n c) (by exact E.load (a := ⟨b, 0, none⟩) Try.underlying54 rfl (AF_ev rfl tp) (hst.cell .here rfl)) ?_
      refine RW.soft (by exact Wd.yes (x := 7) rfl (AF_ev rfl (up rfl (up rfl (up rfl (up rfl (up rfl (Eq.trans tp (congrArg Value.bool hg1))))))))) (v := .int .i64 ((n : Nat) : Int)) (by exact E.lenS (p := X) (l := n) (c := c) Try.underlying54 (AF_ev rfl tp)) ?_
      refine RW.soft (by exact Wd.yes (x := 7) rfl (AF_ev rfl (up rfl (up rfl (up rfl (up rfl (up rfl (up rfl (Eq.trans tp (congrArg Value.bool hg1)))))))))) (v := .bool (decide (id > ((n : Nat) : Int)))) (by exact E.gtr (k := .i64) (a := id) (b := ((n : Nat) : Int)) (AF_ev rfl (up rfl (up rfl (up rfl (up rfl (up rfl tp)))))) (AF_ev rfl tp)) ?_
      refine RW.soft Wd.a (v := .bool (decide (id > ((n : Nat) : Int)))) (by exact E.pickF (AF_ev rfl (up rfl (up rfl (up rfl (up rfl (up rfl (up rfl (up rfl (Eq.trans tp (congrArg Value.bool hg1)))))))))) (AF_ev rfl tp)) ?_
      refine RW.nil ⟨rfl, rfl, up rfl (up rfl (up rfl (up rfl (up rfl (up rfl (up rfl (up rfl (up rfl (up rfl (up rfl hs0)))))))))), up rfl (up rfl (up rfl (up rfl (up rfl (up rfl (up rfl (up rfl (up rfl (up rfl (up rfl hs1)))))))))), up rfl (up rfl (up rfl (up rfl (up rfl (up rfl (up rfl (up rfl (up rfl (up rfl (up rfl hs4)))))))))), (bool_eq (a := decide (id > ((n : Nat) : Int))) tp (by simp only [hg1, Bool.true_and, Bool.false_and, Bool.true_or, Bool.false_or]))⟩
  rintro τ ⟨hs0, hs1, hs4, hs15⟩
  refine CW.cond (AF_ev rfl hs15) (fun hc2 => ?_) (fun hc2 => ?_)
  · have hc2_ := hc2
    try simp only [decide_eq_true_eq, decide_eq_false_iff_not, Bool.and_eq_true, Bool.or_eq_true, Bool.and_eq_false_iff, Bool.or_eq_false_iff, Bool.not_eq_true', Bool.not_eq_false', beq_iff_eq, beq_eq_false_iff_ne, bne_iff_ne, bne_eq_false_iff_eq, ne_eq, Int.not_lt, Int.not_le, gt_iff_lt, ge_iff_le] at hc2_
    refine CW.seq ?_
    refine CW.region ?_
    refine RW.soft Wd.a (v := .pointer none) (by exact E.assign rfl) ?_
    refine RW.fin (fun τ => τ 0 = .pointer (some ⟨b, 0, none⟩) ∧ τ 1 = .int .i64 id ∧ τ 4 = .pointer none ∧ τ 15 = .bool true) ⟨up rfl hs0, up rfl hs1, tp, up rfl (Eq.trans hs15 (congrArg Value.bool hc2))⟩ ?_
    rintro τ ⟨hs0, hs1, hs4, hs15⟩
    refine CW.ret ?_
    refine Th.r ?_
    refine ret1 (v := .pointer none) rfl (by exact (.tmp (AF_ev rfl hs4) .nil)) ?_
    exact ⟨rfl, hst⟩
  · have hc2_ := hc2
    try simp only [decide_eq_true_eq, decide_eq_false_iff_not, Bool.and_eq_true, Bool.or_eq_true, Bool.and_eq_false_iff, Bool.or_eq_false_iff, Bool.not_eq_true', Bool.not_eq_false', beq_iff_eq, beq_eq_false_iff_ne, bne_iff_ne, bne_eq_false_iff_eq, ne_eq, Int.not_lt, Int.not_le, gt_iff_lt, ge_iff_le] at hc2_
    omega

theorem key_yes {p : Pers} {w : World} {R : List Assn} {g n c b : Nat} (id : Int) (hid : 1 ≤ id ∧ id ≤ n) (hn : n ≤ 8) (hst : St p w (pt b (.cells #[.slice (some ⟨g, 0, none⟩) n c] 103) :: R)) :
    Calls Try.prog 62 #[.pointer (some ⟨b, 0, none⟩), .int .i64 id] w fun e w => e = .returned (.pointer (some ⟨g, (id - 1).toNat * 2, none⟩)) ∧ St p w (pt b (.cells #[.slice (some ⟨g, 0, none⟩) n c] 103) :: R) := by
  refine enter Try.func62 rfl (by simp) (n := 23) rfl fun τ hτ => ?_
  have hs0 : τ 0 = .pointer (some ⟨b, 0, none⟩) := hτ 0 (by simp)
  have hs1 : τ 1 = .int .i64 id := hτ 1 (by simp)
  clear hτ
  refine CW.seq ?_
  refine CW.region ?_
  refine RW.soft Wd.a (v := .pointer none) (by exact E.assign rfl) ?_
  refine RW.fin (fun τ => τ 0 = .pointer (some ⟨b, 0, none⟩) ∧ τ 1 = .int .i64 id ∧ τ 4 = .pointer none) ⟨up rfl hs0, up rfl hs1, tp⟩ ?_
  rintro τ ⟨hs0, hs1, hs4⟩
  refine CW.seq ?_
  refine CW.seq ?_
  refine CW.cut (fun τ => τ 0 = .pointer (some ⟨b, 0, none⟩) ∧ τ 1 = .int .i64 id ∧ τ 4 = .pointer none ∧ τ 15 = .bool ((decide (id < 1)) || (decide (id > ((n : Nat) : Int))))) ?_ ?_
  · refine CW.region ?_
    refine RW.soft Wd.a (v := .int .i64 id) (by exact E.move (AF_ev rfl hs1)) ?_
    refine RW.soft Wd.a (v := .bool (decide (id < 1))) (by exact E.lss (k := .i64) (a := id) (b := 1) (AF_ev rfl tp) rfl) ?_
    refine RW.soft Wd.a (v := .bool (decide (id < 1))) (by exact E.move (AF_ev rfl tp)) ?_
    refine Or.elim (Bool.eq_false_or_eq_true (decide (id < 1))) (fun hg1 => ?_) (fun hg1 => ?_)
    · have hg1_ := hg1
      try simp only [decide_eq_true_eq, decide_eq_false_iff_not, Bool.and_eq_true, Bool.or_eq_true, Bool.and_eq_false_iff, Bool.or_eq_false_iff, Bool.not_eq_true', Bool.not_eq_false', beq_iff_eq, beq_eq_false_iff_ne, bne_iff_ne, bne_eq_false_iff_eq, ne_eq, Int.not_lt, Int.not_le, gt_iff_lt, ge_iff_le] at hg1_
      refine RW.pass (by exact Wd.no (x := 7) (b := true) rfl (AF_ev rfl (Eq.trans tp (congrArg Value.bool hg1))) rfl) ?_
      refine RW.pass (by exact Wd.no (x := 7) (b := true) rfl (AF_ev rfl (up rfl (Eq.trans tp (congrArg Value.bool hg1)))) rfl) ?_
      refine RW.pass (by exact Wd.no (x := 7) (b := true) rfl (AF_ev rfl (up rfl (up rfl (Eq.trans tp (congrArg Value.bool hg1))))) rfl) ?_
      refine RW.pass (by exact Wd.no (x := 7) (b := true) rfl (AF_ev rfl (up rfl (up rfl (up rfl (Eq.trans tp (congrArg Value.bool hg1)))))) rfl) ?_
      refine RW.pass (by exact Wd.no (x := 7) (b := true) rfl (AF_ev rfl (up rfl (up rfl (up rfl (up rfl (Eq.trans tp (congrArg Value.bool hg1))))))) rfl) ?_
      refine RW.pass (by exact Wd.no (x := 7) (b := true) rfl (AF_ev rfl (up rfl (up rfl (up rfl (up rfl (up rfl (Eq.trans tp (congrArg Value.bool hg1)))))))) rfl) ?_
      refine RW.pass (by exact Wd.no (x := 7) (b := true) rfl (AF_ev rfl (up rfl (up rfl (up rfl (up rfl (up rfl (up rfl (Eq.trans tp (congrArg Value.bool hg1))))))))) rfl) ?_
      refine RW.soft Wd.a (v := .bool true) (by exact E.pickT (AF_ev rfl (up rfl (up rfl (up rfl (up rfl (up rfl (up rfl (up rfl (Eq.trans tp (congrArg Value.bool hg1)))))))))) rfl) ?_
      refine RW.nil ⟨rfl, rfl, up rfl (up rfl (up rfl (up rfl (up rfl (up rfl (up rfl (up rfl (up rfl (up rfl (up rfl hs0)))))))))), up rfl (up rfl (up rfl (up rfl (up rfl (up rfl (up rfl (up rfl (up rfl (up rfl (up rfl hs1)))))))))), up rfl (up rfl (up rfl (up rfl (up rfl (up rfl (up rfl (up rfl (up rfl (up rfl (up rfl hs4)))))))))), (bool_eq (a := true) tp (by simp only [hg1, Bool.true_and, Bool.false_and, Bool.true_or, Bool.false_or]))⟩
    · have hg1_ := hg1
      try simp only [decide_eq_true_eq, decide_eq_false_iff_not, Bool.and_eq_true, Bool.or_eq_true, Bool.and_eq_false_iff, Bool.or_eq_false_iff, Bool.not_eq_true', Bool.not_eq_false', beq_iff_eq, beq_eq_false_iff_ne, bne_iff_ne, bne_eq_false_iff_eq, ne_eq, Int.not_lt, Int.not_le, gt_iff_lt, ge_iff_le] at hg1_
      refine RW.soft (by exact Wd.yes (x := 7) rfl (AF_ev rfl (Eq.trans tp (congrArg Value.bool hg1)))) (v := .int .i64 id) (by exact E.move (AF_ev rfl (up rfl (up rfl (up rfl hs1))))) ?_
      refine RW.soft (by exact Wd.yes (x := 7) rfl (AF_ev rfl (up rfl (Eq.trans tp (congrArg Value.bool hg1))))) (v := .pointer (some ⟨b, 0, none⟩)) (by exact E.move (AF_ev rfl (up rfl (up rfl (up rfl (up rfl hs0)))))) ?_
      refine RW.soft (by exact Wd.yes (x := 7) rfl (AF_ev rfl (up rfl (up rfl (Eq.trans tp (congrArg Value.bool hg1)))))) (v := .pointer (some ⟨b, 0, none⟩)) (by exact E.nilCheck (a := ⟨b, 0, none⟩) (AF_ev rfl tp)) ?_
      refine RW.soft (by exact Wd.yes (x := 7) rfl (AF_ev rfl (up rfl (up rfl (up rfl (Eq.trans tp (congrArg Value.bool hg1))))))) (v := .pointer (some ⟨b, 0, none⟩)) (by exact E.fieldAddr (b := b) (o := 0) (f := { name := "l", type := 54, offset := 0, embedded := false, tag := "", pkgPath := "strongroom/keyring", byteOffset := 0 }) (AF_ev rfl tp) Try.underlying103 rfl sz54 rfl) ?_
      refine RW.soft (by exact Wd.yes (x := 7) rfl (AF_ev rfl (up rfl (up rfl (up rfl (up rfl (Eq.trans tp (congrArg Value.bool hg1)))))))) (v := .slice (some ⟨g, 0, none⟩) n c) (by exact E.load (a := ⟨b, 0, none⟩) Try.underlying54 rfl (AF_ev rfl tp) (hst.cell .here rfl)) ?_
      refine RW.soft (by exact Wd.yes (x := 7) rfl (AF_ev rfl (up rfl (up rfl (up rfl (up rfl (up rfl (Eq.trans tp (congrArg Value.bool hg1))))))))) (v := .int .i64 ((n : Nat) : Int)) (by exact E.lenS (p := (some ⟨g, 0, none⟩)) (l := n) (c := c) Try.underlying54 (AF_ev rfl tp)) ?_
      refine RW.soft (by exact Wd.yes (x := 7) rfl (AF_ev rfl (up rfl (up rfl (up rfl (up rfl (up rfl (up rfl (Eq.trans tp (congrArg Value.bool hg1)))))))))) (v := .bool (decide (id > ((n : Nat) : Int)))) (by exact E.gtr (k := .i64) (a := id) (b := ((n : Nat) : Int)) (AF_ev rfl (up rfl (up rfl (up rfl (up rfl (up rfl tp)))))) (AF_ev rfl tp)) ?_
      refine RW.soft Wd.a (v := .bool (decide (id > ((n : Nat) : Int)))) (by exact E.pickF (AF_ev rfl (up rfl (up rfl (up rfl (up rfl (up rfl (up rfl (up rfl (Eq.trans tp (congrArg Value.bool hg1)))))))))) (AF_ev rfl tp)) ?_
      refine RW.nil ⟨rfl, rfl, up rfl (up rfl (up rfl (up rfl (up rfl (up rfl (up rfl (up rfl (up rfl (up rfl (up rfl hs0)))))))))), up rfl (up rfl (up rfl (up rfl (up rfl (up rfl (up rfl (up rfl (up rfl (up rfl (up rfl hs1)))))))))), up rfl (up rfl (up rfl (up rfl (up rfl (up rfl (up rfl (up rfl (up rfl (up rfl (up rfl hs4)))))))))), (bool_eq (a := decide (id > ((n : Nat) : Int))) tp (by simp only [hg1, Bool.true_and, Bool.false_and, Bool.true_or, Bool.false_or]))⟩
  rintro τ ⟨hs0, hs1, hs4, hs15⟩
  refine CW.cond (AF_ev rfl hs15) (fun hc2 => ?_) (fun hc2 => ?_)
  · have hc2_ := hc2
    try simp only [decide_eq_true_eq, decide_eq_false_iff_not, Bool.and_eq_true, Bool.or_eq_true, Bool.and_eq_false_iff, Bool.or_eq_false_iff, Bool.not_eq_true', Bool.not_eq_false', beq_iff_eq, beq_eq_false_iff_ne, bne_iff_ne, bne_eq_false_iff_eq, ne_eq, Int.not_lt, Int.not_le, gt_iff_lt, ge_iff_le] at hc2_
    omega
  · have hc2_ := hc2
    try simp only [decide_eq_true_eq, decide_eq_false_iff_not, Bool.and_eq_true, Bool.or_eq_true, Bool.and_eq_false_iff, Bool.or_eq_false_iff, Bool.not_eq_true', Bool.not_eq_false', beq_iff_eq, beq_eq_false_iff_ne, bne_iff_ne, bne_eq_false_iff_eq, ne_eq, Int.not_lt, Int.not_le, gt_iff_lt, ge_iff_le] at hc2_
    refine CW.skip ?_
    refine Th.n ?_
    refine CW.seq ?_
    refine CW.region ?_
    refine RW.soft Wd.a (v := .pointer (some ⟨b, 0, none⟩)) (by exact E.move (AF_ev rfl hs0)) ?_
    refine RW.soft Wd.a (v := .pointer (some ⟨b, 0, none⟩)) (by exact E.nilCheck (a := ⟨b, 0, none⟩) (AF_ev rfl tp)) ?_
    refine RW.soft Wd.a (v := .pointer (some ⟨b, 0, none⟩)) (by exact E.fieldAddr (b := b) (o := 0) (f := { name := "l", type := 54, offset := 0, embedded := false, tag := "", pkgPath := "strongroom/keyring", byteOffset := 0 }) (AF_ev rfl tp) Try.underlying103 rfl sz54 rfl) ?_
    refine RW.soft Wd.a (v := .slice (some ⟨g, 0, none⟩) n c) (by exact E.load (a := ⟨b, 0, none⟩) Try.underlying54 rfl (AF_ev rfl tp) (hst.cell .here rfl)) ?_
    refine RW.soft Wd.a (v := .int .i64 id) (by exact E.move (AF_ev rfl (up rfl (up rfl (up rfl (up rfl hs1)))))) ?_
    refine RW.soft Wd.a (v := .int .i64 (id - 1)) (by exact E.sub (k := .i64) (a := id) (b := 1) (AF_ev rfl tp) rfl (show IntKind.i64.wrap (id - 1) = id - 1 from (by rw [IntWalk.i64_in _ (by omega)]))) ?_
    refine RW.soft Wd.a (v := .pointer (some ⟨g, (id - 1).toNat * 2, none⟩)) (by exact E.indexAddr (b := g) (o := 0) (l := n) (c := c) (i := id - 1) Try.underlying54 sz108 (AF_ev rfl (up rfl (up rfl tp))) (AF_ev rfl tp) (by omega) (by omega) (by simp)) ?_
    refine RW.soft Wd.a (v := .pointer (some ⟨g, (id - 1).toNat * 2, none⟩)) (by exact E.assign (AF_ev rfl tp)) ?_
    refine RW.fin (fun τ => τ 0 = .pointer (some ⟨b, 0, none⟩) ∧ τ 1 = .int .i64 id ∧ τ 4 = .pointer (some ⟨g, (id - 1).toNat * 2, none⟩) ∧ τ 15 = .bool false) ⟨up rfl (up rfl (up rfl (up rfl (up rfl (up rfl (up rfl (up rfl hs0))))))), up rfl (up rfl (up rfl (up rfl (up rfl (up rfl (up rfl (up rfl hs1))))))), tp, up rfl (up rfl (up rfl (up rfl (up rfl (up rfl (up rfl (up rfl (Eq.trans hs15 (congrArg Value.bool hc2)))))))))⟩ ?_
    rintro τ ⟨hs0, hs1, hs4, hs15⟩
    refine CW.ret ?_
    refine ret1 (v := .pointer (some ⟨g, (id - 1).toNat * 2, none⟩)) rfl (by exact (.tmp (AF_ev rfl hs4) .nil)) ?_
    exact ⟨rfl, hst⟩

theorem version_no {p : Pers} {w : World} {R : List Assn} {X : Option Addr} {ks : RK} {c b : Nat} (id n : Int) (hid : -9223372036854775808 ≤ id ∧ id ≤ 9223372036854775807) (hnr : -9223372036854775808 ≤ n ∧ n ≤ 9223372036854775807) (hno : id < 1 ∨ id > ks.length) (hn8 : ks.length ≤ 8) (hst : St p w (pt b (.cells #[.slice X ks.length c] 103) :: R)) :
    Calls Try.prog 66 #[.pointer (some ⟨b, 0, none⟩), .int .i64 id, .int .i64 n] w fun e w => e = .returned (.pointer none) ∧ St p w (pt b (.cells #[.slice X ks.length c] 103) :: R) := by
  refine enter Try.func66 rfl (by simp) (n := 33) rfl fun τ hτ => ?_
  have hs0 : τ 0 = .pointer (some ⟨b, 0, none⟩) := hτ 0 (by simp)
  have hs1 : τ 1 = .int .i64 id := hτ 1 (by simp)
  have hs2 : τ 2 = .int .i64 n := hτ 2 (by simp)
  clear hτ
  refine CW.seq ?_
  refine CW.region ?_
  refine RW.soft Wd.a (v := .pointer none) (by exact E.assign rfl) ?_
  refine RW.fin (fun τ => τ 0 = .pointer (some ⟨b, 0, none⟩) ∧ τ 1 = .int .i64 id ∧ τ 2 = .int .i64 n ∧ τ 6 = .pointer none) ⟨up rfl hs0, up rfl hs1, up rfl hs2, tp⟩ ?_
  rintro τ ⟨hs0, hs1, hs2, hs6⟩
  refine CW.seq ?_
  refine CW.region ?_
  refine RW.soft Wd.a (v := .pointer (some ⟨b, 0, none⟩)) (by exact E.move (AF_ev rfl hs0)) ?_
  refine RW.soft Wd.a (v := .int .i64 id) (by exact E.move (AF_ev rfl (up rfl hs1))) ?_
  refine RW.hard Wd.a ?_
  refine H.call0 Try.func62 nm62 rfl (map2 (AF_ev rfl (up rfl tp)) (AF_ev rfl tp)) (Calls.mono (key_no id hid hno hn8 hst) ?_)
  rintro _ w ⟨rfl, hst⟩
  refine ⟨_, rfl, ?_⟩
  show RW _ _ _ _ _ _ _
  refine RW.soft Wd.a (v := .pointer none) (by exact E.assign (AF_ev rfl tp)) ?_
  refine RW.fin (fun τ => τ 0 = .pointer (some ⟨b, 0, none⟩) ∧ τ 1 = .int .i64 id ∧ τ 2 = .int .i64 n ∧ τ 6 = .pointer none ∧ τ 7 = .pointer none) ⟨up rfl (up rfl (up rfl (up rfl hs0))), up rfl (up rfl (up rfl (up rfl hs1))), up rfl (up rfl (up rfl (up rfl hs2))), up rfl (up rfl (up rfl (up rfl hs6))), tp⟩ ?_
  rintro τ ⟨hs0, hs1, hs2, hs6, hs7⟩
  refine CW.seq ?_
  refine CW.seq ?_
  refine CW.region ?_
  refine RW.soft Wd.a (v := .pointer none) (by exact E.move (AF_ev rfl hs7)) ?_
  refine RW.soft Wd.a (v := .bool true) (by exact E.eqlP (p := none) Try.underlying114 (AF_ev rfl tp) rfl) ?_
  refine RW.soft Wd.a (v := .bool true) (by exact E.move (AF_ev rfl tp)) ?_
  refine RW.pass (by exact Wd.no (x := 13) (b := true) rfl (AF_ev rfl tp) rfl) ?_
  refine RW.pass (by exact Wd.no (x := 13) (b := true) rfl (AF_ev rfl (up rfl tp)) rfl) ?_
  refine RW.soft Wd.a (v := .bool true) (by exact E.pickT (AF_ev rfl (up rfl (up rfl tp))) rfl) ?_
  refine RW.soft Wd.a (v := .bool true) (by exact E.move (AF_ev rfl tp)) ?_
  refine RW.pass (by exact Wd.no (x := 17) (b := true) rfl (AF_ev rfl tp) rfl) ?_
  refine RW.pass (by exact Wd.no (x := 17) (b := true) rfl (AF_ev rfl (up rfl tp)) rfl) ?_
  refine RW.pass (by exact Wd.no (x := 17) (b := true) rfl (AF_ev rfl (up rfl (up rfl tp))) rfl) ?_
  refine RW.pass (by exact Wd.no (x := 17) (b := true) rfl (AF_ev rfl (up rfl (up rfl (up rfl tp)))) rfl) ?_
  refine RW.pass (by exact Wd.no (x := 17) (b := true) rfl (AF_ev rfl (up rfl (up rfl (up rfl (up rfl tp))))) rfl) ?_
  refine RW.pass (by exact Wd.no (x := 17) (b := true) rfl (AF_ev rfl (up rfl (up rfl (up rfl (up rfl (up rfl tp)))))) rfl) ?_
  refine RW.pass (by exact Wd.no (x := 17) (b := true) rfl (AF_ev rfl (up rfl (up rfl (up rfl (up rfl (up rfl (up rfl tp))))))) rfl) ?_
  refine RW.soft Wd.a (v := .bool true) (by exact E.pickT (AF_ev rfl (up rfl (up rfl (up rfl (up rfl (up rfl (up rfl (up rfl tp)))))))) rfl) ?_
  refine RW.fin (fun τ => τ 0 = .pointer (some ⟨b, 0, none⟩) ∧ τ 1 = .int .i64 id ∧ τ 2 = .int .i64 n ∧ τ 6 = .pointer none ∧ τ 7 = .pointer none ∧ τ 25 = .bool true) ⟨up rfl (up rfl (up rfl (up rfl (up rfl (up rfl (up rfl (up rfl (up rfl (up rfl (up rfl (up rfl (up rfl (up rfl (up rfl hs0)))))))))))))), up rfl (up rfl (up rfl (up rfl (up rfl (up rfl (up rfl (up rfl (up rfl (up rfl (up rfl (up rfl (up rfl (up rfl (up rfl hs1)))))))))))))), up rfl (up rfl (up rfl (up rfl (up rfl (up rfl (up rfl (up rfl (up rfl (up rfl (up rfl (up rfl (up rfl (up rfl (up rfl hs2)))))))))))))), up rfl (up rfl (up rfl (up rfl (up rfl (up rfl (up rfl (up rfl (up rfl (up rfl (up rfl (up rfl (up rfl (up rfl (up rfl hs6)))))))))))))), up rfl (up rfl (up rfl (up rfl (up rfl (up rfl (up rfl (up rfl (up rfl (up rfl (up rfl (up rfl (up rfl (up rfl (up rfl hs7)))))))))))))), tp⟩ ?_
  rintro τ ⟨hs0, hs1, hs2, hs6, hs7, hs25⟩
  refine CW.condT (AF_ev rfl hs25) ?_
  refine CW.seq ?_
  refine CW.region ?_
  refine RW.soft Wd.a (v := .pointer none) (by exact E.assign rfl) ?_
  refine RW.fin (fun τ => τ 0 = .pointer (some ⟨b, 0, none⟩) ∧ τ 1 = .int .i64 id ∧ τ 2 = .int .i64 n ∧ τ 6 = .pointer none ∧ τ 7 = .pointer none ∧ τ 25 = .bool true) ⟨up rfl hs0, up rfl hs1, up rfl hs2, tp, up rfl hs7, up rfl hs25⟩ ?_
  rintro τ ⟨hs0, hs1, hs2, hs6, hs7, hs25⟩
  refine CW.ret ?_
  refine Th.r ?_
  refine ret1 (v := .pointer none) rfl (by exact (.tmp (AF_ev rfl hs6) .nil)) ?_
  exact ⟨rfl, hst⟩

theorem version_vno {p : Pers} {w : World} {R : List Assn} {rs : List RingM} {ks : RK} {g c gr d b : Nat} {o : Bool} {vs : List Ver} (id n : Int) (hid1 : 1 ≤ id) (hid2 : id ≤ ks.length) (hn8 : ks.length ≤ 8) (hv4 : vs.length ≤ 4) (hr : rs[(id - 1).toNat]? = some ⟨o, some ⟨gr, 0, none⟩, d, vs⟩) (hnr : -9223372036854775808 ≤ n ∧ n ≤ 9223372036854775807) (hvn : n < 1 ∨ n > vs.length) (hst : St p w (pt b (.cells #[.slice (some ⟨g, 0, none⟩) ks.length c] 103) :: Own 108 2 (.slice (some ⟨g, 0, none⟩) ks.length c) ks.length (rs.flatMap RingM.enc) :: R)) :
    Calls Try.prog 66 #[.pointer (some ⟨b, 0, none⟩), .int .i64 id, .int .i64 n] w fun e w => e = .returned (.pointer none) ∧ St p w (pt b (.cells #[.slice (some ⟨g, 0, none⟩) ks.length c] 103) :: Own 108 2 (.slice (some ⟨g, 0, none⟩) ks.length c) ks.length (rs.flatMap RingM.enc) :: R) := by
  refine enter Try.func66 rfl (by simp) (n := 33) rfl fun τ hτ => ?_
  have hs0 : τ 0 = .pointer (some ⟨b, 0, none⟩) := hτ 0 (by simp)
  have hs1 : τ 1 = .int .i64 id := hτ 1 (by simp)
  have hs2 : τ 2 = .int .i64 n := hτ 2 (by simp)
  clear hτ
  refine CW.seq ?_
  refine CW.region ?_
  refine RW.soft Wd.a (v := .pointer none) (by exact E.assign rfl) ?_
  refine RW.fin (fun τ => τ 0 = .pointer (some ⟨b, 0, none⟩) ∧ τ 1 = .int .i64 id ∧ τ 2 = .int .i64 n ∧ τ 6 = .pointer none) ⟨up rfl hs0, up rfl hs1, up rfl hs2, tp⟩ ?_
  rintro τ ⟨hs0, hs1, hs2, hs6⟩
  refine CW.seq ?_
  refine CW.region ?_
  refine RW.soft Wd.a (v := .pointer (some ⟨b, 0, none⟩)) (by exact E.move (AF_ev rfl hs0)) ?_
  refine RW.soft Wd.a (v := .int .i64 id) (by exact E.move (AF_ev rfl (up rfl hs1))) ?_
  refine RW.hard Wd.a ?_
  refine H.call0 Try.func62 nm62 rfl (map2 (AF_ev rfl (up rfl tp)) (AF_ev rfl tp)) (Calls.mono (key_yes id ⟨hid1, hid2⟩ hn8 hst) ?_)
  rintro _ w ⟨rfl, hst⟩
  refine ⟨_, rfl, ?_⟩
  show RW _ _ _ _ _ _ _
  refine RW.soft Wd.a (v := .pointer (some ⟨g, (id - 1).toNat * 2, none⟩)) (by exact E.assign (AF_ev rfl tp)) ?_
  refine RW.fin (fun τ => τ 0 = .pointer (some ⟨b, 0, none⟩) ∧ τ 1 = .int .i64 id ∧ τ 2 = .int .i64 n ∧ τ 6 = .pointer none ∧ τ 7 = .pointer (some ⟨g, (id - 1).toNat * 2, none⟩)) ⟨up rfl (up rfl (up rfl (up rfl hs0))), up rfl (up rfl (up rfl (up rfl hs1))), up rfl (up rfl (up rfl (up rfl hs2))), up rfl (up rfl (up rfl (up rfl hs6))), tp⟩ ?_
  rintro τ ⟨hs0, hs1, hs2, hs6, hs7⟩
  refine CW.seq ?_
  refine CW.seq ?_
  refine CW.cut (fun τ => τ 0 = .pointer (some ⟨b, 0, none⟩) ∧ τ 1 = .int .i64 id ∧ τ 2 = .int .i64 n ∧ τ 6 = .pointer none ∧ τ 7 = .pointer (some ⟨g, (id - 1).toNat * 2, none⟩) ∧ τ 25 = .bool ((decide (n < 1)) || (decide (n > ((vs.length : Nat) : Int))))) ?_ ?_
  · refine CW.region ?_
    refine RW.soft Wd.a (v := .pointer (some ⟨g, (id - 1).toNat * 2, none⟩)) (by exact E.move (AF_ev rfl hs7)) ?_
    refine RW.soft Wd.a (v := .bool false) (by exact E.eqlP (p := (some ⟨g, (id - 1).toNat * 2, none⟩)) Try.underlying114 (AF_ev rfl tp) rfl) ?_
    refine RW.soft Wd.a (v := .bool false) (by exact E.move (AF_ev rfl tp)) ?_
    refine RW.soft (by exact Wd.yes (x := 13) rfl (AF_ev rfl tp)) (v := .int .i64 n) (by exact E.move (AF_ev rfl (up rfl (up rfl (up rfl hs2))))) ?_
    refine RW.soft (by exact Wd.yes (x := 13) rfl (AF_ev rfl (up rfl tp))) (v := .bool (decide (n < 1))) (by exact E.lss (k := .i64) (a := n) (b := 1) (AF_ev rfl tp) rfl) ?_
    refine RW.soft Wd.a (v := .bool (decide (n < 1))) (by exact E.pickF (AF_ev rfl (up rfl (up rfl tp))) (AF_ev rfl tp)) ?_
    refine RW.soft Wd.a (v := .bool (decide (n < 1))) (by exact E.move (AF_ev rfl tp)) ?_
    refine Or.elim (Bool.eq_false_or_eq_true (decide (n < 1))) (fun hg1 => ?_) (fun hg1 => ?_)
    · have hg1_ := hg1
      try simp only [decide_eq_true_eq, decide_eq_false_iff_not, Bool.and_eq_true, Bool.or_eq_true, Bool.and_eq_false_iff, Bool.or_eq_false_iff, Bool.not_eq_true', Bool.not_eq_false', beq_iff_eq, beq_eq_false_iff_ne, bne_iff_ne, bne_eq_false_iff_eq, ne_eq, Int.not_lt, Int.not_le, gt_iff_lt, ge_iff_le] at hg1_
      refine RW.pass (by exact Wd.no (x := 17) (b := true) rfl (AF_ev rfl (Eq.trans tp (congrArg Value.bool hg1))) rfl) ?_
      refine RW.pass (by exact Wd.no (x := 17) (b := true) rfl (AF_ev rfl (up rfl (Eq.trans tp (congrArg Value.bool hg1)))) rfl) ?_
      refine RW.pass (by exact Wd.no (x := 17) (b := true) rfl (AF_ev rfl (up rfl (up rfl (Eq.trans tp (congrArg Value.bool hg1))))) rfl) ?_
      refine RW.pass (by exact Wd.no (x := 17) (b := true) rfl (AF_ev rfl (up rfl (up rfl (up rfl (Eq.trans tp (congrArg Value.bool hg1)))))) rfl) ?_
      refine RW.pass (by exact Wd.no (x := 17) (b := true) rfl (AF_ev rfl (up rfl (up rfl (up rfl (up rfl (Eq.trans tp (congrArg Value.bool hg1))))))) rfl) ?_
      refine RW.pass (by exact Wd.no (x := 17) (b := true) rfl (AF_ev rfl (up rfl (up rfl (up rfl (up rfl (up rfl (Eq.trans tp (congrArg Value.bool hg1)))))))) rfl) ?_
      refine RW.pass (by exact Wd.no (x := 17) (b := true) rfl (AF_ev rfl (up rfl (up rfl (up rfl (up rfl (up rfl (up rfl (Eq.trans tp (congrArg Value.bool hg1))))))))) rfl) ?_
      refine RW.soft Wd.a (v := .bool true) (by exact E.pickT (AF_ev rfl (up rfl (up rfl (up rfl (up rfl (up rfl (up rfl (up rfl (Eq.trans tp (congrArg Value.bool hg1)))))))))) rfl) ?_
      refine RW.nil ⟨rfl, rfl, up rfl (up rfl (up rfl (up rfl (up rfl (up rfl (up rfl (up rfl (up rfl (up rfl (up rfl (up rfl (up rfl (up rfl (up rfl hs0)))))))))))))), up rfl (up rfl (up rfl (up rfl (up rfl (up rfl (up rfl (up rfl (up rfl (up rfl (up rfl (up rfl (up rfl (up rfl (up rfl hs1)))))))))))))), up rfl (up rfl (up rfl (up rfl (up rfl (up rfl (up rfl (up rfl (up rfl (up rfl (up rfl (up rfl (up rfl (up rfl (up rfl hs2)))))))))))))), up rfl (up rfl (up rfl (up rfl (up rfl (up rfl (up rfl (up rfl (up rfl (up rfl (up rfl (up rfl (up rfl (up rfl (up rfl hs6)))))))))))))), up rfl (up rfl (up rfl (up rfl (up rfl (up rfl (up rfl (up rfl (up rfl (up rfl (up rfl (up rfl (up rfl (up rfl (up rfl hs7)))))))))))))), (bool_eq (a := true) tp (by simp only [hg1, Bool.true_and, Bool.false_and, Bool.true_or, Bool.false_or]))⟩
    · have hg1_ := hg1
      try simp only [decide_eq_true_eq, decide_eq_false_iff_not, Bool.and_eq_true, Bool.or_eq_true, Bool.and_eq_false_iff, Bool.or_eq_false_iff, Bool.not_eq_true', Bool.not_eq_false', beq_iff_eq, beq_eq_false_iff_ne, bne_iff_ne, bne_eq_false_iff_eq, ne_eq, Int.not_lt, Int.not_le, gt_iff_lt, ge_iff_le] at hg1_
      refine RW.soft (by exact Wd.yes (x := 17) rfl (AF_ev rfl (Eq.trans tp (congrArg Value.bool hg1)))) (v := .int .i64 n) (by exact E.move (AF_ev rfl (up rfl (up rfl (up rfl (up rfl (up rfl (up rfl (up rfl hs2))))))))) ?_
      refine RW.soft (by exact Wd.yes (x := 17) rfl (AF_ev rfl (up rfl (Eq.trans tp (congrArg Value.bool hg1))))) (v := .pointer (some ⟨g, (id - 1).toNat * 2, none⟩)) (by exact E.move (AF_ev rfl (up rfl (up rfl (up rfl (up rfl (up rfl (up rfl (up rfl (up rfl hs7)))))))))) ?_
      refine RW.soft (by exact Wd.yes (x := 17) rfl (AF_ev rfl (up rfl (up rfl (Eq.trans tp (congrArg Value.bool hg1)))))) (v := .pointer (some ⟨g, (id - 1).toNat * 2, none⟩)) (by exact E.nilCheck (a := ⟨g, (id - 1).toNat * 2, none⟩) (AF_ev rfl tp)) ?_
      refine RW.soft (by exact Wd.yes (x := 17) rfl (AF_ev rfl (up rfl (up rfl (up rfl (Eq.trans tp (congrArg Value.bool hg1))))))) (v := .pointer (some ⟨g, (id - 1).toNat * 2 + 1, none⟩)) (by exact E.fieldAddr (b := g) (o := (id - 1).toNat * 2) (f := { name := "L", type := 106, offset := 1, embedded := false, tag := "", pkgPath := "", byteOffset := 8 }) (AF_ev rfl tp) Try.underlying108 rfl sz106 rfl) ?_
      refine RW.soft (by exact Wd.yes (x := 17) rfl (AF_ev rfl (up rfl (up rfl (up rfl (up rfl (Eq.trans tp (congrArg Value.bool hg1)))))))) (v := .slice (some ⟨gr, 0, none⟩) vs.length d) (by exact E.load (a := ⟨g, (id - 1).toNat * 2 + 1, none⟩) Try.underlying106 rfl (AF_ev rfl tp) (hst.ocell (.there .here) (flat_get (j := 1) RingM.enc_len hr (rfl)))) ?_
      refine RW.soft (by exact Wd.yes (x := 17) rfl (AF_ev rfl (up rfl (up rfl (up rfl (up rfl (up rfl (Eq.trans tp (congrArg Value.bool hg1))))))))) (v := .int .i64 ((vs.length : Nat) : Int)) (by exact E.lenS (p := (some ⟨gr, 0, none⟩)) (l := vs.length) (c := d) Try.underlying106 (AF_ev rfl tp)) ?_
      refine RW.soft (by exact Wd.yes (x := 17) rfl (AF_ev rfl (up rfl (up rfl (up rfl (up rfl (up rfl (up rfl (Eq.trans tp (congrArg Value.bool hg1)))))))))) (v := .bool (decide (n > ((vs.length : Nat) : Int)))) (by exact E.gtr (k := .i64) (a := n) (b := ((vs.length : Nat) : Int)) (AF_ev rfl (up rfl (up rfl (up rfl (up rfl (up rfl tp)))))) (AF_ev rfl tp)) ?_
      refine RW.soft Wd.a (v := .bool (decide (n > ((vs.length : Nat) : Int)))) (by exact E.pickF (AF_ev rfl (up rfl (up rfl (up rfl (up rfl (up rfl (up rfl (up rfl (Eq.trans tp (congrArg Value.bool hg1)))))))))) (AF_ev rfl tp)) ?_
      refine RW.nil ⟨rfl, rfl, up rfl (up rfl (up rfl (up rfl (up rfl (up rfl (up rfl (up rfl (up rfl (up rfl (up rfl (up rfl (up rfl (up rfl (up rfl hs0)))))))))))))), up rfl (up rfl (up rfl (up rfl (up rfl (up rfl (up rfl (up rfl (up rfl (up rfl (up rfl (up rfl (up rfl (up rfl (up rfl hs1)))))))))))))), up rfl (up rfl (up rfl (up rfl (up rfl (up rfl (up rfl (up rfl (up rfl (up rfl (up rfl (up rfl (up rfl (up rfl (up rfl hs2)))))))))))))), up rfl (up rfl (up rfl (up rfl (up rfl (up rfl (up rfl (up rfl (up rfl (up rfl (up rfl (up rfl (up rfl (up rfl (up rfl hs6)))))))))))))), up rfl (up rfl (up rfl (up rfl (up rfl (up rfl (up rfl (up rfl (up rfl (up rfl (up rfl (up rfl (up rfl (up rfl (up rfl hs7)))))))))))))), (bool_eq (a := decide (n > ((vs.length : Nat) : Int))) tp (by simp only [hg1, Bool.true_and, Bool.false_and, Bool.true_or, Bool.false_or]))⟩
  rintro τ ⟨hs0, hs1, hs2, hs6, hs7, hs25⟩
  refine CW.cond (AF_ev rfl hs25) (fun hc2 => ?_) (fun hc2 => ?_)
  · have hc2_ := hc2
    try simp only [decide_eq_true_eq, decide_eq_false_iff_not, Bool.and_eq_true, Bool.or_eq_true, Bool.and_eq_false_iff, Bool.or_eq_false_iff, Bool.not_eq_true', Bool.not_eq_false', beq_iff_eq, beq_eq_false_iff_ne, bne_iff_ne, bne_eq_false_iff_eq, ne_eq, Int.not_lt, Int.not_le, gt_iff_lt, ge_iff_le] at hc2_
    refine CW.seq ?_
    refine CW.region ?_
    refine RW.soft Wd.a (v := .pointer none) (by exact E.assign rfl) ?_
    refine RW.fin (fun τ => τ 0 = .pointer (some ⟨b, 0, none⟩) ∧ τ 1 = .int .i64 id ∧ τ 2 = .int .i64 n ∧ τ 6 = .pointer none ∧ τ 7 = .pointer (some ⟨g, (id - 1).toNat * 2, none⟩) ∧ τ 25 = .bool true) ⟨up rfl hs0, up rfl hs1, up rfl hs2, tp, up rfl hs7, up rfl (Eq.trans hs25 (congrArg Value.bool hc2))⟩ ?_
    rintro τ ⟨hs0, hs1, hs2, hs6, hs7, hs25⟩
    refine CW.ret ?_
    refine Th.r ?_
    refine ret1 (v := .pointer none) rfl (by exact (.tmp (AF_ev rfl hs6) .nil)) ?_
    have hst := hst.take (.there .here)
    have hst := hst.take (.there .here)
    exact ⟨rfl, hst⟩
  · have hc2_ := hc2
    try simp only [decide_eq_true_eq, decide_eq_false_iff_not, Bool.and_eq_true, Bool.or_eq_true, Bool.and_eq_false_iff, Bool.or_eq_false_iff, Bool.not_eq_true', Bool.not_eq_false', beq_iff_eq, beq_eq_false_iff_ne, bne_iff_ne, bne_eq_false_iff_eq, ne_eq, Int.not_lt, Int.not_le, gt_iff_lt, ge_iff_le] at hc2_
    omega

theorem version_yes {p : Pers} {w : World} {R : List Assn} {rs : List RingM} {ks : RK} {g c gr d b : Nat} {o : Bool} {vs : List Ver} (id n : Int) (hid1 : 1 ≤ id) (hid2 : id ≤ ks.length) (hn8 : ks.length ≤ 8) (hv4 : vs.length ≤ 4) (hr : rs[(id - 1).toNat]? = some ⟨o, some ⟨gr, 0, none⟩, d, vs⟩) (hnr : -9223372036854775808 ≤ n ∧ n ≤ 9223372036854775807) (hn1 : 1 ≤ n) (hn2 : n ≤ vs.length) (hst : St p w (pt b (.cells #[.slice (some ⟨g, 0, none⟩) ks.length c] 103) :: Own 108 2 (.slice (some ⟨g, 0, none⟩) ks.length c) ks.length (rs.flatMap RingM.enc) :: R)) :
    Calls Try.prog 66 #[.pointer (some ⟨b, 0, none⟩), .int .i64 id, .int .i64 n] w fun e w => e = .returned (.pointer (some ⟨gr, (n - 1).toNat * 34, none⟩)) ∧ St p w (pt b (.cells #[.slice (some ⟨g, 0, none⟩) ks.length c] 103) :: Own 108 2 (.slice (some ⟨g, 0, none⟩) ks.length c) ks.length (rs.flatMap RingM.enc) :: R) := by
  refine enter Try.func66 rfl (by simp) (n := 33) rfl fun τ hτ => ?_
  have hs0 : τ 0 = .pointer (some ⟨b, 0, none⟩) := hτ 0 (by simp)
  have hs1 : τ 1 = .int .i64 id := hτ 1 (by simp)
  have hs2 : τ 2 = .int .i64 n := hτ 2 (by simp)
  clear hτ
  refine CW.seq ?_
  refine CW.region ?_
  refine RW.soft Wd.a (v := .pointer none) (by exact E.assign rfl) ?_
  refine RW.fin (fun τ => τ 0 = .pointer (some ⟨b, 0, none⟩) ∧ τ 1 = .int .i64 id ∧ τ 2 = .int .i64 n ∧ τ 6 = .pointer none) ⟨up rfl hs0, up rfl hs1, up rfl hs2, tp⟩ ?_
  rintro τ ⟨hs0, hs1, hs2, hs6⟩
  refine CW.seq ?_
  refine CW.region ?_
  refine RW.soft Wd.a (v := .pointer (some ⟨b, 0, none⟩)) (by exact E.move (AF_ev rfl hs0)) ?_
  refine RW.soft Wd.a (v := .int .i64 id) (by exact E.move (AF_ev rfl (up rfl hs1))) ?_
  refine RW.hard Wd.a ?_
  refine H.call0 Try.func62 nm62 rfl (map2 (AF_ev rfl (up rfl tp)) (AF_ev rfl tp)) (Calls.mono (key_yes id ⟨hid1, hid2⟩ hn8 hst) ?_)
  rintro _ w ⟨rfl, hst⟩
  refine ⟨_, rfl, ?_⟩
  show RW _ _ _ _ _ _ _
  refine RW.soft Wd.a (v := .pointer (some ⟨g, (id - 1).toNat * 2, none⟩)) (by exact E.assign (AF_ev rfl tp)) ?_
  refine RW.fin (fun τ => τ 0 = .pointer (some ⟨b, 0, none⟩) ∧ τ 1 = .int .i64 id ∧ τ 2 = .int .i64 n ∧ τ 6 = .pointer none ∧ τ 7 = .pointer (some ⟨g, (id - 1).toNat * 2, none⟩)) ⟨up rfl (up rfl (up rfl (up rfl hs0))), up rfl (up rfl (up rfl (up rfl hs1))), up rfl (up rfl (up rfl (up rfl hs2))), up rfl (up rfl (up rfl (up rfl hs6))), tp⟩ ?_
  rintro τ ⟨hs0, hs1, hs2, hs6, hs7⟩
  refine CW.seq ?_
  refine CW.seq ?_
  refine CW.cut (fun τ => τ 0 = .pointer (some ⟨b, 0, none⟩) ∧ τ 1 = .int .i64 id ∧ τ 2 = .int .i64 n ∧ τ 6 = .pointer none ∧ τ 7 = .pointer (some ⟨g, (id - 1).toNat * 2, none⟩) ∧ τ 25 = .bool ((decide (n < 1)) || (decide (n > ((vs.length : Nat) : Int))))) ?_ ?_
  · refine CW.region ?_
    refine RW.soft Wd.a (v := .pointer (some ⟨g, (id - 1).toNat * 2, none⟩)) (by exact E.move (AF_ev rfl hs7)) ?_
    refine RW.soft Wd.a (v := .bool false) (by exact E.eqlP (p := (some ⟨g, (id - 1).toNat * 2, none⟩)) Try.underlying114 (AF_ev rfl tp) rfl) ?_
    refine RW.soft Wd.a (v := .bool false) (by exact E.move (AF_ev rfl tp)) ?_
    refine RW.soft (by exact Wd.yes (x := 13) rfl (AF_ev rfl tp)) (v := .int .i64 n) (by exact E.move (AF_ev rfl (up rfl (up rfl (up rfl hs2))))) ?_
    refine RW.soft (by exact Wd.yes (x := 13) rfl (AF_ev rfl (up rfl tp))) (v := .bool (decide (n < 1))) (by exact E.lss (k := .i64) (a := n) (b := 1) (AF_ev rfl tp) rfl) ?_
    refine RW.soft Wd.a (v := .bool (decide (n < 1))) (by exact E.pickF (AF_ev rfl (up rfl (up rfl tp))) (AF_ev rfl tp)) ?_
    refine RW.soft Wd.a (v := .bool (decide (n < 1))) (by exact E.move (AF_ev rfl tp)) ?_
    refine Or.elim (Bool.eq_false_or_eq_true (decide (n < 1))) (fun hg1 => ?_) (fun hg1 => ?_)
    · have hg1_ := hg1
      try simp only [decide_eq_true_eq, decide_eq_false_iff_not, Bool.and_eq_true, Bool.or_eq_true, Bool.and_eq_false_iff, Bool.or_eq_false_iff, Bool.not_eq_true', Bool.not_eq_false', beq_iff_eq, beq_eq_false_iff_ne, bne_iff_ne, bne_eq_false_iff_eq, ne_eq, Int.not_lt, Int.not_le, gt_iff_lt, ge_iff_le] at hg1_
      refine RW.pass (by exact Wd.no (x := 17) (b := true) rfl (AF_ev rfl (Eq.trans tp (congrArg Value.bool hg1))) rfl) ?_
      refine RW.pass (by exact Wd.no (x := 17) (b := true) rfl (AF_ev rfl (up rfl (Eq.trans tp (congrArg Value.bool hg1)))) rfl) ?_
      refine RW.pass (by exact Wd.no (x := 17) (b := true) rfl (AF_ev rfl (up rfl (up rfl (Eq.trans tp (congrArg Value.bool hg1))))) rfl) ?_
      refine RW.pass (by exact Wd.no (x := 17) (b := true) rfl (AF_ev rfl (up rfl (up rfl (up rfl (Eq.trans tp (congrArg Value.bool hg1)))))) rfl) ?_
      refine RW.pass (by exact Wd.no (x := 17) (b := true) rfl (AF_ev rfl (up rfl (up rfl (up rfl (up rfl (Eq.trans tp (congrArg Value.bool hg1))))))) rfl) ?_
      refine RW.pass (by exact Wd.no (x := 17) (b := true) rfl (AF_ev rfl (up rfl (up rfl (up rfl (up rfl (up rfl (Eq.trans tp (congrArg Value.bool hg1)))))))) rfl) ?_
      refine RW.pass (by exact Wd.no (x := 17) (b := true) rfl (AF_ev rfl (up rfl (up rfl (up rfl (up rfl (up rfl (up rfl (Eq.trans tp (congrArg Value.bool hg1))))))))) rfl) ?_
      refine RW.soft Wd.a (v := .bool true) (by exact E.pickT (AF_ev rfl (up rfl (up rfl (up rfl (up rfl (up rfl (up rfl (up rfl (Eq.trans tp (congrArg Value.bool hg1)))))))))) rfl) ?_
      refine RW.nil ⟨rfl, rfl, up rfl (up rfl (up rfl (up rfl (up rfl (up rfl (up rfl (up rfl (up rfl (up rfl (up rfl (up rfl (up rfl (up rfl (up rfl hs0)))))))))))))), up rfl (up rfl (up rfl (up rfl (up rfl (up rfl (up rfl (up rfl (up rfl (up rfl (up rfl (up rfl (up rfl (up rfl (up rfl hs1)))))))))))))), up rfl (up rfl (up rfl (up rfl (up rfl (up rfl (up rfl (up rfl (up rfl (up rfl (up rfl (up rfl (up rfl (up rfl (up rfl hs2)))))))))))))), up rfl (up rfl (up rfl (up rfl (up rfl (up rfl (up rfl (up rfl (up rfl (up rfl (up rfl (up rfl (up rfl (up rfl (up rfl hs6)))))))))))))), up rfl (up rfl (up rfl (up rfl (up rfl (up rfl (up rfl (up rfl (up rfl (up rfl (up rfl (up rfl (up rfl (up rfl (up rfl hs7)))))))))))))), (bool_eq (a := true) tp (by simp only [hg1, Bool.true_and, Bool.false_and, Bool.true_or, Bool.false_or]))⟩
    · have hg1_ := hg1
      try simp only [decide_eq_true_eq, decide_eq_false_iff_not, Bool.and_eq_true, Bool.or_eq_true, Bool.and_eq_false_iff, Bool.or_eq_false_iff, Bool.not_eq_true', Bool.not_eq_false', beq_iff_eq, beq_eq_false_iff_ne, bne_iff_ne, bne_eq_false_iff_eq, ne_eq, Int.not_lt, Int.not_le, gt_iff_lt, ge_iff_le] at hg1_
      refine RW.soft (by exact Wd.yes (x := 17) rfl (AF_ev rfl (Eq.trans tp (congrArg Value.bool hg1)))) (v := .int .i64 n) (by exact E.move (AF_ev rfl (up rfl (up rfl (up rfl (up rfl (up rfl (up rfl (up rfl hs2))))))))) ?_
      refine RW.soft (by exact Wd.yes (x := 17) rfl (AF_ev rfl (up rfl (Eq.trans tp (congrArg Value.bool hg1))))) (v := .pointer (some ⟨g, (id - 1).toNat * 2, none⟩)) (by exact E.move (AF_ev rfl (up rfl (up rfl (up rfl (up rfl (up rfl (up rfl (up rfl (up rfl hs7)))))))))) ?_
      refine RW.soft (by exact Wd.yes (x := 17) rfl (AF_ev rfl (up rfl (up rfl (Eq.trans tp (congrArg Value.bool hg1)))))) (v := .pointer (some ⟨g, (id - 1).toNat * 2, none⟩)) (by exact E.nilCheck (a := ⟨g, (id - 1).toNat * 2, none⟩) (AF_ev rfl tp)) ?_
      refine RW.soft (by exact Wd.yes (x := 17) rfl (AF_ev rfl (up rfl (up rfl (up rfl (Eq.trans tp (congrArg Value.bool hg1))))))) (v := .pointer (some ⟨g, (id - 1).toNat * 2 + 1, none⟩)) (by exact E.fieldAddr (b := g) (o := (id - 1).toNat * 2) (f := { name := "L", type := 106, offset := 1, embedded := false, tag := "", pkgPath := "", byteOffset := 8 }) (AF_ev rfl tp) Try.underlying108 rfl sz106 rfl) ?_
      refine RW.soft (by exact Wd.yes (x := 17) rfl (AF_ev rfl (up rfl (up rfl (up rfl (up rfl (Eq.trans tp (congrArg Value.bool hg1)))))))) (v := .slice (some ⟨gr, 0, none⟩) vs.length d) (by exact E.load (a := ⟨g, (id - 1).toNat * 2 + 1, none⟩) Try.underlying106 rfl (AF_ev rfl tp) (hst.ocell (.there .here) (flat_get (j := 1) RingM.enc_len hr (rfl)))) ?_
      refine RW.soft (by exact Wd.yes (x := 17) rfl (AF_ev rfl (up rfl (up rfl (up rfl (up rfl (up rfl (Eq.trans tp (congrArg Value.bool hg1))))))))) (v := .int .i64 ((vs.length : Nat) : Int)) (by exact E.lenS (p := (some ⟨gr, 0, none⟩)) (l := vs.length) (c := d) Try.underlying106 (AF_ev rfl tp)) ?_
      refine RW.soft (by exact Wd.yes (x := 17) rfl (AF_ev rfl (up rfl (up rfl (up rfl (up rfl (up rfl (up rfl (Eq.trans tp (congrArg Value.bool hg1)))))))))) (v := .bool (decide (n > ((vs.length : Nat) : Int)))) (by exact E.gtr (k := .i64) (a := n) (b := ((vs.length : Nat) : Int)) (AF_ev rfl (up rfl (up rfl (up rfl (up rfl (up rfl tp)))))) (AF_ev rfl tp)) ?_
      refine RW.soft Wd.a (v := .bool (decide (n > ((vs.length : Nat) : Int)))) (by exact E.pickF (AF_ev rfl (up rfl (up rfl (up rfl (up rfl (up rfl (up rfl (up rfl (Eq.trans tp (congrArg Value.bool hg1)))))))))) (AF_ev rfl tp)) ?_
      refine RW.nil ⟨rfl, rfl, up rfl (up rfl (up rfl (up rfl (up rfl (up rfl (up rfl (up rfl (up rfl (up rfl (up rfl (up rfl (up rfl (up rfl (up rfl hs0)))))))))))))), up rfl (up rfl (up rfl (up rfl (up rfl (up rfl (up rfl (up rfl (up rfl (up rfl (up rfl (up rfl (up rfl (up rfl (up rfl hs1)))))))))))))), up rfl (up rfl (up rfl (up rfl (up rfl (up rfl (up rfl (up rfl (up rfl (up rfl (up rfl (up rfl (up rfl (up rfl (up rfl hs2)))))))))))))), up rfl (up rfl (up rfl (up rfl (up rfl (up rfl (up rfl (up rfl (up rfl (up rfl (up rfl (up rfl (up rfl (up rfl (up rfl hs6)))))))))))))), up rfl (up rfl (up rfl (up rfl (up rfl (up rfl (up rfl (up rfl (up rfl (up rfl (up rfl (up rfl (up rfl (up rfl (up rfl hs7)))))))))))))), (bool_eq (a := decide (n > ((vs.length : Nat) : Int))) tp (by simp only [hg1, Bool.true_and, Bool.false_and, Bool.true_or, Bool.false_or]))⟩
  rintro τ ⟨hs0, hs1, hs2, hs6, hs7, hs25⟩
  refine CW.cond (AF_ev rfl hs25) (fun hc2 => ?_) (fun hc2 => ?_)
  · have hc2_ := hc2
    try simp only [decide_eq_true_eq, decide_eq_false_iff_not, Bool.and_eq_true, Bool.or_eq_true, Bool.and_eq_false_iff, Bool.or_eq_false_iff, Bool.not_eq_true', Bool.not_eq_false', beq_iff_eq, beq_eq_false_iff_ne, bne_iff_ne, bne_eq_false_iff_eq, ne_eq, Int.not_lt, Int.not_le, gt_iff_lt, ge_iff_le] at hc2_
    omega
  · have hc2_ := hc2
    try simp only [decide_eq_true_eq, decide_eq_false_iff_not, Bool.and_eq_true, Bool.or_eq_true, Bool.and_eq_false_iff, Bool.or_eq_false_iff, Bool.not_eq_true', Bool.not_eq_false', beq_iff_eq, beq_eq_false_iff_ne, bne_iff_ne, bne_eq_false_iff_eq, ne_eq, Int.not_lt, Int.not_le, gt_iff_lt, ge_iff_le] at hc2_
    refine CW.skip ?_
    refine Th.n ?_
    refine CW.seq ?_
    refine CW.region ?_
    refine RW.soft Wd.a (v := .pointer (some ⟨g, (id - 1).toNat * 2, none⟩)) (by exact E.move (AF_ev rfl hs7)) ?_
    refine RW.soft Wd.a (v := .pointer (some ⟨g, (id - 1).toNat * 2, none⟩)) (by exact E.nilCheck (a := ⟨g, (id - 1).toNat * 2, none⟩) (AF_ev rfl tp)) ?_
    refine RW.soft Wd.a (v := .pointer (some ⟨g, (id - 1).toNat * 2 + 1, none⟩)) (by exact E.fieldAddr (b := g) (o := (id - 1).toNat * 2) (f := { name := "L", type := 106, offset := 1, embedded := false, tag := "", pkgPath := "", byteOffset := 8 }) (AF_ev rfl tp) Try.underlying108 rfl sz106 rfl) ?_
    refine RW.soft Wd.a (v := .slice (some ⟨gr, 0, none⟩) vs.length d) (by exact E.load (a := ⟨g, (id - 1).toNat * 2 + 1, none⟩) Try.underlying106 rfl (AF_ev rfl tp) (hst.ocell (.there .here) (flat_get (j := 1) RingM.enc_len hr (rfl)))) ?_
    refine RW.soft Wd.a (v := .int .i64 n) (by exact E.move (AF_ev rfl (up rfl (up rfl (up rfl (up rfl hs2)))))) ?_
    refine RW.soft Wd.a (v := .int .i64 (n - 1)) (by exact E.sub (k := .i64) (a := n) (b := 1) (AF_ev rfl tp) rfl (show IntKind.i64.wrap (n - 1) = n - 1 from (by rw [IntWalk.i64_in _ (by omega)]))) ?_
    refine RW.soft Wd.a (v := .pointer (some ⟨gr, (n - 1).toNat * 34, none⟩)) (by exact E.indexAddr (b := gr) (o := 0) (l := vs.length) (c := d) (i := n - 1) Try.underlying106 sz105 (AF_ev rfl (up rfl (up rfl tp))) (AF_ev rfl tp) (by omega) (by omega) (by simp)) ?_
    refine RW.soft Wd.a (v := .pointer (some ⟨gr, (n - 1).toNat * 34, none⟩)) (by exact E.assign (AF_ev rfl tp)) ?_
    refine RW.fin (fun τ => τ 0 = .pointer (some ⟨b, 0, none⟩) ∧ τ 1 = .int .i64 id ∧ τ 2 = .int .i64 n ∧ τ 6 = .pointer (some ⟨gr, (n - 1).toNat * 34, none⟩) ∧ τ 7 = .pointer (some ⟨g, (id - 1).toNat * 2, none⟩) ∧ τ 25 = .bool false) ⟨up rfl (up rfl (up rfl (up rfl (up rfl (up rfl (up rfl (up rfl hs0))))))), up rfl (up rfl (up rfl (up rfl (up rfl (up rfl (up rfl (up rfl hs1))))))), up rfl (up rfl (up rfl (up rfl (up rfl (up rfl (up rfl (up rfl hs2))))))), tp, up rfl (up rfl (up rfl (up rfl (up rfl (up rfl (up rfl (up rfl hs7))))))), up rfl (up rfl (up rfl (up rfl (up rfl (up rfl (up rfl (up rfl (Eq.trans hs25 (congrArg Value.bool hc2)))))))))⟩ ?_
    rintro τ ⟨hs0, hs1, hs2, hs6, hs7, hs25⟩
    refine CW.ret ?_
    refine ret1 (v := .pointer (some ⟨gr, (n - 1).toNat * 34, none⟩)) rfl (by exact (.tmp (AF_ev rfl hs6) .nil)) ?_
    have hst := hst.take (.there .here)
    have hst := hst.take (.there .here)
    exact ⟨rfl, hst⟩
end Go.Proofs.Ytjpjejldinpcnaa
