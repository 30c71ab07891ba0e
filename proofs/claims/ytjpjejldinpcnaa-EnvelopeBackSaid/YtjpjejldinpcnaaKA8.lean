/- The calls of the package keyring, walked through operation by operation. -/
import Derived.Test.YtjpjejldinpcnaaKA7
import Derived.Test.YtjpjejldinpcnaaKA6
import Derived.Test.YtjpjejldinpcnaaKA5
import Derived.Test.YtjpjejldinpcnaaKA4
import Derived.Test.YtjpjejldinpcnaaKA3
namespace Go.Proofs.Ytjpjejldinpcnaa
open Go.RowKit Go.SL Go.K13
attribute [local irreducible] Go.SL.RW Go.SL.CW Go.SL.RD Go.SL.Hd Go.SL.St
set_option linter.unusedVariables false
set_option linter.unusedSimpArgs false

theorem inf108 : (Try.prog.info? 108).map (fun i => (i.zero, i.size, i.bytes)) = some (some (.agg #[.bool false, .slice none 0 0]), 2, 32) := by kernel_rfl
theorem inf105 : (Try.prog.info? 105).map (fun i => (i.zero, i.size, i.bytes)) = some (some (.agg #[.int .u8 0, .int .u8 0, .int .u8 0, .int .u8 0, .int .u8 0, .int .u8 0, .int .u8 0, .int .u8 0, .int .u8 0, .int .u8 0, .int .u8 0, .int .u8 0, .int .u8 0, .int .u8 0, .int .u8 0, .int .u8 0, .int .u8 0, .int .u8 0, .int .u8 0, .int .u8 0, .int .u8 0, .int .u8 0, .int .u8 0, .int .u8 0, .int .u8 0, .int .u8 0, .int .u8 0, .int .u8 0, .int .u8 0, .int .u8 0, .int .u8 0, .int .u8 0, .int .i64 0, .bool false]), 34, 48) := by kernel_rfl
theorem mixed : Try.prog.follows .mixedOrders = true := by kernel_rfl
theorem nm66 : (Try.f66.name == "runtime.NumGoroutine") = false := by kernel_rfl
theorem sz4 : (Try.prog.info? 4).map (·.size) = some 1 := by kernel_rfl
theorem sz34 : (Try.prog.info? 34).map (·.size) = some 32 := by kernel_rfl

theorem is13 {p : Pers} {w : World} {R : List Assn} {X : Option Addr} {n c b : Nat} (id : Int) (hid : -9223372036854775808 ≤ id ∧ id ≤ 9223372036854775807) (hn : n ≤ 8) (hst : St p w (pt b (.cells #[.slice X n c] 56) :: R)) :
    Calls Try.prog 65 #[.pointer (some ⟨b, 0, none⟩), .int .i64 id] w fun e w => e = .returned (.bool ((decide (id ≥ 1)) && (decide (id ≤ ((n : Nat) : Int))))) ∧ St p w (pt b (.cells #[.slice X n c] 56) :: R) := by
  refine enter Try.func65 rfl (by simp) (n := 16) rfl fun τ hτ => ?_
  have hs0 : τ 0 = .pointer (some ⟨b, 0, none⟩) := hτ 0 (by simp)
  have hs1 : τ 1 = .int .i64 id := hτ 1 (by simp)
  clear hτ
  refine CW.seq ?_
  refine CW.region ?_
  refine RW.soft Wd.a (v := .bool false) (by exact E.assign rfl) ?_
  refine RW.fin (fun τ => τ 0 = .pointer (some ⟨b, 0, none⟩) ∧ τ 1 = .int .i64 id ∧ τ 4 = .bool false) ⟨up rfl hs0, up rfl hs1, tp⟩ ?_
  rintro τ ⟨hs0, hs1, hs4⟩
  refine CW.seq ?_
  refine CW.cut (fun τ => τ 0 = .pointer (some ⟨b, 0, none⟩) ∧ τ 1 = .int .i64 id ∧ τ 4 = .bool ((decide (id ≥ 1)) && (decide (id ≤ ((n : Nat) : Int))))) ?_ ?_
  · refine CW.region ?_
    refine RW.soft Wd.a (v := .int .i64 id) (by exact E.move (AF_ev rfl hs1)) ?_
    refine RW.soft Wd.a (v := .bool (decide (id ≥ 1))) (by exact E.geq (k := .i64) (a := id) (b := 1) (AF_ev rfl tp) rfl) ?_
    refine RW.soft Wd.a (v := .bool (decide (id ≥ 1))) (by exact E.move (AF_ev rfl tp)) ?_
    refine Or.elim (Bool.eq_false_or_eq_true (decide (id ≥ 1))) (fun hg1 => ?_) (fun hg1 => ?_)
    · have hg1_ := hg1
      try simp only [decide_eq_true_eq, decide_eq_false_iff_not, Bool.and_eq_true, Bool.or_eq_true, Bool.and_eq_false_iff, Bool.or_eq_false_iff, Bool.not_eq_true', Bool.not_eq_false', beq_iff_eq, beq_eq_false_iff_ne, bne_iff_ne, bne_eq_false_iff_eq, ne_eq, Int.not_lt, Int.not_le, gt_iff_lt, ge_iff_le] at hg1_
      refine RW.soft (by exact Wd.yes (x := 7) rfl (AF_ev rfl (Eq.trans tp (congrArg Value.bool hg1)))) (v := .int .i64 id) (by exact E.move (AF_ev rfl (up rfl (up rfl (up rfl hs1))))) ?_
      refine RW.soft (by exact Wd.yes (x := 7) rfl (AF_ev rfl (up rfl (Eq.trans tp (congrArg Value.bool hg1))))) (v := .pointer (some ⟨b, 0, none⟩)) (by exact E.move (AF_ev rfl (up rfl (up rfl (up rfl (up rfl hs0)))))) ?_
      refine RW.soft (by exact Wd.yes (x := 7) rfl (AF_ev rfl (up rfl (up rfl (Eq.trans tp (congrArg Value.bool hg1)))))) (v := .pointer (some ⟨b, 0, none⟩)) (by exact E.nilCheck (a := ⟨b, 0, none⟩) (AF_ev rfl tp)) ?_
      refine RW.soft (by exact Wd.yes (x := 7) rfl (AF_ev rfl (up rfl (up rfl (up rfl (Eq.trans tp (congrArg Value.bool hg1))))))) (v := .pointer (some ⟨b, 0, none⟩)) (by exact E.fieldAddr (b := b) (o := 0) (f := { name := "L", type := 54, offset := 0, embedded := false, tag := "", pkgPath := "", byteOffset := 0 }) (AF_ev rfl tp) Try.underlying56 rfl sz54 rfl) ?_
      refine RW.soft (by exact Wd.yes (x := 7) rfl (AF_ev rfl (up rfl (up rfl (up rfl (up rfl (Eq.trans tp (congrArg Value.bool hg1)))))))) (v := .slice X n c) (by exact E.load (a := ⟨b, 0, none⟩) Try.underlying54 rfl (AF_ev rfl tp) (hst.cell .here rfl)) ?_
      refine RW.soft (by exact Wd.yes (x := 7) rfl (AF_ev rfl (up rfl (up rfl (up rfl (up rfl (up rfl (Eq.trans tp (congrArg Value.bool hg1))))))))) (v := .int .i64 ((n : Nat) : Int)) (by exact E.lenS (p := X) (l := n) (c := c) Try.underlying54 (AF_ev rfl tp)) ?_
      refine RW.soft (by exact Wd.yes (x := 7) rfl (AF_ev rfl (up rfl (up rfl (up rfl (up rfl (up rfl (up rfl (Eq.trans tp (congrArg Value.bool hg1)))))))))) (v := .bool (decide (id ≤ ((n : Nat) : Int)))) (by exact E.leq (k := .i64) (a := id) (b := ((n : Nat) : Int)) (AF_ev rfl (up rfl (up rfl (up rfl (up rfl (up rfl tp)))))) (AF_ev rfl tp)) ?_
      refine RW.soft Wd.a (v := .bool (decide (id ≤ ((n : Nat) : Int)))) (by exact E.pickT (AF_ev rfl (up rfl (up rfl (up rfl (up rfl (up rfl (up rfl (up rfl (Eq.trans tp (congrArg Value.bool hg1)))))))))) (AF_ev rfl tp)) ?_
      refine RW.soft Wd.a (v := .bool (decide (id ≤ ((n : Nat) : Int)))) (by exact E.assign (AF_ev rfl tp)) ?_
      refine RW.nil ⟨rfl, rfl, up rfl (up rfl (up rfl (up rfl (up rfl (up rfl (up rfl (up rfl (up rfl (up rfl (up rfl (up rfl hs0))))))))))), up rfl (up rfl (up rfl (up rfl (up rfl (up rfl (up rfl (up rfl (up rfl (up rfl (up rfl (up rfl hs1))))))))))), (bool_eq (a := decide (id ≤ ((n : Nat) : Int))) tp (by simp only [hg1, Bool.true_and, Bool.false_and, Bool.true_or, Bool.false_or]))⟩
    · have hg1_ := hg1
      try simp only [decide_eq_true_eq, decide_eq_false_iff_not, Bool.and_eq_true, Bool.or_eq_true, Bool.and_eq_false_iff, Bool.or_eq_false_iff, Bool.not_eq_true', Bool.not_eq_false', beq_iff_eq, beq_eq_false_iff_ne, bne_iff_ne, bne_eq_false_iff_eq, ne_eq, Int.not_lt, Int.not_le, gt_iff_lt, ge_iff_le] at hg1_
      refine RW.pass (by exact Wd.no (x := 7) (b := false) rfl (AF_ev rfl (Eq.trans tp (congrArg Value.bool hg1))) rfl) ?_
      refine RW.pass (by exact Wd.no (x := 7) (b := false) rfl (AF_ev rfl (up rfl (Eq.trans tp (congrArg Value.bool hg1)))) rfl) ?_
      refine RW.pass (by exact Wd.no (x := 7) (b := false) rfl (AF_ev rfl (up rfl (up rfl (Eq.trans tp (congrArg Value.bool hg1))))) rfl) ?_
      refine RW.pass (by exact Wd.no (x := 7) (b := false) rfl (AF_ev rfl (up rfl (up rfl (up rfl (Eq.trans tp (congrArg Value.bool hg1)))))) rfl) ?_
      refine RW.pass (by exact Wd.no (x := 7) (b := false) rfl (AF_ev rfl (up rfl (up rfl (up rfl (up rfl (Eq.trans tp (congrArg Value.bool hg1))))))) rfl) ?_
      refine RW.pass (by exact Wd.no (x := 7) (b := false) rfl (AF_ev rfl (up rfl (up rfl (up rfl (up rfl (up rfl (Eq.trans tp (congrArg Value.bool hg1)))))))) rfl) ?_
      refine RW.pass (by exact Wd.no (x := 7) (b := false) rfl (AF_ev rfl (up rfl (up rfl (up rfl (up rfl (up rfl (up rfl (Eq.trans tp (congrArg Value.bool hg1))))))))) rfl) ?_
      refine RW.soft Wd.a (v := .bool false) (by exact E.pickF (AF_ev rfl (up rfl (up rfl (up rfl (up rfl (up rfl (up rfl (up rfl (Eq.trans tp (congrArg Value.bool hg1)))))))))) rfl) ?_
      refine RW.soft Wd.a (v := .bool false) (by exact E.assign (AF_ev rfl tp)) ?_
      refine RW.nil ⟨rfl, rfl, up rfl (up rfl (up rfl (up rfl (up rfl (up rfl (up rfl (up rfl (up rfl (up rfl (up rfl (up rfl hs0))))))))))), up rfl (up rfl (up rfl (up rfl (up rfl (up rfl (up rfl (up rfl (up rfl (up rfl (up rfl (up rfl hs1))))))))))), (bool_eq (a := false) tp (by simp only [hg1, Bool.true_and, Bool.false_and, Bool.true_or, Bool.false_or]))⟩
  rintro τ ⟨hs0, hs1, hs4⟩
  refine CW.ret ?_
  refine ret1 (v := .bool ((decide (id ≥ 1)) && (decide (id ≤ ((n : Nat) : Int))))) rfl (by exact (.tmp (AF_ev rfl hs4) .nil)) ?_
  exact ⟨rfl, hst⟩

theorem is_no {p : Pers} {w : World} {R : List Assn} {X : Option Addr} {n c b : Nat} (id : Int) (hid : -9223372036854775808 ≤ id ∧ id ≤ 9223372036854775807) (hno : id < 1 ∨ id > n) (hn : n ≤ 8) (hst : St p w (pt b (.cells #[.slice X n c] 56) :: R)) :
    Calls Try.prog 65 #[.pointer (some ⟨b, 0, none⟩), .int .i64 id] w fun e w => e = .returned (.bool false) ∧ St p w (pt b (.cells #[.slice X n c] 56) :: R) := by
  have h := is13 id hid hn hst
  have hb : ((decide (id ≥ 1)) && (decide (id ≤ ((n : Nat) : Int)))) = false := by rw [Bool.and_eq_false_iff, decide_eq_false_iff_not, decide_eq_false_iff_not]; omega
  rw [hb] at h; exact h
theorem is_yes {p : Pers} {w : World} {R : List Assn} {X : Option Addr} {n c b : Nat} (id : Int) (hid : -9223372036854775808 ≤ id ∧ id ≤ 9223372036854775807) (hi : 1 ≤ id ∧ id ≤ n) (hn : n ≤ 8) (hst : St p w (pt b (.cells #[.slice X n c] 56) :: R)) :
    Calls Try.prog 65 #[.pointer (some ⟨b, 0, none⟩), .int .i64 id] w fun e w => e = .returned (.bool true) ∧ St p w (pt b (.cells #[.slice X n c] 56) :: R) := by
  have h := is13 id hid hn hst
  have hb : ((decide (id ≥ 1)) && (decide (id ≤ ((n : Nat) : Int)))) = true := by rw [Bool.and_eq_true_iff, decide_eq_true_iff, decide_eq_true_iff]; omega
  rw [hb] at h; exact h

theorem prog_Create {p : Pers} {w : World} {R : List Assn} {ks : RK} {b : Nat} (m : K32) (hst : St p w (KeysV 103 b ks :: R)) :
    Calls Try.prog 17 #[.pointer (some ⟨b, 0, none⟩), .agg (bk m).toArray] w fun e w => e = .returned (.tuple #[.int .i64 (kCreate ks m).1, .int .i64 (kCreate ks m).2.1]) ∧ St p w (KeysV 103 b (kCreate ks m).2.2 :: R) := by
  obtain ⟨rs, X, c, R, hko, hc, hm, hX, hst, same, more⟩ := keysWide hst
  have hn8 := hko.1
  refine enter Try.func17 rfl (by simp) (n := 30) rfl fun τ hτ => ?_
  have hs0 : τ 0 = .pointer (some ⟨b, 0, none⟩) := hτ 0 (by simp)
  have hs1 : τ 1 = .agg (bk m).toArray := hτ 1 (by simp)
  clear hτ
  refine CW.seq ?_
  refine CW.region ?_
  refine RW.hard Wd.a ?_
  refine H.box (v := .agg (bk m).toArray) (AF_ev rfl hs1) hst fun b1 w hst => ?_
  refine RW.soft Wd.a (v := .int .i64 0) (by exact E.assign rfl) ?_
  refine RW.soft Wd.a (v := .int .i64 0) (by exact E.assign rfl) ?_
  refine RW.fin (fun τ => τ 0 = .pointer (some ⟨b, 0, none⟩) ∧ τ 1 = .agg (bk m).toArray ∧ τ 3 = .pointer (some ⟨b1, 0, none⟩) ∧ τ 4 = .int .i64 0 ∧ τ 5 = .int .i64 0) ⟨up rfl (up rfl (up rfl hs0)), up rfl (up rfl (up rfl hs1)), up rfl (up rfl tp), up rfl tp, tp⟩ ?_
  rintro τ ⟨hs0, hs1, hs3, hs4, hs5⟩
  refine CW.seq ?_
  refine CW.seq ?_
  refine CW.region ?_
  refine RW.soft Wd.a (v := .pointer (some ⟨b, 0, none⟩)) (by exact E.move (AF_ev rfl hs0)) ?_
  refine RW.soft Wd.a (v := .pointer (some ⟨b, 0, none⟩)) (by exact E.nilCheck (a := ⟨b, 0, none⟩) (AF_ev rfl tp)) ?_
  refine RW.soft Wd.a (v := .pointer (some ⟨b, 0, none⟩)) (by exact E.fieldAddr (b := b) (o := 0) (f := { name := "l", type := 54, offset := 0, embedded := false, tag := "", pkgPath := "strongroom/keyring", byteOffset := 0 }) (AF_ev rfl tp) Try.underlying103 rfl sz54 rfl) ?_
  refine RW.soft Wd.a (v := .slice X ks.length c) (by exact E.load (a := ⟨b, 0, none⟩) Try.underlying54 rfl (AF_ev rfl tp) (hst.cell (.there .here) rfl)) ?_
  refine RW.soft Wd.a (v := .int .i64 ((ks.length : Nat) : Int)) (by exact E.lenS (p := X) (l := ks.length) (c := c) Try.underlying54 (AF_ev rfl tp)) ?_
  refine RW.soft Wd.a (v := .bool (decide (((ks.length : Nat) : Int) ≥ 8))) (by exact E.geq (k := .i64) (a := ((ks.length : Nat) : Int)) (b := 8) (AF_ev rfl tp) rfl) ?_
  refine RW.fin (fun τ => τ 0 = .pointer (some ⟨b, 0, none⟩) ∧ τ 1 = .agg (bk m).toArray ∧ τ 3 = .pointer (some ⟨b1, 0, none⟩) ∧ τ 4 = .int .i64 0 ∧ τ 5 = .int .i64 0 ∧ τ 11 = .bool (decide (((ks.length : Nat) : Int) ≥ 8))) ⟨up rfl (up rfl (up rfl (up rfl (up rfl (up rfl hs0))))), up rfl (up rfl (up rfl (up rfl (up rfl (up rfl hs1))))), up rfl (up rfl (up rfl (up rfl (up rfl (up rfl hs3))))), up rfl (up rfl (up rfl (up rfl (up rfl (up rfl hs4))))), up rfl (up rfl (up rfl (up rfl (up rfl (up rfl hs5))))), tp⟩ ?_
  rintro τ ⟨hs0, hs1, hs3, hs4, hs5, hs11⟩
  refine CW.cond (AF_ev rfl hs11) (fun hc2 => ?_) (fun hc2 => ?_)
  · have hc2_ := hc2
    try simp only [decide_eq_true_eq, decide_eq_false_iff_not, Bool.and_eq_true, Bool.or_eq_true, Bool.and_eq_false_iff, Bool.or_eq_false_iff, Bool.not_eq_true', Bool.not_eq_false', beq_iff_eq, beq_eq_false_iff_ne, bne_iff_ne, bne_eq_false_iff_eq, ne_eq, Int.not_lt, Int.not_le, gt_iff_lt, ge_iff_le] at hc2_
    refine CW.seq ?_
    refine CW.region ?_
    refine RW.soft Wd.a (v := .int .i64 0) (by exact E.assign rfl) ?_
    refine RW.soft Wd.a (v := .int .i64 134) (by exact E.assign rfl) ?_
    refine RW.fin (fun τ => τ 0 = .pointer (some ⟨b, 0, none⟩) ∧ τ 1 = .agg (bk m).toArray ∧ τ 3 = .pointer (some ⟨b1, 0, none⟩) ∧ τ 4 = .int .i64 0 ∧ τ 5 = .int .i64 134 ∧ τ 11 = .bool true) ⟨up rfl (up rfl hs0), up rfl (up rfl hs1), up rfl (up rfl hs3), up rfl tp, tp, up rfl (up rfl (Eq.trans hs11 (congrArg Value.bool hc2)))⟩ ?_
    rintro τ ⟨hs0, hs1, hs3, hs4, hs5, hs11⟩
    refine CW.ret ?_
    refine Th.r ?_
    refine retN (rs := [.tmp 4, .tmp 5]) (vs := [.int .i64 0, .int .i64 134]) rfl (by exact (.tmp (AF_ev rfl hs4) (.tmp (AF_ev rfl hs5) .nil))) (by simp) ?_
    have hst := hst.take (.there (.there .here))
    have hst := hst.take (.there (.there .here))
    have hst := (hst.take (.there (.there .here))).drop
    unfold kCreate; rw [if_pos (by omega)]; exact ⟨rfl, same hst⟩
  · have hc2_ := hc2
    try simp only [decide_eq_true_eq, decide_eq_false_iff_not, Bool.and_eq_true, Bool.or_eq_true, Bool.and_eq_false_iff, Bool.or_eq_false_iff, Bool.not_eq_true', Bool.not_eq_false', beq_iff_eq, beq_eq_false_iff_ne, bne_iff_ne, bne_eq_false_iff_eq, ne_eq, Int.not_lt, Int.not_le, gt_iff_lt, ge_iff_le] at hc2_
    refine CW.skip ?_
    refine Th.n ?_
    refine CW.seq ?_
    refine CW.regionD [0, 1, 2, 3, 4, 5, 6] (fun w => w.cell? ⟨b, 0, none⟩ = some (.slice X ks.length c) ∧ (∀ j_ v_, (bk m : List Value)[j_]? = some v_ → w.cell? ⟨b1, 0 + j_, none⟩ = some v_)) mixed ?_
    have hst := hst.drew
    generalize w.drew = w at hst ⊢
    have hS : w.cell? ⟨b, 0, none⟩ = some (.slice X ks.length c) ∧ (∀ j_ v_, (bk m : List Value)[j_]? = some v_ → w.cell? ⟨b1, 0 + j_, none⟩ = some v_) := ⟨hst.cell (.there .here) rfl, (St.cellsOf hst .here (fun j v hv => by rw [Nat.zero_add]; exact hv))⟩
    refine RD.take 0 rfl (by kernel_rfl) Wd.a (v := .pointer (some ⟨b, 0, none⟩)) (fun w hS => by exact E.move (AF_ev rfl hs0)) hS ?_
    refine RD.take 1 rfl (by kernel_rfl) Wd.a (v := .pointer (some ⟨b, 0, none⟩)) (fun w hS => by exact E.move (AF_ev rfl (up rfl hs0))) hS ?_
    refine RD.take 2 rfl (by kernel_rfl) Wd.a (v := .pointer (some ⟨b, 0, none⟩)) (fun w hS => by exact E.nilCheck (a := ⟨b, 0, none⟩) (AF_ev rfl tp)) hS ?_
    refine RD.take 3 rfl (by kernel_rfl) Wd.a (v := .pointer (some ⟨b, 0, none⟩)) (fun w hS => by exact E.fieldAddr (b := b) (o := 0) (f := { name := "l", type := 54, offset := 0, embedded := false, tag := "", pkgPath := "strongroom/keyring", byteOffset := 0 }) (AF_ev rfl tp) Try.underlying103 rfl sz54 rfl) hS ?_
    refine RD.take 4 rfl (by kernel_rfl) Wd.a (v := .slice X ks.length c) (fun w hS => by exact E.load (a := ⟨b, 0, none⟩) Try.underlying54 rfl (AF_ev rfl tp) hS.1) hS ?_
    refine RD.take 5 rfl (by kernel_rfl) Wd.a (v := .agg (bk m).toArray) (fun w hS => by exact E.loadN (b := b1) (o := 0) (cs := bk m) Try.underlying34 rfl sz34 (AF_ev rfl (up rfl (up rfl (up rfl (up rfl (up rfl hs3)))))) (bk_len _) hS.2) hS ?_
    refine RD.take 6 rfl (by kernel_rfl) Wd.a (v := .agg (Ver.enc (Ver.mk m 0 false)).toArray) (fun w hS => by exact E.build (vs := #[(0, .agg (bk m).toArray)]) (bld1 (AF_ev rfl tp)) (build105 _ _)) hS ?_
    refine RD.only 7 rfl (by kernel_rfl) Wd.a ?_
    refine H.buildSlice (e := 105) (cs := (Ver.enc (Ver.mk m 0 false)).toArray) (vs := #[(0, .agg (Ver.enc (Ver.mk m 0 false)).toArray)]) (bld1 (AF_ev rfl tp)) (fun w => bslice106 _ w) hst fun b3 w hst => ?_
    have hst := ownVer hst
    have hS : w.cell? ⟨b, 0, none⟩ = some (.slice X ks.length c) ∧ (∀ j_ v_, (bk m : List Value)[j_]? = some v_ → w.cell? ⟨b1, 0 + j_, none⟩ = some v_) := ⟨hst.cell (.there (.there .here)) rfl, (St.cellsOf hst (.there .here) (fun j v hv => by rw [Nat.zero_add]; exact hv))⟩
    refine ⟨fun _ => hS, ?_⟩
    refine RD.only 8 rfl (by kernel_rfl) Wd.a (Hd.value (v := .agg #[.bool false, .slice (some ⟨b3, 0, none⟩) 1 1]) (by exact E.build (vs := #[(1, .slice (some ⟨b3, 0, none⟩) 1 1)]) (bld1 (AF_ev rfl tp)) (by kernel_rfl)) ⟨fun _ => hS, ?_⟩)
    refine RD.only 9 rfl (by kernel_rfl) Wd.a ?_
    refine H.buildSlice (e := 108) (cs := #[.bool false, .slice (some ⟨b3, 0, none⟩) 1 1]) (vs := #[(0, .agg #[.bool false, .slice (some ⟨b3, 0, none⟩) 1 1])]) (bld1 (AF_ev rfl tp)) (fun _ => by kernel_rfl) hst fun b4 w hst => ?_
    have hS : w.cell? ⟨b, 0, none⟩ = some (.slice X ks.length c) ∧ (∀ j_ v_, (bk m : List Value)[j_]? = some v_ → w.cell? ⟨b1, 0 + j_, none⟩ = some v_) := ⟨hst.cell (.there (.there (.there .here))) rfl, (St.cellsOf hst (.there (.there .here)) (fun j v hv => by rw [Nat.zero_add]; exact hv))⟩
    refine ⟨fun _ => hS, ?_⟩
    refine RD.only 10 rfl (by kernel_rfl) Wd.a ?_
    refine H.append2 (n2 := ks.length + 1) (xs2 := (rs.flatMap RingM.enc) ++ ([.bool false, .slice (some ⟨b3, 0, none⟩) 1 1])) (by first | rfl | simp) (by first | rfl | simp) (m := 1) (news := [.bool false, .slice (some ⟨b3, 0, none⟩) 1 1]) (s0 := .slice X ks.length c) (x0 := .slice (some ⟨b4, 0, none⟩) 1 1) Try.underlying54 inf108 rfl (AF_ev rfl (up rfl (up rfl (up rfl (up rfl (up rfl tp)))))) (AF_ev rfl tp) hst (.there (.there (.there (.there .here)))) ⟨rfl, _, _, rfl, by omega, .inr ⟨_, 0, rfl, hst.cellsIn .here rfl⟩⟩ (by simp [Value.oneCell']) (by omega) (by simp only [maxLen]; omega) ?_
    intro vX7 w hnilX7 hst
    obtain ⟨X7, c8, rfl, hcX7, hmX7, hlX7, hbX7⟩ := hst.shape
    have hS : w.cell? ⟨b, 0, none⟩ = some (.slice X ks.length c) ∧ (∀ j_ v_, (bk m : List Value)[j_]? = some v_ → w.cell? ⟨b1, 0 + j_, none⟩ = some v_) := ⟨hst.cell (.there (.there (.there (.there .here)))) rfl, (St.cellsOf hst (.there (.there (.there .here))) (fun j v hv => by rw [Nat.zero_add]; exact hv))⟩
    refine ⟨fun _ => hS, ?_⟩
    refine RD.only 11 rfl (by kernel_rfl) Wd.a (Hd.value (v := .pointer (some ⟨b, 0, none⟩)) (by exact E.nilCheck (a := ⟨b, 0, none⟩) (AF_ev rfl (up rfl (up rfl (up rfl (up rfl (up rfl (up rfl (up rfl (up rfl (up rfl (up rfl tp)))))))))))) ⟨fun h => Bool.noConfusion ((show needs _ _ _ = false by kernel_rfl).symm.trans h), ?_⟩)
    refine RD.only 12 rfl (by kernel_rfl) Wd.a (Hd.value (v := .pointer (some ⟨b, 0, none⟩)) (by exact E.fieldAddr (b := b) (o := 0) (f := { name := "l", type := 54, offset := 0, embedded := false, tag := "", pkgPath := "strongroom/keyring", byteOffset := 0 }) (AF_ev rfl tp) Try.underlying103 rfl sz54 rfl) ⟨fun h => Bool.noConfusion ((show needs _ _ _ = false by kernel_rfl).symm.trans h), ?_⟩)
    refine RD.only 13 rfl (by kernel_rfl) Wd.a ?_
    refine H.store (b := b) (o := 0) (v := .slice X7 (ks.length + 1) c8) (c' := #[.slice X7 (ks.length + 1) c8]) (AF_ev rfl tp) (AF_ev rfl (up rfl (up rfl tp))) hst (.there (.there (.there (.there .here)))) sz54 (by simp [Value.cells]) (by simp [Value.cells, Value.oneCell']) rfl fun w hst => ?_
    refine ⟨fun h => Bool.noConfusion ((show needs _ _ _ = false by kernel_rfl).symm.trans h), ?_⟩
    refine RD.fin (by kernel_rfl) (fun τ => τ 0 = .pointer (some ⟨b, 0, none⟩) ∧ τ 1 = .agg (bk m).toArray ∧ τ 3 = .pointer (some ⟨b1, 0, none⟩) ∧ τ 4 = .int .i64 0 ∧ τ 5 = .int .i64 0 ∧ τ 11 = .bool false) ⟨u0 (up rfl (up rfl (up rfl (up rfl (up rfl (up rfl (up rfl (up rfl (up rfl (up rfl (up rfl (up rfl (up rfl hs0))))))))))))), u0 (up rfl (up rfl (up rfl (up rfl (up rfl (up rfl (up rfl (up rfl (up rfl (up rfl (up rfl (up rfl (up rfl hs1))))))))))))), u0 (up rfl (up rfl (up rfl (up rfl (up rfl (up rfl (up rfl (up rfl (up rfl (up rfl (up rfl (up rfl (up rfl hs3))))))))))))), u0 (up rfl (up rfl (up rfl (up rfl (up rfl (up rfl (up rfl (up rfl (up rfl (up rfl (up rfl (up rfl (up rfl hs4))))))))))))), u0 (up rfl (up rfl (up rfl (up rfl (up rfl (up rfl (up rfl (up rfl (up rfl (up rfl (up rfl (up rfl (up rfl hs5))))))))))))), u0 (up rfl (up rfl (up rfl (up rfl (up rfl (up rfl (up rfl (up rfl (up rfl (up rfl (up rfl (up rfl (up rfl (Eq.trans hs11 (congrArg Value.bool hc2)))))))))))))))⟩ ?_
    rintro τ ⟨hs0, hs1, hs3, hs4, hs5, hs11⟩
    refine CW.seq ?_
    refine CW.region ?_
    refine RW.soft Wd.a (v := .pointer (some ⟨b, 0, none⟩)) (by exact E.move (AF_ev rfl hs0)) ?_
    refine RW.soft Wd.a (v := .pointer (some ⟨b, 0, none⟩)) (by exact E.nilCheck (a := ⟨b, 0, none⟩) (AF_ev rfl tp)) ?_
    refine RW.soft Wd.a (v := .pointer (some ⟨b, 0, none⟩)) (by exact E.fieldAddr (b := b) (o := 0) (f := { name := "l", type := 54, offset := 0, embedded := false, tag := "", pkgPath := "strongroom/keyring", byteOffset := 0 }) (AF_ev rfl tp) Try.underlying103 rfl sz54 rfl) ?_
    refine RW.soft Wd.a (v := .slice X7 (ks.length + 1) c8) (by exact E.load (a := ⟨b, 0, none⟩) Try.underlying54 rfl (AF_ev rfl tp) (hst.cell (.there (.there (.there (.there .here)))) rfl)) ?_
    refine RW.soft Wd.a (v := .int .i64 ((ks.length + 1 : Nat) : Int)) (by exact E.lenS (p := X7) (l := ks.length + 1) (c := c8) Try.underlying54 (AF_ev rfl tp)) ?_
    refine RW.soft Wd.a (v := .int .i64 ((ks.length + 1 : Nat) : Int)) (by exact E.assign (AF_ev rfl tp)) ?_
    refine RW.soft Wd.a (v := .int .i64 0) (by exact E.assign rfl) ?_
    refine RW.fin (fun τ => τ 0 = .pointer (some ⟨b, 0, none⟩) ∧ τ 1 = .agg (bk m).toArray ∧ τ 3 = .pointer (some ⟨b1, 0, none⟩) ∧ τ 4 = .int .i64 ((ks.length + 1 : Nat) : Int) ∧ τ 5 = .int .i64 0 ∧ τ 11 = .bool false) ⟨up rfl (up rfl (up rfl (up rfl (up rfl (up rfl (up rfl hs0)))))), up rfl (up rfl (up rfl (up rfl (up rfl (up rfl (up rfl hs1)))))), up rfl (up rfl (up rfl (up rfl (up rfl (up rfl (up rfl hs3)))))), up rfl tp, tp, up rfl (up rfl (up rfl (up rfl (up rfl (up rfl (up rfl hs11))))))⟩ ?_
    rintro τ ⟨hs0, hs1, hs3, hs4, hs5, hs11⟩
    refine CW.ret ?_
    refine retN (rs := [.tmp 4, .tmp 5]) (vs := [.int .i64 ((ks.length + 1 : Nat) : Int), .int .i64 0]) rfl (by exact (.tmp (AF_ev rfl hs4) (.tmp (AF_ev rfl hs5) .nil))) (by simp) ?_
    have hst := hst.take (.there (.there .here))
    have hst := hst.take (.there .here)
    have hst := hst.take (.there (.there (.there (.there .here))))
    have hst := (hst.take (.there (.there (.there .here)))).drop
    have hst := (hst.take (.there (.there (.there .here)))).drop
    unfold kCreate; rw [if_neg (by omega)]; exact ⟨by simp, more (hko.more (by omega) (ROk.one (x := Ver.mk m 0 false) (show (0 : Int) ≤ 0 ∧ (0 : Int) ≤ 16 from by decide))) hst⟩

theorem prog_Rotate_no {p : Pers} {w : World} {R : List Assn} {ks : RK} {b : Nat} (id : Int) (hid : -9223372036854775808 ≤ id ∧ id ≤ 9223372036854775807) (m : K32) (hk : ring ks id = none) (hst : St p w (KeysV 103 b ks :: R)) :
    Calls Try.prog 21 #[.pointer (some ⟨b, 0, none⟩), .int .i64 id, .agg (bk m).toArray] w fun e w => e = .returned (.tuple #[.int .i64 (kRotate ks id m).1, .int .i64 (kRotate ks id m).2.1]) ∧ St p w (KeysV 103 b (kRotate ks id m).2.2 :: R) := by
  obtain ⟨hko, X, c, hc, hm, hX, hst⟩ := keysApart hst
  have hn8 := hko.1
  have hno := ring_none hk
  have hmod : kRotate ks id m = (0, 130, ks) := by simp only [kRotate, hk]
  refine enter Try.func21 rfl (by simp) (n := 38) rfl fun τ hτ => ?_
  have hs0 : τ 0 = .pointer (some ⟨b, 0, none⟩) := hτ 0 (by simp)
  have hs1 : τ 1 = .int .i64 id := hτ 1 (by simp)
  have hs2 : τ 2 = .agg (bk m).toArray := hτ 2 (by simp)
  clear hτ
  refine CW.seq ?_
  refine CW.region ?_
  refine RW.hard Wd.a ?_
  refine H.box (v := .agg (bk m).toArray) (AF_ev rfl hs2) hst fun b1 w hst => ?_
  refine RW.soft Wd.a (v := .int .i64 0) (by exact E.assign rfl) ?_
  refine RW.soft Wd.a (v := .int .i64 0) (by exact E.assign rfl) ?_
  refine RW.fin (fun τ => τ 0 = .pointer (some ⟨b, 0, none⟩) ∧ τ 1 = .int .i64 id ∧ τ 2 = .agg (bk m).toArray ∧ τ 5 = .pointer (some ⟨b1, 0, none⟩) ∧ τ 6 = .int .i64 0 ∧ τ 7 = .int .i64 0) ⟨up rfl (up rfl (up rfl hs0)), up rfl (up rfl (up rfl hs1)), up rfl (up rfl (up rfl hs2)), up rfl (up rfl tp), up rfl tp, tp⟩ ?_
  rintro τ ⟨hs0, hs1, hs2, hs5, hs6, hs7⟩
  refine CW.seq ?_
  refine CW.region ?_
  refine RW.soft Wd.a (v := .pointer (some ⟨b, 0, none⟩)) (by exact E.move (AF_ev rfl hs0)) ?_
  refine RW.soft Wd.a (v := .int .i64 id) (by exact E.move (AF_ev rfl (up rfl hs1))) ?_
  have hst := hst.take (.there .here)
  refine RW.hard Wd.a ?_
  refine H.call0 Try.func62 nm62 rfl (map2 (AF_ev rfl (up rfl tp)) (AF_ev rfl tp)) (Calls.mono (key_no id hid hno hn8 hst) ?_)
  rintro _ w ⟨rfl, hst⟩
  refine ⟨_, rfl, ?_⟩
  show RW _ _ _ _ _ _ _
  refine RW.soft Wd.a (v := .pointer none) (by exact E.assign (AF_ev rfl tp)) ?_
  refine RW.fin (fun τ => τ 0 = .pointer (some ⟨b, 0, none⟩) ∧ τ 1 = .int .i64 id ∧ τ 2 = .agg (bk m).toArray ∧ τ 5 = .pointer (some ⟨b1, 0, none⟩) ∧ τ 6 = .int .i64 0 ∧ τ 7 = .int .i64 0 ∧ τ 8 = .pointer none) ⟨up rfl (up rfl (up rfl (up rfl hs0))), up rfl (up rfl (up rfl (up rfl hs1))), up rfl (up rfl (up rfl (up rfl hs2))), up rfl (up rfl (up rfl (up rfl hs5))), up rfl (up rfl (up rfl (up rfl hs6))), up rfl (up rfl (up rfl (up rfl hs7))), tp⟩ ?_
  rintro τ ⟨hs0, hs1, hs2, hs5, hs6, hs7, hs8⟩
  refine CW.seq ?_
  refine CW.block ?_
  refine CW.seq ?_
  refine CW.region ?_
  refine RW.soft Wd.a (v := .pointer none) (by exact E.move (AF_ev rfl hs8)) ?_
  refine RW.soft Wd.a (v := .bool true) (by exact E.eqlP (p := none) Try.underlying114 (AF_ev rfl tp) rfl) ?_
  refine RW.soft Wd.a (v := .bool true) (by exact E.assign (AF_ev rfl tp)) ?_
  refine RW.fin (fun τ => τ 0 = .pointer (some ⟨b, 0, none⟩) ∧ τ 1 = .int .i64 id ∧ τ 2 = .agg (bk m).toArray ∧ τ 5 = .pointer (some ⟨b1, 0, none⟩) ∧ τ 6 = .int .i64 0 ∧ τ 7 = .int .i64 0 ∧ τ 8 = .pointer none ∧ τ 12 = .bool true) ⟨up rfl (up rfl (up rfl hs0)), up rfl (up rfl (up rfl hs1)), up rfl (up rfl (up rfl hs2)), up rfl (up rfl (up rfl hs5)), up rfl (up rfl (up rfl hs6)), up rfl (up rfl (up rfl hs7)), up rfl (up rfl (up rfl hs8)), tp⟩ ?_
  rintro τ ⟨hs0, hs1, hs2, hs5, hs6, hs7, hs8, hs12⟩
  refine CW.condT (AF_ev rfl hs12) ?_
  refine CW.seq ?_
  refine CW.region ?_
  refine RW.soft Wd.a (v := .int .i64 0) (by exact E.assign rfl) ?_
  refine RW.soft Wd.a (v := .int .i64 130) (by exact E.assign rfl) ?_
  refine RW.fin (fun τ => τ 0 = .pointer (some ⟨b, 0, none⟩) ∧ τ 1 = .int .i64 id ∧ τ 2 = .agg (bk m).toArray ∧ τ 5 = .pointer (some ⟨b1, 0, none⟩) ∧ τ 6 = .int .i64 0 ∧ τ 7 = .int .i64 130 ∧ τ 8 = .pointer none ∧ τ 12 = .bool true) ⟨up rfl (up rfl hs0), up rfl (up rfl hs1), up rfl (up rfl hs2), up rfl (up rfl hs5), up rfl tp, tp, up rfl (up rfl hs8), up rfl (up rfl hs12)⟩ ?_
  rintro τ ⟨hs0, hs1, hs2, hs5, hs6, hs7, hs8, hs12⟩
  refine CW.ret ?_
  refine Bl.r ?_
  refine Th.r ?_
  refine retN (rs := [.tmp 6, .tmp 7]) (vs := [.int .i64 0, .int .i64 130]) rfl (by exact (.tmp (AF_ev rfl hs6) (.tmp (AF_ev rfl hs7) .nil))) (by simp) ?_
  have hst := hst.take (.there (.there .here))
  have hst := hst.take (.there .here)
  have hst := (hst.take (.there (.there .here))).drop
  rw [hmod]; exact ⟨rfl, keysMake hko hst⟩

theorem prog_Rotate_yes {p : Pers} {w : World} {R : List Assn} {ks : RK} {b : Nat} {o : Bool} {vs : List Ver} (id : Int) (hid : -9223372036854775808 ≤ id ∧ id ≤ 9223372036854775807) (m : K32) (hk : ring ks id = some (o, vs)) (hst : St p w (KeysV 103 b ks :: R)) :
    Calls Try.prog 21 #[.pointer (some ⟨b, 0, none⟩), .int .i64 id, .agg (bk m).toArray] w fun e w => e = .returned (.tuple #[.int .i64 (kRotate ks id m).1, .int .i64 (kRotate ks id m).2.1]) ∧ St p w (KeysV 103 b (kRotate ks id m).2.2 :: R) := by
  obtain ⟨hid1, hid2, hri⟩ := ring_some hk
  obtain ⟨rs, g, c, gr, d, R, hko, hro, hc, hm, hd, hdm, hr, hst, same, turn, turnV⟩ := keyOpen hst hri
  have hn8 := hko.1
  have hv4 := hro.2.1
  have hv1 := hro.1
  have hmod : kRotate ks id m = rRotate ks id o vs m := by simp only [kRotate, hk]
  refine enter Try.func21 rfl (by simp) (n := 38) rfl fun τ hτ => ?_
  have hs0 : τ 0 = .pointer (some ⟨b, 0, none⟩) := hτ 0 (by simp)
  have hs1 : τ 1 = .int .i64 id := hτ 1 (by simp)
  have hs2 : τ 2 = .agg (bk m).toArray := hτ 2 (by simp)
  clear hτ
  refine CW.seq ?_
  refine CW.region ?_
  refine RW.hard Wd.a ?_
  refine H.box (v := .agg (bk m).toArray) (AF_ev rfl hs2) hst fun b1 w hst => ?_
  refine RW.soft Wd.a (v := .int .i64 0) (by exact E.assign rfl) ?_
  refine RW.soft Wd.a (v := .int .i64 0) (by exact E.assign rfl) ?_
  refine RW.fin (fun τ => τ 0 = .pointer (some ⟨b, 0, none⟩) ∧ τ 1 = .int .i64 id ∧ τ 2 = .agg (bk m).toArray ∧ τ 5 = .pointer (some ⟨b1, 0, none⟩) ∧ τ 6 = .int .i64 0 ∧ τ 7 = .int .i64 0) ⟨up rfl (up rfl (up rfl hs0)), up rfl (up rfl (up rfl hs1)), up rfl (up rfl (up rfl hs2)), up rfl (up rfl tp), up rfl tp, tp⟩ ?_
  rintro τ ⟨hs0, hs1, hs2, hs5, hs6, hs7⟩
  refine CW.seq ?_
  refine CW.region ?_
  refine RW.soft Wd.a (v := .pointer (some ⟨b, 0, none⟩)) (by exact E.move (AF_ev rfl hs0)) ?_
  refine RW.soft Wd.a (v := .int .i64 id) (by exact E.move (AF_ev rfl (up rfl hs1))) ?_
  have hst := hst.take (.there .here)
  refine RW.hard Wd.a ?_
  refine H.call0 Try.func62 nm62 rfl (map2 (AF_ev rfl (up rfl tp)) (AF_ev rfl tp)) (Calls.mono (key_yes id ⟨hid1, hid2⟩ hn8 hst) ?_)
  rintro _ w ⟨rfl, hst⟩
  refine ⟨_, rfl, ?_⟩
  show RW _ _ _ _ _ _ _
  refine RW.soft Wd.a (v := .pointer (some ⟨g, (id - 1).toNat * 2, none⟩)) (by exact E.assign (AF_ev rfl tp)) ?_
  refine RW.fin (fun τ => τ 0 = .pointer (some ⟨b, 0, none⟩) ∧ τ 1 = .int .i64 id ∧ τ 2 = .agg (bk m).toArray ∧ τ 5 = .pointer (some ⟨b1, 0, none⟩) ∧ τ 6 = .int .i64 0 ∧ τ 7 = .int .i64 0 ∧ τ 8 = .pointer (some ⟨g, (id - 1).toNat * 2, none⟩)) ⟨up rfl (up rfl (up rfl (up rfl hs0))), up rfl (up rfl (up rfl (up rfl hs1))), up rfl (up rfl (up rfl (up rfl hs2))), up rfl (up rfl (up rfl (up rfl hs5))), up rfl (up rfl (up rfl (up rfl hs6))), up rfl (up rfl (up rfl (up rfl hs7))), tp⟩ ?_
  rintro τ ⟨hs0, hs1, hs2, hs5, hs6, hs7, hs8⟩
  refine CW.seq ?_
  refine CW.block ?_
  refine CW.seq ?_
  refine CW.region ?_
  refine RW.soft Wd.a (v := .pointer (some ⟨g, (id - 1).toNat * 2, none⟩)) (by exact E.move (AF_ev rfl hs8)) ?_
  refine RW.soft Wd.a (v := .bool false) (by exact E.eqlP (p := (some ⟨g, (id - 1).toNat * 2, none⟩)) Try.underlying114 (AF_ev rfl tp) rfl) ?_
  refine RW.soft Wd.a (v := .bool false) (by exact E.assign (AF_ev rfl tp)) ?_
  refine RW.fin (fun τ => τ 0 = .pointer (some ⟨b, 0, none⟩) ∧ τ 1 = .int .i64 id ∧ τ 2 = .agg (bk m).toArray ∧ τ 5 = .pointer (some ⟨b1, 0, none⟩) ∧ τ 6 = .int .i64 0 ∧ τ 7 = .int .i64 0 ∧ τ 8 = .pointer (some ⟨g, (id - 1).toNat * 2, none⟩) ∧ τ 12 = .bool false) ⟨up rfl (up rfl (up rfl hs0)), up rfl (up rfl (up rfl hs1)), up rfl (up rfl (up rfl hs2)), up rfl (up rfl (up rfl hs5)), up rfl (up rfl (up rfl hs6)), up rfl (up rfl (up rfl hs7)), up rfl (up rfl (up rfl hs8)), tp⟩ ?_
  rintro τ ⟨hs0, hs1, hs2, hs5, hs6, hs7, hs8, hs12⟩
  refine CW.condF (AF_ev rfl hs12) ?_
  refine CW.seq ?_
  refine CW.region ?_
  refine RW.soft Wd.a (v := .pointer (some ⟨g, (id - 1).toNat * 2, none⟩)) (by exact E.move (AF_ev rfl hs8)) ?_
  refine RW.soft Wd.a (v := .pointer (some ⟨g, (id - 1).toNat * 2, none⟩)) (by exact E.nilCheck (a := ⟨g, (id - 1).toNat * 2, none⟩) (AF_ev rfl tp)) ?_
  refine RW.soft Wd.a (v := .pointer (some ⟨g, (id - 1).toNat * 2 + 1, none⟩)) (by exact E.fieldAddr (b := g) (o := (id - 1).toNat * 2) (f := { name := "L", type := 106, offset := 1, embedded := false, tag := "", pkgPath := "", byteOffset := 8 }) (AF_ev rfl tp) Try.underlying108 rfl sz106 rfl) ?_
  refine RW.soft Wd.a (v := .slice (some ⟨gr, 0, none⟩) vs.length d) (by exact E.load (a := ⟨g, (id - 1).toNat * 2 + 1, none⟩) Try.underlying106 rfl (AF_ev rfl tp) (hst.ocell (.there (.there .here)) (flat_get (j := 1) RingM.enc_len hr (rfl)))) ?_
  refine RW.soft Wd.a (v := .int .i64 ((vs.length : Nat) : Int)) (by exact E.lenS (p := (some ⟨gr, 0, none⟩)) (l := vs.length) (c := d) Try.underlying106 (AF_ev rfl tp)) ?_
  refine RW.soft Wd.a (v := .bool (decide (((vs.length : Nat) : Int) ≥ 4))) (by exact E.geq (k := .i64) (a := ((vs.length : Nat) : Int)) (b := 4) (AF_ev rfl tp) rfl) ?_
  refine RW.soft Wd.a (v := .bool (decide (((vs.length : Nat) : Int) ≥ 4))) (by exact E.assign (AF_ev rfl tp)) ?_
  refine RW.fin (fun τ => τ 0 = .pointer (some ⟨b, 0, none⟩) ∧ τ 1 = .int .i64 id ∧ τ 2 = .agg (bk m).toArray ∧ τ 5 = .pointer (some ⟨b1, 0, none⟩) ∧ τ 6 = .int .i64 0 ∧ τ 7 = .int .i64 0 ∧ τ 8 = .pointer (some ⟨g, (id - 1).toNat * 2, none⟩) ∧ τ 12 = .bool false ∧ τ 15 = .bool (decide (((vs.length : Nat) : Int) ≥ 4))) ⟨up rfl (up rfl (up rfl (up rfl (up rfl (up rfl (up rfl hs0)))))), up rfl (up rfl (up rfl (up rfl (up rfl (up rfl (up rfl hs1)))))), up rfl (up rfl (up rfl (up rfl (up rfl (up rfl (up rfl hs2)))))), up rfl (up rfl (up rfl (up rfl (up rfl (up rfl (up rfl hs5)))))), up rfl (up rfl (up rfl (up rfl (up rfl (up rfl (up rfl hs6)))))), up rfl (up rfl (up rfl (up rfl (up rfl (up rfl (up rfl hs7)))))), up rfl (up rfl (up rfl (up rfl (up rfl (up rfl (up rfl hs8)))))), up rfl (up rfl (up rfl (up rfl (up rfl (up rfl (up rfl hs12)))))), tp⟩ ?_
  rintro τ ⟨hs0, hs1, hs2, hs5, hs6, hs7, hs8, hs12, hs15⟩
  refine CW.cond (AF_ev rfl hs15) (fun hc2 => ?_) (fun hc2 => ?_)
  · have hc2_ := hc2
    try simp only [decide_eq_true_eq, decide_eq_false_iff_not, Bool.and_eq_true, Bool.or_eq_true, Bool.and_eq_false_iff, Bool.or_eq_false_iff, Bool.not_eq_true', Bool.not_eq_false', beq_iff_eq, beq_eq_false_iff_ne, bne_iff_ne, bne_eq_false_iff_eq, ne_eq, Int.not_lt, Int.not_le, gt_iff_lt, ge_iff_le] at hc2_
    refine CW.seq ?_
    refine CW.region ?_
    refine RW.soft Wd.a (v := .int .i64 0) (by exact E.assign rfl) ?_
    refine RW.soft Wd.a (v := .int .i64 134) (by exact E.assign rfl) ?_
    refine RW.fin (fun τ => τ 0 = .pointer (some ⟨b, 0, none⟩) ∧ τ 1 = .int .i64 id ∧ τ 2 = .agg (bk m).toArray ∧ τ 5 = .pointer (some ⟨b1, 0, none⟩) ∧ τ 6 = .int .i64 0 ∧ τ 7 = .int .i64 134 ∧ τ 8 = .pointer (some ⟨g, (id - 1).toNat * 2, none⟩) ∧ τ 12 = .bool false ∧ τ 15 = .bool true) ⟨up rfl (up rfl hs0), up rfl (up rfl hs1), up rfl (up rfl hs2), up rfl (up rfl hs5), up rfl tp, tp, up rfl (up rfl hs8), up rfl (up rfl hs12), up rfl (up rfl (Eq.trans hs15 (congrArg Value.bool hc2)))⟩ ?_
    rintro τ ⟨hs0, hs1, hs2, hs5, hs6, hs7, hs8, hs12, hs15⟩
    refine CW.ret ?_
    refine Bl.r ?_
    refine Th.r ?_
    refine retN (rs := [.tmp 6, .tmp 7]) (vs := [.int .i64 0, .int .i64 134]) rfl (by exact (.tmp (AF_ev rfl hs6) (.tmp (AF_ev rfl hs7) .nil))) (by simp) ?_
    have hst := hst.take (.there (.there (.there .here)))
    have hst := hst.take (.there (.there (.there .here)))
    have hst := hst.take (.there (.there .here))
    have hst := (hst.take (.there (.there (.there .here)))).drop
    rw [hmod]; unfold rRotate; rw [if_pos (by omega)]; exact ⟨rfl, same hst⟩
  · have hc2_ := hc2
    try simp only [decide_eq_true_eq, decide_eq_false_iff_not, Bool.and_eq_true, Bool.or_eq_true, Bool.and_eq_false_iff, Bool.or_eq_false_iff, Bool.not_eq_true', Bool.not_eq_false', beq_iff_eq, beq_eq_false_iff_ne, bne_iff_ne, bne_eq_false_iff_eq, ne_eq, Int.not_lt, Int.not_le, gt_iff_lt, ge_iff_le] at hc2_
    refine CW.skip ?_
    refine Bl.n ?_
    refine Th.n ?_
    refine CW.seq ?_
    refine CW.regionD [0, 1, 2, 3, 4, 5, 6] (fun w => w.cell? ⟨g, (id - 1).toNat * 2 + 1, none⟩ = some (.slice (some ⟨gr, 0, none⟩) vs.length d) ∧ (∀ j_ v_, (bk m : List Value)[j_]? = some v_ → w.cell? ⟨b1, 0 + j_, none⟩ = some v_)) mixed ?_
    have hst := hst.drew
    generalize w.drew = w at hst ⊢
    have hS : w.cell? ⟨g, (id - 1).toNat * 2 + 1, none⟩ = some (.slice (some ⟨gr, 0, none⟩) vs.length d) ∧ (∀ j_ v_, (bk m : List Value)[j_]? = some v_ → w.cell? ⟨b1, 0 + j_, none⟩ = some v_) := ⟨(hst.ocell (.there (.there .here)) (flat_get (j := 1) RingM.enc_len hr (rfl))), (St.cellsOf hst (.there .here) (fun j v hv => by rw [Nat.zero_add]; exact hv))⟩
    refine RD.take 0 rfl (by kernel_rfl) Wd.a (v := .pointer (some ⟨g, (id - 1).toNat * 2, none⟩)) (fun w hS => by exact E.move (AF_ev rfl hs8)) hS ?_
    refine RD.take 1 rfl (by kernel_rfl) Wd.a (v := .pointer (some ⟨g, (id - 1).toNat * 2, none⟩)) (fun w hS => by exact E.move (AF_ev rfl (up rfl hs8))) hS ?_
    refine RD.take 2 rfl (by kernel_rfl) Wd.a (v := .pointer (some ⟨g, (id - 1).toNat * 2, none⟩)) (fun w hS => by exact E.nilCheck (a := ⟨g, (id - 1).toNat * 2, none⟩) (AF_ev rfl tp)) hS ?_
    refine RD.take 3 rfl (by kernel_rfl) Wd.a (v := .pointer (some ⟨g, (id - 1).toNat * 2 + 1, none⟩)) (fun w hS => by exact E.fieldAddr (b := g) (o := (id - 1).toNat * 2) (f := { name := "L", type := 106, offset := 1, embedded := false, tag := "", pkgPath := "", byteOffset := 8 }) (AF_ev rfl tp) Try.underlying108 rfl sz106 rfl) hS ?_
    refine RD.take 4 rfl (by kernel_rfl) Wd.a (v := .slice (some ⟨gr, 0, none⟩) vs.length d) (fun w hS => by exact E.load (a := ⟨g, (id - 1).toNat * 2 + 1, none⟩) Try.underlying106 rfl (AF_ev rfl tp) hS.1) hS ?_
    refine RD.take 5 rfl (by kernel_rfl) Wd.a (v := .agg (bk m).toArray) (fun w hS => by exact E.loadN (b := b1) (o := 0) (cs := bk m) Try.underlying34 rfl sz34 (AF_ev rfl (up rfl (up rfl (up rfl (up rfl (up rfl hs5)))))) (bk_len _) hS.2) hS ?_
    refine RD.take 6 rfl (by kernel_rfl) Wd.a (v := .agg (Ver.enc (Ver.mk m 0 false)).toArray) (fun w hS => by exact E.build (vs := #[(0, .agg (bk m).toArray)]) (bld1 (AF_ev rfl tp)) (build105 _ _)) hS ?_
    refine RD.only 7 rfl (by kernel_rfl) Wd.a ?_
    refine H.buildSlice (e := 105) (cs := (Ver.enc (Ver.mk m 0 false)).toArray) (vs := #[(0, .agg (Ver.enc (Ver.mk m 0 false)).toArray)]) (bld1 (AF_ev rfl tp)) (fun w => bslice106 _ w) hst fun b3 w hst => ?_
    have hst := ownVer hst
    have hS : w.cell? ⟨g, (id - 1).toNat * 2 + 1, none⟩ = some (.slice (some ⟨gr, 0, none⟩) vs.length d) ∧ (∀ j_ v_, (bk m : List Value)[j_]? = some v_ → w.cell? ⟨b1, 0 + j_, none⟩ = some v_) := ⟨(hst.ocell (.there (.there (.there .here))) (flat_get (j := 1) RingM.enc_len hr (rfl))), (St.cellsOf hst (.there (.there .here)) (fun j v hv => by rw [Nat.zero_add]; exact hv))⟩
    refine ⟨fun _ => hS, ?_⟩
    refine RD.only 8 rfl (by kernel_rfl) Wd.a ?_
    refine H.append2 (m := 1) (news := ([(Ver.mk m 0 false)]).flatMap Ver.enc) (n2 := (vs ++ [(Ver.mk m 0 false)]).length) (xs2 := (vs ++ [(Ver.mk m 0 false)]).flatMap Ver.enc) (s0 := .slice (some ⟨gr, 0, none⟩) vs.length d) (x0 := .slice (some ⟨b3, 0, none⟩) 1 1) (by first | rfl | simp) (by simp [RingM.enc]) Try.underlying106 inf105 rfl (AF_ev rfl (up rfl (up rfl (up rfl tp)))) (AF_ev rfl tp) hst (.there (.there (.there (.there .here)))) (Own.src (hst.take .here)) (Ver.ones _) (by omega) (by simp only [maxLen]; omega) ?_
    intro vX4 w hnilX4 hst
    obtain ⟨X4, c5, rfl, hcX4, hmX4, hlX4, hbX4⟩ := hst.shape
    have hS : w.cell? ⟨g, (id - 1).toNat * 2 + 1, none⟩ = some (.slice (some ⟨gr, 0, none⟩) vs.length d) ∧ (∀ j_ v_, (bk m : List Value)[j_]? = some v_ → w.cell? ⟨b1, 0 + j_, none⟩ = some v_) := ⟨(hst.ocell (.there (.there (.there (.there .here)))) (flat_get (j := 1) RingM.enc_len hr (rfl))), (St.cellsOf hst (.there (.there (.there .here))) (fun j v hv => by rw [Nat.zero_add]; exact hv))⟩
    refine ⟨fun _ => hS, ?_⟩
    refine RD.only 9 rfl (by kernel_rfl) Wd.a (Hd.value (v := .pointer (some ⟨g, (id - 1).toNat * 2, none⟩)) (by exact E.nilCheck (a := ⟨g, (id - 1).toNat * 2, none⟩) (AF_ev rfl (up rfl (up rfl (up rfl (up rfl (up rfl (up rfl (up rfl (up rfl tp)))))))))) ⟨fun h => Bool.noConfusion ((show needs _ _ _ = false by kernel_rfl).symm.trans h), ?_⟩)
    refine RD.only 10 rfl (by kernel_rfl) Wd.a (Hd.value (v := .pointer (some ⟨g, (id - 1).toNat * 2 + 1, none⟩)) (by exact E.fieldAddr (b := g) (o := (id - 1).toNat * 2) (f := { name := "L", type := 106, offset := 1, embedded := false, tag := "", pkgPath := "", byteOffset := 8 }) (AF_ev rfl tp) Try.underlying108 rfl sz106 rfl) ⟨fun h => Bool.noConfusion ((show needs _ _ _ = false by kernel_rfl).symm.trans h), ?_⟩)
    refine RD.only 11 rfl (by kernel_rfl) Wd.a ?_
    refine H.storeInn (f := RingM.enc) (i := (id - 1).toNat) (d := 1) (m := 1) (v := .slice X4 ((vs ++ [(Ver.mk m 0 false)]).length) c5) (news := [.slice X4 ((vs ++ [(Ver.mk m 0 false)]).length) c5]) (a' := (RingM.mk o X4 c5 (vs ++ [(Ver.mk m 0 false)]))) RingM.enc_len (AF_ev rfl tp) (AF_ev rfl (up rfl (up rfl tp))) hst (.there (.there (.there (.there .here)))) hr (by omega) rfl rfl rfl sz106 (by omega) (rfl) (by simp [Value.oneCell']) fun w hst => ?_
    refine ⟨fun h => Bool.noConfusion ((show needs _ _ _ = false by kernel_rfl).symm.trans h), ?_⟩
    refine RD.fin (by kernel_rfl) (fun τ => τ 0 = .pointer (some ⟨b, 0, none⟩) ∧ τ 1 = .int .i64 id ∧ τ 2 = .agg (bk m).toArray ∧ τ 5 = .pointer (some ⟨b1, 0, none⟩) ∧ τ 6 = .int .i64 0 ∧ τ 7 = .int .i64 0 ∧ τ 8 = .pointer (some ⟨g, (id - 1).toNat * 2, none⟩) ∧ τ 12 = .bool false ∧ τ 15 = .bool false) ⟨u0 (up rfl (up rfl (up rfl (up rfl (up rfl (up rfl (up rfl (up rfl (up rfl (up rfl (up rfl hs0))))))))))), u0 (up rfl (up rfl (up rfl (up rfl (up rfl (up rfl (up rfl (up rfl (up rfl (up rfl (up rfl hs1))))))))))), u0 (up rfl (up rfl (up rfl (up rfl (up rfl (up rfl (up rfl (up rfl (up rfl (up rfl (up rfl hs2))))))))))), u0 (up rfl (up rfl (up rfl (up rfl (up rfl (up rfl (up rfl (up rfl (up rfl (up rfl (up rfl hs5))))))))))), u0 (up rfl (up rfl (up rfl (up rfl (up rfl (up rfl (up rfl (up rfl (up rfl (up rfl (up rfl hs6))))))))))), u0 (up rfl (up rfl (up rfl (up rfl (up rfl (up rfl (up rfl (up rfl (up rfl (up rfl (up rfl hs7))))))))))), u0 (up rfl (up rfl (up rfl (up rfl (up rfl (up rfl (up rfl (up rfl (up rfl (up rfl (up rfl hs8))))))))))), u0 (up rfl (up rfl (up rfl (up rfl (up rfl (up rfl (up rfl (up rfl (up rfl (up rfl (up rfl hs12))))))))))), u0 (up rfl (up rfl (up rfl (up rfl (up rfl (up rfl (up rfl (up rfl (up rfl (up rfl (up rfl (Eq.trans hs15 (congrArg Value.bool hc2)))))))))))))⟩ ?_
    rintro τ ⟨hs0, hs1, hs2, hs5, hs6, hs7, hs8, hs12, hs15⟩
    refine CW.seq ?_
    refine CW.region ?_
    refine RW.soft Wd.a (v := .pointer (some ⟨g, (id - 1).toNat * 2, none⟩)) (by exact E.move (AF_ev rfl hs8)) ?_
    refine RW.soft Wd.a (v := .pointer (some ⟨g, (id - 1).toNat * 2, none⟩)) (by exact E.nilCheck (a := ⟨g, (id - 1).toNat * 2, none⟩) (AF_ev rfl tp)) ?_
    refine RW.soft Wd.a (v := .pointer (some ⟨g, (id - 1).toNat * 2 + 1, none⟩)) (by exact E.fieldAddr (b := g) (o := (id - 1).toNat * 2) (f := { name := "L", type := 106, offset := 1, embedded := false, tag := "", pkgPath := "", byteOffset := 8 }) (AF_ev rfl tp) Try.underlying108 rfl sz106 rfl) ?_
    refine RW.soft Wd.a (v := .slice X4 ((vs ++ [(Ver.mk m 0 false)]).length) c5) (by exact E.load (a := ⟨g, (id - 1).toNat * 2 + 1, none⟩) Try.underlying106 rfl (AF_ev rfl tp) (hst.ocell .here (flat_get (j := 1) RingM.enc_len (set_at hr) (rfl)))) ?_
    refine RW.soft Wd.a (v := .int .i64 (((vs ++ [(Ver.mk m 0 false)]).length : Nat) : Int)) (by exact E.lenS (p := X4) (l := (vs ++ [(Ver.mk m 0 false)]).length) (c := c5) Try.underlying106 (AF_ev rfl tp)) ?_
    refine RW.soft Wd.a (v := .int .i64 (((vs ++ [(Ver.mk m 0 false)]).length : Nat) : Int)) (by exact E.assign (AF_ev rfl tp)) ?_
    refine RW.soft Wd.a (v := .int .i64 0) (by exact E.assign rfl) ?_
    refine RW.fin (fun τ => τ 0 = .pointer (some ⟨b, 0, none⟩) ∧ τ 1 = .int .i64 id ∧ τ 2 = .agg (bk m).toArray ∧ τ 5 = .pointer (some ⟨b1, 0, none⟩) ∧ τ 6 = .int .i64 (((vs ++ [(Ver.mk m 0 false)]).length : Nat) : Int) ∧ τ 7 = .int .i64 0 ∧ τ 8 = .pointer (some ⟨g, (id - 1).toNat * 2, none⟩) ∧ τ 12 = .bool false ∧ τ 15 = .bool false) ⟨up rfl (up rfl (up rfl (up rfl (up rfl (up rfl (up rfl hs0)))))), up rfl (up rfl (up rfl (up rfl (up rfl (up rfl (up rfl hs1)))))), up rfl (up rfl (up rfl (up rfl (up rfl (up rfl (up rfl hs2)))))), up rfl (up rfl (up rfl (up rfl (up rfl (up rfl (up rfl hs5)))))), up rfl tp, tp, up rfl (up rfl (up rfl (up rfl (up rfl (up rfl (up rfl hs8)))))), up rfl (up rfl (up rfl (up rfl (up rfl (up rfl (up rfl hs12)))))), up rfl (up rfl (up rfl (up rfl (up rfl (up rfl (up rfl hs15))))))⟩ ?_
    rintro τ ⟨hs0, hs1, hs2, hs5, hs6, hs7, hs8, hs12, hs15⟩
    refine CW.ret ?_
    refine retN (rs := [.tmp 6, .tmp 7]) (vs := [.int .i64 (((vs ++ [(Ver.mk m 0 false)]).length : Nat) : Int), .int .i64 0]) rfl (by exact (.tmp (AF_ev rfl hs6) (.tmp (AF_ev rfl hs7) .nil))) (by simp) ?_
    have hst := hst.take (.there .here)
    have hst := hst.take (.there .here)
    have hst := hst.take (.there (.there (.there .here)))
    have hst := (hst.take (.there (.there (.there .here)))).drop
    have hst := (hst.take (.there (.there (.there .here)))).drop
    rw [hmod]; unfold rRotate; rw [if_neg (by omega)]; exact ⟨by simp, turn (hro.more (by omega) (show (0 : Int) ≤ 0 ∧ (0 : Int) ≤ 16 from by decide)) hst⟩

theorem prog_Rotate {p : Pers} {w : World} {R : List Assn} {ks : RK} {b : Nat} (id : Int) (hid : -9223372036854775808 ≤ id ∧ id ≤ 9223372036854775807) (m : K32) (hst : St p w (KeysV 103 b ks :: R)) :
    Calls Try.prog 21 #[.pointer (some ⟨b, 0, none⟩), .int .i64 id, .agg (bk m).toArray] w fun e w => e = .returned (.tuple #[.int .i64 (kRotate ks id m).1, .int .i64 (kRotate ks id m).2.1]) ∧ St p w (KeysV 103 b (kRotate ks id m).2.2 :: R) := by
  cases hk : ring ks id with
  | none => exact prog_Rotate_no id hid m hk hst
  | some r => obtain ⟨o, vs⟩ := r; exact prog_Rotate_yes id hid m hk hst

theorem prog_Material_no {p : Pers} {w : World} {R : List Assn} {ks : RK} {b : Nat} (id n : Int) (hid : -9223372036854775808 ≤ id ∧ id ≤ 9223372036854775807) (hnr : -9223372036854775808 ≤ n ∧ n ≤ 9223372036854775807) (hk : ring ks id = none) (hst : St p w (KeysV 103 b ks :: R)) :
    Calls Try.prog 60 #[.pointer (some ⟨b, 0, none⟩), .int .i64 id, .int .i64 n] w fun e w => e = .returned (.tuple #[.agg (bk (kMat ks id n).1).toArray, .int .i64 (kMat ks id n).2]) ∧ St p w (KeysV 103 b ks :: R) := by
  obtain ⟨hko, X, c, hc, hm, hX, hst⟩ := keysApart hst
  have hn8 := hko.1
  have hno := ring_none hk
  have hmod : kMat ks id n = (kz, 130) := by simp only [kMat, hk]
  refine enter Try.func60 rfl (by simp) (n := 35) rfl fun τ hτ => ?_
  have hs0 : τ 0 = .pointer (some ⟨b, 0, none⟩) := hτ 0 (by simp)
  have hs1 : τ 1 = .int .i64 id := hτ 1 (by simp)
  have hs2 : τ 2 = .int .i64 n := hτ 2 (by simp)
  clear hτ
  refine CW.seq ?_
  refine CW.region ?_
  refine RW.hard Wd.a ?_
  refine H.alloc zr34k hst fun b1 w hst => ?_
  refine RW.soft Wd.a (v := .int .i64 0) (by exact E.assign rfl) ?_
  refine RW.fin (fun τ => τ 0 = .pointer (some ⟨b, 0, none⟩) ∧ τ 1 = .int .i64 id ∧ τ 2 = .int .i64 n ∧ τ 6 = .pointer (some ⟨b1, 0, none⟩) ∧ τ 7 = .int .i64 0) ⟨up rfl (up rfl hs0), up rfl (up rfl hs1), up rfl (up rfl hs2), up rfl tp, tp⟩ ?_
  rintro τ ⟨hs0, hs1, hs2, hs6, hs7⟩
  refine CW.seq ?_
  refine CW.region ?_
  refine RW.soft Wd.a (v := .pointer (some ⟨b, 0, none⟩)) (by exact E.move (AF_ev rfl hs0)) ?_
  refine RW.soft Wd.a (v := .int .i64 id) (by exact E.move (AF_ev rfl (up rfl hs1))) ?_
  refine RW.soft Wd.a (v := .int .i64 n) (by exact E.move (AF_ev rfl (up rfl (up rfl hs2)))) ?_
  have hst := hst.take (.there .here)
  refine RW.hard Wd.a ?_
  refine H.call0 Try.func66 nm66 rfl (map3 (AF_ev rfl (up rfl (up rfl tp))) (AF_ev rfl (up rfl tp)) (AF_ev rfl tp)) (Calls.mono (version_no id n hid hnr hno hn8 hst) ?_)
  rintro _ w ⟨rfl, hst⟩
  refine ⟨_, rfl, ?_⟩
  show RW _ _ _ _ _ _ _
  refine RW.soft Wd.a (v := .pointer none) (by exact E.assign (AF_ev rfl tp)) ?_
  refine RW.fin (fun τ => τ 0 = .pointer (some ⟨b, 0, none⟩) ∧ τ 1 = .int .i64 id ∧ τ 2 = .int .i64 n ∧ τ 6 = .pointer (some ⟨b1, 0, none⟩) ∧ τ 7 = .int .i64 0 ∧ τ 8 = .pointer none) ⟨up rfl (up rfl (up rfl (up rfl (up rfl hs0)))), up rfl (up rfl (up rfl (up rfl (up rfl hs1)))), up rfl (up rfl (up rfl (up rfl (up rfl hs2)))), up rfl (up rfl (up rfl (up rfl (up rfl hs6)))), up rfl (up rfl (up rfl (up rfl (up rfl hs7)))), tp⟩ ?_
  rintro τ ⟨hs0, hs1, hs2, hs6, hs7, hs8⟩
  refine CW.seq ?_
  refine CW.block ?_
  refine CW.seq ?_
  refine CW.region ?_
  refine RW.soft Wd.a (v := .pointer none) (by exact E.move (AF_ev rfl hs8)) ?_
  refine RW.soft Wd.a (v := .bool true) (by exact E.eqlP (p := none) Try.underlying122 (AF_ev rfl tp) rfl) ?_
  refine RW.soft Wd.a (v := .bool true) (by exact E.assign (AF_ev rfl tp)) ?_
  refine RW.fin (fun τ => τ 0 = .pointer (some ⟨b, 0, none⟩) ∧ τ 1 = .int .i64 id ∧ τ 2 = .int .i64 n ∧ τ 6 = .pointer (some ⟨b1, 0, none⟩) ∧ τ 7 = .int .i64 0 ∧ τ 8 = .pointer none ∧ τ 13 = .bool true) ⟨up rfl (up rfl (up rfl hs0)), up rfl (up rfl (up rfl hs1)), up rfl (up rfl (up rfl hs2)), up rfl (up rfl (up rfl hs6)), up rfl (up rfl (up rfl hs7)), up rfl (up rfl (up rfl hs8)), tp⟩ ?_
  rintro τ ⟨hs0, hs1, hs2, hs6, hs7, hs8, hs13⟩
  refine CW.condT (AF_ev rfl hs13) ?_
  refine CW.seq ?_
  refine CW.region ?_
  refine RW.soft Wd.a (v := .agg (bk kz).toArray) (by exact E.build (vs := #[]) (by simp) (build34z _)) ?_
  refine RW.hard Wd.a ?_
  refine H.storeWhole (b := b1) (m := 32) (v := .agg (bk kz).toArray) (news := bk kz) (AF_ev rfl (up rfl hs6)) (AF_ev rfl tp) hst (.there .here) rfl (bk_len _) (by rw [List.size_toArray]; exact (bk_len _)) sz34 (bk_one _) fun w hst => ?_
  refine RW.soft Wd.a (v := .int .i64 130) (by exact E.assign rfl) ?_
  refine RW.fin (fun τ => τ 0 = .pointer (some ⟨b, 0, none⟩) ∧ τ 1 = .int .i64 id ∧ τ 2 = .int .i64 n ∧ τ 6 = .pointer (some ⟨b1, 0, none⟩) ∧ τ 7 = .int .i64 130 ∧ τ 8 = .pointer none ∧ τ 13 = .bool true) ⟨up rfl (u0 (up rfl hs0)), up rfl (u0 (up rfl hs1)), up rfl (u0 (up rfl hs2)), up rfl (u0 (up rfl hs6)), tp, up rfl (u0 (up rfl hs8)), up rfl (u0 (up rfl hs13))⟩ ?_
  rintro τ ⟨hs0, hs1, hs2, hs6, hs7, hs8, hs13⟩
  refine CW.ret ?_
  refine Bl.r ?_
  refine Th.r ?_
  refine retN (rs := [.cell 6 34, .tmp 7]) (vs := [.agg (bk kz).toArray, .int .i64 130]) rfl (by exact (.cell (AF_ev rfl hs6) (hst.blockAt (.there .here)) Try.underlying34 rfl (by rw [List.size_toArray, show (bk kz).length = 32 from (bk_len _)]; exact sz34) (.tmp (AF_ev rfl hs7) .nil))) (by simp) ?_
  have hst := hst.take (.there (.there .here))
  have hst := hst.take (.there .here)
  have hst := (hst.take (.there (.there .here))).drop
  rw [hmod]; exact ⟨rfl, keysMake hko hst⟩

theorem prog_Material_vno {p : Pers} {w : World} {R : List Assn} {ks : RK} {b : Nat} {o : Bool} {vs : List Ver} (id n : Int) (hid : -9223372036854775808 ≤ id ∧ id ≤ 9223372036854775807) (hnr : -9223372036854775808 ≤ n ∧ n ≤ 9223372036854775807) (hk : ring ks id = some (o, vs)) (hx : ver vs n = none) (hst : St p w (KeysV 103 b ks :: R)) :
    Calls Try.prog 60 #[.pointer (some ⟨b, 0, none⟩), .int .i64 id, .int .i64 n] w fun e w => e = .returned (.tuple #[.agg (bk (kMat ks id n).1).toArray, .int .i64 (kMat ks id n).2]) ∧ St p w (KeysV 103 b ks :: R) := by
  obtain ⟨hid1, hid2, hri⟩ := ring_some hk
  obtain ⟨rs, g, c, gr, d, R, hko, hro, hc, hm, hd, hdm, hr, hst, same, turn, turnV⟩ := keyOpen hst hri
  have hn8 := hko.1
  have hv4 := hro.2.1
  have hv1 := hro.1
  have hvn := ver_none hx
  have hmod : kMat ks id n = (kz, 130) := by simp only [kMat, hk, hx]
  refine enter Try.func60 rfl (by simp) (n := 35) rfl fun τ hτ => ?_
  have hs0 : τ 0 = .pointer (some ⟨b, 0, none⟩) := hτ 0 (by simp)
  have hs1 : τ 1 = .int .i64 id := hτ 1 (by simp)
  have hs2 : τ 2 = .int .i64 n := hτ 2 (by simp)
  clear hτ
  refine CW.seq ?_
  refine CW.region ?_
  refine RW.hard Wd.a ?_
  refine H.alloc zr34k hst fun b1 w hst => ?_
  refine RW.soft Wd.a (v := .int .i64 0) (by exact E.assign rfl) ?_
  refine RW.fin (fun τ => τ 0 = .pointer (some ⟨b, 0, none⟩) ∧ τ 1 = .int .i64 id ∧ τ 2 = .int .i64 n ∧ τ 6 = .pointer (some ⟨b1, 0, none⟩) ∧ τ 7 = .int .i64 0) ⟨up rfl (up rfl hs0), up rfl (up rfl hs1), up rfl (up rfl hs2), up rfl tp, tp⟩ ?_
  rintro τ ⟨hs0, hs1, hs2, hs6, hs7⟩
  refine CW.seq ?_
  refine CW.region ?_
  refine RW.soft Wd.a (v := .pointer (some ⟨b, 0, none⟩)) (by exact E.move (AF_ev rfl hs0)) ?_
  refine RW.soft Wd.a (v := .int .i64 id) (by exact E.move (AF_ev rfl (up rfl hs1))) ?_
  refine RW.soft Wd.a (v := .int .i64 n) (by exact E.move (AF_ev rfl (up rfl (up rfl hs2)))) ?_
  have hst := hst.take (.there (.there .here))
  have hst := hst.take (.there (.there .here))
  refine RW.hard Wd.a ?_
  refine H.call0 Try.func66 nm66 rfl (map3 (AF_ev rfl (up rfl (up rfl tp))) (AF_ev rfl (up rfl tp)) (AF_ev rfl tp)) (Calls.mono (version_vno id n hid1 hid2 hn8 hv4 hr hnr hvn hst) ?_)
  rintro _ w ⟨rfl, hst⟩
  refine ⟨_, rfl, ?_⟩
  show RW _ _ _ _ _ _ _
  refine RW.soft Wd.a (v := .pointer none) (by exact E.assign (AF_ev rfl tp)) ?_
  refine RW.fin (fun τ => τ 0 = .pointer (some ⟨b, 0, none⟩) ∧ τ 1 = .int .i64 id ∧ τ 2 = .int .i64 n ∧ τ 6 = .pointer (some ⟨b1, 0, none⟩) ∧ τ 7 = .int .i64 0 ∧ τ 8 = .pointer none) ⟨up rfl (up rfl (up rfl (up rfl (up rfl hs0)))), up rfl (up rfl (up rfl (up rfl (up rfl hs1)))), up rfl (up rfl (up rfl (up rfl (up rfl hs2)))), up rfl (up rfl (up rfl (up rfl (up rfl hs6)))), up rfl (up rfl (up rfl (up rfl (up rfl hs7)))), tp⟩ ?_
  rintro τ ⟨hs0, hs1, hs2, hs6, hs7, hs8⟩
  refine CW.seq ?_
  refine CW.block ?_
  refine CW.seq ?_
  refine CW.region ?_
  refine RW.soft Wd.a (v := .pointer none) (by exact E.move (AF_ev rfl hs8)) ?_
  refine RW.soft Wd.a (v := .bool true) (by exact E.eqlP (p := none) Try.underlying122 (AF_ev rfl tp) rfl) ?_
  refine RW.soft Wd.a (v := .bool true) (by exact E.assign (AF_ev rfl tp)) ?_
  refine RW.fin (fun τ => τ 0 = .pointer (some ⟨b, 0, none⟩) ∧ τ 1 = .int .i64 id ∧ τ 2 = .int .i64 n ∧ τ 6 = .pointer (some ⟨b1, 0, none⟩) ∧ τ 7 = .int .i64 0 ∧ τ 8 = .pointer none ∧ τ 13 = .bool true) ⟨up rfl (up rfl (up rfl hs0)), up rfl (up rfl (up rfl hs1)), up rfl (up rfl (up rfl hs2)), up rfl (up rfl (up rfl hs6)), up rfl (up rfl (up rfl hs7)), up rfl (up rfl (up rfl hs8)), tp⟩ ?_
  rintro τ ⟨hs0, hs1, hs2, hs6, hs7, hs8, hs13⟩
  refine CW.condT (AF_ev rfl hs13) ?_
  refine CW.seq ?_
  refine CW.region ?_
  refine RW.soft Wd.a (v := .agg (bk kz).toArray) (by exact E.build (vs := #[]) (by simp) (build34z _)) ?_
  refine RW.hard Wd.a ?_
  refine H.storeWhole (b := b1) (m := 32) (v := .agg (bk kz).toArray) (news := bk kz) (AF_ev rfl (up rfl hs6)) (AF_ev rfl tp) hst (.there (.there .here)) rfl (bk_len _) (by rw [List.size_toArray]; exact (bk_len _)) sz34 (bk_one _) fun w hst => ?_
  refine RW.soft Wd.a (v := .int .i64 130) (by exact E.assign rfl) ?_
  refine RW.fin (fun τ => τ 0 = .pointer (some ⟨b, 0, none⟩) ∧ τ 1 = .int .i64 id ∧ τ 2 = .int .i64 n ∧ τ 6 = .pointer (some ⟨b1, 0, none⟩) ∧ τ 7 = .int .i64 130 ∧ τ 8 = .pointer none ∧ τ 13 = .bool true) ⟨up rfl (u0 (up rfl hs0)), up rfl (u0 (up rfl hs1)), up rfl (u0 (up rfl hs2)), up rfl (u0 (up rfl hs6)), tp, up rfl (u0 (up rfl hs8)), up rfl (u0 (up rfl hs13))⟩ ?_
  rintro τ ⟨hs0, hs1, hs2, hs6, hs7, hs8, hs13⟩
  refine CW.ret ?_
  refine Bl.r ?_
  refine Th.r ?_
  refine retN (rs := [.cell 6 34, .tmp 7]) (vs := [.agg (bk kz).toArray, .int .i64 130]) rfl (by exact (.cell (AF_ev rfl hs6) (hst.blockAt (.there (.there .here))) Try.underlying34 rfl (by rw [List.size_toArray, show (bk kz).length = 32 from (bk_len _)]; exact sz34) (.tmp (AF_ev rfl hs7) .nil))) (by simp) ?_
  have hst := hst.take (.there (.there (.there .here)))
  have hst := hst.take (.there (.there .here))
  have hst := hst.take (.there (.there .here))
  have hst := (hst.take (.there (.there (.there .here)))).drop
  rw [hmod]; exact ⟨rfl, same hst⟩

theorem prog_Material_yes {p : Pers} {w : World} {R : List Assn} {ks : RK} {b : Nat} {o : Bool} {vs : List Ver} {x : Ver} (id n : Int) (hid : -9223372036854775808 ≤ id ∧ id ≤ 9223372036854775807) (hnr : -9223372036854775808 ≤ n ∧ n ≤ 9223372036854775807) (hk : ring ks id = some (o, vs)) (hx : ver vs n = some x) (hst : St p w (KeysV 103 b ks :: R)) :
    Calls Try.prog 60 #[.pointer (some ⟨b, 0, none⟩), .int .i64 id, .int .i64 n] w fun e w => e = .returned (.tuple #[.agg (bk (kMat ks id n).1).toArray, .int .i64 (kMat ks id n).2]) ∧ St p w (KeysV 103 b ks :: R) := by
  obtain ⟨hid1, hid2, hri⟩ := ring_some hk
  obtain ⟨rs, g, c, gr, d, R, hko, hro, hc, hm, hd, hdm, hr, hst, same, turn, turnV⟩ := keyOpen hst hri
  have hn8 := hko.1
  have hv4 := hro.2.1
  have hv1 := hro.1
  obtain ⟨hn1, hn2, hxi⟩ := ver_some hx
  have hux : 0 ≤ x.uses ∧ x.uses ≤ 16 := hro.ver hxi
  have hmod : kMat ks id n = rMat o x := by simp only [kMat, hk, hx]
  refine enter Try.func60 rfl (by simp) (n := 35) rfl fun τ hτ => ?_
  have hs0 : τ 0 = .pointer (some ⟨b, 0, none⟩) := hτ 0 (by simp)
  have hs1 : τ 1 = .int .i64 id := hτ 1 (by simp)
  have hs2 : τ 2 = .int .i64 n := hτ 2 (by simp)
  clear hτ
  refine CW.seq ?_
  refine CW.region ?_
  refine RW.hard Wd.a ?_
  refine H.alloc zr34k hst fun b1 w hst => ?_
  refine RW.soft Wd.a (v := .int .i64 0) (by exact E.assign rfl) ?_
  refine RW.fin (fun τ => τ 0 = .pointer (some ⟨b, 0, none⟩) ∧ τ 1 = .int .i64 id ∧ τ 2 = .int .i64 n ∧ τ 6 = .pointer (some ⟨b1, 0, none⟩) ∧ τ 7 = .int .i64 0) ⟨up rfl (up rfl hs0), up rfl (up rfl hs1), up rfl (up rfl hs2), up rfl tp, tp⟩ ?_
  rintro τ ⟨hs0, hs1, hs2, hs6, hs7⟩
  refine CW.seq ?_
  refine CW.region ?_
  refine RW.soft Wd.a (v := .pointer (some ⟨b, 0, none⟩)) (by exact E.move (AF_ev rfl hs0)) ?_
  refine RW.soft Wd.a (v := .int .i64 id) (by exact E.move (AF_ev rfl (up rfl hs1))) ?_
  refine RW.soft Wd.a (v := .int .i64 n) (by exact E.move (AF_ev rfl (up rfl (up rfl hs2)))) ?_
  have hst := hst.take (.there (.there .here))
  have hst := hst.take (.there (.there .here))
  refine RW.hard Wd.a ?_
  refine H.call0 Try.func66 nm66 rfl (map3 (AF_ev rfl (up rfl (up rfl tp))) (AF_ev rfl (up rfl tp)) (AF_ev rfl tp)) (Calls.mono (version_yes id n hid1 hid2 hn8 hv4 hr hnr hn1 hn2 hst) ?_)
  rintro _ w ⟨rfl, hst⟩
  refine ⟨_, rfl, ?_⟩
  show RW _ _ _ _ _ _ _
  refine RW.soft Wd.a (v := .pointer (some ⟨gr, (n - 1).toNat * 34, none⟩)) (by exact E.assign (AF_ev rfl tp)) ?_
  refine RW.fin (fun τ => τ 0 = .pointer (some ⟨b, 0, none⟩) ∧ τ 1 = .int .i64 id ∧ τ 2 = .int .i64 n ∧ τ 6 = .pointer (some ⟨b1, 0, none⟩) ∧ τ 7 = .int .i64 0 ∧ τ 8 = .pointer (some ⟨gr, (n - 1).toNat * 34, none⟩)) ⟨up rfl (up rfl (up rfl (up rfl (up rfl hs0)))), up rfl (up rfl (up rfl (up rfl (up rfl hs1)))), up rfl (up rfl (up rfl (up rfl (up rfl hs2)))), up rfl (up rfl (up rfl (up rfl (up rfl hs6)))), up rfl (up rfl (up rfl (up rfl (up rfl hs7)))), tp⟩ ?_
  rintro τ ⟨hs0, hs1, hs2, hs6, hs7, hs8⟩
  refine CW.seq ?_
  refine CW.block ?_
  refine CW.seq ?_
  refine CW.region ?_
  refine RW.soft Wd.a (v := .pointer (some ⟨gr, (n - 1).toNat * 34, none⟩)) (by exact E.move (AF_ev rfl hs8)) ?_
  refine RW.soft Wd.a (v := .bool false) (by exact E.eqlP (p := (some ⟨gr, (n - 1).toNat * 34, none⟩)) Try.underlying122 (AF_ev rfl tp) rfl) ?_
  refine RW.soft Wd.a (v := .bool false) (by exact E.assign (AF_ev rfl tp)) ?_
  refine RW.fin (fun τ => τ 0 = .pointer (some ⟨b, 0, none⟩) ∧ τ 1 = .int .i64 id ∧ τ 2 = .int .i64 n ∧ τ 6 = .pointer (some ⟨b1, 0, none⟩) ∧ τ 7 = .int .i64 0 ∧ τ 8 = .pointer (some ⟨gr, (n - 1).toNat * 34, none⟩) ∧ τ 13 = .bool false) ⟨up rfl (up rfl (up rfl hs0)), up rfl (up rfl (up rfl hs1)), up rfl (up rfl (up rfl hs2)), up rfl (up rfl (up rfl hs6)), up rfl (up rfl (up rfl hs7)), up rfl (up rfl (up rfl hs8)), tp⟩ ?_
  rintro τ ⟨hs0, hs1, hs2, hs6, hs7, hs8, hs13⟩
  refine CW.condF (AF_ev rfl hs13) ?_
  refine CW.seq ?_
  refine CW.region ?_
  refine RW.soft Wd.a (v := .pointer (some ⟨b, 0, none⟩)) (by exact E.move (AF_ev rfl hs0)) ?_
  refine RW.soft Wd.a (v := .int .i64 id) (by exact E.move (AF_ev rfl (up rfl hs1))) ?_
  refine RW.hard Wd.a ?_
  refine H.call0 Try.func62 nm62 rfl (map2 (AF_ev rfl (up rfl tp)) (AF_ev rfl tp)) (Calls.mono (key_yes id ⟨hid1, hid2⟩ hn8 hst) ?_)
  rintro _ w ⟨rfl, hst⟩
  refine ⟨_, rfl, ?_⟩
  show RW _ _ _ _ _ _ _
  refine RW.soft Wd.a (v := .pointer (some ⟨g, (id - 1).toNat * 2, none⟩)) (by exact E.nilCheck (a := ⟨g, (id - 1).toNat * 2, none⟩) (AF_ev rfl tp)) ?_
  refine RW.soft Wd.a (v := .pointer (some ⟨g, (id - 1).toNat * 2, none⟩)) (by exact E.fieldAddr (b := g) (o := (id - 1).toNat * 2) (f := { name := "Off", type := 4, offset := 0, embedded := false, tag := "", pkgPath := "", byteOffset := 0 }) (AF_ev rfl tp) Try.underlying108 rfl sz4 rfl) ?_
  refine RW.soft Wd.a (v := .bool o) (by exact E.load (a := ⟨g, (id - 1).toNat * 2, none⟩) Try.underlying4 rfl (AF_ev rfl tp) (hst.ocell (.there .here) (flat_get (j := 0) RingM.enc_len hr (rfl)))) ?_
  refine RW.soft Wd.a (v := .bool o) (by exact E.assign (AF_ev rfl tp)) ?_
  refine RW.fin (fun τ => τ 0 = .pointer (some ⟨b, 0, none⟩) ∧ τ 1 = .int .i64 id ∧ τ 2 = .int .i64 n ∧ τ 6 = .pointer (some ⟨b1, 0, none⟩) ∧ τ 7 = .int .i64 0 ∧ τ 8 = .pointer (some ⟨gr, (n - 1).toNat * 34, none⟩) ∧ τ 13 = .bool false ∧ τ 17 = .bool o) ⟨up rfl (up rfl (up rfl (up rfl (up rfl (up rfl (up rfl hs0)))))), up rfl (up rfl (up rfl (up rfl (up rfl (up rfl (up rfl hs1)))))), up rfl (up rfl (up rfl (up rfl (up rfl (up rfl (up rfl hs2)))))), up rfl (up rfl (up rfl (up rfl (up rfl (up rfl (up rfl hs6)))))), up rfl (up rfl (up rfl (up rfl (up rfl (up rfl (up rfl hs7)))))), up rfl (up rfl (up rfl (up rfl (up rfl (up rfl (up rfl hs8)))))), up rfl (up rfl (up rfl (up rfl (up rfl (up rfl (up rfl hs13)))))), tp⟩ ?_
  rintro τ ⟨hs0, hs1, hs2, hs6, hs7, hs8, hs13, hs17⟩
  refine CW.cond (AF_ev rfl hs17) (fun hc2 => ?_) (fun hc2 => ?_)
  · have hc2_ := hc2
    try simp only [decide_eq_true_eq, decide_eq_false_iff_not, Bool.and_eq_true, Bool.or_eq_true, Bool.and_eq_false_iff, Bool.or_eq_false_iff, Bool.not_eq_true', Bool.not_eq_false', beq_iff_eq, beq_eq_false_iff_ne, bne_iff_ne, bne_eq_false_iff_eq, ne_eq, Int.not_lt, Int.not_le, gt_iff_lt, ge_iff_le] at hc2_
    have hc_o := hc2
    refine CW.seq ?_
    refine CW.region ?_
    refine RW.soft Wd.a (v := .agg (bk kz).toArray) (by exact E.build (vs := #[]) (by simp) (build34z _)) ?_
    refine RW.hard Wd.a ?_
    refine H.storeWhole (b := b1) (m := 32) (v := .agg (bk kz).toArray) (news := bk kz) (AF_ev rfl (up rfl hs6)) (AF_ev rfl tp) hst (.there (.there .here)) rfl (bk_len _) (by rw [List.size_toArray]; exact (bk_len _)) sz34 (bk_one _) fun w hst => ?_
    refine RW.soft Wd.a (v := .int .i64 131) (by exact E.assign rfl) ?_
    refine RW.fin (fun τ => τ 0 = .pointer (some ⟨b, 0, none⟩) ∧ τ 1 = .int .i64 id ∧ τ 2 = .int .i64 n ∧ τ 6 = .pointer (some ⟨b1, 0, none⟩) ∧ τ 7 = .int .i64 131 ∧ τ 8 = .pointer (some ⟨gr, (n - 1).toNat * 34, none⟩) ∧ τ 13 = .bool false ∧ τ 17 = .bool true) ⟨up rfl (u0 (up rfl hs0)), up rfl (u0 (up rfl hs1)), up rfl (u0 (up rfl hs2)), up rfl (u0 (up rfl hs6)), tp, up rfl (u0 (up rfl hs8)), up rfl (u0 (up rfl hs13)), up rfl (u0 (up rfl (Eq.trans hs17 (congrArg Value.bool hc2))))⟩ ?_
    rintro τ ⟨hs0, hs1, hs2, hs6, hs7, hs8, hs13, hs17⟩
    refine CW.ret ?_
    refine Bl.r ?_
    refine Th.r ?_
    refine retN (rs := [.cell 6 34, .tmp 7]) (vs := [.agg (bk kz).toArray, .int .i64 131]) rfl (by exact (.cell (AF_ev rfl hs6) (hst.blockAt (.there (.there .here))) Try.underlying34 rfl (by rw [List.size_toArray, show (bk kz).length = 32 from (bk_len _)]; exact sz34) (.tmp (AF_ev rfl hs7) .nil))) (by simp) ?_
    have hst := hst.take (.there (.there (.there .here)))
    have hst := hst.take (.there (.there .here))
    have hst := hst.take (.there (.there .here))
    have hst := (hst.take (.there (.there (.there .here)))).drop
    rw [hmod]; unfold rMat; rw [if_pos hc_o]; exact ⟨rfl, same hst⟩
  · have hc2_ := hc2
    try simp only [decide_eq_true_eq, decide_eq_false_iff_not, Bool.and_eq_true, Bool.or_eq_true, Bool.and_eq_false_iff, Bool.or_eq_false_iff, Bool.not_eq_true', Bool.not_eq_false', beq_iff_eq, beq_eq_false_iff_ne, bne_iff_ne, bne_eq_false_iff_eq, ne_eq, Int.not_lt, Int.not_le, gt_iff_lt, ge_iff_le] at hc2_
    have hc_o := hc2
    refine CW.seq ?_
    refine CW.region ?_
    refine RW.soft Wd.a (v := .pointer (some ⟨gr, (n - 1).toNat * 34, none⟩)) (by exact E.move (AF_ev rfl hs8)) ?_
    refine RW.soft Wd.a (v := .pointer (some ⟨gr, (n - 1).toNat * 34, none⟩)) (by exact E.nilCheck (a := ⟨gr, (n - 1).toNat * 34, none⟩) (AF_ev rfl tp)) ?_
    refine RW.soft Wd.a (v := .pointer (some ⟨gr, (n - 1).toNat * 34 + 33, none⟩)) (by exact E.fieldAddr (b := gr) (o := (n - 1).toNat * 34) (f := { name := "Gone", type := 4, offset := 33, embedded := false, tag := "", pkgPath := "", byteOffset := 40 }) (AF_ev rfl tp) Try.underlying105 rfl sz4 rfl) ?_
    refine RW.soft Wd.a (v := .bool x.gone) (by exact E.load (a := ⟨gr, (n - 1).toNat * 34 + 33, none⟩) Try.underlying4 rfl (AF_ev rfl tp) (hst.ocell (.there (.there (.there .here))) (flat_get (j := 33) Ver.enc_len hxi (Ver.at_gone _)))) ?_
    refine RW.soft Wd.a (v := .bool x.gone) (by exact E.assign (AF_ev rfl tp)) ?_
    refine RW.fin (fun τ => τ 0 = .pointer (some ⟨b, 0, none⟩) ∧ τ 1 = .int .i64 id ∧ τ 2 = .int .i64 n ∧ τ 6 = .pointer (some ⟨b1, 0, none⟩) ∧ τ 7 = .int .i64 0 ∧ τ 8 = .pointer (some ⟨gr, (n - 1).toNat * 34, none⟩) ∧ τ 13 = .bool false ∧ τ 17 = .bool false ∧ τ 25 = .bool x.gone) ⟨up rfl (up rfl (up rfl (up rfl (up rfl hs0)))), up rfl (up rfl (up rfl (up rfl (up rfl hs1)))), up rfl (up rfl (up rfl (up rfl (up rfl hs2)))), up rfl (up rfl (up rfl (up rfl (up rfl hs6)))), up rfl (up rfl (up rfl (up rfl (up rfl hs7)))), up rfl (up rfl (up rfl (up rfl (up rfl hs8)))), up rfl (up rfl (up rfl (up rfl (up rfl hs13)))), up rfl (up rfl (up rfl (up rfl (up rfl (Eq.trans hs17 (congrArg Value.bool hc2)))))), tp⟩ ?_
    rintro τ ⟨hs0, hs1, hs2, hs6, hs7, hs8, hs13, hs17, hs25⟩
    refine CW.cond (AF_ev rfl hs25) (fun hc3 => ?_) (fun hc3 => ?_)
    · have hc3_ := hc3
      try simp only [decide_eq_true_eq, decide_eq_false_iff_not, Bool.and_eq_true, Bool.or_eq_true, Bool.and_eq_false_iff, Bool.or_eq_false_iff, Bool.not_eq_true', Bool.not_eq_false', beq_iff_eq, beq_eq_false_iff_ne, bne_iff_ne, bne_eq_false_iff_eq, ne_eq, Int.not_lt, Int.not_le, gt_iff_lt, ge_iff_le] at hc3_
      have hc_gone := hc3
      refine CW.seq ?_
      refine CW.region ?_
      refine RW.soft Wd.a (v := .agg (bk kz).toArray) (by exact E.build (vs := #[]) (by simp) (build34z _)) ?_
      refine RW.hard Wd.a ?_
      refine H.storeWhole (b := b1) (m := 32) (v := .agg (bk kz).toArray) (news := bk kz) (AF_ev rfl (up rfl hs6)) (AF_ev rfl tp) hst (.there (.there .here)) rfl (bk_len _) (by rw [List.size_toArray]; exact (bk_len _)) sz34 (bk_one _) fun w hst => ?_
      refine RW.soft Wd.a (v := .int .i64 132) (by exact E.assign rfl) ?_
      refine RW.fin (fun τ => τ 0 = .pointer (some ⟨b, 0, none⟩) ∧ τ 1 = .int .i64 id ∧ τ 2 = .int .i64 n ∧ τ 6 = .pointer (some ⟨b1, 0, none⟩) ∧ τ 7 = .int .i64 132 ∧ τ 8 = .pointer (some ⟨gr, (n - 1).toNat * 34, none⟩) ∧ τ 13 = .bool false ∧ τ 17 = .bool false ∧ τ 25 = .bool true) ⟨up rfl (u0 (up rfl hs0)), up rfl (u0 (up rfl hs1)), up rfl (u0 (up rfl hs2)), up rfl (u0 (up rfl hs6)), tp, up rfl (u0 (up rfl hs8)), up rfl (u0 (up rfl hs13)), up rfl (u0 (up rfl hs17)), up rfl (u0 (up rfl (Eq.trans hs25 (congrArg Value.bool hc3))))⟩ ?_
      rintro τ ⟨hs0, hs1, hs2, hs6, hs7, hs8, hs13, hs17, hs25⟩
      refine CW.ret ?_
      refine Bl.r ?_
      refine Th.r ?_
      refine retN (rs := [.cell 6 34, .tmp 7]) (vs := [.agg (bk kz).toArray, .int .i64 132]) rfl (by exact (.cell (AF_ev rfl hs6) (hst.blockAt (.there (.there .here))) Try.underlying34 rfl (by rw [List.size_toArray, show (bk kz).length = 32 from (bk_len _)]; exact sz34) (.tmp (AF_ev rfl hs7) .nil))) (by simp) ?_
      have hst := hst.take (.there (.there (.there .here)))
      have hst := hst.take (.there (.there .here))
      have hst := hst.take (.there (.there .here))
      have hst := (hst.take (.there (.there (.there .here)))).drop
      rw [hmod]; unfold rMat; rw [if_neg (by rw [hc_o]; decide), if_pos hc_gone]; exact ⟨rfl, same hst⟩
    · have hc3_ := hc3
      try simp only [decide_eq_true_eq, decide_eq_false_iff_not, Bool.and_eq_true, Bool.or_eq_true, Bool.and_eq_false_iff, Bool.or_eq_false_iff, Bool.not_eq_true', Bool.not_eq_false', beq_iff_eq, beq_eq_false_iff_ne, bne_iff_ne, bne_eq_false_iff_eq, ne_eq, Int.not_lt, Int.not_le, gt_iff_lt, ge_iff_le] at hc3_
      have hc_gone := hc3
      refine CW.skip ?_
      refine Bl.n ?_
      refine Th.n ?_
      refine CW.seq ?_
      refine CW.region ?_
      refine RW.soft Wd.a (v := .pointer (some ⟨gr, (n - 1).toNat * 34, none⟩)) (by exact E.move (AF_ev rfl hs8)) ?_
      refine RW.soft Wd.a (v := .pointer (some ⟨gr, (n - 1).toNat * 34, none⟩)) (by exact E.nilCheck (a := ⟨gr, (n - 1).toNat * 34, none⟩) (AF_ev rfl tp)) ?_
      refine RW.soft Wd.a (v := .pointer (some ⟨gr, (n - 1).toNat * 34, none⟩)) (by exact E.fieldAddr (b := gr) (o := (n - 1).toNat * 34) (f := { name := "Material", type := 34, offset := 0, embedded := false, tag := "", pkgPath := "", byteOffset := 0 }) (AF_ev rfl tp) Try.underlying105 rfl sz34 rfl) ?_
      refine RW.soft Wd.a (v := .agg (bk x.mat).toArray) (by exact E.loadN (b := gr) (o := (n - 1).toNat * 34) (cs := bk x.mat) Try.underlying34 rfl sz34 (AF_ev rfl tp) (bk_len _) (hst.cellsAt (.there (.there (.there .here))) (fun j v hv => flat_get Ver.enc_len hxi (Ver.at_mat _ hv)))) ?_
      refine RW.hard Wd.a ?_
      refine H.storeWhole (b := b1) (m := 32) (v := .agg (bk x.mat).toArray) (news := bk x.mat) (AF_ev rfl (up rfl (up rfl (up rfl (up rfl hs6))))) (AF_ev rfl tp) hst (.there (.there .here)) rfl (bk_len _) (by rw [List.size_toArray]; exact (bk_len _)) sz34 (bk_one _) fun w hst => ?_
      refine RW.soft Wd.a (v := .int .i64 0) (by exact E.assign rfl) ?_
      refine RW.fin (fun τ => τ 0 = .pointer (some ⟨b, 0, none⟩) ∧ τ 1 = .int .i64 id ∧ τ 2 = .int .i64 n ∧ τ 6 = .pointer (some ⟨b1, 0, none⟩) ∧ τ 7 = .int .i64 0 ∧ τ 8 = .pointer (some ⟨gr, (n - 1).toNat * 34, none⟩) ∧ τ 13 = .bool false ∧ τ 17 = .bool false ∧ τ 25 = .bool false) ⟨up rfl (u0 (up rfl (up rfl (up rfl (up rfl hs0))))), up rfl (u0 (up rfl (up rfl (up rfl (up rfl hs1))))), up rfl (u0 (up rfl (up rfl (up rfl (up rfl hs2))))), up rfl (u0 (up rfl (up rfl (up rfl (up rfl hs6))))), tp, up rfl (u0 (up rfl (up rfl (up rfl (up rfl hs8))))), up rfl (u0 (up rfl (up rfl (up rfl (up rfl hs13))))), up rfl (u0 (up rfl (up rfl (up rfl (up rfl hs17))))), up rfl (u0 (up rfl (up rfl (up rfl (up rfl (Eq.trans hs25 (congrArg Value.bool hc3)))))))⟩ ?_
      rintro τ ⟨hs0, hs1, hs2, hs6, hs7, hs8, hs13, hs17, hs25⟩
      refine CW.ret ?_
      refine retN (rs := [.cell 6 34, .tmp 7]) (vs := [.agg (bk x.mat).toArray, .int .i64 0]) rfl (by exact (.cell (AF_ev rfl hs6) (hst.blockAt (.there (.there .here))) Try.underlying34 rfl (by rw [List.size_toArray, show (bk x.mat).length = 32 from (bk_len _)]; exact sz34) (.tmp (AF_ev rfl hs7) .nil))) (by simp) ?_
      have hst := hst.take (.there (.there (.there .here)))
      have hst := hst.take (.there (.there .here))
      have hst := hst.take (.there (.there .here))
      have hst := (hst.take (.there (.there (.there .here)))).drop
      rw [hmod]; unfold rMat; rw [if_neg (by rw [hc_o]; decide), if_neg (by rw [hc_gone]; decide)]; exact ⟨rfl, same hst⟩

theorem prog_Material {p : Pers} {w : World} {R : List Assn} {ks : RK} {b : Nat} (id n : Int) (hid : -9223372036854775808 ≤ id ∧ id ≤ 9223372036854775807) (hnr : -9223372036854775808 ≤ n ∧ n ≤ 9223372036854775807) (hst : St p w (KeysV 103 b ks :: R)) :
    Calls Try.prog 60 #[.pointer (some ⟨b, 0, none⟩), .int .i64 id, .int .i64 n] w fun e w => e = .returned (.tuple #[.agg (bk (kMat ks id n).1).toArray, .int .i64 (kMat ks id n).2]) ∧ St p w (KeysV 103 b ks :: R) := by
  cases hk : ring ks id with
  | none => exact prog_Material_no id n hid hnr hk hst
  | some r =>
    obtain ⟨o, vs⟩ := r
    cases hx : ver vs n with
    | none => exact prog_Material_vno id n hid hnr hk hx hst
    | some x => exact prog_Material_yes id n hid hnr hk hx hst

theorem prog_Use_no {p : Pers} {w : World} {R : List Assn} {ks : RK} {b : Nat} (id : Int) (hid : -9223372036854775808 ≤ id ∧ id ≤ 9223372036854775807) (hk : ring ks id = none) (hst : St p w (KeysV 103 b ks :: R)) :
    Calls Try.prog 59 #[.pointer (some ⟨b, 0, none⟩), .int .i64 id] w fun e w => e = .returned (.tuple #[.int .i64 (kUse ks id).1, .int .i64 (kUse ks id).2.1, .agg (bk (kUse ks id).2.2.1).toArray, .int .i64 (kUse ks id).2.2.2.1]) ∧ St p w (KeysV 103 b (kUse ks id).2.2.2.2 :: R) := by
  obtain ⟨hko, X, c, hc, hm, hX, hst⟩ := keysApart hst
  have hn8 := hko.1
  have hno := ring_none hk
  have hmod : kUse ks id = (0, 0, kz, 130, ks) := by simp only [kUse, hk]
  refine enter Try.func59 rfl (by simp) (n := 67) rfl fun τ hτ => ?_
  have hs0 : τ 0 = .pointer (some ⟨b, 0, none⟩) := hτ 0 (by simp)
  have hs1 : τ 1 = .int .i64 id := hτ 1 (by simp)
  clear hτ
  refine CW.seq ?_
  refine CW.region ?_
  refine RW.soft Wd.a (v := .int .i64 0) (by exact E.assign rfl) ?_
  refine RW.soft Wd.a (v := .int .i64 0) (by exact E.assign rfl) ?_
  refine RW.hard Wd.a ?_
  refine H.alloc zr34k hst fun b1 w hst => ?_
  refine RW.soft Wd.a (v := .int .i64 0) (by exact E.assign rfl) ?_
  refine RW.fin (fun τ => τ 0 = .pointer (some ⟨b, 0, none⟩) ∧ τ 1 = .int .i64 id ∧ τ 4 = .int .i64 0 ∧ τ 5 = .int .i64 0 ∧ τ 6 = .pointer (some ⟨b1, 0, none⟩) ∧ τ 7 = .int .i64 0) ⟨up rfl (up rfl (up rfl (up rfl hs0))), up rfl (up rfl (up rfl (up rfl hs1))), up rfl (up rfl (up rfl tp)), up rfl (up rfl tp), up rfl tp, tp⟩ ?_
  rintro τ ⟨hs0, hs1, hs4, hs5, hs6, hs7⟩
  refine CW.seq ?_
  refine CW.region ?_
  refine RW.soft Wd.a (v := .pointer (some ⟨b, 0, none⟩)) (by exact E.move (AF_ev rfl hs0)) ?_
  refine RW.soft Wd.a (v := .int .i64 id) (by exact E.move (AF_ev rfl (up rfl hs1))) ?_
  have hst := hst.take (.there .here)
  refine RW.hard Wd.a ?_
  refine H.call0 Try.func62 nm62 rfl (map2 (AF_ev rfl (up rfl tp)) (AF_ev rfl tp)) (Calls.mono (key_no id hid hno hn8 hst) ?_)
  rintro _ w ⟨rfl, hst⟩
  refine ⟨_, rfl, ?_⟩
  show RW _ _ _ _ _ _ _
  refine RW.soft Wd.a (v := .pointer none) (by exact E.assign (AF_ev rfl tp)) ?_
  refine RW.fin (fun τ => τ 0 = .pointer (some ⟨b, 0, none⟩) ∧ τ 1 = .int .i64 id ∧ τ 4 = .int .i64 0 ∧ τ 5 = .int .i64 0 ∧ τ 6 = .pointer (some ⟨b1, 0, none⟩) ∧ τ 7 = .int .i64 0 ∧ τ 8 = .pointer none) ⟨up rfl (up rfl (up rfl (up rfl hs0))), up rfl (up rfl (up rfl (up rfl hs1))), up rfl (up rfl (up rfl (up rfl hs4))), up rfl (up rfl (up rfl (up rfl hs5))), up rfl (up rfl (up rfl (up rfl hs6))), up rfl (up rfl (up rfl (up rfl hs7))), tp⟩ ?_
  rintro τ ⟨hs0, hs1, hs4, hs5, hs6, hs7, hs8⟩
  refine CW.seq ?_
  refine CW.seq ?_
  refine CW.region ?_
  refine RW.soft Wd.a (v := .pointer none) (by exact E.move (AF_ev rfl hs8)) ?_
  refine RW.soft Wd.a (v := .bool true) (by exact E.eqlP (p := none) Try.underlying114 (AF_ev rfl tp) rfl) ?_
  refine RW.fin (fun τ => τ 0 = .pointer (some ⟨b, 0, none⟩) ∧ τ 1 = .int .i64 id ∧ τ 4 = .int .i64 0 ∧ τ 5 = .int .i64 0 ∧ τ 6 = .pointer (some ⟨b1, 0, none⟩) ∧ τ 7 = .int .i64 0 ∧ τ 8 = .pointer none ∧ τ 14 = .bool true) ⟨up rfl (up rfl hs0), up rfl (up rfl hs1), up rfl (up rfl hs4), up rfl (up rfl hs5), up rfl (up rfl hs6), up rfl (up rfl hs7), up rfl (up rfl hs8), tp⟩ ?_
  rintro τ ⟨hs0, hs1, hs4, hs5, hs6, hs7, hs8, hs14⟩
  refine CW.condT (AF_ev rfl hs14) ?_
  refine CW.seq ?_
  refine CW.region ?_
  refine RW.soft Wd.a (v := .agg (bk kz).toArray) (by exact E.build (vs := #[]) (by simp) (build34z _)) ?_
  refine RW.soft Wd.a (v := .int .i64 0) (by exact E.assign rfl) ?_
  refine RW.soft Wd.a (v := .int .i64 0) (by exact E.assign rfl) ?_
  refine RW.hard Wd.a ?_
  refine H.storeWhole (b := b1) (m := 32) (v := .agg (bk kz).toArray) (news := bk kz) (AF_ev rfl (up rfl (up rfl (up rfl hs6)))) (AF_ev rfl (up rfl (up rfl tp))) hst (.there .here) rfl (bk_len _) (by rw [List.size_toArray]; exact (bk_len _)) sz34 (bk_one _) fun w hst => ?_
  refine RW.soft Wd.a (v := .int .i64 130) (by exact E.assign rfl) ?_
  refine RW.fin (fun τ => τ 0 = .pointer (some ⟨b, 0, none⟩) ∧ τ 1 = .int .i64 id ∧ τ 4 = .int .i64 0 ∧ τ 5 = .int .i64 0 ∧ τ 6 = .pointer (some ⟨b1, 0, none⟩) ∧ τ 7 = .int .i64 130 ∧ τ 8 = .pointer none ∧ τ 14 = .bool true) ⟨up rfl (u0 (up rfl (up rfl (up rfl hs0)))), up rfl (u0 (up rfl (up rfl (up rfl hs1)))), up rfl (u0 (up rfl tp)), up rfl (u0 tp), up rfl (u0 (up rfl (up rfl (up rfl hs6)))), tp, up rfl (u0 (up rfl (up rfl (up rfl hs8)))), up rfl (u0 (up rfl (up rfl (up rfl hs14))))⟩ ?_
  rintro τ ⟨hs0, hs1, hs4, hs5, hs6, hs7, hs8, hs14⟩
  refine CW.ret ?_
  refine Th.r ?_
  refine retN (rs := [.tmp 4, .tmp 5, .cell 6 34, .tmp 7]) (vs := [.int .i64 0, .int .i64 0, .agg (bk kz).toArray, .int .i64 130]) rfl (by exact (.tmp (AF_ev rfl hs4) (.tmp (AF_ev rfl hs5) (.cell (AF_ev rfl hs6) (hst.blockAt (.there .here)) Try.underlying34 rfl (by rw [List.size_toArray, show (bk kz).length = 32 from (bk_len _)]; exact sz34) (.tmp (AF_ev rfl hs7) .nil))))) (by simp) ?_
  have hst := hst.take (.there (.there .here))
  have hst := hst.take (.there .here)
  have hst := (hst.take (.there (.there .here))).drop
  rw [hmod]; exact ⟨rfl, keysMake hko hst⟩

theorem prog_Use_yes {p : Pers} {w : World} {R : List Assn} {ks : RK} {b : Nat} {o : Bool} {vs : List Ver} {x : Ver} (id : Int) (hid : -9223372036854775808 ≤ id ∧ id ≤ 9223372036854775807) (hk : ring ks id = some (o, vs)) (hx : vs[vs.length - 1]? = some x) (hst : St p w (KeysV 103 b ks :: R)) :
    Calls Try.prog 59 #[.pointer (some ⟨b, 0, none⟩), .int .i64 id] w fun e w => e = .returned (.tuple #[.int .i64 (kUse ks id).1, .int .i64 (kUse ks id).2.1, .agg (bk (kUse ks id).2.2.1).toArray, .int .i64 (kUse ks id).2.2.2.1]) ∧ St p w (KeysV 103 b (kUse ks id).2.2.2.2 :: R) := by
  obtain ⟨hid1, hid2, hri⟩ := ring_some hk
  obtain ⟨rs, g, c, gr, d, R, hko, hro, hc, hm, hd, hdm, hr, hst, same, turn, turnV⟩ := keyOpen hst hri
  have hn8 := hko.1
  have hv4 := hro.2.1
  have hv1 := hro.1
  have hlast : (((vs.length : Nat) : Int) - 1).toNat = vs.length - 1 := by omega
  have hxi : vs[(((vs.length : Nat) : Int) - 1).toNat]? = some x := by rw [hlast]; exact hx
  have hux : 0 ≤ x.uses ∧ x.uses ≤ 16 := hro.ver hxi
  have hmod : kUse ks id = rUse ks id o vs x := by simp only [kUse, hk, hx]
  refine enter Try.func59 rfl (by simp) (n := 67) rfl fun τ hτ => ?_
  have hs0 : τ 0 = .pointer (some ⟨b, 0, none⟩) := hτ 0 (by simp)
  have hs1 : τ 1 = .int .i64 id := hτ 1 (by simp)
  clear hτ
  refine CW.seq ?_
  refine CW.region ?_
  refine RW.soft Wd.a (v := .int .i64 0) (by exact E.assign rfl) ?_
  refine RW.soft Wd.a (v := .int .i64 0) (by exact E.assign rfl) ?_
  refine RW.hard Wd.a ?_
  refine H.alloc zr34k hst fun b1 w hst => ?_
  refine RW.soft Wd.a (v := .int .i64 0) (by exact E.assign rfl) ?_
  refine RW.fin (fun τ => τ 0 = .pointer (some ⟨b, 0, none⟩) ∧ τ 1 = .int .i64 id ∧ τ 4 = .int .i64 0 ∧ τ 5 = .int .i64 0 ∧ τ 6 = .pointer (some ⟨b1, 0, none⟩) ∧ τ 7 = .int .i64 0) ⟨up rfl (up rfl (up rfl (up rfl hs0))), up rfl (up rfl (up rfl (up rfl hs1))), up rfl (up rfl (up rfl tp)), up rfl (up rfl tp), up rfl tp, tp⟩ ?_
  rintro τ ⟨hs0, hs1, hs4, hs5, hs6, hs7⟩
  refine CW.seq ?_
  refine CW.region ?_
  refine RW.soft Wd.a (v := .pointer (some ⟨b, 0, none⟩)) (by exact E.move (AF_ev rfl hs0)) ?_
  refine RW.soft Wd.a (v := .int .i64 id) (by exact E.move (AF_ev rfl (up rfl hs1))) ?_
  have hst := hst.take (.there .here)
  refine RW.hard Wd.a ?_
  refine H.call0 Try.func62 nm62 rfl (map2 (AF_ev rfl (up rfl tp)) (AF_ev rfl tp)) (Calls.mono (key_yes id ⟨hid1, hid2⟩ hn8 hst) ?_)
  rintro _ w ⟨rfl, hst⟩
  refine ⟨_, rfl, ?_⟩
  show RW _ _ _ _ _ _ _
  refine RW.soft Wd.a (v := .pointer (some ⟨g, (id - 1).toNat * 2, none⟩)) (by exact E.assign (AF_ev rfl tp)) ?_
  refine RW.fin (fun τ => τ 0 = .pointer (some ⟨b, 0, none⟩) ∧ τ 1 = .int .i64 id ∧ τ 4 = .int .i64 0 ∧ τ 5 = .int .i64 0 ∧ τ 6 = .pointer (some ⟨b1, 0, none⟩) ∧ τ 7 = .int .i64 0 ∧ τ 8 = .pointer (some ⟨g, (id - 1).toNat * 2, none⟩)) ⟨up rfl (up rfl (up rfl (up rfl hs0))), up rfl (up rfl (up rfl (up rfl hs1))), up rfl (up rfl (up rfl (up rfl hs4))), up rfl (up rfl (up rfl (up rfl hs5))), up rfl (up rfl (up rfl (up rfl hs6))), up rfl (up rfl (up rfl (up rfl hs7))), tp⟩ ?_
  rintro τ ⟨hs0, hs1, hs4, hs5, hs6, hs7, hs8⟩
  refine CW.seq ?_
  refine CW.seq ?_
  refine CW.region ?_
  refine RW.soft Wd.a (v := .pointer (some ⟨g, (id - 1).toNat * 2, none⟩)) (by exact E.move (AF_ev rfl hs8)) ?_
  refine RW.soft Wd.a (v := .bool false) (by exact E.eqlP (p := (some ⟨g, (id - 1).toNat * 2, none⟩)) Try.underlying114 (AF_ev rfl tp) rfl) ?_
  refine RW.fin (fun τ => τ 0 = .pointer (some ⟨b, 0, none⟩) ∧ τ 1 = .int .i64 id ∧ τ 4 = .int .i64 0 ∧ τ 5 = .int .i64 0 ∧ τ 6 = .pointer (some ⟨b1, 0, none⟩) ∧ τ 7 = .int .i64 0 ∧ τ 8 = .pointer (some ⟨g, (id - 1).toNat * 2, none⟩) ∧ τ 14 = .bool false) ⟨up rfl (up rfl hs0), up rfl (up rfl hs1), up rfl (up rfl hs4), up rfl (up rfl hs5), up rfl (up rfl hs6), up rfl (up rfl hs7), up rfl (up rfl hs8), tp⟩ ?_
  rintro τ ⟨hs0, hs1, hs4, hs5, hs6, hs7, hs8, hs14⟩
  refine CW.condF (AF_ev rfl hs14) ?_
  refine CW.skip ?_
  refine Th.n ?_
  refine CW.seq ?_
  refine CW.regionD [0, 1, 2, 3, 4, 5, 6, 7, 8, 9, 10, 11] (fun w => w.cell? ⟨g, (id - 1).toNat * 2 + 1, none⟩ = some (.slice (some ⟨gr, 0, none⟩) vs.length d)) mixed ?_
  have hst := hst.drew
  generalize w.drew = w at hst ⊢
  have hS : w.cell? ⟨g, (id - 1).toNat * 2 + 1, none⟩ = some (.slice (some ⟨gr, 0, none⟩) vs.length d) := (hst.ocell (.there (.there .here)) (flat_get (j := 1) RingM.enc_len hr (rfl)))
  refine RD.take 0 rfl (by kernel_rfl) Wd.a (v := .pointer (some ⟨g, (id - 1).toNat * 2, none⟩)) (fun w hS => by exact E.move (AF_ev rfl hs8)) hS ?_
  refine RD.take 1 rfl (by kernel_rfl) Wd.a (v := .pointer (some ⟨g, (id - 1).toNat * 2, none⟩)) (fun w hS => by exact E.nilCheck (a := ⟨g, (id - 1).toNat * 2, none⟩) (AF_ev rfl tp)) hS ?_
  refine RD.take 2 rfl (by kernel_rfl) Wd.a (v := .pointer (some ⟨g, (id - 1).toNat * 2 + 1, none⟩)) (fun w hS => by exact E.fieldAddr (b := g) (o := (id - 1).toNat * 2) (f := { name := "L", type := 106, offset := 1, embedded := false, tag := "", pkgPath := "", byteOffset := 8 }) (AF_ev rfl tp) Try.underlying108 rfl sz106 rfl) hS ?_
  refine RD.take 3 rfl (by kernel_rfl) Wd.a (v := .slice (some ⟨gr, 0, none⟩) vs.length d) (fun w hS => by exact E.load (a := ⟨g, (id - 1).toNat * 2 + 1, none⟩) Try.underlying106 rfl (AF_ev rfl tp) hS) hS ?_
  refine RD.take 4 rfl (by kernel_rfl) Wd.a (v := .pointer (some ⟨g, (id - 1).toNat * 2, none⟩)) (fun w hS => by exact E.move (AF_ev rfl (up rfl (up rfl (up rfl (up rfl hs8)))))) hS ?_
  refine RD.take 5 rfl (by kernel_rfl) Wd.a (v := .pointer (some ⟨g, (id - 1).toNat * 2, none⟩)) (fun w hS => by exact E.nilCheck (a := ⟨g, (id - 1).toNat * 2, none⟩) (AF_ev rfl tp)) hS ?_
  refine RD.take 6 rfl (by kernel_rfl) Wd.a (v := .pointer (some ⟨g, (id - 1).toNat * 2 + 1, none⟩)) (fun w hS => by exact E.fieldAddr (b := g) (o := (id - 1).toNat * 2) (f := { name := "L", type := 106, offset := 1, embedded := false, tag := "", pkgPath := "", byteOffset := 8 }) (AF_ev rfl tp) Try.underlying108 rfl sz106 rfl) hS ?_
  refine RD.take 7 rfl (by kernel_rfl) Wd.a (v := .slice (some ⟨gr, 0, none⟩) vs.length d) (fun w hS => by exact E.load (a := ⟨g, (id - 1).toNat * 2 + 1, none⟩) Try.underlying106 rfl (AF_ev rfl tp) hS) hS ?_
  refine RD.take 8 rfl (by kernel_rfl) Wd.a (v := .int .i64 ((vs.length : Nat) : Int)) (fun w hS => by exact E.lenS (p := (some ⟨gr, 0, none⟩)) (l := vs.length) (c := d) Try.underlying106 (AF_ev rfl tp)) hS ?_
  refine RD.take 9 rfl (by kernel_rfl) Wd.a (v := .int .i64 (((vs.length : Nat) : Int) - 1)) (fun w hS => by exact E.sub (k := .i64) (a := ((vs.length : Nat) : Int)) (b := 1) (AF_ev rfl tp) rfl (show IntKind.i64.wrap (((vs.length : Nat) : Int) - 1) = ((vs.length : Nat) : Int) - 1 from (by rw [IntWalk.i64_in _ (by omega)]))) hS ?_
  refine RD.take 10 rfl (by kernel_rfl) Wd.a (v := .pointer (some ⟨gr, (((vs.length : Nat) : Int) - 1).toNat * 34, none⟩)) (fun w hS => by exact E.indexAddr (b := gr) (o := 0) (l := vs.length) (c := d) (i := ((vs.length : Nat) : Int) - 1) Try.underlying106 sz105 (AF_ev rfl (up rfl (up rfl (up rfl (up rfl (up rfl (up rfl tp))))))) (AF_ev rfl tp) (by omega) (by omega) (by simp)) hS ?_
  refine RD.take 11 rfl (by kernel_rfl) Wd.a (v := .pointer (some ⟨gr, (((vs.length : Nat) : Int) - 1).toNat * 34, none⟩)) (fun w hS => by exact E.assign (AF_ev rfl tp)) hS ?_
  refine RD.fin (by kernel_rfl) (fun τ => τ 0 = .pointer (some ⟨b, 0, none⟩) ∧ τ 1 = .int .i64 id ∧ τ 4 = .int .i64 0 ∧ τ 5 = .int .i64 0 ∧ τ 6 = .pointer (some ⟨b1, 0, none⟩) ∧ τ 7 = .int .i64 0 ∧ τ 8 = .pointer (some ⟨g, (id - 1).toNat * 2, none⟩) ∧ τ 9 = .pointer (some ⟨gr, (((vs.length : Nat) : Int) - 1).toNat * 34, none⟩) ∧ τ 14 = .bool false) ⟨up rfl (up rfl (up rfl (up rfl (up rfl (up rfl (up rfl (up rfl (up rfl (up rfl (up rfl (up rfl hs0))))))))))), up rfl (up rfl (up rfl (up rfl (up rfl (up rfl (up rfl (up rfl (up rfl (up rfl (up rfl (up rfl hs1))))))))))), up rfl (up rfl (up rfl (up rfl (up rfl (up rfl (up rfl (up rfl (up rfl (up rfl (up rfl (up rfl hs4))))))))))), up rfl (up rfl (up rfl (up rfl (up rfl (up rfl (up rfl (up rfl (up rfl (up rfl (up rfl (up rfl hs5))))))))))), up rfl (up rfl (up rfl (up rfl (up rfl (up rfl (up rfl (up rfl (up rfl (up rfl (up rfl (up rfl hs6))))))))))), up rfl (up rfl (up rfl (up rfl (up rfl (up rfl (up rfl (up rfl (up rfl (up rfl (up rfl (up rfl hs7))))))))))), up rfl (up rfl (up rfl (up rfl (up rfl (up rfl (up rfl (up rfl (up rfl (up rfl (up rfl (up rfl hs8))))))))))), tp, up rfl (up rfl (up rfl (up rfl (up rfl (up rfl (up rfl (up rfl (up rfl (up rfl (up rfl (up rfl hs14)))))))))))⟩ ?_
  rintro τ ⟨hs0, hs1, hs4, hs5, hs6, hs7, hs8, hs9, hs14⟩
  refine CW.seq ?_
  refine CW.block ?_
  refine CW.seq ?_
  refine CW.region ?_
  refine RW.soft Wd.a (v := .pointer (some ⟨g, (id - 1).toNat * 2, none⟩)) (by exact E.move (AF_ev rfl hs8)) ?_
  refine RW.soft Wd.a (v := .pointer (some ⟨g, (id - 1).toNat * 2, none⟩)) (by exact E.nilCheck (a := ⟨g, (id - 1).toNat * 2, none⟩) (AF_ev rfl tp)) ?_
  refine RW.soft Wd.a (v := .pointer (some ⟨g, (id - 1).toNat * 2, none⟩)) (by exact E.fieldAddr (b := g) (o := (id - 1).toNat * 2) (f := { name := "Off", type := 4, offset := 0, embedded := false, tag := "", pkgPath := "", byteOffset := 0 }) (AF_ev rfl tp) Try.underlying108 rfl sz4 rfl) ?_
  refine RW.soft Wd.a (v := .bool o) (by exact E.load (a := ⟨g, (id - 1).toNat * 2, none⟩) Try.underlying4 rfl (AF_ev rfl tp) (hst.ocell (.there (.there .here)) (flat_get (j := 0) RingM.enc_len hr (rfl)))) ?_
  refine RW.soft Wd.a (v := .bool o) (by exact E.assign (AF_ev rfl tp)) ?_
  refine RW.fin (fun τ => τ 0 = .pointer (some ⟨b, 0, none⟩) ∧ τ 1 = .int .i64 id ∧ τ 4 = .int .i64 0 ∧ τ 5 = .int .i64 0 ∧ τ 6 = .pointer (some ⟨b1, 0, none⟩) ∧ τ 7 = .int .i64 0 ∧ τ 8 = .pointer (some ⟨g, (id - 1).toNat * 2, none⟩) ∧ τ 9 = .pointer (some ⟨gr, (((vs.length : Nat) : Int) - 1).toNat * 34, none⟩) ∧ τ 14 = .bool false ∧ τ 27 = .bool o) ⟨up rfl (up rfl (up rfl (up rfl (up rfl hs0)))), up rfl (up rfl (up rfl (up rfl (up rfl hs1)))), up rfl (up rfl (up rfl (up rfl (up rfl hs4)))), up rfl (up rfl (up rfl (up rfl (up rfl hs5)))), up rfl (up rfl (up rfl (up rfl (up rfl hs6)))), up rfl (up rfl (up rfl (up rfl (up rfl hs7)))), up rfl (up rfl (up rfl (up rfl (up rfl hs8)))), up rfl (up rfl (up rfl (up rfl (up rfl hs9)))), up rfl (up rfl (up rfl (up rfl (up rfl hs14)))), tp⟩ ?_
  rintro τ ⟨hs0, hs1, hs4, hs5, hs6, hs7, hs8, hs9, hs14, hs27⟩
  refine CW.cond (AF_ev rfl hs27) (fun hc2 => ?_) (fun hc2 => ?_)
  · have hc2_ := hc2
    try simp only [decide_eq_true_eq, decide_eq_false_iff_not, Bool.and_eq_true, Bool.or_eq_true, Bool.and_eq_false_iff, Bool.or_eq_false_iff, Bool.not_eq_true', Bool.not_eq_false', beq_iff_eq, beq_eq_false_iff_ne, bne_iff_ne, bne_eq_false_iff_eq, ne_eq, Int.not_lt, Int.not_le, gt_iff_lt, ge_iff_le] at hc2_
    have hc_o := hc2
    refine CW.seq ?_
    refine CW.region ?_
    refine RW.soft Wd.a (v := .agg (bk kz).toArray) (by exact E.build (vs := #[]) (by simp) (build34z _)) ?_
    refine RW.soft Wd.a (v := .int .i64 0) (by exact E.assign rfl) ?_
    refine RW.soft Wd.a (v := .int .i64 0) (by exact E.assign rfl) ?_
    refine RW.hard Wd.a ?_
    refine H.storeWhole (b := b1) (m := 32) (v := .agg (bk kz).toArray) (news := bk kz) (AF_ev rfl (up rfl (up rfl (up rfl hs6)))) (AF_ev rfl (up rfl (up rfl tp))) hst (.there .here) rfl (bk_len _) (by rw [List.size_toArray]; exact (bk_len _)) sz34 (bk_one _) fun w hst => ?_
    refine RW.soft Wd.a (v := .int .i64 131) (by exact E.assign rfl) ?_
    refine RW.fin (fun τ => τ 0 = .pointer (some ⟨b, 0, none⟩) ∧ τ 1 = .int .i64 id ∧ τ 4 = .int .i64 0 ∧ τ 5 = .int .i64 0 ∧ τ 6 = .pointer (some ⟨b1, 0, none⟩) ∧ τ 7 = .int .i64 131 ∧ τ 8 = .pointer (some ⟨g, (id - 1).toNat * 2, none⟩) ∧ τ 9 = .pointer (some ⟨gr, (((vs.length : Nat) : Int) - 1).toNat * 34, none⟩) ∧ τ 14 = .bool false ∧ τ 27 = .bool true) ⟨up rfl (u0 (up rfl (up rfl (up rfl hs0)))), up rfl (u0 (up rfl (up rfl (up rfl hs1)))), up rfl (u0 (up rfl tp)), up rfl (u0 tp), up rfl (u0 (up rfl (up rfl (up rfl hs6)))), tp, up rfl (u0 (up rfl (up rfl (up rfl hs8)))), up rfl (u0 (up rfl (up rfl (up rfl hs9)))), up rfl (u0 (up rfl (up rfl (up rfl hs14)))), up rfl (u0 (up rfl (up rfl (up rfl (Eq.trans hs27 (congrArg Value.bool hc2))))))⟩ ?_
    rintro τ ⟨hs0, hs1, hs4, hs5, hs6, hs7, hs8, hs9, hs14, hs27⟩
    refine CW.ret ?_
    refine Bl.r ?_
    refine Th.r ?_
    refine retN (rs := [.tmp 4, .tmp 5, .cell 6 34, .tmp 7]) (vs := [.int .i64 0, .int .i64 0, .agg (bk kz).toArray, .int .i64 131]) rfl (by exact (.tmp (AF_ev rfl hs4) (.tmp (AF_ev rfl hs5) (.cell (AF_ev rfl hs6) (hst.blockAt (.there .here)) Try.underlying34 rfl (by rw [List.size_toArray, show (bk kz).length = 32 from (bk_len _)]; exact sz34) (.tmp (AF_ev rfl hs7) .nil))))) (by simp) ?_
    have hst := hst.take (.there (.there (.there .here)))
    have hst := hst.take (.there (.there (.there .here)))
    have hst := hst.take (.there (.there .here))
    have hst := (hst.take (.there (.there (.there .here)))).drop
    rw [hmod]; unfold rUse; rw [if_pos hc_o]; exact ⟨rfl, same hst⟩
  · have hc2_ := hc2
    try simp only [decide_eq_true_eq, decide_eq_false_iff_not, Bool.and_eq_true, Bool.or_eq_true, Bool.and_eq_false_iff, Bool.or_eq_false_iff, Bool.not_eq_true', Bool.not_eq_false', beq_iff_eq, beq_eq_false_iff_ne, bne_iff_ne, bne_eq_false_iff_eq, ne_eq, Int.not_lt, Int.not_le, gt_iff_lt, ge_iff_le] at hc2_
    have hc_o := hc2
    refine CW.seq ?_
    refine CW.region ?_
    refine RW.soft Wd.a (v := .pointer (some ⟨gr, (((vs.length : Nat) : Int) - 1).toNat * 34, none⟩)) (by exact E.move (AF_ev rfl hs9)) ?_
    refine RW.soft Wd.a (v := .pointer (some ⟨gr, (((vs.length : Nat) : Int) - 1).toNat * 34, none⟩)) (by exact E.nilCheck (a := ⟨gr, (((vs.length : Nat) : Int) - 1).toNat * 34, none⟩) (AF_ev rfl tp)) ?_
    refine RW.soft Wd.a (v := .pointer (some ⟨gr, (((vs.length : Nat) : Int) - 1).toNat * 34 + 33, none⟩)) (by exact E.fieldAddr (b := gr) (o := (((vs.length : Nat) : Int) - 1).toNat * 34) (f := { name := "Gone", type := 4, offset := 33, embedded := false, tag := "", pkgPath := "", byteOffset := 40 }) (AF_ev rfl tp) Try.underlying105 rfl sz4 rfl) ?_
    refine RW.soft Wd.a (v := .bool x.gone) (by exact E.load (a := ⟨gr, (((vs.length : Nat) : Int) - 1).toNat * 34 + 33, none⟩) Try.underlying4 rfl (AF_ev rfl tp) (hst.ocell (.there (.there (.there .here))) (flat_get (j := 33) Ver.enc_len hxi (Ver.at_gone _)))) ?_
    refine RW.soft Wd.a (v := .bool x.gone) (by exact E.assign (AF_ev rfl tp)) ?_
    refine RW.fin (fun τ => τ 0 = .pointer (some ⟨b, 0, none⟩) ∧ τ 1 = .int .i64 id ∧ τ 4 = .int .i64 0 ∧ τ 5 = .int .i64 0 ∧ τ 6 = .pointer (some ⟨b1, 0, none⟩) ∧ τ 7 = .int .i64 0 ∧ τ 8 = .pointer (some ⟨g, (id - 1).toNat * 2, none⟩) ∧ τ 9 = .pointer (some ⟨gr, (((vs.length : Nat) : Int) - 1).toNat * 34, none⟩) ∧ τ 14 = .bool false ∧ τ 27 = .bool false ∧ τ 33 = .bool x.gone) ⟨up rfl (up rfl (up rfl (up rfl (up rfl hs0)))), up rfl (up rfl (up rfl (up rfl (up rfl hs1)))), up rfl (up rfl (up rfl (up rfl (up rfl hs4)))), up rfl (up rfl (up rfl (up rfl (up rfl hs5)))), up rfl (up rfl (up rfl (up rfl (up rfl hs6)))), up rfl (up rfl (up rfl (up rfl (up rfl hs7)))), up rfl (up rfl (up rfl (up rfl (up rfl hs8)))), up rfl (up rfl (up rfl (up rfl (up rfl hs9)))), up rfl (up rfl (up rfl (up rfl (up rfl hs14)))), up rfl (up rfl (up rfl (up rfl (up rfl (Eq.trans hs27 (congrArg Value.bool hc2)))))), tp⟩ ?_
    rintro τ ⟨hs0, hs1, hs4, hs5, hs6, hs7, hs8, hs9, hs14, hs27, hs33⟩
    refine CW.cond (AF_ev rfl hs33) (fun hc3 => ?_) (fun hc3 => ?_)
    · have hc3_ := hc3
      try simp only [decide_eq_true_eq, decide_eq_false_iff_not, Bool.and_eq_true, Bool.or_eq_true, Bool.and_eq_false_iff, Bool.or_eq_false_iff, Bool.not_eq_true', Bool.not_eq_false', beq_iff_eq, beq_eq_false_iff_ne, bne_iff_ne, bne_eq_false_iff_eq, ne_eq, Int.not_lt, Int.not_le, gt_iff_lt, ge_iff_le] at hc3_
      have hc_gone := hc3
      refine CW.seq ?_
      refine CW.region ?_
      refine RW.soft Wd.a (v := .agg (bk kz).toArray) (by exact E.build (vs := #[]) (by simp) (build34z _)) ?_
      refine RW.soft Wd.a (v := .int .i64 0) (by exact E.assign rfl) ?_
      refine RW.soft Wd.a (v := .int .i64 0) (by exact E.assign rfl) ?_
      refine RW.hard Wd.a ?_
      refine H.storeWhole (b := b1) (m := 32) (v := .agg (bk kz).toArray) (news := bk kz) (AF_ev rfl (up rfl (up rfl (up rfl hs6)))) (AF_ev rfl (up rfl (up rfl tp))) hst (.there .here) rfl (bk_len _) (by rw [List.size_toArray]; exact (bk_len _)) sz34 (bk_one _) fun w hst => ?_
      refine RW.soft Wd.a (v := .int .i64 132) (by exact E.assign rfl) ?_
      refine RW.fin (fun τ => τ 0 = .pointer (some ⟨b, 0, none⟩) ∧ τ 1 = .int .i64 id ∧ τ 4 = .int .i64 0 ∧ τ 5 = .int .i64 0 ∧ τ 6 = .pointer (some ⟨b1, 0, none⟩) ∧ τ 7 = .int .i64 132 ∧ τ 8 = .pointer (some ⟨g, (id - 1).toNat * 2, none⟩) ∧ τ 9 = .pointer (some ⟨gr, (((vs.length : Nat) : Int) - 1).toNat * 34, none⟩) ∧ τ 14 = .bool false ∧ τ 27 = .bool false ∧ τ 33 = .bool true) ⟨up rfl (u0 (up rfl (up rfl (up rfl hs0)))), up rfl (u0 (up rfl (up rfl (up rfl hs1)))), up rfl (u0 (up rfl tp)), up rfl (u0 tp), up rfl (u0 (up rfl (up rfl (up rfl hs6)))), tp, up rfl (u0 (up rfl (up rfl (up rfl hs8)))), up rfl (u0 (up rfl (up rfl (up rfl hs9)))), up rfl (u0 (up rfl (up rfl (up rfl hs14)))), up rfl (u0 (up rfl (up rfl (up rfl hs27)))), up rfl (u0 (up rfl (up rfl (up rfl (Eq.trans hs33 (congrArg Value.bool hc3))))))⟩ ?_
      rintro τ ⟨hs0, hs1, hs4, hs5, hs6, hs7, hs8, hs9, hs14, hs27, hs33⟩
      refine CW.ret ?_
      refine Bl.r ?_
      refine Th.r ?_
      refine retN (rs := [.tmp 4, .tmp 5, .cell 6 34, .tmp 7]) (vs := [.int .i64 0, .int .i64 0, .agg (bk kz).toArray, .int .i64 132]) rfl (by exact (.tmp (AF_ev rfl hs4) (.tmp (AF_ev rfl hs5) (.cell (AF_ev rfl hs6) (hst.blockAt (.there .here)) Try.underlying34 rfl (by rw [List.size_toArray, show (bk kz).length = 32 from (bk_len _)]; exact sz34) (.tmp (AF_ev rfl hs7) .nil))))) (by simp) ?_
      have hst := hst.take (.there (.there (.there .here)))
      have hst := hst.take (.there (.there (.there .here)))
      have hst := hst.take (.there (.there .here))
      have hst := (hst.take (.there (.there (.there .here)))).drop
      rw [hmod]; unfold rUse; rw [if_neg (by rw [hc_o]; decide), if_pos hc_gone]; exact ⟨rfl, same hst⟩
    · have hc3_ := hc3
      try simp only [decide_eq_true_eq, decide_eq_false_iff_not, Bool.and_eq_true, Bool.or_eq_true, Bool.and_eq_false_iff, Bool.or_eq_false_iff, Bool.not_eq_true', Bool.not_eq_false', beq_iff_eq, beq_eq_false_iff_ne, bne_iff_ne, bne_eq_false_iff_eq, ne_eq, Int.not_lt, Int.not_le, gt_iff_lt, ge_iff_le] at hc3_
      have hc_gone := hc3
      refine CW.seq ?_
      refine CW.region ?_
      refine RW.soft Wd.a (v := .pointer (some ⟨gr, (((vs.length : Nat) : Int) - 1).toNat * 34, none⟩)) (by exact E.move (AF_ev rfl hs9)) ?_
      refine RW.soft Wd.a (v := .pointer (some ⟨gr, (((vs.length : Nat) : Int) - 1).toNat * 34, none⟩)) (by exact E.nilCheck (a := ⟨gr, (((vs.length : Nat) : Int) - 1).toNat * 34, none⟩) (AF_ev rfl tp)) ?_
      refine RW.soft Wd.a (v := .pointer (some ⟨gr, (((vs.length : Nat) : Int) - 1).toNat * 34 + 32, none⟩)) (by exact E.fieldAddr (b := gr) (o := (((vs.length : Nat) : Int) - 1).toNat * 34) (f := { name := "Uses", type := 3, offset := 32, embedded := false, tag := "", pkgPath := "", byteOffset := 32 }) (AF_ev rfl tp) Try.underlying105 rfl sz3 rfl) ?_
      refine RW.soft Wd.a (v := .int .i64 x.uses) (by exact E.load (a := ⟨gr, (((vs.length : Nat) : Int) - 1).toNat * 34 + 32, none⟩) Try.underlying3 rfl (AF_ev rfl tp) (hst.ocell (.there (.there (.there .here))) (flat_get (j := 32) Ver.enc_len hxi (Ver.at_uses _)))) ?_
      refine RW.soft Wd.a (v := .bool (decide (x.uses ≥ 16))) (by exact E.geq (k := .i64) (a := x.uses) (b := 16) (AF_ev rfl tp) rfl) ?_
      refine RW.soft Wd.a (v := .bool (decide (x.uses ≥ 16))) (by exact E.assign (AF_ev rfl tp)) ?_
      refine RW.fin (fun τ => τ 0 = .pointer (some ⟨b, 0, none⟩) ∧ τ 1 = .int .i64 id ∧ τ 4 = .int .i64 0 ∧ τ 5 = .int .i64 0 ∧ τ 6 = .pointer (some ⟨b1, 0, none⟩) ∧ τ 7 = .int .i64 0 ∧ τ 8 = .pointer (some ⟨g, (id - 1).toNat * 2, none⟩) ∧ τ 9 = .pointer (some ⟨gr, (((vs.length : Nat) : Int) - 1).toNat * 34, none⟩) ∧ τ 14 = .bool false ∧ τ 27 = .bool false ∧ τ 33 = .bool false ∧ τ 39 = .bool (decide (x.uses ≥ 16))) ⟨up rfl (up rfl (up rfl (up rfl (up rfl (up rfl hs0))))), up rfl (up rfl (up rfl (up rfl (up rfl (up rfl hs1))))), up rfl (up rfl (up rfl (up rfl (up rfl (up rfl hs4))))), up rfl (up rfl (up rfl (up rfl (up rfl (up rfl hs5))))), up rfl (up rfl (up rfl (up rfl (up rfl (up rfl hs6))))), up rfl (up rfl (up rfl (up rfl (up rfl (up rfl hs7))))), up rfl (up rfl (up rfl (up rfl (up rfl (up rfl hs8))))), up rfl (up rfl (up rfl (up rfl (up rfl (up rfl hs9))))), up rfl (up rfl (up rfl (up rfl (up rfl (up rfl hs14))))), up rfl (up rfl (up rfl (up rfl (up rfl (up rfl hs27))))), up rfl (up rfl (up rfl (up rfl (up rfl (up rfl (Eq.trans hs33 (congrArg Value.bool hc3))))))), tp⟩ ?_
      rintro τ ⟨hs0, hs1, hs4, hs5, hs6, hs7, hs8, hs9, hs14, hs27, hs33, hs39⟩
      refine CW.cond (AF_ev rfl hs39) (fun hc4 => ?_) (fun hc4 => ?_)
      · have hc4_ := hc4
        try simp only [decide_eq_true_eq, decide_eq_false_iff_not, Bool.and_eq_true, Bool.or_eq_true, Bool.and_eq_false_iff, Bool.or_eq_false_iff, Bool.not_eq_true', Bool.not_eq_false', beq_iff_eq, beq_eq_false_iff_ne, bne_iff_ne, bne_eq_false_iff_eq, ne_eq, Int.not_lt, Int.not_le, gt_iff_lt, ge_iff_le] at hc4_
        refine CW.seq ?_
        refine CW.region ?_
        refine RW.soft Wd.a (v := .agg (bk kz).toArray) (by exact E.build (vs := #[]) (by simp) (build34z _)) ?_
        refine RW.soft Wd.a (v := .int .i64 0) (by exact E.assign rfl) ?_
        refine RW.soft Wd.a (v := .int .i64 0) (by exact E.assign rfl) ?_
        refine RW.hard Wd.a ?_
        refine H.storeWhole (b := b1) (m := 32) (v := .agg (bk kz).toArray) (news := bk kz) (AF_ev rfl (up rfl (up rfl (up rfl hs6)))) (AF_ev rfl (up rfl (up rfl tp))) hst (.there .here) rfl (bk_len _) (by rw [List.size_toArray]; exact (bk_len _)) sz34 (bk_one _) fun w hst => ?_
        refine RW.soft Wd.a (v := .int .i64 133) (by exact E.assign rfl) ?_
        refine RW.fin (fun τ => τ 0 = .pointer (some ⟨b, 0, none⟩) ∧ τ 1 = .int .i64 id ∧ τ 4 = .int .i64 0 ∧ τ 5 = .int .i64 0 ∧ τ 6 = .pointer (some ⟨b1, 0, none⟩) ∧ τ 7 = .int .i64 133 ∧ τ 8 = .pointer (some ⟨g, (id - 1).toNat * 2, none⟩) ∧ τ 9 = .pointer (some ⟨gr, (((vs.length : Nat) : Int) - 1).toNat * 34, none⟩) ∧ τ 14 = .bool false ∧ τ 27 = .bool false ∧ τ 33 = .bool false ∧ τ 39 = .bool true) ⟨up rfl (u0 (up rfl (up rfl (up rfl hs0)))), up rfl (u0 (up rfl (up rfl (up rfl hs1)))), up rfl (u0 (up rfl tp)), up rfl (u0 tp), up rfl (u0 (up rfl (up rfl (up rfl hs6)))), tp, up rfl (u0 (up rfl (up rfl (up rfl hs8)))), up rfl (u0 (up rfl (up rfl (up rfl hs9)))), up rfl (u0 (up rfl (up rfl (up rfl hs14)))), up rfl (u0 (up rfl (up rfl (up rfl hs27)))), up rfl (u0 (up rfl (up rfl (up rfl hs33)))), up rfl (u0 (up rfl (up rfl (up rfl (Eq.trans hs39 (congrArg Value.bool hc4))))))⟩ ?_
        rintro τ ⟨hs0, hs1, hs4, hs5, hs6, hs7, hs8, hs9, hs14, hs27, hs33, hs39⟩
        refine CW.ret ?_
        refine Bl.r ?_
        refine Th.r ?_
        refine retN (rs := [.tmp 4, .tmp 5, .cell 6 34, .tmp 7]) (vs := [.int .i64 0, .int .i64 0, .agg (bk kz).toArray, .int .i64 133]) rfl (by exact (.tmp (AF_ev rfl hs4) (.tmp (AF_ev rfl hs5) (.cell (AF_ev rfl hs6) (hst.blockAt (.there .here)) Try.underlying34 rfl (by rw [List.size_toArray, show (bk kz).length = 32 from (bk_len _)]; exact sz34) (.tmp (AF_ev rfl hs7) .nil))))) (by simp) ?_
        have hst := hst.take (.there (.there (.there .here)))
        have hst := hst.take (.there (.there (.there .here)))
        have hst := hst.take (.there (.there .here))
        have hst := (hst.take (.there (.there (.there .here)))).drop
        rw [hmod]; unfold rUse; rw [if_neg (by rw [hc_o]; decide), if_neg (by rw [hc_gone]; decide), if_pos (by omega)]; exact ⟨rfl, same hst⟩
      · have hc4_ := hc4
        try simp only [decide_eq_true_eq, decide_eq_false_iff_not, Bool.and_eq_true, Bool.or_eq_true, Bool.and_eq_false_iff, Bool.or_eq_false_iff, Bool.not_eq_true', Bool.not_eq_false', beq_iff_eq, beq_eq_false_iff_ne, bne_iff_ne, bne_eq_false_iff_eq, ne_eq, Int.not_lt, Int.not_le, gt_iff_lt, ge_iff_le] at hc4_
        refine CW.skip ?_
        refine Bl.n ?_
        refine Th.n ?_
        refine CW.seq ?_
        refine CW.region ?_
        refine RW.soft Wd.a (v := .pointer (some ⟨gr, (((vs.length : Nat) : Int) - 1).toNat * 34, none⟩)) (by exact E.move (AF_ev rfl hs9)) ?_
        refine RW.soft Wd.a (v := .pointer (some ⟨gr, (((vs.length : Nat) : Int) - 1).toNat * 34, none⟩)) (by exact E.nilCheck (a := ⟨gr, (((vs.length : Nat) : Int) - 1).toNat * 34, none⟩) (AF_ev rfl tp)) ?_
        refine RW.soft Wd.a (v := .pointer (some ⟨gr, (((vs.length : Nat) : Int) - 1).toNat * 34 + 32, none⟩)) (by exact E.fieldAddr (b := gr) (o := (((vs.length : Nat) : Int) - 1).toNat * 34) (f := { name := "Uses", type := 3, offset := 32, embedded := false, tag := "", pkgPath := "", byteOffset := 32 }) (AF_ev rfl tp) Try.underlying105 rfl sz3 rfl) ?_
        refine RW.soft Wd.a (v := .int .i64 x.uses) (by exact E.load (a := ⟨gr, (((vs.length : Nat) : Int) - 1).toNat * 34 + 32, none⟩) Try.underlying3 rfl (AF_ev rfl tp) (hst.ocell (.there (.there (.there .here))) (flat_get (j := 32) Ver.enc_len hxi (Ver.at_uses _)))) ?_
        refine RW.soft Wd.a (v := .int .i64 (x.uses + 1)) (by exact E.add (k := .i64) (a := x.uses) (b := 1) (AF_ev rfl tp) rfl (show IntKind.i64.wrap (x.uses + 1) = x.uses + 1 from (by rw [IntWalk.i64_in _ (by omega)]))) ?_
        refine RW.soft Wd.a (v := .pointer (some ⟨gr, (((vs.length : Nat) : Int) - 1).toNat * 34, none⟩)) (by exact E.nilCheck (a := ⟨gr, (((vs.length : Nat) : Int) - 1).toNat * 34, none⟩) (AF_ev rfl (up rfl (up rfl (up rfl (up rfl tp)))))) ?_
        refine RW.soft Wd.a (v := .pointer (some ⟨gr, (((vs.length : Nat) : Int) - 1).toNat * 34 + 32, none⟩)) (by exact E.fieldAddr (b := gr) (o := (((vs.length : Nat) : Int) - 1).toNat * 34) (f := { name := "Uses", type := 3, offset := 32, embedded := false, tag := "", pkgPath := "", byteOffset := 32 }) (AF_ev rfl tp) Try.underlying105 rfl sz3 rfl) ?_
        refine RW.hard Wd.a ?_
        refine H.storeInn (f := Ver.enc) (i := (((vs.length : Nat) : Int) - 1).toNat) (d := 32) (m := 1) (v := .int .i64 (x.uses + 1)) (news := [.int .i64 (x.uses + 1)]) (a' := (Ver.mk x.mat (x.uses + 1) x.gone)) Ver.enc_len (AF_ev rfl tp) (AF_ev rfl (up rfl (up rfl tp))) hst (.there (.there (.there .here))) hxi (by omega) rfl rfl rfl sz3 (by omega) (Ver.set_uses x _) (by simp [Value.oneCell']) fun w hst => ?_
        refine RW.fin (fun τ => τ 0 = .pointer (some ⟨b, 0, none⟩) ∧ τ 1 = .int .i64 id ∧ τ 4 = .int .i64 0 ∧ τ 5 = .int .i64 0 ∧ τ 6 = .pointer (some ⟨b1, 0, none⟩) ∧ τ 7 = .int .i64 0 ∧ τ 8 = .pointer (some ⟨g, (id - 1).toNat * 2, none⟩) ∧ τ 9 = .pointer (some ⟨gr, (((vs.length : Nat) : Int) - 1).toNat * 34, none⟩) ∧ τ 14 = .bool false ∧ τ 27 = .bool false ∧ τ 33 = .bool false ∧ τ 39 = .bool false) ⟨u0 (up rfl (up rfl (up rfl (up rfl (up rfl (up rfl (up rfl hs0))))))), u0 (up rfl (up rfl (up rfl (up rfl (up rfl (up rfl (up rfl hs1))))))), u0 (up rfl (up rfl (up rfl (up rfl (up rfl (up rfl (up rfl hs4))))))), u0 (up rfl (up rfl (up rfl (up rfl (up rfl (up rfl (up rfl hs5))))))), u0 (up rfl (up rfl (up rfl (up rfl (up rfl (up rfl (up rfl hs6))))))), u0 (up rfl (up rfl (up rfl (up rfl (up rfl (up rfl (up rfl hs7))))))), u0 (up rfl (up rfl (up rfl (up rfl (up rfl (up rfl (up rfl hs8))))))), u0 (up rfl (up rfl (up rfl (up rfl (up rfl (up rfl (up rfl hs9))))))), u0 (up rfl (up rfl (up rfl (up rfl (up rfl (up rfl (up rfl hs14))))))), u0 (up rfl (up rfl (up rfl (up rfl (up rfl (up rfl (up rfl hs27))))))), u0 (up rfl (up rfl (up rfl (up rfl (up rfl (up rfl (up rfl hs33))))))), u0 (up rfl (up rfl (up rfl (up rfl (up rfl (up rfl (up rfl (Eq.trans hs39 (congrArg Value.bool hc4)))))))))⟩ ?_
        rintro τ ⟨hs0, hs1, hs4, hs5, hs6, hs7, hs8, hs9, hs14, hs27, hs33, hs39⟩
        refine CW.seq ?_
        refine CW.regionD [0, 1, 2, 3, 4, 5, 6, 7, 8, 9, 10, 11, 12, 13, 14, 15] (fun w => w.cell? ⟨g, (id - 1).toNat * 2 + 1, none⟩ = some (.slice (some ⟨gr, 0, none⟩) vs.length d) ∧ w.cell? ⟨gr, (((vs.length : Nat) : Int) - 1).toNat * 34 + 32, none⟩ = some (.int .i64 (x.uses + 1)) ∧ (∀ j_ v_, (bk x.mat : List Value)[j_]? = some v_ → w.cell? ⟨gr, (((vs.length : Nat) : Int) - 1).toNat * 34 + j_, none⟩ = some v_)) mixed ?_
        have hst := hst.drew
        generalize w.drew = w at hst ⊢
        have hS : w.cell? ⟨g, (id - 1).toNat * 2 + 1, none⟩ = some (.slice (some ⟨gr, 0, none⟩) vs.length d) ∧ w.cell? ⟨gr, (((vs.length : Nat) : Int) - 1).toNat * 34 + 32, none⟩ = some (.int .i64 (x.uses + 1)) ∧ (∀ j_ v_, (bk x.mat : List Value)[j_]? = some v_ → w.cell? ⟨gr, (((vs.length : Nat) : Int) - 1).toNat * 34 + j_, none⟩ = some v_) := ⟨(hst.ocell (.there (.there (.there .here))) (flat_get (j := 1) RingM.enc_len hr (rfl))), (hst.ocell .here (flat_get (j := 32) Ver.enc_len (set_at hxi) (Ver.at_uses _))), (hst.cellsAt .here (fun j v hv => flat_get Ver.enc_len (set_at hxi) (Ver.at_mat _ hv)))⟩
        refine RD.take 0 rfl (by kernel_rfl) Wd.a (v := .pointer (some ⟨g, (id - 1).toNat * 2, none⟩)) (fun w hS => by exact E.move (AF_ev rfl hs8)) hS ?_
        refine RD.take 1 rfl (by kernel_rfl) Wd.a (v := .pointer (some ⟨g, (id - 1).toNat * 2, none⟩)) (fun w hS => by exact E.nilCheck (a := ⟨g, (id - 1).toNat * 2, none⟩) (AF_ev rfl tp)) hS ?_
        refine RD.take 2 rfl (by kernel_rfl) Wd.a (v := .pointer (some ⟨g, (id - 1).toNat * 2 + 1, none⟩)) (fun w hS => by exact E.fieldAddr (b := g) (o := (id - 1).toNat * 2) (f := { name := "L", type := 106, offset := 1, embedded := false, tag := "", pkgPath := "", byteOffset := 8 }) (AF_ev rfl tp) Try.underlying108 rfl sz106 rfl) hS ?_
        refine RD.take 3 rfl (by kernel_rfl) Wd.a (v := .slice (some ⟨gr, 0, none⟩) vs.length d) (fun w hS => by exact E.load (a := ⟨g, (id - 1).toNat * 2 + 1, none⟩) Try.underlying106 rfl (AF_ev rfl tp) hS.1) hS ?_
        refine RD.take 4 rfl (by kernel_rfl) Wd.a (v := .int .i64 ((vs.length : Nat) : Int)) (fun w hS => by exact E.lenS (p := (some ⟨gr, 0, none⟩)) (l := vs.length) (c := d) Try.underlying106 (AF_ev rfl tp)) hS ?_
        refine RD.take 5 rfl (by kernel_rfl) Wd.a (v := .pointer (some ⟨gr, (((vs.length : Nat) : Int) - 1).toNat * 34, none⟩)) (fun w hS => by exact E.move (AF_ev rfl (up rfl (up rfl (up rfl (up rfl (up rfl hs9))))))) hS ?_
        refine RD.take 6 rfl (by kernel_rfl) Wd.a (v := .pointer (some ⟨gr, (((vs.length : Nat) : Int) - 1).toNat * 34, none⟩)) (fun w hS => by exact E.nilCheck (a := ⟨gr, (((vs.length : Nat) : Int) - 1).toNat * 34, none⟩) (AF_ev rfl tp)) hS ?_
        refine RD.take 7 rfl (by kernel_rfl) Wd.a (v := .pointer (some ⟨gr, (((vs.length : Nat) : Int) - 1).toNat * 34 + 32, none⟩)) (fun w hS => by exact E.fieldAddr (b := gr) (o := (((vs.length : Nat) : Int) - 1).toNat * 34) (f := { name := "Uses", type := 3, offset := 32, embedded := false, tag := "", pkgPath := "", byteOffset := 32 }) (AF_ev rfl tp) Try.underlying105 rfl sz3 rfl) hS ?_
        refine RD.take 8 rfl (by kernel_rfl) Wd.a (v := .int .i64 (x.uses + 1)) (fun w hS => by exact E.load (a := ⟨gr, (((vs.length : Nat) : Int) - 1).toNat * 34 + 32, none⟩) Try.underlying3 rfl (AF_ev rfl tp) hS.2.1) hS ?_
        refine RD.take 9 rfl (by kernel_rfl) Wd.a (v := .int .i64 (x.uses + 1 - 1)) (fun w hS => by exact E.sub (k := .i64) (a := x.uses + 1) (b := 1) (AF_ev rfl tp) rfl (show IntKind.i64.wrap ((x.uses + 1) - 1) = x.uses + 1 - 1 from (by rw [IntWalk.i64_in _ (by omega)] <;> omega))) hS ?_
        refine RD.take 10 rfl (by kernel_rfl) Wd.a (v := .pointer (some ⟨gr, (((vs.length : Nat) : Int) - 1).toNat * 34, none⟩)) (fun w hS => by exact E.move (AF_ev rfl (up rfl (up rfl (up rfl (up rfl (up rfl (up rfl (up rfl (up rfl (up rfl (up rfl hs9)))))))))))) hS ?_
        refine RD.take 11 rfl (by kernel_rfl) Wd.a (v := .pointer (some ⟨gr, (((vs.length : Nat) : Int) - 1).toNat * 34, none⟩)) (fun w hS => by exact E.nilCheck (a := ⟨gr, (((vs.length : Nat) : Int) - 1).toNat * 34, none⟩) (AF_ev rfl tp)) hS ?_
        refine RD.take 12 rfl (by kernel_rfl) Wd.a (v := .pointer (some ⟨gr, (((vs.length : Nat) : Int) - 1).toNat * 34, none⟩)) (fun w hS => by exact E.fieldAddr (b := gr) (o := (((vs.length : Nat) : Int) - 1).toNat * 34) (f := { name := "Material", type := 34, offset := 0, embedded := false, tag := "", pkgPath := "", byteOffset := 0 }) (AF_ev rfl tp) Try.underlying105 rfl sz34 rfl) hS ?_
        refine RD.take 13 rfl (by kernel_rfl) Wd.a (v := .agg (bk x.mat).toArray) (fun w hS => by exact E.loadN (b := gr) (o := (((vs.length : Nat) : Int) - 1).toNat * 34) (cs := bk x.mat) Try.underlying34 rfl sz34 (AF_ev rfl tp) (bk_len _) hS.2.2) hS ?_
        refine RD.take 14 rfl (by kernel_rfl) Wd.a (v := .int .i64 ((vs.length : Nat) : Int)) (fun w hS => by exact E.assign (AF_ev rfl (up rfl (up rfl (up rfl (up rfl (up rfl (up rfl (up rfl (up rfl (up rfl tp))))))))))) hS ?_
        refine RD.take 15 rfl (by kernel_rfl) Wd.a (v := .int .i64 (x.uses + 1 - 1)) (fun w hS => by exact E.assign (AF_ev rfl (up rfl (up rfl (up rfl (up rfl (up rfl tp))))))) hS ?_
        refine RD.only 16 rfl (by kernel_rfl) Wd.a ?_
        refine H.storeWhole (b := b1) (m := 32) (v := .agg (bk x.mat).toArray) (news := bk x.mat) (AF_ev rfl (up rfl (up rfl (up rfl (up rfl (up rfl (up rfl (up rfl (up rfl (up rfl (up rfl (up rfl (up rfl (up rfl (up rfl (up rfl (up rfl hs6))))))))))))))))) (AF_ev rfl (up rfl (up rfl tp))) hst (.there (.there .here)) rfl (bk_len _) (by rw [List.size_toArray]; exact (bk_len _)) sz34 (bk_one _) fun w hst => ?_
        refine ⟨fun h => Bool.noConfusion ((show needs _ _ _ = false by kernel_rfl).symm.trans h), ?_⟩
        refine RD.only 17 rfl (by kernel_rfl) Wd.a (Hd.value (v := .int .i64 0) (by exact E.assign rfl) ⟨fun h => Bool.noConfusion ((show needs _ _ _ = false by kernel_rfl).symm.trans h), ?_⟩)
        refine RD.fin (by kernel_rfl) (fun τ => τ 0 = .pointer (some ⟨b, 0, none⟩) ∧ τ 1 = .int .i64 id ∧ τ 4 = .int .i64 ((vs.length : Nat) : Int) ∧ τ 5 = .int .i64 (x.uses + 1 - 1) ∧ τ 6 = .pointer (some ⟨b1, 0, none⟩) ∧ τ 7 = .int .i64 0 ∧ τ 8 = .pointer (some ⟨g, (id - 1).toNat * 2, none⟩) ∧ τ 9 = .pointer (some ⟨gr, (((vs.length : Nat) : Int) - 1).toNat * 34, none⟩) ∧ τ 14 = .bool false ∧ τ 27 = .bool false ∧ τ 33 = .bool false ∧ τ 39 = .bool false) ⟨up rfl (u0 (up rfl (up rfl (up rfl (up rfl (up rfl (up rfl (up rfl (up rfl (up rfl (up rfl (up rfl (up rfl (up rfl (up rfl (up rfl (up rfl hs0))))))))))))))))), up rfl (u0 (up rfl (up rfl (up rfl (up rfl (up rfl (up rfl (up rfl (up rfl (up rfl (up rfl (up rfl (up rfl (up rfl (up rfl (up rfl (up rfl hs1))))))))))))))))), up rfl (u0 (up rfl tp)), up rfl (u0 tp), up rfl (u0 (up rfl (up rfl (up rfl (up rfl (up rfl (up rfl (up rfl (up rfl (up rfl (up rfl (up rfl (up rfl (up rfl (up rfl (up rfl (up rfl hs6))))))))))))))))), tp, up rfl (u0 (up rfl (up rfl (up rfl (up rfl (up rfl (up rfl (up rfl (up rfl (up rfl (up rfl (up rfl (up rfl (up rfl (up rfl (up rfl (up rfl hs8))))))))))))))))), up rfl (u0 (up rfl (up rfl (up rfl (up rfl (up rfl (up rfl (up rfl (up rfl (up rfl (up rfl (up rfl (up rfl (up rfl (up rfl (up rfl (up rfl hs9))))))))))))))))), up rfl (u0 (up rfl (up rfl (up rfl (up rfl (up rfl (up rfl (up rfl (up rfl (up rfl (up rfl (up rfl (up rfl (up rfl (up rfl (up rfl (up rfl hs14))))))))))))))))), up rfl (u0 (up rfl (up rfl (up rfl (up rfl (up rfl (up rfl (up rfl (up rfl (up rfl (up rfl (up rfl (up rfl (up rfl (up rfl (up rfl (up rfl hs27))))))))))))))))), up rfl (u0 (up rfl (up rfl (up rfl (up rfl (up rfl (up rfl (up rfl (up rfl (up rfl (up rfl (up rfl (up rfl (up rfl (up rfl (up rfl (up rfl hs33))))))))))))))))), up rfl (u0 (up rfl (up rfl (up rfl (up rfl (up rfl (up rfl (up rfl (up rfl (up rfl (up rfl (up rfl (up rfl (up rfl (up rfl (up rfl (up rfl hs39)))))))))))))))))⟩ ?_
        rintro τ ⟨hs0, hs1, hs4, hs5, hs6, hs7, hs8, hs9, hs14, hs27, hs33, hs39⟩
        refine CW.ret ?_
        refine retN (rs := [.tmp 4, .tmp 5, .cell 6 34, .tmp 7]) (vs := [.int .i64 ((vs.length : Nat) : Int), .int .i64 (x.uses + 1 - 1), .agg (bk x.mat).toArray, .int .i64 0]) rfl (by exact (.tmp (AF_ev rfl hs4) (.tmp (AF_ev rfl hs5) (.cell (AF_ev rfl hs6) (hst.blockAt (.there (.there .here))) Try.underlying34 rfl (by rw [List.size_toArray, show (bk x.mat).length = 32 from (bk_len _)]; exact sz34) (.tmp (AF_ev rfl hs7) .nil))))) (by simp) ?_
        have hst := hst.take (.there (.there (.there .here)))
        have hst := hst.take (.there (.there .here))
        have hst := (hst.take (.there (.there (.there .here)))).drop
        rw [hmod]; unfold rUse; rw [if_neg (by rw [hc_o]; decide), if_neg (by rw [hc_gone]; decide), if_neg (by omega)]; refine ⟨by simp, ?_⟩
        rw [hlast] at hst
        exact turnV (List.length_set ..) (hro.set (show 0 ≤ x.uses + 1 ∧ x.uses + 1 ≤ 16 from by omega)) hst

theorem prog_Use {p : Pers} {w : World} {R : List Assn} {ks : RK} {b : Nat} (id : Int) (hid : -9223372036854775808 ≤ id ∧ id ≤ 9223372036854775807) (hst : St p w (KeysV 103 b ks :: R)) :
    Calls Try.prog 59 #[.pointer (some ⟨b, 0, none⟩), .int .i64 id] w fun e w => e = .returned (.tuple #[.int .i64 (kUse ks id).1, .int .i64 (kUse ks id).2.1, .agg (bk (kUse ks id).2.2.1).toArray, .int .i64 (kUse ks id).2.2.2.1]) ∧ St p w (KeysV 103 b (kUse ks id).2.2.2.2 :: R) := by
  cases hk : ring ks id with
  | none => exact prog_Use_no id hid hk hst
  | some r =>
    obtain ⟨o, vs⟩ := r
    cases hx : vs[vs.length - 1]? with
    | none =>
      have h1 := ((keysApart hst).1.row (ring_some hk).2.2).1
      have h2 := List.getElem?_eq_none_iff.1 hx
      omega
    | some x => exact prog_Use_yes id hid hk hx hst
end Go.Proofs.Ytjpjejldinpcnaa
