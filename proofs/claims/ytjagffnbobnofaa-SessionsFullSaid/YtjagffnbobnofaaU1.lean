/- The calls of the package sessions, walked through operation by operation. -/
import Derived.Test.YtjagffnbobnofaaProg
import Derived.Test.YtjagffnbobnofaaSK
namespace Go.Proofs.Ytjagffnbobnofaa
open Go.RowKit Go.SL
attribute [local irreducible] Go.SL.RW Go.SL.CW Go.SL.RD Go.SL.Hd Go.SL.St
set_option linter.unusedVariables false
set_option linter.unusedSimpArgs false

def kindF (c n : Int) : Int := if c < 0 then (-(c + 1)) % n else c % n
theorem inf5 : (Try.prog.info? 5).map (fun i => (i.zero, i.size, i.bytes)) = some (some (.int .u8 0), 1, 1) := by kernel_rfl
theorem mixed : Try.prog.follows .mixedOrders = true := by kernel_rfl
theorem nm47 : (Try.f47.name == "runtime.NumGoroutine") = false := by kernel_rfl
theorem nm63 : (Try.f63.name == "runtime.NumGoroutine") = false := by kernel_rfl
theorem sz3 : (Try.prog.info? 3).map (·.size) = some 1 := by kernel_rfl
theorem sz5 : (Try.prog.info? 5).map (·.size) = some 1 := by kernel_rfl
theorem sz26 : (Try.prog.info? 26).map (·.size) = some 1 := by kernel_rfl
theorem sz37 : (Try.prog.info? 37).map (·.size) = some 1 := by kernel_rfl
theorem sz39 : (Try.prog.info? 39).map (·.size) = some 4 := by kernel_rfl
theorem sz51 : (Try.prog.info? 51).map (·.size) = some 6 := by kernel_rfl
theorem sz71 : (Try.prog.info? 71).map (·.size) = some 1 := by kernel_rfl
theorem zr39 : (Try.prog.info? 39).bind (·.zero) = some (.agg #[.int .i64 0, .int .i64 0, .int .i64 0, .slice none 0 0]) := by kernel_rfl
theorem zr51 : (Try.prog.info? 51).bind (·.zero) = some (.agg #[.int .i64 0, .int .i64 0, .int .i64 0, .int .i64 0, .int .i64 0, .slice none 0 0]) := by kernel_rfl

theorem kind15 {p : Pers} {w : World} {R : List Assn} (c n : Int) (hc : -9223372036854775808 ≤ c ∧ c ≤ 9223372036854775807) (hn : 1 ≤ n ∧ n ≤ 100) (hst : St p w (R)) :
    Calls Try.prog 14 #[.int .i64 c, .int .i64 n] w fun e w => e = .returned (.int .i64 (kindF c n)) ∧ St p w R := by
  refine enter Try.func14 rfl (by simp) (n := 13) rfl fun τ hτ => ?_
  have hs0 : τ 0 = .int .i64 c := hτ 0 (by simp)
  have hs1 : τ 1 = .int .i64 n := hτ 1 (by simp)
  clear hτ
  refine CW.seq ?_
  refine CW.region ?_
  refine RW.soft Wd.a (v := .int .i64 0) (by exact E.assign rfl) ?_
  refine RW.fin (fun τ => τ 0 = .int .i64 c ∧ τ 1 = .int .i64 n ∧ τ 4 = .int .i64 0) ⟨up rfl hs0, up rfl hs1, tp⟩ ?_
  rintro τ ⟨hs0, hs1, hs4⟩
  refine CW.seq ?_
  refine CW.seq ?_
  refine CW.region ?_
  refine RW.soft Wd.a (v := .int .i64 c) (by exact E.move (AF_ev rfl hs0)) ?_
  refine RW.soft Wd.a (v := .bool (decide (c < 0))) (by exact E.lss (k := .i64) (a := c) (b := 0) (AF_ev rfl tp) rfl) ?_
  refine RW.fin (fun τ => τ 0 = .int .i64 c ∧ τ 1 = .int .i64 n ∧ τ 4 = .int .i64 0 ∧ τ 6 = .bool (decide (c < 0))) ⟨up rfl (up rfl hs0), up rfl (up rfl hs1), up rfl (up rfl hs4), tp⟩ ?_
  rintro τ ⟨hs0, hs1, hs4, hs6⟩
  refine CW.cond (AF_ev rfl hs6) (fun hc1 => ?_) (fun hc1 => ?_)
  · have hc1_ := hc1
    try simp only [decide_eq_true_eq, decide_eq_false_iff_not, Bool.and_eq_true, Bool.or_eq_true, Bool.and_eq_false_iff, Bool.or_eq_false_iff, Bool.not_eq_true', Bool.not_eq_false', beq_iff_eq, beq_eq_false_iff_ne, bne_iff_ne, bne_eq_false_iff_eq, ne_eq, Int.not_lt, Int.not_le, gt_iff_lt, ge_iff_le] at hc1_
    refine CW.region ?_
    refine RW.soft Wd.a (v := .int .i64 c) (by exact E.move (AF_ev rfl hs0)) ?_
    refine RW.soft Wd.a (v := .int .i64 (c + 1)) (by exact E.add (k := .i64) (a := c) (b := 1) (AF_ev rfl tp) rfl (show IntKind.i64.wrap (c + 1) = c + 1 from (by rw [IntWalk.i64_in _ (by omega)]))) ?_
    refine RW.soft Wd.a (v := .int .i64 (-(c + 1))) (by exact E.neg (k := .i64) (a := c + 1) (AF_ev rfl tp) (by rw [Int.zero_sub]; exact (show IntKind.i64.wrap (-(c + 1)) = -(c + 1) from (by rw [IntWalk.i64_in _ (by omega)])))) ?_
    refine RW.soft Wd.a (v := .int .i64 (-(c + 1))) (by exact E.assign (AF_ev rfl tp)) ?_
    refine RW.fin (fun τ => τ 0 = .int .i64 (-(c + 1)) ∧ τ 1 = .int .i64 n ∧ τ 4 = .int .i64 0 ∧ τ 6 = .bool true) ⟨tp, up rfl (up rfl (up rfl (up rfl hs1))), up rfl (up rfl (up rfl (up rfl hs4))), up rfl (up rfl (up rfl (up rfl (Eq.trans hs6 (congrArg Value.bool hc1)))))⟩ ?_
    rintro τ ⟨hs0, hs1, hs4, hs6⟩
    refine CW.seq ?_
    refine CW.region ?_
    refine RW.soft Wd.a (v := .int .i64 (-(c + 1))) (by exact E.move (AF_ev rfl hs0)) ?_
    refine RW.soft Wd.a (v := .int .i64 n) (by exact E.move (AF_ev rfl (up rfl hs1))) ?_
    refine RW.soft Wd.a (v := .int .i64 ((-(c + 1)) % n)) (by exact E.rem (k := .i64) (a := -(c + 1)) (b := n) (AF_ev rfl (up rfl tp)) (AF_ev rfl tp) (by omega) (Int.tmod_eq_emod_of_nonneg (by omega))) ?_
    refine RW.soft Wd.a (v := .int .i64 ((-(c + 1)) % n)) (by exact E.assign (AF_ev rfl tp)) ?_
    refine RW.fin (fun τ => τ 0 = .int .i64 (-(c + 1)) ∧ τ 1 = .int .i64 n ∧ τ 4 = .int .i64 ((-(c + 1)) % n) ∧ τ 6 = .bool true) ⟨up rfl (up rfl (up rfl (up rfl hs0))), up rfl (up rfl (up rfl (up rfl hs1))), tp, up rfl (up rfl (up rfl (up rfl hs6)))⟩ ?_
    rintro τ ⟨hs0, hs1, hs4, hs6⟩
    refine CW.ret ?_
    refine ret1 (v := .int .i64 ((-(c + 1)) % n)) rfl (by exact (.tmp (AF_ev rfl hs4) .nil)) ?_
    exact ⟨by unfold kindF; congr 2; split <;> omega, hst⟩
  · have hc1_ := hc1
    try simp only [decide_eq_true_eq, decide_eq_false_iff_not, Bool.and_eq_true, Bool.or_eq_true, Bool.and_eq_false_iff, Bool.or_eq_false_iff, Bool.not_eq_true', Bool.not_eq_false', beq_iff_eq, beq_eq_false_iff_ne, bne_iff_ne, bne_eq_false_iff_eq, ne_eq, Int.not_lt, Int.not_le, gt_iff_lt, ge_iff_le] at hc1_
    refine CW.skip ?_
    refine Th.n ?_
    refine CW.seq ?_
    refine CW.region ?_
    refine RW.soft Wd.a (v := .int .i64 c) (by exact E.move (AF_ev rfl hs0)) ?_
    refine RW.soft Wd.a (v := .int .i64 n) (by exact E.move (AF_ev rfl (up rfl hs1))) ?_
    refine RW.soft Wd.a (v := .int .i64 (c % n)) (by exact E.rem (k := .i64) (a := c) (b := n) (AF_ev rfl (up rfl tp)) (AF_ev rfl tp) (by omega) (Int.tmod_eq_emod_of_nonneg (by omega))) ?_
    refine RW.soft Wd.a (v := .int .i64 (c % n)) (by exact E.assign (AF_ev rfl tp)) ?_
    refine RW.fin (fun τ => τ 0 = .int .i64 c ∧ τ 1 = .int .i64 n ∧ τ 4 = .int .i64 (c % n) ∧ τ 6 = .bool false) ⟨up rfl (up rfl (up rfl (up rfl hs0))), up rfl (up rfl (up rfl (up rfl hs1))), tp, up rfl (up rfl (up rfl (up rfl (Eq.trans hs6 (congrArg Value.bool hc1)))))⟩ ?_
    rintro τ ⟨hs0, hs1, hs4, hs6⟩
    refine CW.ret ?_
    refine ret1 (v := .int .i64 (c % n)) rfl (by exact (.tmp (AF_ev rfl hs4) .nil)) ?_
    exact ⟨by unfold kindF; congr 2; split <;> omega, hst⟩

theorem sess_New {p : Pers} {w : World} {R : List Assn}  (hst : St p w (R)) :
    Calls Try.prog 13 #[] w fun e w => ∃ b m, e = .returned (.pointer (some ⟨b, 0, none⟩)) ∧ St p w (pt b (.cells #[.map (some m), .int .i64 1] 73) :: MapI m [] :: R) := by
  refine enter Try.func13 rfl (by simp) (n := 4) rfl fun τ hτ => ?_
  clear hτ
  refine CW.seq ?_
  refine CW.region ?_
  refine RW.soft Wd.a (v := .pointer none) (by exact E.assign rfl) ?_
  refine RW.fin (fun τ => τ 0 = .pointer none) tp ?_
  rintro τ hs0
  refine CW.seq ?_
  refine CW.region ?_
  refine RW.hard Wd.a ?_
  refine H.makeMap hst fun m1 w hst => ?_
  have hst := St.mapClose (ks := []) hst rfl
  refine RW.soft Wd.a (v := .agg #[.map (some m1), .int .i64 1]) (by exact E.build (vs := #[(0, .map (some m1)), (1, .int .i64 1)]) (bld2 (AF_ev rfl tp) rfl) (by kernel_rfl)) ?_
  refine RW.hard Wd.a ?_
  refine H.box (v := .agg #[.map (some m1), .int .i64 1]) (AF_ev rfl tp) hst fun b2 w hst => ?_
  refine RW.soft Wd.a (v := .pointer (some ⟨b2, 0, none⟩)) (by exact E.assign (AF_ev rfl tp)) ?_
  refine RW.fin (fun τ => τ 0 = .pointer (some ⟨b2, 0, none⟩)) tp ?_
  rintro τ hs0
  refine CW.ret ?_
  refine ret1 (v := .pointer (some ⟨b2, 0, none⟩)) rfl (by exact (.tmp (AF_ev rfl hs0) .nil)) ?_
  exact ⟨_, _, rfl, hst⟩

def OpenR (ks : List (Int × Value)) (next : Int) (ks' : List (Int × Value)) (next' a e : Int) : Prop :=
  if (ks.length : Int) ≥ 8 ∨ next ≥ 1099511627776 then ks' = ks ∧ next' = next ∧ a = 0 ∧ e = 134 else ks' = aput ks next (.agg #[.int .i64 next, .int .i64 0, .int .i64 0, .int .i64 0, .int .i64 0, .slice none 0 0]) ∧ next' = next + 1 ∧ a = next ∧ e = 0

theorem sess_Open {p : Pers} {w : World} {R : List Assn} (t m : Nat) (ks : List (Int × Value)) (next : Int) (hn : 1 ≤ next ∧ next ≤ 1099511627776) (hst : St p w (pt t (.cells #[.map (some m), .int .i64 next] 73) :: MapI m ks :: R)) :
    Calls Try.prog 15 #[.pointer (some ⟨t, 0, none⟩)] w fun e w => ∃ ks' next' a er, e = .returned (.tuple #[.int .i64 a, .int .i64 er]) ∧ OpenR ks next ks' next' a er ∧ St p w (pt t (.cells #[.map (some m), .int .i64 next'] 73) :: MapI m ks' :: R) := by
  refine enter Try.func15 rfl (by simp) (n := 37) rfl fun τ hτ => ?_
  have hs0 : τ 0 = .pointer (some ⟨t, 0, none⟩) := hτ 0 (by simp)
  clear hτ
  refine CW.seq ?_
  refine CW.region ?_
  refine RW.soft Wd.a (v := .int .i64 0) (by exact E.assign rfl) ?_
  refine RW.soft Wd.a (v := .int .i64 0) (by exact E.assign rfl) ?_
  refine RW.fin (fun τ => τ 0 = .pointer (some ⟨t, 0, none⟩) ∧ τ 2 = .int .i64 0 ∧ τ 3 = .int .i64 0) ⟨up rfl (up rfl hs0), up rfl tp, tp⟩ ?_
  rintro τ ⟨hs0, hs2, hs3⟩
  refine CW.seq ?_
  refine CW.seq ?_
  refine CW.cut (fun τ => τ 0 = .pointer (some ⟨t, 0, none⟩) ∧ τ 2 = .int .i64 0 ∧ τ 3 = .int .i64 0 ∧ τ 17 = .bool ((decide (((ks.length : Nat) : Int) ≥ 8)) || (decide (next ≥ 1099511627776)))) ?_ ?_
  · refine CW.region ?_
    refine RW.soft Wd.a (v := .pointer (some ⟨t, 0, none⟩)) (by exact E.move (AF_ev rfl hs0)) ?_
    refine RW.soft Wd.a (v := .pointer (some ⟨t, 0, none⟩)) (by exact E.nilCheck (a := ⟨t, 0, none⟩) (AF_ev rfl tp)) ?_
    refine RW.soft Wd.a (v := .pointer (some ⟨t, 0, none⟩)) (by exact E.fieldAddr (b := t) (o := 0) (f := { name := "m", type := 71, offset := 0, embedded := false, tag := "", pkgPath := "strongroom/sessions", byteOffset := 0 }) (AF_ev rfl tp) Try.underlying73 rfl sz71 rfl) ?_
    refine RW.soft Wd.a (v := .map (some m)) (by exact E.load (a := ⟨t, 0, none⟩) Try.underlying71 rfl (AF_ev rfl tp) (hst.cell .here rfl)) ?_
    refine RW.soft Wd.a (v := .int .i64 ((ks.length : Nat) : Int)) (by exact E.lenMap (b := m) (ks := ks) Try.underlying71 (AF_ev rfl tp) hst (.there .here)) ?_
    refine RW.soft Wd.a (v := .bool (decide (((ks.length : Nat) : Int) ≥ 8))) (by exact E.geq (k := .i64) (a := ((ks.length : Nat) : Int)) (b := 8) (AF_ev rfl tp) rfl) ?_
    refine RW.soft Wd.a (v := .bool (decide (((ks.length : Nat) : Int) ≥ 8))) (by exact E.move (AF_ev rfl tp)) ?_
    refine Or.elim (Bool.eq_false_or_eq_true (decide (((ks.length : Nat) : Int) ≥ 8))) (fun hg1 => ?_) (fun hg1 => ?_)
    · have hg1_ := hg1
      try simp only [decide_eq_true_eq, decide_eq_false_iff_not, Bool.and_eq_true, Bool.or_eq_true, Bool.and_eq_false_iff, Bool.or_eq_false_iff, Bool.not_eq_true', Bool.not_eq_false', beq_iff_eq, beq_eq_false_iff_ne, bne_iff_ne, bne_eq_false_iff_eq, ne_eq, Int.not_lt, Int.not_le, gt_iff_lt, ge_iff_le] at hg1_
      refine RW.pass (by exact Wd.no (x := 11) (b := true) rfl (AF_ev rfl (Eq.trans tp (congrArg Value.bool hg1))) rfl) ?_
      refine RW.pass (by exact Wd.no (x := 11) (b := true) rfl (AF_ev rfl (up rfl (Eq.trans tp (congrArg Value.bool hg1)))) rfl) ?_
      refine RW.pass (by exact Wd.no (x := 11) (b := true) rfl (AF_ev rfl (up rfl (up rfl (Eq.trans tp (congrArg Value.bool hg1))))) rfl) ?_
      refine RW.pass (by exact Wd.no (x := 11) (b := true) rfl (AF_ev rfl (up rfl (up rfl (up rfl (Eq.trans tp (congrArg Value.bool hg1)))))) rfl) ?_
      refine RW.pass (by exact Wd.no (x := 11) (b := true) rfl (AF_ev rfl (up rfl (up rfl (up rfl (up rfl (Eq.trans tp (congrArg Value.bool hg1))))))) rfl) ?_
      refine RW.soft Wd.a (v := .bool true) (by exact E.pickT (AF_ev rfl (up rfl (up rfl (up rfl (up rfl (up rfl (Eq.trans tp (congrArg Value.bool hg1)))))))) rfl) ?_
      refine RW.nil ⟨rfl, rfl, up rfl (up rfl (up rfl (up rfl (up rfl (up rfl (up rfl (up rfl (up rfl (up rfl (up rfl (up rfl (up rfl hs0)))))))))))), up rfl (up rfl (up rfl (up rfl (up rfl (up rfl (up rfl (up rfl (up rfl (up rfl (up rfl (up rfl (up rfl hs2)))))))))))), up rfl (up rfl (up rfl (up rfl (up rfl (up rfl (up rfl (up rfl (up rfl (up rfl (up rfl (up rfl (up rfl hs3)))))))))))), (bool_eq (a := true) tp (by simp only [hg1, Bool.true_and, Bool.false_and, Bool.true_or, Bool.false_or]))⟩
    · have hg1_ := hg1
      try simp only [decide_eq_true_eq, decide_eq_false_iff_not, Bool.and_eq_true, Bool.or_eq_true, Bool.and_eq_false_iff, Bool.or_eq_false_iff, Bool.not_eq_true', Bool.not_eq_false', beq_iff_eq, beq_eq_false_iff_ne, bne_iff_ne, bne_eq_false_iff_eq, ne_eq, Int.not_lt, Int.not_le, gt_iff_lt, ge_iff_le] at hg1_
      refine RW.soft (by exact Wd.yes (x := 11) rfl (AF_ev rfl (Eq.trans tp (congrArg Value.bool hg1)))) (v := .pointer (some ⟨t, 0, none⟩)) (by exact E.move (AF_ev rfl (up rfl (up rfl (up rfl (up rfl (up rfl (up rfl (up rfl hs0))))))))) ?_
      refine RW.soft (by exact Wd.yes (x := 11) rfl (AF_ev rfl (up rfl (Eq.trans tp (congrArg Value.bool hg1))))) (v := .pointer (some ⟨t, 0, none⟩)) (by exact E.nilCheck (a := ⟨t, 0, none⟩) (AF_ev rfl tp)) ?_
      refine RW.soft (by exact Wd.yes (x := 11) rfl (AF_ev rfl (up rfl (up rfl (Eq.trans tp (congrArg Value.bool hg1)))))) (v := .pointer (some ⟨t, 1, none⟩)) (by exact E.fieldAddr (b := t) (o := 0) (f := { name := "next", type := 3, offset := 1, embedded := false, tag := "", pkgPath := "strongroom/sessions", byteOffset := 8 }) (AF_ev rfl tp) Try.underlying73 rfl sz3 rfl) ?_
      refine RW.soft (by exact Wd.yes (x := 11) rfl (AF_ev rfl (up rfl (up rfl (up rfl (Eq.trans tp (congrArg Value.bool hg1))))))) (v := .int .i64 next) (by exact E.load (a := ⟨t, 1, none⟩) Try.underlying3 rfl (AF_ev rfl tp) (hst.cell .here rfl)) ?_
      refine RW.soft (by exact Wd.yes (x := 11) rfl (AF_ev rfl (up rfl (up rfl (up rfl (up rfl (Eq.trans tp (congrArg Value.bool hg1)))))))) (v := .bool (decide (next ≥ 1099511627776))) (by exact E.geq (k := .i64) (a := next) (b := 1099511627776) (AF_ev rfl tp) rfl) ?_
      refine RW.soft Wd.a (v := .bool (decide (next ≥ 1099511627776))) (by exact E.pickF (AF_ev rfl (up rfl (up rfl (up rfl (up rfl (up rfl (Eq.trans tp (congrArg Value.bool hg1)))))))) (AF_ev rfl tp)) ?_
      refine RW.nil ⟨rfl, rfl, up rfl (up rfl (up rfl (up rfl (up rfl (up rfl (up rfl (up rfl (up rfl (up rfl (up rfl (up rfl (up rfl hs0)))))))))))), up rfl (up rfl (up rfl (up rfl (up rfl (up rfl (up rfl (up rfl (up rfl (up rfl (up rfl (up rfl (up rfl hs2)))))))))))), up rfl (up rfl (up rfl (up rfl (up rfl (up rfl (up rfl (up rfl (up rfl (up rfl (up rfl (up rfl (up rfl hs3)))))))))))), (bool_eq (a := decide (next ≥ 1099511627776)) tp (by simp only [hg1, Bool.true_and, Bool.false_and, Bool.true_or, Bool.false_or]))⟩
  rintro τ ⟨hs0, hs2, hs3, hs17⟩
  refine CW.cond (AF_ev rfl hs17) (fun hc2 => ?_) (fun hc2 => ?_)
  · have hc2_ := hc2
    try simp only [decide_eq_true_eq, decide_eq_false_iff_not, Bool.and_eq_true, Bool.or_eq_true, Bool.and_eq_false_iff, Bool.or_eq_false_iff, Bool.not_eq_true', Bool.not_eq_false', beq_iff_eq, beq_eq_false_iff_ne, bne_iff_ne, bne_eq_false_iff_eq, ne_eq, Int.not_lt, Int.not_le, gt_iff_lt, ge_iff_le] at hc2_
    refine CW.seq ?_
    refine CW.region ?_
    refine RW.soft Wd.a (v := .int .i64 0) (by exact E.assign rfl) ?_
    refine RW.soft Wd.a (v := .int .i64 134) (by exact E.assign rfl) ?_
    refine RW.fin (fun τ => τ 0 = .pointer (some ⟨t, 0, none⟩) ∧ τ 2 = .int .i64 0 ∧ τ 3 = .int .i64 134 ∧ τ 17 = .bool true) ⟨up rfl (up rfl hs0), up rfl tp, tp, up rfl (up rfl (Eq.trans hs17 (congrArg Value.bool hc2)))⟩ ?_
    rintro τ ⟨hs0, hs2, hs3, hs17⟩
    refine CW.ret ?_
    refine Th.r ?_
    refine retN (rs := [.tmp 2, .tmp 3]) (vs := [.int .i64 0, .int .i64 134]) rfl (by exact (.tmp (AF_ev rfl hs2) (.tmp (AF_ev rfl hs3) .nil))) (by simp) ?_
    exact ⟨_, _, _, _, rfl, by unfold OpenR; rw [if_pos (by omega)]; exact ⟨rfl, rfl, rfl, rfl⟩, hst⟩
  · have hc2_ := hc2
    try simp only [decide_eq_true_eq, decide_eq_false_iff_not, Bool.and_eq_true, Bool.or_eq_true, Bool.and_eq_false_iff, Bool.or_eq_false_iff, Bool.not_eq_true', Bool.not_eq_false', beq_iff_eq, beq_eq_false_iff_ne, bne_iff_ne, bne_eq_false_iff_eq, ne_eq, Int.not_lt, Int.not_le, gt_iff_lt, ge_iff_le] at hc2_
    refine CW.skip ?_
    refine Th.n ?_
    refine CW.seq ?_
    refine CW.region ?_
    refine RW.soft Wd.a (v := .pointer (some ⟨t, 0, none⟩)) (by exact E.move (AF_ev rfl hs0)) ?_
    refine RW.soft Wd.a (v := .pointer (some ⟨t, 0, none⟩)) (by exact E.nilCheck (a := ⟨t, 0, none⟩) (AF_ev rfl tp)) ?_
    refine RW.soft Wd.a (v := .pointer (some ⟨t, 1, none⟩)) (by exact E.fieldAddr (b := t) (o := 0) (f := { name := "next", type := 3, offset := 1, embedded := false, tag := "", pkgPath := "strongroom/sessions", byteOffset := 8 }) (AF_ev rfl tp) Try.underlying73 rfl sz3 rfl) ?_
    refine RW.soft Wd.a (v := .int .i64 next) (by exact E.load (a := ⟨t, 1, none⟩) Try.underlying3 rfl (AF_ev rfl tp) (hst.cell .here rfl)) ?_
    refine RW.soft Wd.a (v := .int .i64 next) (by exact E.assign (AF_ev rfl tp)) ?_
    refine RW.fin (fun τ => τ 0 = .pointer (some ⟨t, 0, none⟩) ∧ τ 2 = .int .i64 0 ∧ τ 3 = .int .i64 0 ∧ τ 4 = .int .i64 next ∧ τ 17 = .bool false) ⟨up rfl (up rfl (up rfl (up rfl (up rfl hs0)))), up rfl (up rfl (up rfl (up rfl (up rfl hs2)))), up rfl (up rfl (up rfl (up rfl (up rfl hs3)))), tp, up rfl (up rfl (up rfl (up rfl (up rfl (Eq.trans hs17 (congrArg Value.bool hc2))))))⟩ ?_
    rintro τ ⟨hs0, hs2, hs3, hs4, hs17⟩
    refine CW.seq ?_
    refine CW.region ?_
    refine RW.soft Wd.a (v := .pointer (some ⟨t, 0, none⟩)) (by exact E.move (AF_ev rfl hs0)) ?_
    refine RW.soft Wd.a (v := .pointer (some ⟨t, 0, none⟩)) (by exact E.nilCheck (a := ⟨t, 0, none⟩) (AF_ev rfl tp)) ?_
    refine RW.soft Wd.a (v := .pointer (some ⟨t, 0, none⟩)) (by exact E.fieldAddr (b := t) (o := 0) (f := { name := "m", type := 71, offset := 0, embedded := false, tag := "", pkgPath := "strongroom/sessions", byteOffset := 0 }) (AF_ev rfl tp) Try.underlying73 rfl sz71 rfl) ?_
    refine RW.soft Wd.a (v := .map (some m)) (by exact E.load (a := ⟨t, 0, none⟩) Try.underlying71 rfl (AF_ev rfl tp) (hst.cell .here rfl)) ?_
    refine RW.soft Wd.a (v := .int .i64 next) (by exact E.move (AF_ev rfl (up rfl (up rfl (up rfl (up rfl hs4)))))) ?_
    refine RW.soft Wd.a (v := .int .i64 next) (by exact E.move (AF_ev rfl (up rfl (up rfl (up rfl (up rfl (up rfl hs4))))))) ?_
    refine RW.soft Wd.a (v := .agg #[.int .i64 next, .int .i64 0, .int .i64 0, .int .i64 0, .int .i64 0, .slice none 0 0]) (by exact E.build (vs := #[(0, .int .i64 next)]) (bld1 (AF_ev rfl tp)) (by kernel_rfl)) ?_
    refine RW.hard Wd.a ?_
    refine H.mapUpdate (b := m) (ks := ks) (k := next) (v := .agg #[.int .i64 next, .int .i64 0, .int .i64 0, .int .i64 0, .int .i64 0, .slice none 0 0]) Try.underlying71 Try.underlying3 (AF_ev rfl (up rfl (up rfl (up rfl tp)))) (AF_ev rfl (up rfl (up rfl tp))) (AF_ev rfl tp) hst (.there .here) fun w hst => ?_
    refine RW.fin (fun τ => τ 0 = .pointer (some ⟨t, 0, none⟩) ∧ τ 2 = .int .i64 0 ∧ τ 3 = .int .i64 0 ∧ τ 4 = .int .i64 next ∧ τ 17 = .bool false) ⟨u0 (up rfl (up rfl (up rfl (up rfl (up rfl (up rfl (up rfl hs0))))))), u0 (up rfl (up rfl (up rfl (up rfl (up rfl (up rfl (up rfl hs2))))))), u0 (up rfl (up rfl (up rfl (up rfl (up rfl (up rfl (up rfl hs3))))))), u0 (up rfl (up rfl (up rfl (up rfl (up rfl (up rfl (up rfl hs4))))))), u0 (up rfl (up rfl (up rfl (up rfl (up rfl (up rfl (up rfl hs17)))))))⟩ ?_
    rintro τ ⟨hs0, hs2, hs3, hs4, hs17⟩
    refine CW.seq ?_
    refine CW.region ?_
    refine RW.soft Wd.a (v := .pointer (some ⟨t, 0, none⟩)) (by exact E.move (AF_ev rfl hs0)) ?_
    refine RW.soft Wd.a (v := .pointer (some ⟨t, 0, none⟩)) (by exact E.nilCheck (a := ⟨t, 0, none⟩) (AF_ev rfl tp)) ?_
    refine RW.soft Wd.a (v := .pointer (some ⟨t, 1, none⟩)) (by exact E.fieldAddr (b := t) (o := 0) (f := { name := "next", type := 3, offset := 1, embedded := false, tag := "", pkgPath := "strongroom/sessions", byteOffset := 8 }) (AF_ev rfl tp) Try.underlying73 rfl sz3 rfl) ?_
    refine RW.soft Wd.a (v := .int .i64 next) (by exact E.load (a := ⟨t, 1, none⟩) Try.underlying3 rfl (AF_ev rfl tp) (hst.cell .here rfl)) ?_
    refine RW.soft Wd.a (v := .int .i64 (next + 1)) (by exact E.add (k := .i64) (a := next) (b := 1) (AF_ev rfl tp) rfl (show IntKind.i64.wrap (next + 1) = next + 1 from (by rw [IntWalk.i64_in _ (by omega)]))) ?_
    refine RW.soft Wd.a (v := .pointer (some ⟨t, 0, none⟩)) (by exact E.nilCheck (a := ⟨t, 0, none⟩) (AF_ev rfl (up rfl (up rfl (up rfl (up rfl tp)))))) ?_
    refine RW.soft Wd.a (v := .pointer (some ⟨t, 1, none⟩)) (by exact E.fieldAddr (b := t) (o := 0) (f := { name := "next", type := 3, offset := 1, embedded := false, tag := "", pkgPath := "strongroom/sessions", byteOffset := 8 }) (AF_ev rfl tp) Try.underlying73 rfl sz3 rfl) ?_
    refine RW.hard Wd.a ?_
    refine H.store (b := t) (o := 1) (v := .int .i64 (next + 1)) (c' := #[.map (some m), .int .i64 (next + 1)]) (AF_ev rfl tp) (AF_ev rfl (up rfl (up rfl tp))) hst .here sz3 (by simp [Value.cells]) (by simp [Value.cells, Value.oneCell']) rfl fun w hst => ?_
    refine RW.fin (fun τ => τ 0 = .pointer (some ⟨t, 0, none⟩) ∧ τ 2 = .int .i64 0 ∧ τ 3 = .int .i64 0 ∧ τ 4 = .int .i64 next ∧ τ 17 = .bool false) ⟨u0 (up rfl (up rfl (up rfl (up rfl (up rfl (up rfl (up rfl hs0))))))), u0 (up rfl (up rfl (up rfl (up rfl (up rfl (up rfl (up rfl hs2))))))), u0 (up rfl (up rfl (up rfl (up rfl (up rfl (up rfl (up rfl hs3))))))), u0 (up rfl (up rfl (up rfl (up rfl (up rfl (up rfl (up rfl hs4))))))), u0 (up rfl (up rfl (up rfl (up rfl (up rfl (up rfl (up rfl hs17)))))))⟩ ?_
    rintro τ ⟨hs0, hs2, hs3, hs4, hs17⟩
    refine CW.seq ?_
    refine CW.region ?_
    refine RW.soft Wd.a (v := .int .i64 next) (by exact E.move (AF_ev rfl hs4)) ?_
    refine RW.soft Wd.a (v := .int .i64 next) (by exact E.assign (AF_ev rfl tp)) ?_
    refine RW.soft Wd.a (v := .int .i64 0) (by exact E.assign rfl) ?_
    refine RW.fin (fun τ => τ 0 = .pointer (some ⟨t, 0, none⟩) ∧ τ 2 = .int .i64 next ∧ τ 3 = .int .i64 0 ∧ τ 4 = .int .i64 next ∧ τ 17 = .bool false) ⟨up rfl (up rfl (up rfl hs0)), up rfl tp, tp, up rfl (up rfl (up rfl hs4)), up rfl (up rfl (up rfl hs17))⟩ ?_
    rintro τ ⟨hs0, hs2, hs3, hs4, hs17⟩
    refine CW.ret ?_
    refine retN (rs := [.tmp 2, .tmp 3]) (vs := [.int .i64 next, .int .i64 0]) rfl (by exact (.tmp (AF_ev rfl hs2) (.tmp (AF_ev rfl hs3) .nil))) (by simp) ?_
    exact ⟨_, _, _, _, rfl, by unfold OpenR; rw [if_neg (by omega)]; exact ⟨rfl, rfl, rfl, rfl⟩, hst⟩

theorem clone_bytes {p : Pers} {w : World} {R : List Assn} {A : Assn} {X : Option Addr} {m c : Nat} {xs : List Value} (hA : ∀ w H, St p w (A :: H) → Src w 1 (.slice X m c) m xs) (h1 : ∀ u ∈ xs, u.oneCell' = true) (hm : m * 1 ≤ 140737488355328) (hst : St p w (A :: R)) :
    Calls Try.prog 63 #[.slice X m c] w fun e w => ∃ v, e = .returned v ∧ (isNil v = true ↔ X.isNone = true) ∧ St p w (Own 5 1 v m xs :: A :: R) := by
  refine enter Try.func63 rfl (by simp) (n := 8) rfl fun τ hτ => ?_
  have hs0 : τ 0 = .slice X m c := hτ 0 (by simp)
  clear hτ
  refine CW.seq ?_
  refine CW.region ?_
  refine RW.soft Wd.a (v := .slice none 0 0) (by exact E.assign rfl) ?_
  refine RW.fin (fun τ => τ 0 = .slice X m c ∧ τ 2 = .slice none 0 0) ⟨up rfl hs0, tp⟩ ?_
  rintro τ ⟨hs0, hs2⟩
  refine CW.seq ?_
  refine CW.seq ?_
  refine CW.region ?_
  refine RW.soft Wd.a (v := .slice X m c) (by exact E.move (AF_ev rfl hs0)) ?_
  refine RW.soft Wd.a (v := .bool X.isNone) (by exact E.eqlS (p := X) (l := m) (c := c) Try.underlying37 (AF_ev rfl tp) rfl) ?_
  refine RW.fin (fun τ => τ 0 = .slice X m c ∧ τ 2 = .slice none 0 0 ∧ τ 4 = .bool X.isNone) ⟨up rfl (up rfl hs0), up rfl (up rfl hs2), tp⟩ ?_
  rintro τ ⟨hs0, hs2, hs4⟩
  refine CW.cond (AF_ev rfl hs4) (fun hc1 => ?_) (fun hc1 => ?_)
  · have hc1_ := hc1
    try simp only [decide_eq_true_eq, decide_eq_false_iff_not, Bool.and_eq_true, Bool.or_eq_true, Bool.and_eq_false_iff, Bool.or_eq_false_iff, Bool.not_eq_true', Bool.not_eq_false', beq_iff_eq, beq_eq_false_iff_ne, bne_iff_ne, bne_eq_false_iff_eq, ne_eq, Int.not_lt, Int.not_le, gt_iff_lt, ge_iff_le] at hc1_
    refine CW.seq ?_
    refine CW.region ?_
    refine RW.soft Wd.a (v := .slice none 0 0) (by exact E.assign rfl) ?_
    refine RW.fin (fun τ => τ 0 = .slice X m c ∧ τ 2 = .slice none 0 0 ∧ τ 4 = .bool true) ⟨up rfl hs0, tp, up rfl (Eq.trans hs4 (congrArg Value.bool hc1))⟩ ?_
    rintro τ ⟨hs0, hs2, hs4⟩
    refine CW.ret ?_
    refine Th.r ?_
    refine ret1 (v := .slice none 0 0) rfl (by exact (.tmp (AF_ev rfl hs2) .nil)) ?_
    obtain rfl := Option.isNone_iff_eq_none.1 hc1
    obtain ⟨rfl, -, rfl⟩ := (hA _ _ hst).nil0
    exact ⟨_, rfl, by simp [isNil], hst.ownNil none⟩
  · have hc1_ := hc1
    try simp only [decide_eq_true_eq, decide_eq_false_iff_not, Bool.and_eq_true, Bool.or_eq_true, Bool.and_eq_false_iff, Bool.or_eq_false_iff, Bool.not_eq_true', Bool.not_eq_false', beq_iff_eq, beq_eq_false_iff_ne, bne_iff_ne, bne_eq_false_iff_eq, ne_eq, Int.not_lt, Int.not_le, gt_iff_lt, ge_iff_le] at hc1_
    refine CW.skip ?_
    refine Th.n ?_
    refine CW.seq ?_
    have hmx : m ≤ 140737488355328 := Nat.le_trans (Nat.le_mul_of_pos_right m (by omega)) hm
    refine CW.region ?_
    refine RW.hard Wd.a ?_
    refine H.buildSlice (e := 5) (cs := #[]) (vs := #[]) (by simp) (fun _ => by kernel_rfl) hst fun b2 w hst => ?_
    refine RW.soft Wd.a (v := .slice X m c) (by exact E.move (AF_ev rfl (up rfl hs0))) ?_
    have hst := hst.ownNew (n := 0) (cap := 0) (sz := 1) (xs := []) (by omega) (by simp [maxLen]) rfl rfl
    refine RW.hard Wd.a ?_
    refine H.append2 (n2 := m) (xs2 := xs) (by first | rfl | simp) (by first | rfl | simp) (m := m) (news := xs) (s0 := .slice (some ⟨b2, 0, none⟩) 0 0) (x0 := .slice X m c) Try.underlying37 inf5 rfl (AF_ev rfl (up rfl tp)) (AF_ev rfl tp) hst .here (hA _ _ (hst.take (.there .here))) h1 (by omega) (by simp only [maxLen]; omega) ?_
    intro vX3 w hnilX3 hst
    obtain ⟨X3, c4, rfl, hcX3, hmX3, hlX3, hbX3⟩ := hst.shape
    refine RW.soft Wd.a (v := .slice X3 m c4) (by exact E.assign (AF_ev rfl tp)) ?_
    refine RW.fin (fun τ => τ 0 = .slice X m c ∧ τ 2 = .slice X3 m c4 ∧ τ 4 = .bool false) ⟨up rfl (up rfl (up rfl (up rfl hs0))), tp, up rfl (up rfl (up rfl (up rfl (Eq.trans hs4 (congrArg Value.bool hc1)))))⟩ ?_
    rintro τ ⟨hs0, hs2, hs4⟩
    refine CW.ret ?_
    refine ret1 (v := .slice X3 m c4) rfl (by exact (.tmp (AF_ev rfl hs2) .nil)) ?_
    have hst := hst.take (.there .here)
    have hst := hst.take (.there .here)
    exact ⟨_, rfl, ⟨fun h => by have q := (hnilX3.1 h).1; simp [isNil] at q, fun h => by rw [hc1] at h; cases h⟩, hst⟩

theorem sess_own {p : Pers} {w : World} {R : List Assn} {A : Assn} {X : Option Addr} {m c : Nat} {xs : List Value} (hA : ∀ w H, St p w (A :: H) → Src w 1 (.slice X m c) m xs) (h1 : ∀ u ∈ xs, u.oneCell' = true) (hm : m ≤ 140737488355328) (c0 c1 c2 : Int) (hst : St p w (A :: R)) :
    Calls Try.prog 47 #[.agg #[.int .i64 c0, .int .i64 c1, .int .i64 c2, .slice X m c]] w fun e w => ∃ v, e = .returned (.agg #[.int .i64 c0, .int .i64 c1, .int .i64 c2, v]) ∧ (isNil v = true ↔ X.isNone = true) ∧ St p w (Own 5 1 v m xs :: A :: R) := by
  refine enter Try.func47 rfl (by simp) (n := 8) rfl fun τ hτ => ?_
  have hs0 : τ 0 = .agg #[.int .i64 c0, .int .i64 c1, .int .i64 c2, .slice X m c] := hτ 0 (by simp)
  clear hτ
  refine CW.seq ?_
  refine CW.region ?_
  refine RW.hard Wd.a ?_
  refine H.box (v := .agg #[.int .i64 c0, .int .i64 c1, .int .i64 c2, .slice X m c]) (AF_ev rfl hs0) hst fun b1 w hst => ?_
  refine RW.hard Wd.a ?_
  refine H.alloc zr39 hst fun b2 w hst => ?_
  refine RW.fin (fun τ => τ 0 = .agg #[.int .i64 c0, .int .i64 c1, .int .i64 c2, .slice X m c] ∧ τ 1 = .pointer (some ⟨b1, 0, none⟩) ∧ τ 2 = .pointer (some ⟨b2, 0, none⟩)) ⟨up rfl (up rfl hs0), up rfl tp, tp⟩ ?_
  rintro τ ⟨hs0, hs1, hs2⟩
  refine CW.seq ?_
  refine CW.region ?_
  refine RW.soft Wd.a (v := .pointer (some ⟨b1, 3, none⟩)) (by exact E.fieldAddr (b := b1) (o := 0) (f := { name := "Bytes", type := 37, offset := 3, embedded := false, tag := "", pkgPath := "", byteOffset := 24 }) (AF_ev rfl hs1) Try.underlying39 rfl sz37 rfl) ?_
  refine RW.soft Wd.a (v := .slice X m c) (by exact E.load (a := ⟨b1, 3, none⟩) Try.underlying37 rfl (AF_ev rfl tp) (hst.cell (.there .here) rfl)) ?_
  have hst := hst.take (.there (.there .here))
  refine RW.hard Wd.a ?_
  refine H.call0 Try.func63 nm63 rfl (map1 (AF_ev rfl tp)) (Calls.mono (clone_bytes hA h1 (by omega) hst) ?_)
  rintro _ w ⟨vX3, rfl, hnX3, hst⟩
  obtain ⟨X3, c4, rfl, hcX3, hmX3, hlX3, hbX3⟩ := hst.shape
  refine ⟨_, rfl, ?_⟩
  show RW _ _ _ _ _ _ _
  refine RW.soft Wd.a (v := .pointer (some ⟨b1, 3, none⟩)) (by exact E.fieldAddr (b := b1) (o := 0) (f := { name := "Bytes", type := 37, offset := 3, embedded := false, tag := "", pkgPath := "", byteOffset := 24 }) (AF_ev rfl (up rfl (up rfl (up rfl hs1)))) Try.underlying39 rfl sz37 rfl) ?_
  refine RW.hard Wd.a ?_
  refine H.store (b := b1) (o := 3) (v := .slice X3 m c4) (c' := #[.int .i64 c0, .int .i64 c1, .int .i64 c2, .slice X3 m c4]) (AF_ev rfl tp) (AF_ev rfl (up rfl tp)) hst (.there (.there (.there .here))) sz37 (by simp [Value.cells]) (by simp [Value.cells, Value.oneCell']) rfl fun w hst => ?_
  refine RW.fin (fun τ => τ 0 = .agg #[.int .i64 c0, .int .i64 c1, .int .i64 c2, .slice X m c] ∧ τ 1 = .pointer (some ⟨b1, 0, none⟩) ∧ τ 2 = .pointer (some ⟨b2, 0, none⟩)) ⟨u0 (up rfl (up rfl (up rfl (up rfl hs0)))), u0 (up rfl (up rfl (up rfl (up rfl hs1)))), u0 (up rfl (up rfl (up rfl (up rfl hs2))))⟩ ?_
  rintro τ ⟨hs0, hs1, hs2⟩
  refine CW.seq ?_
  refine CW.region ?_
  refine RW.soft Wd.a (v := .agg #[.int .i64 c0, .int .i64 c1, .int .i64 c2, .slice X3 m c4]) (by exact E.loadN (b := b1) (o := 0) (cs := [.int .i64 c0, .int .i64 c1, .int .i64 c2, .slice X3 m c4]) Try.underlying39 rfl sz39 (AF_ev rfl hs1) rfl (hst.cellsIn (.there (.there (.there .here))) rfl)) ?_
  refine RW.hard Wd.a ?_
  refine H.store (b := b2) (o := 0) (v := .agg #[.int .i64 c0, .int .i64 c1, .int .i64 c2, .slice X3 m c4]) (c' := #[.int .i64 c0, .int .i64 c1, .int .i64 c2, .slice X3 m c4]) (AF_ev rfl (up rfl hs2)) (AF_ev rfl tp) hst (.there (.there .here)) sz39 (by simp [Value.cells]) (by simp [Value.cells, Value.oneCell']) rfl fun w hst => ?_
  refine RW.fin (fun τ => τ 0 = .agg #[.int .i64 c0, .int .i64 c1, .int .i64 c2, .slice X m c] ∧ τ 1 = .pointer (some ⟨b1, 0, none⟩) ∧ τ 2 = .pointer (some ⟨b2, 0, none⟩)) ⟨u0 (up rfl hs0), u0 (up rfl hs1), u0 (up rfl hs2)⟩ ?_
  rintro τ ⟨hs0, hs1, hs2⟩
  refine CW.ret ?_
  refine ret1 (v := .agg #[.int .i64 c0, .int .i64 c1, .int .i64 c2, .slice X3 m c4]) rfl (by exact (.cell (AF_ev rfl hs2) (hst.blockAt (.there (.there .here))) Try.underlying39 rfl sz39 .nil)) ?_
  have hst := hst.take (.there .here)
  have hst := hst.take (.there .here)
  have hst := (hst.take (.there (.there .here))).drop
  have hst := (hst.take (.there (.there .here))).drop
  exact ⟨_, rfl, hnX3, hst⟩

theorem sess_Expire_no {p : Pers} {w : World} {R : List Assn} (t mm : Nat) (ks : List (Int × Value)) (next id seq : Int) (hg : aget ks id = none) (hst : St p w (pt t (.cells #[.map (some mm), .int .i64 next] 73) :: MapI mm ks :: R)) :
    Calls Try.prog 16 #[.pointer (some ⟨t, 0, none⟩), .int .i64 id] w fun e w => e = .returned (.int .i64 150) ∧ St p w (pt t (.cells #[.map (some mm), .int .i64 next] 73) :: MapI mm ks :: R) := by
  refine enter Try.func16 rfl (by simp) (n := 23) rfl fun τ hτ => ?_
  have hs0 : τ 0 = .pointer (some ⟨t, 0, none⟩) := hτ 0 (by simp)
  have hs1 : τ 1 = .int .i64 id := hτ 1 (by simp)
  clear hτ
  refine CW.seq ?_
  refine CW.region ?_
  refine RW.soft Wd.a (v := .int .i64 0) (by exact E.assign rfl) ?_
  refine RW.fin (fun τ => τ 0 = .pointer (some ⟨t, 0, none⟩) ∧ τ 1 = .int .i64 id ∧ τ 4 = .int .i64 0) ⟨up rfl hs0, up rfl hs1, tp⟩ ?_
  rintro τ ⟨hs0, hs1, hs4⟩
  refine CW.seq ?_
  refine CW.seq ?_
  refine CW.region ?_
  refine RW.soft Wd.a (v := .pointer (some ⟨t, 0, none⟩)) (by exact E.move (AF_ev rfl hs0)) ?_
  refine RW.soft Wd.a (v := .pointer (some ⟨t, 0, none⟩)) (by exact E.nilCheck (a := ⟨t, 0, none⟩) (AF_ev rfl tp)) ?_
  refine RW.soft Wd.a (v := .pointer (some ⟨t, 0, none⟩)) (by exact E.fieldAddr (b := t) (o := 0) (f := { name := "m", type := 71, offset := 0, embedded := false, tag := "", pkgPath := "strongroom/sessions", byteOffset := 0 }) (AF_ev rfl tp) Try.underlying73 rfl sz71 rfl) ?_
  refine RW.soft Wd.a (v := .map (some mm)) (by exact E.load (a := ⟨t, 0, none⟩) Try.underlying71 rfl (AF_ev rfl tp) (hst.cell .here rfl)) ?_
  refine RW.soft Wd.a (v := .int .i64 id) (by exact E.move (AF_ev rfl (up rfl (up rfl (up rfl (up rfl hs1)))))) ?_
  refine RW.soft Wd.a (v := .tuple #[.agg #[.int .i64 0, .int .i64 0, .int .i64 0, .int .i64 0, .int .i64 0, .slice none 0 0], .bool false]) (by exact E.lookupN (b := mm) (ks := ks) (k := id) hg Try.underlying71 Try.underlying3 zr51 (AF_ev rfl (up rfl tp)) (AF_ev rfl tp) hst (.there .here)) ?_
  refine RW.soft Wd.a (v := .tuple #[.agg #[.int .i64 0, .int .i64 0, .int .i64 0, .int .i64 0, .int .i64 0, .slice none 0 0], .bool false]) (by exact E.move (AF_ev rfl tp)) ?_
  refine RW.soft Wd.a (v := .agg #[.int .i64 0, .int .i64 0, .int .i64 0, .int .i64 0, .int .i64 0, .slice none 0 0]) (by exact E.extract (vs := #[.agg #[.int .i64 0, .int .i64 0, .int .i64 0, .int .i64 0, .int .i64 0, .slice none 0 0], .bool false]) (AF_ev rfl tp) rfl) ?_
  refine RW.soft Wd.a (v := .bool false) (by exact E.extract (vs := #[.agg #[.int .i64 0, .int .i64 0, .int .i64 0, .int .i64 0, .int .i64 0, .slice none 0 0], .bool false]) (AF_ev rfl (up rfl tp)) rfl) ?_
  refine RW.hard Wd.a ?_
  refine H.alloc zr51 hst fun b1 w hst => ?_
  refine RW.hard Wd.a ?_
  refine H.store (b := b1) (o := 0) (v := .agg #[.int .i64 0, .int .i64 0, .int .i64 0, .int .i64 0, .int .i64 0, .slice none 0 0]) (c' := #[.int .i64 0, .int .i64 0, .int .i64 0, .int .i64 0, .int .i64 0, .slice none 0 0]) (AF_ev rfl tp) (AF_ev rfl (up rfl (up rfl tp))) hst .here sz51 (by simp [Value.cells]) (by simp [Value.cells, Value.oneCell']) rfl fun w hst => ?_
  refine RW.soft Wd.a (v := .bool false) (by exact E.assign (AF_ev rfl (u0 (up rfl tp)))) ?_
  refine RW.fin (fun τ => τ 0 = .pointer (some ⟨t, 0, none⟩) ∧ τ 1 = .int .i64 id ∧ τ 4 = .int .i64 0 ∧ τ 6 = .bool false) ⟨up rfl (u0 (up rfl (up rfl (up rfl (up rfl (up rfl (up rfl (up rfl (up rfl (up rfl (up rfl hs0))))))))))), up rfl (u0 (up rfl (up rfl (up rfl (up rfl (up rfl (up rfl (up rfl (up rfl (up rfl (up rfl hs1))))))))))), up rfl (u0 (up rfl (up rfl (up rfl (up rfl (up rfl (up rfl (up rfl (up rfl (up rfl (up rfl hs4))))))))))), tp⟩ ?_
  rintro τ ⟨hs0, hs1, hs4, hs6⟩
  refine CW.seq ?_
  refine CW.region ?_
  refine RW.soft Wd.a (v := .bool false) (by exact E.move (AF_ev rfl hs6)) ?_
  refine RW.soft Wd.a (v := .bool true) (by exact E.not (b := false) (AF_ev rfl tp)) ?_
  refine RW.fin (fun τ => τ 0 = .pointer (some ⟨t, 0, none⟩) ∧ τ 1 = .int .i64 id ∧ τ 4 = .int .i64 0 ∧ τ 6 = .bool false ∧ τ 17 = .bool true) ⟨up rfl (up rfl hs0), up rfl (up rfl hs1), up rfl (up rfl hs4), up rfl (up rfl hs6), tp⟩ ?_
  rintro τ ⟨hs0, hs1, hs4, hs6, hs17⟩
  refine CW.condT (AF_ev rfl hs17) ?_
  refine CW.seq ?_
  refine CW.region ?_
  refine RW.soft Wd.a (v := .int .i64 150) (by exact E.assign rfl) ?_
  refine RW.fin (fun τ => τ 0 = .pointer (some ⟨t, 0, none⟩) ∧ τ 1 = .int .i64 id ∧ τ 4 = .int .i64 150 ∧ τ 6 = .bool false ∧ τ 17 = .bool true) ⟨up rfl hs0, up rfl hs1, tp, up rfl hs6, up rfl hs17⟩ ?_
  rintro τ ⟨hs0, hs1, hs4, hs6, hs17⟩
  refine CW.ret ?_
  refine Th.r ?_
  refine ret1 (v := .int .i64 150) rfl (by exact (.tmp (AF_ev rfl hs4) .nil)) ?_
  have hst := hst.drop
  exact ⟨rfl, hst⟩

theorem sess_Expire_yes {p : Pers} {w : World} {R : List Assn} {X : Option Addr} {m c : Nat} {ns : List Int} (sq c0 c1 c2 : Int) (t mm : Nat) (ks : List (Int × Value)) (next id seq : Int) (hg : aget ks id = some (.agg #[.int .i64 id, .int .i64 sq, .int .i64 c0, .int .i64 c1, .int .i64 c2, .slice X m c])) (hL : Las p 1 (.slice X m c) m (bv ns)) (hm : m ≤ 140737488355328)  (hst : St p w (pt t (.cells #[.map (some mm), .int .i64 next] 73) :: MapI mm ks :: R)) :
    Calls Try.prog 16 #[.pointer (some ⟨t, 0, none⟩), .int .i64 id] w fun e w => e = .returned (.int .i64 0) ∧ St p w (pt t (.cells #[.map (some mm), .int .i64 next] 73) :: MapI mm (adel ks id) :: R) := by
  refine enter Try.func16 rfl (by simp) (n := 23) rfl fun τ hτ => ?_
  have hs0 : τ 0 = .pointer (some ⟨t, 0, none⟩) := hτ 0 (by simp)
  have hs1 : τ 1 = .int .i64 id := hτ 1 (by simp)
  clear hτ
  refine CW.seq ?_
  refine CW.region ?_
  refine RW.soft Wd.a (v := .int .i64 0) (by exact E.assign rfl) ?_
  refine RW.fin (fun τ => τ 0 = .pointer (some ⟨t, 0, none⟩) ∧ τ 1 = .int .i64 id ∧ τ 4 = .int .i64 0) ⟨up rfl hs0, up rfl hs1, tp⟩ ?_
  rintro τ ⟨hs0, hs1, hs4⟩
  refine CW.seq ?_
  refine CW.seq ?_
  refine CW.region ?_
  refine RW.soft Wd.a (v := .pointer (some ⟨t, 0, none⟩)) (by exact E.move (AF_ev rfl hs0)) ?_
  refine RW.soft Wd.a (v := .pointer (some ⟨t, 0, none⟩)) (by exact E.nilCheck (a := ⟨t, 0, none⟩) (AF_ev rfl tp)) ?_
  refine RW.soft Wd.a (v := .pointer (some ⟨t, 0, none⟩)) (by exact E.fieldAddr (b := t) (o := 0) (f := { name := "m", type := 71, offset := 0, embedded := false, tag := "", pkgPath := "strongroom/sessions", byteOffset := 0 }) (AF_ev rfl tp) Try.underlying73 rfl sz71 rfl) ?_
  refine RW.soft Wd.a (v := .map (some mm)) (by exact E.load (a := ⟨t, 0, none⟩) Try.underlying71 rfl (AF_ev rfl tp) (hst.cell .here rfl)) ?_
  refine RW.soft Wd.a (v := .int .i64 id) (by exact E.move (AF_ev rfl (up rfl (up rfl (up rfl (up rfl hs1)))))) ?_
  refine RW.soft Wd.a (v := .tuple #[.agg #[.int .i64 id, .int .i64 sq, .int .i64 c0, .int .i64 c1, .int .i64 c2, .slice X m c], .bool true]) (by exact E.lookupS (b := mm) (ks := ks) (k := id) hg Try.underlying71 Try.underlying3 zr51 (AF_ev rfl (up rfl tp)) (AF_ev rfl tp) hst (.there .here)) ?_
  refine RW.soft Wd.a (v := .tuple #[.agg #[.int .i64 id, .int .i64 sq, .int .i64 c0, .int .i64 c1, .int .i64 c2, .slice X m c], .bool true]) (by exact E.move (AF_ev rfl tp)) ?_
  refine RW.soft Wd.a (v := .agg #[.int .i64 id, .int .i64 sq, .int .i64 c0, .int .i64 c1, .int .i64 c2, .slice X m c]) (by exact E.extract (vs := #[.agg #[.int .i64 id, .int .i64 sq, .int .i64 c0, .int .i64 c1, .int .i64 c2, .slice X m c], .bool true]) (AF_ev rfl tp) rfl) ?_
  refine RW.soft Wd.a (v := .bool true) (by exact E.extract (vs := #[.agg #[.int .i64 id, .int .i64 sq, .int .i64 c0, .int .i64 c1, .int .i64 c2, .slice X m c], .bool true]) (AF_ev rfl (up rfl tp)) rfl) ?_
  refine RW.hard Wd.a ?_
  refine H.alloc zr51 hst fun b1 w hst => ?_
  refine RW.hard Wd.a ?_
  refine H.store (b := b1) (o := 0) (v := .agg #[.int .i64 id, .int .i64 sq, .int .i64 c0, .int .i64 c1, .int .i64 c2, .slice X m c]) (c' := #[.int .i64 id, .int .i64 sq, .int .i64 c0, .int .i64 c1, .int .i64 c2, .slice X m c]) (AF_ev rfl tp) (AF_ev rfl (up rfl (up rfl tp))) hst .here sz51 (by simp [Value.cells]) (by simp [Value.cells, Value.oneCell']) rfl fun w hst => ?_
  refine RW.soft Wd.a (v := .bool true) (by exact E.assign (AF_ev rfl (u0 (up rfl tp)))) ?_
  refine RW.fin (fun τ => τ 0 = .pointer (some ⟨t, 0, none⟩) ∧ τ 1 = .int .i64 id ∧ τ 4 = .int .i64 0 ∧ τ 6 = .bool true) ⟨up rfl (u0 (up rfl (up rfl (up rfl (up rfl (up rfl (up rfl (up rfl (up rfl (up rfl (up rfl hs0))))))))))), up rfl (u0 (up rfl (up rfl (up rfl (up rfl (up rfl (up rfl (up rfl (up rfl (up rfl (up rfl hs1))))))))))), up rfl (u0 (up rfl (up rfl (up rfl (up rfl (up rfl (up rfl (up rfl (up rfl (up rfl (up rfl hs4))))))))))), tp⟩ ?_
  rintro τ ⟨hs0, hs1, hs4, hs6⟩
  refine CW.seq ?_
  refine CW.region ?_
  refine RW.soft Wd.a (v := .bool true) (by exact E.move (AF_ev rfl hs6)) ?_
  refine RW.soft Wd.a (v := .bool false) (by exact E.not (b := true) (AF_ev rfl tp)) ?_
  refine RW.fin (fun τ => τ 0 = .pointer (some ⟨t, 0, none⟩) ∧ τ 1 = .int .i64 id ∧ τ 4 = .int .i64 0 ∧ τ 6 = .bool true ∧ τ 17 = .bool false) ⟨up rfl (up rfl hs0), up rfl (up rfl hs1), up rfl (up rfl hs4), up rfl (up rfl hs6), tp⟩ ?_
  rintro τ ⟨hs0, hs1, hs4, hs6, hs17⟩
  refine CW.condF (AF_ev rfl hs17) ?_
  refine CW.skip ?_
  refine Th.n ?_
  refine CW.seq ?_
  refine CW.region ?_
  refine RW.soft Wd.a (v := .pointer (some ⟨t, 0, none⟩)) (by exact E.move (AF_ev rfl hs0)) ?_
  refine RW.soft Wd.a (v := .pointer (some ⟨t, 0, none⟩)) (by exact E.nilCheck (a := ⟨t, 0, none⟩) (AF_ev rfl tp)) ?_
  refine RW.soft Wd.a (v := .pointer (some ⟨t, 0, none⟩)) (by exact E.fieldAddr (b := t) (o := 0) (f := { name := "m", type := 71, offset := 0, embedded := false, tag := "", pkgPath := "strongroom/sessions", byteOffset := 0 }) (AF_ev rfl tp) Try.underlying73 rfl sz71 rfl) ?_
  refine RW.soft Wd.a (v := .map (some mm)) (by exact E.load (a := ⟨t, 0, none⟩) Try.underlying71 rfl (AF_ev rfl tp) (hst.cell (.there .here) rfl)) ?_
  refine RW.soft Wd.a (v := .int .i64 id) (by exact E.move (AF_ev rfl (up rfl (up rfl (up rfl (up rfl hs1)))))) ?_
  refine RW.hard Wd.a ?_
  refine H.delete (b := mm) (ks := ks) (k := id) Try.underlying71 Try.underlying3 (AF_ev rfl (up rfl tp)) (AF_ev rfl tp) hst (.there (.there .here)) fun w hst => ?_
  refine RW.fin (fun τ => τ 0 = .pointer (some ⟨t, 0, none⟩) ∧ τ 1 = .int .i64 id ∧ τ 4 = .int .i64 0 ∧ τ 6 = .bool true ∧ τ 17 = .bool false) ⟨u0 (up rfl (up rfl (up rfl (up rfl (up rfl hs0))))), u0 (up rfl (up rfl (up rfl (up rfl (up rfl hs1))))), u0 (up rfl (up rfl (up rfl (up rfl (up rfl hs4))))), u0 (up rfl (up rfl (up rfl (up rfl (up rfl hs6))))), u0 (up rfl (up rfl (up rfl (up rfl (up rfl hs17)))))⟩ ?_
  rintro τ ⟨hs0, hs1, hs4, hs6, hs17⟩
  refine CW.seq ?_
  refine CW.region ?_
  refine RW.soft Wd.a (v := .int .i64 0) (by exact E.assign rfl) ?_
  refine RW.fin (fun τ => τ 0 = .pointer (some ⟨t, 0, none⟩) ∧ τ 1 = .int .i64 id ∧ τ 4 = .int .i64 0 ∧ τ 6 = .bool true ∧ τ 17 = .bool false) ⟨up rfl hs0, up rfl hs1, tp, up rfl hs6, up rfl hs17⟩ ?_
  rintro τ ⟨hs0, hs1, hs4, hs6, hs17⟩
  refine CW.ret ?_
  refine ret1 (v := .int .i64 0) rfl (by exact (.tmp (AF_ev rfl hs4) .nil)) ?_
  have hst := hst.drop
  exact ⟨rfl, hst⟩

theorem sess_Ask_no {p : Pers} {w : World} {R : List Assn} (t mm : Nat) (ks : List (Int × Value)) (next id seq : Int) (hg : aget ks id = none) (hst : St p w (pt t (.cells #[.map (some mm), .int .i64 next] 73) :: MapI mm ks :: R)) :
    Calls Try.prog 21 #[.pointer (some ⟨t, 0, none⟩), .int .i64 id, .int .i64 seq] w fun e w => e = .returned (.tuple #[.agg #[.int .i64 0, .int .i64 0, .int .i64 0, .slice none 0 0], .bool false, .int .i64 150]) ∧ St p w (pt t (.cells #[.map (some mm), .int .i64 next] 73) :: MapI mm ks :: R) := by
  refine enter Try.func21 rfl (by simp) (n := 40) rfl fun τ hτ => ?_
  have hs0 : τ 0 = .pointer (some ⟨t, 0, none⟩) := hτ 0 (by simp)
  have hs1 : τ 1 = .int .i64 id := hτ 1 (by simp)
  have hs2 : τ 2 = .int .i64 seq := hτ 2 (by simp)
  clear hτ
  refine CW.seq ?_
  refine CW.region ?_
  refine RW.hard Wd.a ?_
  refine H.alloc zr39 hst fun b1 w hst => ?_
  refine RW.soft Wd.a (v := .bool false) (by exact E.assign rfl) ?_
  refine RW.soft Wd.a (v := .int .i64 0) (by exact E.assign rfl) ?_
  refine RW.fin (fun τ => τ 0 = .pointer (some ⟨t, 0, none⟩) ∧ τ 1 = .int .i64 id ∧ τ 2 = .int .i64 seq ∧ τ 6 = .pointer (some ⟨b1, 0, none⟩) ∧ τ 7 = .bool false ∧ τ 8 = .int .i64 0) ⟨up rfl (up rfl (up rfl hs0)), up rfl (up rfl (up rfl hs1)), up rfl (up rfl (up rfl hs2)), up rfl (up rfl tp), up rfl tp, tp⟩ ?_
  rintro τ ⟨hs0, hs1, hs2, hs6, hs7, hs8⟩
  refine CW.seq ?_
  refine CW.region ?_
  refine RW.soft Wd.a (v := .pointer (some ⟨t, 0, none⟩)) (by exact E.move (AF_ev rfl hs0)) ?_
  refine RW.soft Wd.a (v := .pointer (some ⟨t, 0, none⟩)) (by exact E.nilCheck (a := ⟨t, 0, none⟩) (AF_ev rfl tp)) ?_
  refine RW.soft Wd.a (v := .pointer (some ⟨t, 0, none⟩)) (by exact E.fieldAddr (b := t) (o := 0) (f := { name := "m", type := 71, offset := 0, embedded := false, tag := "", pkgPath := "strongroom/sessions", byteOffset := 0 }) (AF_ev rfl tp) Try.underlying73 rfl sz71 rfl) ?_
  refine RW.soft Wd.a (v := .map (some mm)) (by exact E.load (a := ⟨t, 0, none⟩) Try.underlying71 rfl (AF_ev rfl tp) (hst.cell (.there .here) rfl)) ?_
  refine RW.soft Wd.a (v := .int .i64 id) (by exact E.move (AF_ev rfl (up rfl (up rfl (up rfl (up rfl hs1)))))) ?_
  refine RW.soft Wd.a (v := .tuple #[.agg #[.int .i64 0, .int .i64 0, .int .i64 0, .int .i64 0, .int .i64 0, .slice none 0 0], .bool false]) (by exact E.lookupN (b := mm) (ks := ks) (k := id) hg Try.underlying71 Try.underlying3 zr51 (AF_ev rfl (up rfl tp)) (AF_ev rfl tp) hst (.there (.there .here))) ?_
  refine RW.soft Wd.a (v := .tuple #[.agg #[.int .i64 0, .int .i64 0, .int .i64 0, .int .i64 0, .int .i64 0, .slice none 0 0], .bool false]) (by exact E.move (AF_ev rfl tp)) ?_
  refine RW.soft Wd.a (v := .agg #[.int .i64 0, .int .i64 0, .int .i64 0, .int .i64 0, .int .i64 0, .slice none 0 0]) (by exact E.extract (vs := #[.agg #[.int .i64 0, .int .i64 0, .int .i64 0, .int .i64 0, .int .i64 0, .slice none 0 0], .bool false]) (AF_ev rfl tp) rfl) ?_
  refine RW.soft Wd.a (v := .bool false) (by exact E.extract (vs := #[.agg #[.int .i64 0, .int .i64 0, .int .i64 0, .int .i64 0, .int .i64 0, .slice none 0 0], .bool false]) (AF_ev rfl (up rfl tp)) rfl) ?_
  refine RW.hard Wd.a ?_
  refine H.alloc zr51 hst fun b2 w hst => ?_
  refine RW.hard Wd.a ?_
  refine H.store (b := b2) (o := 0) (v := .agg #[.int .i64 0, .int .i64 0, .int .i64 0, .int .i64 0, .int .i64 0, .slice none 0 0]) (c' := #[.int .i64 0, .int .i64 0, .int .i64 0, .int .i64 0, .int .i64 0, .slice none 0 0]) (AF_ev rfl tp) (AF_ev rfl (up rfl (up rfl tp))) hst .here sz51 (by simp [Value.cells]) (by simp [Value.cells, Value.oneCell']) rfl fun w hst => ?_
  refine RW.soft Wd.a (v := .bool false) (by exact E.assign (AF_ev rfl (u0 (up rfl tp)))) ?_
  refine RW.fin (fun τ => τ 0 = .pointer (some ⟨t, 0, none⟩) ∧ τ 1 = .int .i64 id ∧ τ 2 = .int .i64 seq ∧ τ 6 = .pointer (some ⟨b1, 0, none⟩) ∧ τ 7 = .bool false ∧ τ 8 = .int .i64 0 ∧ τ 9 = .pointer (some ⟨b2, 0, none⟩) ∧ τ 10 = .bool false) ⟨up rfl (u0 (up rfl (up rfl (up rfl (up rfl (up rfl (up rfl (up rfl (up rfl (up rfl (up rfl hs0))))))))))), up rfl (u0 (up rfl (up rfl (up rfl (up rfl (up rfl (up rfl (up rfl (up rfl (up rfl (up rfl hs1))))))))))), up rfl (u0 (up rfl (up rfl (up rfl (up rfl (up rfl (up rfl (up rfl (up rfl (up rfl (up rfl hs2))))))))))), up rfl (u0 (up rfl (up rfl (up rfl (up rfl (up rfl (up rfl (up rfl (up rfl (up rfl (up rfl hs6))))))))))), up rfl (u0 (up rfl (up rfl (up rfl (up rfl (up rfl (up rfl (up rfl (up rfl (up rfl (up rfl hs7))))))))))), up rfl (u0 (up rfl (up rfl (up rfl (up rfl (up rfl (up rfl (up rfl (up rfl (up rfl (up rfl hs8))))))))))), up rfl (u0 tp), tp⟩ ?_
  rintro τ ⟨hs0, hs1, hs2, hs6, hs7, hs8, hs9, hs10⟩
  refine CW.seq ?_
  refine CW.block ?_
  refine CW.seq ?_
  refine CW.region ?_
  refine RW.soft Wd.a (v := .bool false) (by exact E.move (AF_ev rfl hs10)) ?_
  refine RW.soft Wd.a (v := .bool true) (by exact E.not (b := false) (AF_ev rfl tp)) ?_
  refine RW.soft Wd.a (v := .bool true) (by exact E.assign (AF_ev rfl tp)) ?_
  refine RW.fin (fun τ => τ 0 = .pointer (some ⟨t, 0, none⟩) ∧ τ 1 = .int .i64 id ∧ τ 2 = .int .i64 seq ∧ τ 6 = .pointer (some ⟨b1, 0, none⟩) ∧ τ 7 = .bool false ∧ τ 8 = .int .i64 0 ∧ τ 9 = .pointer (some ⟨b2, 0, none⟩) ∧ τ 10 = .bool false ∧ τ 20 = .bool true) ⟨up rfl (up rfl (up rfl hs0)), up rfl (up rfl (up rfl hs1)), up rfl (up rfl (up rfl hs2)), up rfl (up rfl (up rfl hs6)), up rfl (up rfl (up rfl hs7)), up rfl (up rfl (up rfl hs8)), up rfl (up rfl (up rfl hs9)), up rfl (up rfl (up rfl hs10)), tp⟩ ?_
  rintro τ ⟨hs0, hs1, hs2, hs6, hs7, hs8, hs9, hs10, hs20⟩
  refine CW.condT (AF_ev rfl hs20) ?_
  refine CW.seq ?_
  refine CW.region ?_
  refine RW.soft Wd.a (v := .agg #[.int .i64 0, .int .i64 0, .int .i64 0, .slice none 0 0]) (by exact E.build (vs := #[]) (by simp) (by kernel_rfl)) ?_
  refine RW.hard Wd.a ?_
  refine H.store (b := b1) (o := 0) (v := .agg #[.int .i64 0, .int .i64 0, .int .i64 0, .slice none 0 0]) (c' := #[.int .i64 0, .int .i64 0, .int .i64 0, .slice none 0 0]) (AF_ev rfl (up rfl hs6)) (AF_ev rfl tp) hst (.there .here) sz39 (by simp [Value.cells]) (by simp [Value.cells, Value.oneCell']) rfl fun w hst => ?_
  refine RW.soft Wd.a (v := .bool false) (by exact E.assign rfl) ?_
  refine RW.soft Wd.a (v := .int .i64 150) (by exact E.assign rfl) ?_
  refine RW.fin (fun τ => τ 0 = .pointer (some ⟨t, 0, none⟩) ∧ τ 1 = .int .i64 id ∧ τ 2 = .int .i64 seq ∧ τ 6 = .pointer (some ⟨b1, 0, none⟩) ∧ τ 7 = .bool false ∧ τ 8 = .int .i64 150 ∧ τ 9 = .pointer (some ⟨b2, 0, none⟩) ∧ τ 10 = .bool false ∧ τ 20 = .bool true) ⟨up rfl (up rfl (u0 (up rfl hs0))), up rfl (up rfl (u0 (up rfl hs1))), up rfl (up rfl (u0 (up rfl hs2))), up rfl (up rfl (u0 (up rfl hs6))), up rfl tp, tp, up rfl (up rfl (u0 (up rfl hs9))), up rfl (up rfl (u0 (up rfl hs10))), up rfl (up rfl (u0 (up rfl hs20)))⟩ ?_
  rintro τ ⟨hs0, hs1, hs2, hs6, hs7, hs8, hs9, hs10, hs20⟩
  refine CW.ret ?_
  refine Bl.r ?_
  refine Th.r ?_
  refine retN (rs := [.cell 6 39, .tmp 7, .tmp 8]) (vs := [.agg #[.int .i64 0, .int .i64 0, .int .i64 0, .slice none 0 0], .bool false, .int .i64 150]) rfl (by exact (.cell (AF_ev rfl hs6) (hst.blockAt (.there .here)) Try.underlying39 rfl sz39 (.tmp (AF_ev rfl hs7) (.tmp (AF_ev rfl hs8) .nil)))) (by simp) ?_
  have hst := hst.drop
  have hst := hst.drop
  exact ⟨rfl, hst⟩

theorem sess_Ask_old {p : Pers} {w : World} {R : List Assn} {X : Option Addr} {m c : Nat} {ns : List Int} (sq c0 c1 c2 : Int) (t mm : Nat) (ks : List (Int × Value)) (next id seq : Int) (hg : aget ks id = some (.agg #[.int .i64 id, .int .i64 sq, .int .i64 c0, .int .i64 c1, .int .i64 c2, .slice X m c])) (hL : Las p 1 (.slice X m c) m (bv ns)) (hm : m ≤ 140737488355328) (hlt : seq < max 1 sq) (hst : St p w (pt t (.cells #[.map (some mm), .int .i64 next] 73) :: MapI mm ks :: R)) :
    Calls Try.prog 21 #[.pointer (some ⟨t, 0, none⟩), .int .i64 id, .int .i64 seq] w fun e w => e = .returned (.tuple #[.agg #[.int .i64 0, .int .i64 0, .int .i64 0, .slice none 0 0], .bool false, .int .i64 151]) ∧ St p w (pt t (.cells #[.map (some mm), .int .i64 next] 73) :: MapI mm ks :: R) := by
  refine enter Try.func21 rfl (by simp) (n := 40) rfl fun τ hτ => ?_
  have hs0 : τ 0 = .pointer (some ⟨t, 0, none⟩) := hτ 0 (by simp)
  have hs1 : τ 1 = .int .i64 id := hτ 1 (by simp)
  have hs2 : τ 2 = .int .i64 seq := hτ 2 (by simp)
  clear hτ
  refine CW.seq ?_
  refine CW.region ?_
  refine RW.hard Wd.a ?_
  refine H.alloc zr39 hst fun b1 w hst => ?_
  refine RW.soft Wd.a (v := .bool false) (by exact E.assign rfl) ?_
  refine RW.soft Wd.a (v := .int .i64 0) (by exact E.assign rfl) ?_
  refine RW.fin (fun τ => τ 0 = .pointer (some ⟨t, 0, none⟩) ∧ τ 1 = .int .i64 id ∧ τ 2 = .int .i64 seq ∧ τ 6 = .pointer (some ⟨b1, 0, none⟩) ∧ τ 7 = .bool false ∧ τ 8 = .int .i64 0) ⟨up rfl (up rfl (up rfl hs0)), up rfl (up rfl (up rfl hs1)), up rfl (up rfl (up rfl hs2)), up rfl (up rfl tp), up rfl tp, tp⟩ ?_
  rintro τ ⟨hs0, hs1, hs2, hs6, hs7, hs8⟩
  refine CW.seq ?_
  refine CW.region ?_
  refine RW.soft Wd.a (v := .pointer (some ⟨t, 0, none⟩)) (by exact E.move (AF_ev rfl hs0)) ?_
  refine RW.soft Wd.a (v := .pointer (some ⟨t, 0, none⟩)) (by exact E.nilCheck (a := ⟨t, 0, none⟩) (AF_ev rfl tp)) ?_
  refine RW.soft Wd.a (v := .pointer (some ⟨t, 0, none⟩)) (by exact E.fieldAddr (b := t) (o := 0) (f := { name := "m", type := 71, offset := 0, embedded := false, tag := "", pkgPath := "strongroom/sessions", byteOffset := 0 }) (AF_ev rfl tp) Try.underlying73 rfl sz71 rfl) ?_
  refine RW.soft Wd.a (v := .map (some mm)) (by exact E.load (a := ⟨t, 0, none⟩) Try.underlying71 rfl (AF_ev rfl tp) (hst.cell (.there .here) rfl)) ?_
  refine RW.soft Wd.a (v := .int .i64 id) (by exact E.move (AF_ev rfl (up rfl (up rfl (up rfl (up rfl hs1)))))) ?_
  refine RW.soft Wd.a (v := .tuple #[.agg #[.int .i64 id, .int .i64 sq, .int .i64 c0, .int .i64 c1, .int .i64 c2, .slice X m c], .bool true]) (by exact E.lookupS (b := mm) (ks := ks) (k := id) hg Try.underlying71 Try.underlying3 zr51 (AF_ev rfl (up rfl tp)) (AF_ev rfl tp) hst (.there (.there .here))) ?_
  refine RW.soft Wd.a (v := .tuple #[.agg #[.int .i64 id, .int .i64 sq, .int .i64 c0, .int .i64 c1, .int .i64 c2, .slice X m c], .bool true]) (by exact E.move (AF_ev rfl tp)) ?_
  refine RW.soft Wd.a (v := .agg #[.int .i64 id, .int .i64 sq, .int .i64 c0, .int .i64 c1, .int .i64 c2, .slice X m c]) (by exact E.extract (vs := #[.agg #[.int .i64 id, .int .i64 sq, .int .i64 c0, .int .i64 c1, .int .i64 c2, .slice X m c], .bool true]) (AF_ev rfl tp) rfl) ?_
  refine RW.soft Wd.a (v := .bool true) (by exact E.extract (vs := #[.agg #[.int .i64 id, .int .i64 sq, .int .i64 c0, .int .i64 c1, .int .i64 c2, .slice X m c], .bool true]) (AF_ev rfl (up rfl tp)) rfl) ?_
  refine RW.hard Wd.a ?_
  refine H.alloc zr51 hst fun b2 w hst => ?_
  refine RW.hard Wd.a ?_
  refine H.store (b := b2) (o := 0) (v := .agg #[.int .i64 id, .int .i64 sq, .int .i64 c0, .int .i64 c1, .int .i64 c2, .slice X m c]) (c' := #[.int .i64 id, .int .i64 sq, .int .i64 c0, .int .i64 c1, .int .i64 c2, .slice X m c]) (AF_ev rfl tp) (AF_ev rfl (up rfl (up rfl tp))) hst .here sz51 (by simp [Value.cells]) (by simp [Value.cells, Value.oneCell']) rfl fun w hst => ?_
  refine RW.soft Wd.a (v := .bool true) (by exact E.assign (AF_ev rfl (u0 (up rfl tp)))) ?_
  refine RW.fin (fun τ => τ 0 = .pointer (some ⟨t, 0, none⟩) ∧ τ 1 = .int .i64 id ∧ τ 2 = .int .i64 seq ∧ τ 6 = .pointer (some ⟨b1, 0, none⟩) ∧ τ 7 = .bool false ∧ τ 8 = .int .i64 0 ∧ τ 9 = .pointer (some ⟨b2, 0, none⟩) ∧ τ 10 = .bool true) ⟨up rfl (u0 (up rfl (up rfl (up rfl (up rfl (up rfl (up rfl (up rfl (up rfl (up rfl (up rfl hs0))))))))))), up rfl (u0 (up rfl (up rfl (up rfl (up rfl (up rfl (up rfl (up rfl (up rfl (up rfl (up rfl hs1))))))))))), up rfl (u0 (up rfl (up rfl (up rfl (up rfl (up rfl (up rfl (up rfl (up rfl (up rfl (up rfl hs2))))))))))), up rfl (u0 (up rfl (up rfl (up rfl (up rfl (up rfl (up rfl (up rfl (up rfl (up rfl (up rfl hs6))))))))))), up rfl (u0 (up rfl (up rfl (up rfl (up rfl (up rfl (up rfl (up rfl (up rfl (up rfl (up rfl hs7))))))))))), up rfl (u0 (up rfl (up rfl (up rfl (up rfl (up rfl (up rfl (up rfl (up rfl (up rfl (up rfl hs8))))))))))), up rfl (u0 tp), tp⟩ ?_
  rintro τ ⟨hs0, hs1, hs2, hs6, hs7, hs8, hs9, hs10⟩
  refine CW.seq ?_
  refine CW.block ?_
  refine CW.seq ?_
  refine CW.region ?_
  refine RW.soft Wd.a (v := .bool true) (by exact E.move (AF_ev rfl hs10)) ?_
  refine RW.soft Wd.a (v := .bool false) (by exact E.not (b := true) (AF_ev rfl tp)) ?_
  refine RW.soft Wd.a (v := .bool false) (by exact E.assign (AF_ev rfl tp)) ?_
  refine RW.fin (fun τ => τ 0 = .pointer (some ⟨t, 0, none⟩) ∧ τ 1 = .int .i64 id ∧ τ 2 = .int .i64 seq ∧ τ 6 = .pointer (some ⟨b1, 0, none⟩) ∧ τ 7 = .bool false ∧ τ 8 = .int .i64 0 ∧ τ 9 = .pointer (some ⟨b2, 0, none⟩) ∧ τ 10 = .bool true ∧ τ 20 = .bool false) ⟨up rfl (up rfl (up rfl hs0)), up rfl (up rfl (up rfl hs1)), up rfl (up rfl (up rfl hs2)), up rfl (up rfl (up rfl hs6)), up rfl (up rfl (up rfl hs7)), up rfl (up rfl (up rfl hs8)), up rfl (up rfl (up rfl hs9)), up rfl (up rfl (up rfl hs10)), tp⟩ ?_
  rintro τ ⟨hs0, hs1, hs2, hs6, hs7, hs8, hs9, hs10, hs20⟩
  refine CW.condF (AF_ev rfl hs20) ?_
  refine CW.seq ?_
  refine CW.region ?_
  refine RW.soft Wd.a (v := .int .i64 seq) (by exact E.move (AF_ev rfl hs2)) ?_
  refine RW.soft Wd.a (v := .pointer (some ⟨b2, 1, none⟩)) (by exact E.fieldAddr (b := b2) (o := 0) (f := { name := "Seq", type := 3, offset := 1, embedded := false, tag := "", pkgPath := "", byteOffset := 8 }) (AF_ev rfl (up rfl hs9)) Try.underlying51 rfl sz3 rfl) ?_
  refine RW.soft Wd.a (v := .int .i64 sq) (by exact E.load (a := ⟨b2, 1, none⟩) Try.underlying3 rfl (AF_ev rfl tp) (hst.cell .here rfl)) ?_
  refine RW.soft Wd.a (v := .int .i64 (max 1 sq)) (by exact E.max (k := .i64) (a := 1) (b := sq) rfl (AF_ev rfl tp) (by rw [Int.max_def]; split <;> split <;> omega)) ?_
  refine RW.soft Wd.a (v := .bool true) (by exact E.b (a := decide (seq < (max 1 sq))) (E.lss (k := .i64) (a := seq) (b := max 1 sq) (AF_ev rfl (up rfl (up rfl (up rfl tp)))) (AF_ev rfl tp)) (by rw [decide_eq_true_eq]; omega)) ?_
  refine RW.soft Wd.a (v := .bool true) (by exact E.assign (AF_ev rfl tp)) ?_
  refine RW.fin (fun τ => τ 0 = .pointer (some ⟨t, 0, none⟩) ∧ τ 1 = .int .i64 id ∧ τ 2 = .int .i64 seq ∧ τ 6 = .pointer (some ⟨b1, 0, none⟩) ∧ τ 7 = .bool false ∧ τ 8 = .int .i64 0 ∧ τ 9 = .pointer (some ⟨b2, 0, none⟩) ∧ τ 10 = .bool true ∧ τ 20 = .bool false ∧ τ 24 = .bool true) ⟨up rfl (up rfl (up rfl (up rfl (up rfl (up rfl hs0))))), up rfl (up rfl (up rfl (up rfl (up rfl (up rfl hs1))))), up rfl (up rfl (up rfl (up rfl (up rfl (up rfl hs2))))), up rfl (up rfl (up rfl (up rfl (up rfl (up rfl hs6))))), up rfl (up rfl (up rfl (up rfl (up rfl (up rfl hs7))))), up rfl (up rfl (up rfl (up rfl (up rfl (up rfl hs8))))), up rfl (up rfl (up rfl (up rfl (up rfl (up rfl hs9))))), up rfl (up rfl (up rfl (up rfl (up rfl (up rfl hs10))))), up rfl (up rfl (up rfl (up rfl (up rfl (up rfl hs20))))), tp⟩ ?_
  rintro τ ⟨hs0, hs1, hs2, hs6, hs7, hs8, hs9, hs10, hs20, hs24⟩
  refine CW.condT (AF_ev rfl hs24) ?_
  refine CW.seq ?_
  refine CW.region ?_
  refine RW.soft Wd.a (v := .agg #[.int .i64 0, .int .i64 0, .int .i64 0, .slice none 0 0]) (by exact E.build (vs := #[]) (by simp) (by kernel_rfl)) ?_
  refine RW.hard Wd.a ?_
  refine H.store (b := b1) (o := 0) (v := .agg #[.int .i64 0, .int .i64 0, .int .i64 0, .slice none 0 0]) (c' := #[.int .i64 0, .int .i64 0, .int .i64 0, .slice none 0 0]) (AF_ev rfl (up rfl hs6)) (AF_ev rfl tp) hst (.there .here) sz39 (by simp [Value.cells]) (by simp [Value.cells, Value.oneCell']) rfl fun w hst => ?_
  refine RW.soft Wd.a (v := .bool false) (by exact E.assign rfl) ?_
  refine RW.soft Wd.a (v := .int .i64 151) (by exact E.assign rfl) ?_
  refine RW.fin (fun τ => τ 0 = .pointer (some ⟨t, 0, none⟩) ∧ τ 1 = .int .i64 id ∧ τ 2 = .int .i64 seq ∧ τ 6 = .pointer (some ⟨b1, 0, none⟩) ∧ τ 7 = .bool false ∧ τ 8 = .int .i64 151 ∧ τ 9 = .pointer (some ⟨b2, 0, none⟩) ∧ τ 10 = .bool true ∧ τ 20 = .bool false ∧ τ 24 = .bool true) ⟨up rfl (up rfl (u0 (up rfl hs0))), up rfl (up rfl (u0 (up rfl hs1))), up rfl (up rfl (u0 (up rfl hs2))), up rfl (up rfl (u0 (up rfl hs6))), up rfl tp, tp, up rfl (up rfl (u0 (up rfl hs9))), up rfl (up rfl (u0 (up rfl hs10))), up rfl (up rfl (u0 (up rfl hs20))), up rfl (up rfl (u0 (up rfl hs24)))⟩ ?_
  rintro τ ⟨hs0, hs1, hs2, hs6, hs7, hs8, hs9, hs10, hs20, hs24⟩
  refine CW.ret ?_
  refine Bl.r ?_
  refine Th.r ?_
  refine retN (rs := [.cell 6 39, .tmp 7, .tmp 8]) (vs := [.agg #[.int .i64 0, .int .i64 0, .int .i64 0, .slice none 0 0], .bool false, .int .i64 151]) rfl (by exact (.cell (AF_ev rfl hs6) (hst.blockAt (.there .here)) Try.underlying39 rfl sz39 (.tmp (AF_ev rfl hs7) (.tmp (AF_ev rfl hs8) .nil)))) (by simp) ?_
  have hst := hst.drop
  have hst := hst.drop
  exact ⟨rfl, hst⟩

theorem sess_Ask_new {p : Pers} {w : World} {R : List Assn} {X : Option Addr} {m c : Nat} {ns : List Int} (sq c0 c1 c2 : Int) (t mm : Nat) (ks : List (Int × Value)) (next id seq : Int) (hg : aget ks id = some (.agg #[.int .i64 id, .int .i64 sq, .int .i64 c0, .int .i64 c1, .int .i64 c2, .slice X m c])) (hL : Las p 1 (.slice X m c) m (bv ns)) (hm : m ≤ 140737488355328) (hlt : ¬ seq < max 1 sq) (hne : seq ≠ sq) (hst : St p w (pt t (.cells #[.map (some mm), .int .i64 next] 73) :: MapI mm ks :: R)) :
    Calls Try.prog 21 #[.pointer (some ⟨t, 0, none⟩), .int .i64 id, .int .i64 seq] w fun e w => e = .returned (.tuple #[.agg #[.int .i64 0, .int .i64 0, .int .i64 0, .slice none 0 0], .bool false, .int .i64 0]) ∧ St p w (pt t (.cells #[.map (some mm), .int .i64 next] 73) :: MapI mm ks :: R) := by
  refine enter Try.func21 rfl (by simp) (n := 40) rfl fun τ hτ => ?_
  have hs0 : τ 0 = .pointer (some ⟨t, 0, none⟩) := hτ 0 (by simp)
  have hs1 : τ 1 = .int .i64 id := hτ 1 (by simp)
  have hs2 : τ 2 = .int .i64 seq := hτ 2 (by simp)
  clear hτ
  refine CW.seq ?_
  refine CW.region ?_
  refine RW.hard Wd.a ?_
  refine H.alloc zr39 hst fun b1 w hst => ?_
  refine RW.soft Wd.a (v := .bool false) (by exact E.assign rfl) ?_
  refine RW.soft Wd.a (v := .int .i64 0) (by exact E.assign rfl) ?_
  refine RW.fin (fun τ => τ 0 = .pointer (some ⟨t, 0, none⟩) ∧ τ 1 = .int .i64 id ∧ τ 2 = .int .i64 seq ∧ τ 6 = .pointer (some ⟨b1, 0, none⟩) ∧ τ 7 = .bool false ∧ τ 8 = .int .i64 0) ⟨up rfl (up rfl (up rfl hs0)), up rfl (up rfl (up rfl hs1)), up rfl (up rfl (up rfl hs2)), up rfl (up rfl tp), up rfl tp, tp⟩ ?_
  rintro τ ⟨hs0, hs1, hs2, hs6, hs7, hs8⟩
  refine CW.seq ?_
  refine CW.region ?_
  refine RW.soft Wd.a (v := .pointer (some ⟨t, 0, none⟩)) (by exact E.move (AF_ev rfl hs0)) ?_
  refine RW.soft Wd.a (v := .pointer (some ⟨t, 0, none⟩)) (by exact E.nilCheck (a := ⟨t, 0, none⟩) (AF_ev rfl tp)) ?_
  refine RW.soft Wd.a (v := .pointer (some ⟨t, 0, none⟩)) (by exact E.fieldAddr (b := t) (o := 0) (f := { name := "m", type := 71, offset := 0, embedded := false, tag := "", pkgPath := "strongroom/sessions", byteOffset := 0 }) (AF_ev rfl tp) Try.underlying73 rfl sz71 rfl) ?_
  refine RW.soft Wd.a (v := .map (some mm)) (by exact E.load (a := ⟨t, 0, none⟩) Try.underlying71 rfl (AF_ev rfl tp) (hst.cell (.there .here) rfl)) ?_
  refine RW.soft Wd.a (v := .int .i64 id) (by exact E.move (AF_ev rfl (up rfl (up rfl (up rfl (up rfl hs1)))))) ?_
  refine RW.soft Wd.a (v := .tuple #[.agg #[.int .i64 id, .int .i64 sq, .int .i64 c0, .int .i64 c1, .int .i64 c2, .slice X m c], .bool true]) (by exact E.lookupS (b := mm) (ks := ks) (k := id) hg Try.underlying71 Try.underlying3 zr51 (AF_ev rfl (up rfl tp)) (AF_ev rfl tp) hst (.there (.there .here))) ?_
  refine RW.soft Wd.a (v := .tuple #[.agg #[.int .i64 id, .int .i64 sq, .int .i64 c0, .int .i64 c1, .int .i64 c2, .slice X m c], .bool true]) (by exact E.move (AF_ev rfl tp)) ?_
  refine RW.soft Wd.a (v := .agg #[.int .i64 id, .int .i64 sq, .int .i64 c0, .int .i64 c1, .int .i64 c2, .slice X m c]) (by exact E.extract (vs := #[.agg #[.int .i64 id, .int .i64 sq, .int .i64 c0, .int .i64 c1, .int .i64 c2, .slice X m c], .bool true]) (AF_ev rfl tp) rfl) ?_
  refine RW.soft Wd.a (v := .bool true) (by exact E.extract (vs := #[.agg #[.int .i64 id, .int .i64 sq, .int .i64 c0, .int .i64 c1, .int .i64 c2, .slice X m c], .bool true]) (AF_ev rfl (up rfl tp)) rfl) ?_
  refine RW.hard Wd.a ?_
  refine H.alloc zr51 hst fun b2 w hst => ?_
  refine RW.hard Wd.a ?_
  refine H.store (b := b2) (o := 0) (v := .agg #[.int .i64 id, .int .i64 sq, .int .i64 c0, .int .i64 c1, .int .i64 c2, .slice X m c]) (c' := #[.int .i64 id, .int .i64 sq, .int .i64 c0, .int .i64 c1, .int .i64 c2, .slice X m c]) (AF_ev rfl tp) (AF_ev rfl (up rfl (up rfl tp))) hst .here sz51 (by simp [Value.cells]) (by simp [Value.cells, Value.oneCell']) rfl fun w hst => ?_
  refine RW.soft Wd.a (v := .bool true) (by exact E.assign (AF_ev rfl (u0 (up rfl tp)))) ?_
  refine RW.fin (fun τ => τ 0 = .pointer (some ⟨t, 0, none⟩) ∧ τ 1 = .int .i64 id ∧ τ 2 = .int .i64 seq ∧ τ 6 = .pointer (some ⟨b1, 0, none⟩) ∧ τ 7 = .bool false ∧ τ 8 = .int .i64 0 ∧ τ 9 = .pointer (some ⟨b2, 0, none⟩) ∧ τ 10 = .bool true) ⟨up rfl (u0 (up rfl (up rfl (up rfl (up rfl (up rfl (up rfl (up rfl (up rfl (up rfl (up rfl hs0))))))))))), up rfl (u0 (up rfl (up rfl (up rfl (up rfl (up rfl (up rfl (up rfl (up rfl (up rfl (up rfl hs1))))))))))), up rfl (u0 (up rfl (up rfl (up rfl (up rfl (up rfl (up rfl (up rfl (up rfl (up rfl (up rfl hs2))))))))))), up rfl (u0 (up rfl (up rfl (up rfl (up rfl (up rfl (up rfl (up rfl (up rfl (up rfl (up rfl hs6))))))))))), up rfl (u0 (up rfl (up rfl (up rfl (up rfl (up rfl (up rfl (up rfl (up rfl (up rfl (up rfl hs7))))))))))), up rfl (u0 (up rfl (up rfl (up rfl (up rfl (up rfl (up rfl (up rfl (up rfl (up rfl (up rfl hs8))))))))))), up rfl (u0 tp), tp⟩ ?_
  rintro τ ⟨hs0, hs1, hs2, hs6, hs7, hs8, hs9, hs10⟩
  refine CW.seq ?_
  refine CW.block ?_
  refine CW.seq ?_
  refine CW.region ?_
  refine RW.soft Wd.a (v := .bool true) (by exact E.move (AF_ev rfl hs10)) ?_
  refine RW.soft Wd.a (v := .bool false) (by exact E.not (b := true) (AF_ev rfl tp)) ?_
  refine RW.soft Wd.a (v := .bool false) (by exact E.assign (AF_ev rfl tp)) ?_
  refine RW.fin (fun τ => τ 0 = .pointer (some ⟨t, 0, none⟩) ∧ τ 1 = .int .i64 id ∧ τ 2 = .int .i64 seq ∧ τ 6 = .pointer (some ⟨b1, 0, none⟩) ∧ τ 7 = .bool false ∧ τ 8 = .int .i64 0 ∧ τ 9 = .pointer (some ⟨b2, 0, none⟩) ∧ τ 10 = .bool true ∧ τ 20 = .bool false) ⟨up rfl (up rfl (up rfl hs0)), up rfl (up rfl (up rfl hs1)), up rfl (up rfl (up rfl hs2)), up rfl (up rfl (up rfl hs6)), up rfl (up rfl (up rfl hs7)), up rfl (up rfl (up rfl hs8)), up rfl (up rfl (up rfl hs9)), up rfl (up rfl (up rfl hs10)), tp⟩ ?_
  rintro τ ⟨hs0, hs1, hs2, hs6, hs7, hs8, hs9, hs10, hs20⟩
  refine CW.condF (AF_ev rfl hs20) ?_
  refine CW.seq ?_
  refine CW.region ?_
  refine RW.soft Wd.a (v := .int .i64 seq) (by exact E.move (AF_ev rfl hs2)) ?_
  refine RW.soft Wd.a (v := .pointer (some ⟨b2, 1, none⟩)) (by exact E.fieldAddr (b := b2) (o := 0) (f := { name := "Seq", type := 3, offset := 1, embedded := false, tag := "", pkgPath := "", byteOffset := 8 }) (AF_ev rfl (up rfl hs9)) Try.underlying51 rfl sz3 rfl) ?_
  refine RW.soft Wd.a (v := .int .i64 sq) (by exact E.load (a := ⟨b2, 1, none⟩) Try.underlying3 rfl (AF_ev rfl tp) (hst.cell .here rfl)) ?_
  refine RW.soft Wd.a (v := .int .i64 (max 1 sq)) (by exact E.max (k := .i64) (a := 1) (b := sq) rfl (AF_ev rfl tp) (by rw [Int.max_def]; split <;> split <;> omega)) ?_
  refine RW.soft Wd.a (v := .bool false) (by exact E.b (a := decide (seq < (max 1 sq))) (E.lss (k := .i64) (a := seq) (b := max 1 sq) (AF_ev rfl (up rfl (up rfl (up rfl tp)))) (AF_ev rfl tp)) (by rw [decide_eq_false_iff_not]; omega)) ?_
  refine RW.soft Wd.a (v := .bool false) (by exact E.assign (AF_ev rfl tp)) ?_
  refine RW.fin (fun τ => τ 0 = .pointer (some ⟨t, 0, none⟩) ∧ τ 1 = .int .i64 id ∧ τ 2 = .int .i64 seq ∧ τ 6 = .pointer (some ⟨b1, 0, none⟩) ∧ τ 7 = .bool false ∧ τ 8 = .int .i64 0 ∧ τ 9 = .pointer (some ⟨b2, 0, none⟩) ∧ τ 10 = .bool true ∧ τ 20 = .bool false ∧ τ 24 = .bool false) ⟨up rfl (up rfl (up rfl (up rfl (up rfl (up rfl hs0))))), up rfl (up rfl (up rfl (up rfl (up rfl (up rfl hs1))))), up rfl (up rfl (up rfl (up rfl (up rfl (up rfl hs2))))), up rfl (up rfl (up rfl (up rfl (up rfl (up rfl hs6))))), up rfl (up rfl (up rfl (up rfl (up rfl (up rfl hs7))))), up rfl (up rfl (up rfl (up rfl (up rfl (up rfl hs8))))), up rfl (up rfl (up rfl (up rfl (up rfl (up rfl hs9))))), up rfl (up rfl (up rfl (up rfl (up rfl (up rfl hs10))))), up rfl (up rfl (up rfl (up rfl (up rfl (up rfl hs20))))), tp⟩ ?_
  rintro τ ⟨hs0, hs1, hs2, hs6, hs7, hs8, hs9, hs10, hs20, hs24⟩
  refine CW.condF (AF_ev rfl hs24) ?_
  refine CW.seq ?_
  refine CW.region ?_
  refine RW.soft Wd.a (v := .int .i64 seq) (by exact E.move (AF_ev rfl hs2)) ?_
  refine RW.soft Wd.a (v := .pointer (some ⟨b2, 1, none⟩)) (by exact E.fieldAddr (b := b2) (o := 0) (f := { name := "Seq", type := 3, offset := 1, embedded := false, tag := "", pkgPath := "", byteOffset := 8 }) (AF_ev rfl (up rfl hs9)) Try.underlying51 rfl sz3 rfl) ?_
  refine RW.soft Wd.a (v := .int .i64 sq) (by exact E.load (a := ⟨b2, 1, none⟩) Try.underlying3 rfl (AF_ev rfl tp) (hst.cell .here rfl)) ?_
  refine RW.soft Wd.a (v := .bool false) (by exact E.b (a := seq == sq) (E.eql (k := .i64) (a := seq) (b := sq) (AF_ev rfl (up rfl (up rfl tp))) (AF_ev rfl tp)) (by rw [beq_eq_false_iff_ne]; omega)) ?_
  refine RW.soft Wd.a (v := .bool false) (by exact E.assign (AF_ev rfl tp)) ?_
  refine RW.fin (fun τ => τ 0 = .pointer (some ⟨t, 0, none⟩) ∧ τ 1 = .int .i64 id ∧ τ 2 = .int .i64 seq ∧ τ 6 = .pointer (some ⟨b1, 0, none⟩) ∧ τ 7 = .bool false ∧ τ 8 = .int .i64 0 ∧ τ 9 = .pointer (some ⟨b2, 0, none⟩) ∧ τ 10 = .bool true ∧ τ 20 = .bool false ∧ τ 24 = .bool false ∧ τ 31 = .bool false) ⟨up rfl (up rfl (up rfl (up rfl (up rfl hs0)))), up rfl (up rfl (up rfl (up rfl (up rfl hs1)))), up rfl (up rfl (up rfl (up rfl (up rfl hs2)))), up rfl (up rfl (up rfl (up rfl (up rfl hs6)))), up rfl (up rfl (up rfl (up rfl (up rfl hs7)))), up rfl (up rfl (up rfl (up rfl (up rfl hs8)))), up rfl (up rfl (up rfl (up rfl (up rfl hs9)))), up rfl (up rfl (up rfl (up rfl (up rfl hs10)))), up rfl (up rfl (up rfl (up rfl (up rfl hs20)))), up rfl (up rfl (up rfl (up rfl (up rfl hs24)))), tp⟩ ?_
  rintro τ ⟨hs0, hs1, hs2, hs6, hs7, hs8, hs9, hs10, hs20, hs24, hs31⟩
  refine CW.condF (AF_ev rfl hs31) ?_
  refine CW.skip ?_
  refine Bl.n ?_
  refine Th.n ?_
  refine CW.seq ?_
  refine CW.region ?_
  refine RW.soft Wd.a (v := .agg #[.int .i64 0, .int .i64 0, .int .i64 0, .slice none 0 0]) (by exact E.build (vs := #[]) (by simp) (by kernel_rfl)) ?_
  refine RW.hard Wd.a ?_
  refine H.store (b := b1) (o := 0) (v := .agg #[.int .i64 0, .int .i64 0, .int .i64 0, .slice none 0 0]) (c' := #[.int .i64 0, .int .i64 0, .int .i64 0, .slice none 0 0]) (AF_ev rfl (up rfl hs6)) (AF_ev rfl tp) hst (.there .here) sz39 (by simp [Value.cells]) (by simp [Value.cells, Value.oneCell']) rfl fun w hst => ?_
  refine RW.soft Wd.a (v := .bool false) (by exact E.assign rfl) ?_
  refine RW.soft Wd.a (v := .int .i64 0) (by exact E.assign rfl) ?_
  refine RW.fin (fun τ => τ 0 = .pointer (some ⟨t, 0, none⟩) ∧ τ 1 = .int .i64 id ∧ τ 2 = .int .i64 seq ∧ τ 6 = .pointer (some ⟨b1, 0, none⟩) ∧ τ 7 = .bool false ∧ τ 8 = .int .i64 0 ∧ τ 9 = .pointer (some ⟨b2, 0, none⟩) ∧ τ 10 = .bool true ∧ τ 20 = .bool false ∧ τ 24 = .bool false ∧ τ 31 = .bool false) ⟨up rfl (up rfl (u0 (up rfl hs0))), up rfl (up rfl (u0 (up rfl hs1))), up rfl (up rfl (u0 (up rfl hs2))), up rfl (up rfl (u0 (up rfl hs6))), up rfl tp, tp, up rfl (up rfl (u0 (up rfl hs9))), up rfl (up rfl (u0 (up rfl hs10))), up rfl (up rfl (u0 (up rfl hs20))), up rfl (up rfl (u0 (up rfl hs24))), up rfl (up rfl (u0 (up rfl hs31)))⟩ ?_
  rintro τ ⟨hs0, hs1, hs2, hs6, hs7, hs8, hs9, hs10, hs20, hs24, hs31⟩
  refine CW.ret ?_
  refine retN (rs := [.cell 6 39, .tmp 7, .tmp 8]) (vs := [.agg #[.int .i64 0, .int .i64 0, .int .i64 0, .slice none 0 0], .bool false, .int .i64 0]) rfl (by exact (.cell (AF_ev rfl hs6) (hst.blockAt (.there .here)) Try.underlying39 rfl sz39 (.tmp (AF_ev rfl hs7) (.tmp (AF_ev rfl hs8) .nil)))) (by simp) ?_
  have hst := hst.drop
  have hst := hst.drop
  exact ⟨rfl, hst⟩

theorem sess_Ask_same {p : Pers} {w : World} {R : List Assn} {X : Option Addr} {m c : Nat} {ns : List Int} (sq c0 c1 c2 : Int) (t mm : Nat) (ks : List (Int × Value)) (next id seq : Int) (hg : aget ks id = some (.agg #[.int .i64 id, .int .i64 sq, .int .i64 c0, .int .i64 c1, .int .i64 c2, .slice X m c])) (hL : Las p 1 (.slice X m c) m (bv ns)) (hm : m ≤ 140737488355328) (hlt : ¬ seq < max 1 sq) (he : seq = sq) (hst : St p w (pt t (.cells #[.map (some mm), .int .i64 next] 73) :: MapI mm ks :: R)) :
    Calls Try.prog 21 #[.pointer (some ⟨t, 0, none⟩), .int .i64 id, .int .i64 seq] w fun e w => ∃ v, e = .returned (.tuple #[.agg #[.int .i64 c0, .int .i64 c1, .int .i64 c2, v], .bool true, .int .i64 0]) ∧ (isNil v = true ↔ X.isNone = true) ∧ St p w (Own 5 1 v m (bv ns) :: pt t (.cells #[.map (some mm), .int .i64 next] 73) :: MapI mm ks :: R) := by
  refine enter Try.func21 rfl (by simp) (n := 40) rfl fun τ hτ => ?_
  have hs0 : τ 0 = .pointer (some ⟨t, 0, none⟩) := hτ 0 (by simp)
  have hs1 : τ 1 = .int .i64 id := hτ 1 (by simp)
  have hs2 : τ 2 = .int .i64 seq := hτ 2 (by simp)
  clear hτ
  refine CW.seq ?_
  refine CW.region ?_
  refine RW.hard Wd.a ?_
  refine H.alloc zr39 hst fun b1 w hst => ?_
  refine RW.soft Wd.a (v := .bool false) (by exact E.assign rfl) ?_
  refine RW.soft Wd.a (v := .int .i64 0) (by exact E.assign rfl) ?_
  refine RW.fin (fun τ => τ 0 = .pointer (some ⟨t, 0, none⟩) ∧ τ 1 = .int .i64 id ∧ τ 2 = .int .i64 seq ∧ τ 6 = .pointer (some ⟨b1, 0, none⟩) ∧ τ 7 = .bool false ∧ τ 8 = .int .i64 0) ⟨up rfl (up rfl (up rfl hs0)), up rfl (up rfl (up rfl hs1)), up rfl (up rfl (up rfl hs2)), up rfl (up rfl tp), up rfl tp, tp⟩ ?_
  rintro τ ⟨hs0, hs1, hs2, hs6, hs7, hs8⟩
  refine CW.seq ?_
  refine CW.region ?_
  refine RW.soft Wd.a (v := .pointer (some ⟨t, 0, none⟩)) (by exact E.move (AF_ev rfl hs0)) ?_
  refine RW.soft Wd.a (v := .pointer (some ⟨t, 0, none⟩)) (by exact E.nilCheck (a := ⟨t, 0, none⟩) (AF_ev rfl tp)) ?_
  refine RW.soft Wd.a (v := .pointer (some ⟨t, 0, none⟩)) (by exact E.fieldAddr (b := t) (o := 0) (f := { name := "m", type := 71, offset := 0, embedded := false, tag := "", pkgPath := "strongroom/sessions", byteOffset := 0 }) (AF_ev rfl tp) Try.underlying73 rfl sz71 rfl) ?_
  refine RW.soft Wd.a (v := .map (some mm)) (by exact E.load (a := ⟨t, 0, none⟩) Try.underlying71 rfl (AF_ev rfl tp) (hst.cell (.there .here) rfl)) ?_
  refine RW.soft Wd.a (v := .int .i64 id) (by exact E.move (AF_ev rfl (up rfl (up rfl (up rfl (up rfl hs1)))))) ?_
  refine RW.soft Wd.a (v := .tuple #[.agg #[.int .i64 id, .int .i64 sq, .int .i64 c0, .int .i64 c1, .int .i64 c2, .slice X m c], .bool true]) (by exact E.lookupS (b := mm) (ks := ks) (k := id) hg Try.underlying71 Try.underlying3 zr51 (AF_ev rfl (up rfl tp)) (AF_ev rfl tp) hst (.there (.there .here))) ?_
  refine RW.soft Wd.a (v := .tuple #[.agg #[.int .i64 id, .int .i64 sq, .int .i64 c0, .int .i64 c1, .int .i64 c2, .slice X m c], .bool true]) (by exact E.move (AF_ev rfl tp)) ?_
  refine RW.soft Wd.a (v := .agg #[.int .i64 id, .int .i64 sq, .int .i64 c0, .int .i64 c1, .int .i64 c2, .slice X m c]) (by exact E.extract (vs := #[.agg #[.int .i64 id, .int .i64 sq, .int .i64 c0, .int .i64 c1, .int .i64 c2, .slice X m c], .bool true]) (AF_ev rfl tp) rfl) ?_
  refine RW.soft Wd.a (v := .bool true) (by exact E.extract (vs := #[.agg #[.int .i64 id, .int .i64 sq, .int .i64 c0, .int .i64 c1, .int .i64 c2, .slice X m c], .bool true]) (AF_ev rfl (up rfl tp)) rfl) ?_
  refine RW.hard Wd.a ?_
  refine H.alloc zr51 hst fun b2 w hst => ?_
  refine RW.hard Wd.a ?_
  refine H.store (b := b2) (o := 0) (v := .agg #[.int .i64 id, .int .i64 sq, .int .i64 c0, .int .i64 c1, .int .i64 c2, .slice X m c]) (c' := #[.int .i64 id, .int .i64 sq, .int .i64 c0, .int .i64 c1, .int .i64 c2, .slice X m c]) (AF_ev rfl tp) (AF_ev rfl (up rfl (up rfl tp))) hst .here sz51 (by simp [Value.cells]) (by simp [Value.cells, Value.oneCell']) rfl fun w hst => ?_
  refine RW.soft Wd.a (v := .bool true) (by exact E.assign (AF_ev rfl (u0 (up rfl tp)))) ?_
  refine RW.fin (fun τ => τ 0 = .pointer (some ⟨t, 0, none⟩) ∧ τ 1 = .int .i64 id ∧ τ 2 = .int .i64 seq ∧ τ 6 = .pointer (some ⟨b1, 0, none⟩) ∧ τ 7 = .bool false ∧ τ 8 = .int .i64 0 ∧ τ 9 = .pointer (some ⟨b2, 0, none⟩) ∧ τ 10 = .bool true) ⟨up rfl (u0 (up rfl (up rfl (up rfl (up rfl (up rfl (up rfl (up rfl (up rfl (up rfl (up rfl hs0))))))))))), up rfl (u0 (up rfl (up rfl (up rfl (up rfl (up rfl (up rfl (up rfl (up rfl (up rfl (up rfl hs1))))))))))), up rfl (u0 (up rfl (up rfl (up rfl (up rfl (up rfl (up rfl (up rfl (up rfl (up rfl (up rfl hs2))))))))))), up rfl (u0 (up rfl (up rfl (up rfl (up rfl (up rfl (up rfl (up rfl (up rfl (up rfl (up rfl hs6))))))))))), up rfl (u0 (up rfl (up rfl (up rfl (up rfl (up rfl (up rfl (up rfl (up rfl (up rfl (up rfl hs7))))))))))), up rfl (u0 (up rfl (up rfl (up rfl (up rfl (up rfl (up rfl (up rfl (up rfl (up rfl (up rfl hs8))))))))))), up rfl (u0 tp), tp⟩ ?_
  rintro τ ⟨hs0, hs1, hs2, hs6, hs7, hs8, hs9, hs10⟩
  refine CW.seq ?_
  refine CW.block ?_
  refine CW.seq ?_
  refine CW.region ?_
  refine RW.soft Wd.a (v := .bool true) (by exact E.move (AF_ev rfl hs10)) ?_
  refine RW.soft Wd.a (v := .bool false) (by exact E.not (b := true) (AF_ev rfl tp)) ?_
  refine RW.soft Wd.a (v := .bool false) (by exact E.assign (AF_ev rfl tp)) ?_
  refine RW.fin (fun τ => τ 0 = .pointer (some ⟨t, 0, none⟩) ∧ τ 1 = .int .i64 id ∧ τ 2 = .int .i64 seq ∧ τ 6 = .pointer (some ⟨b1, 0, none⟩) ∧ τ 7 = .bool false ∧ τ 8 = .int .i64 0 ∧ τ 9 = .pointer (some ⟨b2, 0, none⟩) ∧ τ 10 = .bool true ∧ τ 20 = .bool false) ⟨up rfl (up rfl (up rfl hs0)), up rfl (up rfl (up rfl hs1)), up rfl (up rfl (up rfl hs2)), up rfl (up rfl (up rfl hs6)), up rfl (up rfl (up rfl hs7)), up rfl (up rfl (up rfl hs8)), up rfl (up rfl (up rfl hs9)), up rfl (up rfl (up rfl hs10)), tp⟩ ?_
  rintro τ ⟨hs0, hs1, hs2, hs6, hs7, hs8, hs9, hs10, hs20⟩
  refine CW.condF (AF_ev rfl hs20) ?_
  refine CW.seq ?_
  refine CW.region ?_
  refine RW.soft Wd.a (v := .int .i64 seq) (by exact E.move (AF_ev rfl hs2)) ?_
  refine RW.soft Wd.a (v := .pointer (some ⟨b2, 1, none⟩)) (by exact E.fieldAddr (b := b2) (o := 0) (f := { name := "Seq", type := 3, offset := 1, embedded := false, tag := "", pkgPath := "", byteOffset := 8 }) (AF_ev rfl (up rfl hs9)) Try.underlying51 rfl sz3 rfl) ?_
  refine RW.soft Wd.a (v := .int .i64 sq) (by exact E.load (a := ⟨b2, 1, none⟩) Try.underlying3 rfl (AF_ev rfl tp) (hst.cell .here rfl)) ?_
  refine RW.soft Wd.a (v := .int .i64 (max 1 sq)) (by exact E.max (k := .i64) (a := 1) (b := sq) rfl (AF_ev rfl tp) (by rw [Int.max_def]; split <;> split <;> omega)) ?_
  refine RW.soft Wd.a (v := .bool false) (by exact E.b (a := decide (seq < (max 1 sq))) (E.lss (k := .i64) (a := seq) (b := max 1 sq) (AF_ev rfl (up rfl (up rfl (up rfl tp)))) (AF_ev rfl tp)) (by rw [decide_eq_false_iff_not]; omega)) ?_
  refine RW.soft Wd.a (v := .bool false) (by exact E.assign (AF_ev rfl tp)) ?_
  refine RW.fin (fun τ => τ 0 = .pointer (some ⟨t, 0, none⟩) ∧ τ 1 = .int .i64 id ∧ τ 2 = .int .i64 seq ∧ τ 6 = .pointer (some ⟨b1, 0, none⟩) ∧ τ 7 = .bool false ∧ τ 8 = .int .i64 0 ∧ τ 9 = .pointer (some ⟨b2, 0, none⟩) ∧ τ 10 = .bool true ∧ τ 20 = .bool false ∧ τ 24 = .bool false) ⟨up rfl (up rfl (up rfl (up rfl (up rfl (up rfl hs0))))), up rfl (up rfl (up rfl (up rfl (up rfl (up rfl hs1))))), up rfl (up rfl (up rfl (up rfl (up rfl (up rfl hs2))))), up rfl (up rfl (up rfl (up rfl (up rfl (up rfl hs6))))), up rfl (up rfl (up rfl (up rfl (up rfl (up rfl hs7))))), up rfl (up rfl (up rfl (up rfl (up rfl (up rfl hs8))))), up rfl (up rfl (up rfl (up rfl (up rfl (up rfl hs9))))), up rfl (up rfl (up rfl (up rfl (up rfl (up rfl hs10))))), up rfl (up rfl (up rfl (up rfl (up rfl (up rfl hs20))))), tp⟩ ?_
  rintro τ ⟨hs0, hs1, hs2, hs6, hs7, hs8, hs9, hs10, hs20, hs24⟩
  refine CW.condF (AF_ev rfl hs24) ?_
  refine CW.seq ?_
  refine CW.region ?_
  refine RW.soft Wd.a (v := .int .i64 seq) (by exact E.move (AF_ev rfl hs2)) ?_
  refine RW.soft Wd.a (v := .pointer (some ⟨b2, 1, none⟩)) (by exact E.fieldAddr (b := b2) (o := 0) (f := { name := "Seq", type := 3, offset := 1, embedded := false, tag := "", pkgPath := "", byteOffset := 8 }) (AF_ev rfl (up rfl hs9)) Try.underlying51 rfl sz3 rfl) ?_
  refine RW.soft Wd.a (v := .int .i64 sq) (by exact E.load (a := ⟨b2, 1, none⟩) Try.underlying3 rfl (AF_ev rfl tp) (hst.cell .here rfl)) ?_
  refine RW.soft Wd.a (v := .bool true) (by exact E.b (a := seq == sq) (E.eql (k := .i64) (a := seq) (b := sq) (AF_ev rfl (up rfl (up rfl tp))) (AF_ev rfl tp)) (by rw [beq_iff_eq]; omega)) ?_
  refine RW.soft Wd.a (v := .bool true) (by exact E.assign (AF_ev rfl tp)) ?_
  refine RW.fin (fun τ => τ 0 = .pointer (some ⟨t, 0, none⟩) ∧ τ 1 = .int .i64 id ∧ τ 2 = .int .i64 seq ∧ τ 6 = .pointer (some ⟨b1, 0, none⟩) ∧ τ 7 = .bool false ∧ τ 8 = .int .i64 0 ∧ τ 9 = .pointer (some ⟨b2, 0, none⟩) ∧ τ 10 = .bool true ∧ τ 20 = .bool false ∧ τ 24 = .bool false ∧ τ 31 = .bool true) ⟨up rfl (up rfl (up rfl (up rfl (up rfl hs0)))), up rfl (up rfl (up rfl (up rfl (up rfl hs1)))), up rfl (up rfl (up rfl (up rfl (up rfl hs2)))), up rfl (up rfl (up rfl (up rfl (up rfl hs6)))), up rfl (up rfl (up rfl (up rfl (up rfl hs7)))), up rfl (up rfl (up rfl (up rfl (up rfl hs8)))), up rfl (up rfl (up rfl (up rfl (up rfl hs9)))), up rfl (up rfl (up rfl (up rfl (up rfl hs10)))), up rfl (up rfl (up rfl (up rfl (up rfl hs20)))), up rfl (up rfl (up rfl (up rfl (up rfl hs24)))), tp⟩ ?_
  rintro τ ⟨hs0, hs1, hs2, hs6, hs7, hs8, hs9, hs10, hs20, hs24, hs31⟩
  refine CW.condT (AF_ev rfl hs31) ?_
  refine CW.seq ?_
  refine CW.region ?_
  refine RW.soft Wd.a (v := .pointer (some ⟨b2, 2, none⟩)) (by exact E.fieldAddr (b := b2) (o := 0) (f := { name := "Last", type := 39, offset := 2, embedded := false, tag := "", pkgPath := "", byteOffset := 16 }) (AF_ev rfl hs9) Try.underlying51 rfl sz39 rfl) ?_
  refine RW.soft Wd.a (v := .agg #[.int .i64 c0, .int .i64 c1, .int .i64 c2, .slice X m c]) (by exact E.loadN (b := b2) (o := 2) (cs := [.int .i64 c0, .int .i64 c1, .int .i64 c2, .slice X m c]) Try.underlying39 rfl sz39 (AF_ev rfl tp) rfl (hst.cellsIn .here rfl)) ?_
  have hst := hst.emp
  refine RW.hard Wd.a ?_
  refine H.call0 Try.func47 nm47 rfl (map1 (AF_ev rfl tp)) (Calls.mono (sess_own (fun w H s => hL.src s) (bv_one _) (by omega) c0 c1 c2 hst) ?_)
  rintro _ w ⟨vX3, rfl, hnX3, hst⟩
  obtain ⟨X3, c4, rfl, hcX3, hmX3, hlX3, hbX3⟩ := hst.shape
  refine ⟨_, rfl, ?_⟩
  show RW _ _ _ _ _ _ _
  refine RW.hard Wd.a ?_
  refine H.store (b := b1) (o := 0) (v := .agg #[.int .i64 c0, .int .i64 c1, .int .i64 c2, .slice X3 m c4]) (c' := #[.int .i64 c0, .int .i64 c1, .int .i64 c2, .slice X3 m c4]) (AF_ev rfl (up rfl (up rfl (up rfl hs6)))) (AF_ev rfl tp) hst (.there (.there (.there .here))) sz39 (by simp [Value.cells]) (by simp [Value.cells, Value.oneCell']) rfl fun w hst => ?_
  refine RW.soft Wd.a (v := .bool true) (by exact E.assign rfl) ?_
  refine RW.soft Wd.a (v := .int .i64 0) (by exact E.assign rfl) ?_
  refine RW.fin (fun τ => τ 0 = .pointer (some ⟨t, 0, none⟩) ∧ τ 1 = .int .i64 id ∧ τ 2 = .int .i64 seq ∧ τ 6 = .pointer (some ⟨b1, 0, none⟩) ∧ τ 7 = .bool true ∧ τ 8 = .int .i64 0 ∧ τ 9 = .pointer (some ⟨b2, 0, none⟩) ∧ τ 10 = .bool true ∧ τ 20 = .bool false ∧ τ 24 = .bool false ∧ τ 31 = .bool true) ⟨up rfl (up rfl (u0 (up rfl (up rfl (up rfl hs0))))), up rfl (up rfl (u0 (up rfl (up rfl (up rfl hs1))))), up rfl (up rfl (u0 (up rfl (up rfl (up rfl hs2))))), up rfl (up rfl (u0 (up rfl (up rfl (up rfl hs6))))), up rfl tp, tp, up rfl (up rfl (u0 (up rfl (up rfl (up rfl hs9))))), up rfl (up rfl (u0 (up rfl (up rfl (up rfl hs10))))), up rfl (up rfl (u0 (up rfl (up rfl (up rfl hs20))))), up rfl (up rfl (u0 (up rfl (up rfl (up rfl hs24))))), up rfl (up rfl (u0 (up rfl (up rfl (up rfl hs31)))))⟩ ?_
  rintro τ ⟨hs0, hs1, hs2, hs6, hs7, hs8, hs9, hs10, hs20, hs24, hs31⟩
  refine CW.ret ?_
  refine Bl.r ?_
  refine Th.r ?_
  refine retN (rs := [.cell 6 39, .tmp 7, .tmp 8]) (vs := [.agg #[.int .i64 c0, .int .i64 c1, .int .i64 c2, .slice X3 m c4], .bool true, .int .i64 0]) rfl (by exact (.cell (AF_ev rfl hs6) (hst.blockAt (.there (.there (.there .here)))) Try.underlying39 rfl sz39 (.tmp (AF_ev rfl hs7) (.tmp (AF_ev rfl hs8) .nil)))) (by simp) ?_
  have hst := hst.take (.there (.there (.there (.there (.there .here)))))
  have hst := hst.take (.there (.there (.there (.there (.there .here)))))
  have hst := hst.take (.there (.there .here))
  have hst := (hst.take (.there (.there (.there .here)))).drop
  have hst := (hst.take (.there (.there (.there .here)))).drop
  have hst := (hst.take (.there (.there (.there .here)))).drop
  exact ⟨_, rfl, hnX3, hst⟩

theorem sess_Done_no {p : Pers} {w : World} {R : List Assn} {A : Assn} {Y : Option Addr} {l d : Nat} {ms : List Int} (hA : ∀ w H, St p w (A :: H) → Src w 1 (.slice Y l d) l (bv ms)) (hl : l ≤ 140737488355328) (r0 r1 r2 : Int) (t mm : Nat) (ks : List (Int × Value)) (next id seq : Int) (hg : aget ks id = none) (hst : St p w (pt t (.cells #[.map (some mm), .int .i64 next] 73) :: MapI mm ks :: A :: R)) :
    Calls Try.prog 25 #[.pointer (some ⟨t, 0, none⟩), .int .i64 id, .int .i64 seq, .agg #[.int .i64 r0, .int .i64 r1, .int .i64 r2, .slice Y l d]] w fun e w => e = .returned (.int .i64 150) ∧ St p w (pt t (.cells #[.map (some mm), .int .i64 next] 73) :: MapI mm ks :: A :: R) := by
  refine enter Try.func25 rfl (by simp) (n := 38) rfl fun τ hτ => ?_
  have hs0 : τ 0 = .pointer (some ⟨t, 0, none⟩) := hτ 0 (by simp)
  have hs1 : τ 1 = .int .i64 id := hτ 1 (by simp)
  have hs2 : τ 2 = .int .i64 seq := hτ 2 (by simp)
  have hs3 : τ 3 = .agg #[.int .i64 r0, .int .i64 r1, .int .i64 r2, .slice Y l d] := hτ 3 (by simp)
  clear hτ
  refine CW.seq ?_
  refine CW.region ?_
  refine RW.hard Wd.a ?_
  refine H.box (v := .agg #[.int .i64 r0, .int .i64 r1, .int .i64 r2, .slice Y l d]) (AF_ev rfl hs3) hst fun b1 w hst => ?_
  refine RW.soft Wd.a (v := .int .i64 0) (by exact E.assign rfl) ?_
  refine RW.fin (fun τ => τ 0 = .pointer (some ⟨t, 0, none⟩) ∧ τ 1 = .int .i64 id ∧ τ 2 = .int .i64 seq ∧ τ 3 = .agg #[.int .i64 r0, .int .i64 r1, .int .i64 r2, .slice Y l d] ∧ τ 7 = .pointer (some ⟨b1, 0, none⟩) ∧ τ 8 = .int .i64 0) ⟨up rfl (up rfl hs0), up rfl (up rfl hs1), up rfl (up rfl hs2), up rfl (up rfl hs3), up rfl tp, tp⟩ ?_
  rintro τ ⟨hs0, hs1, hs2, hs3, hs7, hs8⟩
  refine CW.seq ?_
  refine CW.region ?_
  refine RW.soft Wd.a (v := .pointer (some ⟨t, 0, none⟩)) (by exact E.move (AF_ev rfl hs0)) ?_
  refine RW.soft Wd.a (v := .pointer (some ⟨t, 0, none⟩)) (by exact E.nilCheck (a := ⟨t, 0, none⟩) (AF_ev rfl tp)) ?_
  refine RW.soft Wd.a (v := .pointer (some ⟨t, 0, none⟩)) (by exact E.fieldAddr (b := t) (o := 0) (f := { name := "m", type := 71, offset := 0, embedded := false, tag := "", pkgPath := "strongroom/sessions", byteOffset := 0 }) (AF_ev rfl tp) Try.underlying73 rfl sz71 rfl) ?_
  refine RW.soft Wd.a (v := .map (some mm)) (by exact E.load (a := ⟨t, 0, none⟩) Try.underlying71 rfl (AF_ev rfl tp) (hst.cell (.there .here) rfl)) ?_
  refine RW.soft Wd.a (v := .int .i64 id) (by exact E.move (AF_ev rfl (up rfl (up rfl (up rfl (up rfl hs1)))))) ?_
  refine RW.soft Wd.a (v := .tuple #[.agg #[.int .i64 0, .int .i64 0, .int .i64 0, .int .i64 0, .int .i64 0, .slice none 0 0], .bool false]) (by exact E.lookupN (b := mm) (ks := ks) (k := id) hg Try.underlying71 Try.underlying3 zr51 (AF_ev rfl (up rfl tp)) (AF_ev rfl tp) hst (.there (.there .here))) ?_
  refine RW.soft Wd.a (v := .tuple #[.agg #[.int .i64 0, .int .i64 0, .int .i64 0, .int .i64 0, .int .i64 0, .slice none 0 0], .bool false]) (by exact E.move (AF_ev rfl tp)) ?_
  refine RW.soft Wd.a (v := .agg #[.int .i64 0, .int .i64 0, .int .i64 0, .int .i64 0, .int .i64 0, .slice none 0 0]) (by exact E.extract (vs := #[.agg #[.int .i64 0, .int .i64 0, .int .i64 0, .int .i64 0, .int .i64 0, .slice none 0 0], .bool false]) (AF_ev rfl tp) rfl) ?_
  refine RW.soft Wd.a (v := .bool false) (by exact E.extract (vs := #[.agg #[.int .i64 0, .int .i64 0, .int .i64 0, .int .i64 0, .int .i64 0, .slice none 0 0], .bool false]) (AF_ev rfl (up rfl tp)) rfl) ?_
  refine RW.hard Wd.a ?_
  refine H.alloc zr51 hst fun b2 w hst => ?_
  refine RW.hard Wd.a ?_
  refine H.store (b := b2) (o := 0) (v := .agg #[.int .i64 0, .int .i64 0, .int .i64 0, .int .i64 0, .int .i64 0, .slice none 0 0]) (c' := #[.int .i64 0, .int .i64 0, .int .i64 0, .int .i64 0, .int .i64 0, .slice none 0 0]) (AF_ev rfl tp) (AF_ev rfl (up rfl (up rfl tp))) hst .here sz51 (by simp [Value.cells]) (by simp [Value.cells, Value.oneCell']) rfl fun w hst => ?_
  refine RW.soft Wd.a (v := .bool false) (by exact E.assign (AF_ev rfl (u0 (up rfl tp)))) ?_
  refine RW.fin (fun τ => τ 0 = .pointer (some ⟨t, 0, none⟩) ∧ τ 1 = .int .i64 id ∧ τ 2 = .int .i64 seq ∧ τ 3 = .agg #[.int .i64 r0, .int .i64 r1, .int .i64 r2, .slice Y l d] ∧ τ 7 = .pointer (some ⟨b1, 0, none⟩) ∧ τ 8 = .int .i64 0 ∧ τ 9 = .pointer (some ⟨b2, 0, none⟩) ∧ τ 10 = .bool false) ⟨up rfl (u0 (up rfl (up rfl (up rfl (up rfl (up rfl (up rfl (up rfl (up rfl (up rfl (up rfl hs0))))))))))), up rfl (u0 (up rfl (up rfl (up rfl (up rfl (up rfl (up rfl (up rfl (up rfl (up rfl (up rfl hs1))))))))))), up rfl (u0 (up rfl (up rfl (up rfl (up rfl (up rfl (up rfl (up rfl (up rfl (up rfl (up rfl hs2))))))))))), up rfl (u0 (up rfl (up rfl (up rfl (up rfl (up rfl (up rfl (up rfl (up rfl (up rfl (up rfl hs3))))))))))), up rfl (u0 (up rfl (up rfl (up rfl (up rfl (up rfl (up rfl (up rfl (up rfl (up rfl (up rfl hs7))))))))))), up rfl (u0 (up rfl (up rfl (up rfl (up rfl (up rfl (up rfl (up rfl (up rfl (up rfl (up rfl hs8))))))))))), up rfl (u0 tp), tp⟩ ?_
  rintro τ ⟨hs0, hs1, hs2, hs3, hs7, hs8, hs9, hs10⟩
  refine CW.seq ?_
  refine CW.block ?_
  refine CW.seq ?_
  refine CW.region ?_
  refine RW.soft Wd.a (v := .bool false) (by exact E.move (AF_ev rfl hs10)) ?_
  refine RW.soft Wd.a (v := .bool true) (by exact E.not (b := false) (AF_ev rfl tp)) ?_
  refine RW.soft Wd.a (v := .bool true) (by exact E.assign (AF_ev rfl tp)) ?_
  refine RW.fin (fun τ => τ 0 = .pointer (some ⟨t, 0, none⟩) ∧ τ 1 = .int .i64 id ∧ τ 2 = .int .i64 seq ∧ τ 3 = .agg #[.int .i64 r0, .int .i64 r1, .int .i64 r2, .slice Y l d] ∧ τ 7 = .pointer (some ⟨b1, 0, none⟩) ∧ τ 8 = .int .i64 0 ∧ τ 9 = .pointer (some ⟨b2, 0, none⟩) ∧ τ 10 = .bool false ∧ τ 20 = .bool true) ⟨up rfl (up rfl (up rfl hs0)), up rfl (up rfl (up rfl hs1)), up rfl (up rfl (up rfl hs2)), up rfl (up rfl (up rfl hs3)), up rfl (up rfl (up rfl hs7)), up rfl (up rfl (up rfl hs8)), up rfl (up rfl (up rfl hs9)), up rfl (up rfl (up rfl hs10)), tp⟩ ?_
  rintro τ ⟨hs0, hs1, hs2, hs3, hs7, hs8, hs9, hs10, hs20⟩
  refine CW.condT (AF_ev rfl hs20) ?_
  refine CW.seq ?_
  refine CW.region ?_
  refine RW.soft Wd.a (v := .int .i64 150) (by exact E.assign rfl) ?_
  refine RW.fin (fun τ => τ 0 = .pointer (some ⟨t, 0, none⟩) ∧ τ 1 = .int .i64 id ∧ τ 2 = .int .i64 seq ∧ τ 3 = .agg #[.int .i64 r0, .int .i64 r1, .int .i64 r2, .slice Y l d] ∧ τ 7 = .pointer (some ⟨b1, 0, none⟩) ∧ τ 8 = .int .i64 150 ∧ τ 9 = .pointer (some ⟨b2, 0, none⟩) ∧ τ 10 = .bool false ∧ τ 20 = .bool true) ⟨up rfl hs0, up rfl hs1, up rfl hs2, up rfl hs3, up rfl hs7, tp, up rfl hs9, up rfl hs10, up rfl hs20⟩ ?_
  rintro τ ⟨hs0, hs1, hs2, hs3, hs7, hs8, hs9, hs10, hs20⟩
  refine CW.ret ?_
  refine Bl.r ?_
  refine Th.r ?_
  refine ret1 (v := .int .i64 150) rfl (by exact (.tmp (AF_ev rfl hs8) .nil)) ?_
  have hst := hst.drop
  have hst := hst.drop
  exact ⟨rfl, hst⟩

theorem sess_Done_old {p : Pers} {w : World} {R : List Assn} {X : Option Addr} {m c : Nat} {ns : List Int} (sq c0 c1 c2 : Int) {A : Assn} {Y : Option Addr} {l d : Nat} {ms : List Int} (hA : ∀ w H, St p w (A :: H) → Src w 1 (.slice Y l d) l (bv ms)) (hl : l ≤ 140737488355328) (r0 r1 r2 : Int) (t mm : Nat) (ks : List (Int × Value)) (next id seq : Int) (hg : aget ks id = some (.agg #[.int .i64 id, .int .i64 sq, .int .i64 c0, .int .i64 c1, .int .i64 c2, .slice X m c])) (hL : Las p 1 (.slice X m c) m (bv ns)) (hm : m ≤ 140737488355328) (hle : seq ≤ sq) (hst : St p w (pt t (.cells #[.map (some mm), .int .i64 next] 73) :: MapI mm ks :: A :: R)) :
    Calls Try.prog 25 #[.pointer (some ⟨t, 0, none⟩), .int .i64 id, .int .i64 seq, .agg #[.int .i64 r0, .int .i64 r1, .int .i64 r2, .slice Y l d]] w fun e w => e = .returned (.int .i64 151) ∧ St p w (pt t (.cells #[.map (some mm), .int .i64 next] 73) :: MapI mm ks :: A :: R) := by
  refine enter Try.func25 rfl (by simp) (n := 38) rfl fun τ hτ => ?_
  have hs0 : τ 0 = .pointer (some ⟨t, 0, none⟩) := hτ 0 (by simp)
  have hs1 : τ 1 = .int .i64 id := hτ 1 (by simp)
  have hs2 : τ 2 = .int .i64 seq := hτ 2 (by simp)
  have hs3 : τ 3 = .agg #[.int .i64 r0, .int .i64 r1, .int .i64 r2, .slice Y l d] := hτ 3 (by simp)
  clear hτ
  refine CW.seq ?_
  refine CW.region ?_
  refine RW.hard Wd.a ?_
  refine H.box (v := .agg #[.int .i64 r0, .int .i64 r1, .int .i64 r2, .slice Y l d]) (AF_ev rfl hs3) hst fun b1 w hst => ?_
  refine RW.soft Wd.a (v := .int .i64 0) (by exact E.assign rfl) ?_
  refine RW.fin (fun τ => τ 0 = .pointer (some ⟨t, 0, none⟩) ∧ τ 1 = .int .i64 id ∧ τ 2 = .int .i64 seq ∧ τ 3 = .agg #[.int .i64 r0, .int .i64 r1, .int .i64 r2, .slice Y l d] ∧ τ 7 = .pointer (some ⟨b1, 0, none⟩) ∧ τ 8 = .int .i64 0) ⟨up rfl (up rfl hs0), up rfl (up rfl hs1), up rfl (up rfl hs2), up rfl (up rfl hs3), up rfl tp, tp⟩ ?_
  rintro τ ⟨hs0, hs1, hs2, hs3, hs7, hs8⟩
  refine CW.seq ?_
  refine CW.region ?_
  refine RW.soft Wd.a (v := .pointer (some ⟨t, 0, none⟩)) (by exact E.move (AF_ev rfl hs0)) ?_
  refine RW.soft Wd.a (v := .pointer (some ⟨t, 0, none⟩)) (by exact E.nilCheck (a := ⟨t, 0, none⟩) (AF_ev rfl tp)) ?_
  refine RW.soft Wd.a (v := .pointer (some ⟨t, 0, none⟩)) (by exact E.fieldAddr (b := t) (o := 0) (f := { name := "m", type := 71, offset := 0, embedded := false, tag := "", pkgPath := "strongroom/sessions", byteOffset := 0 }) (AF_ev rfl tp) Try.underlying73 rfl sz71 rfl) ?_
  refine RW.soft Wd.a (v := .map (some mm)) (by exact E.load (a := ⟨t, 0, none⟩) Try.underlying71 rfl (AF_ev rfl tp) (hst.cell (.there .here) rfl)) ?_
  refine RW.soft Wd.a (v := .int .i64 id) (by exact E.move (AF_ev rfl (up rfl (up rfl (up rfl (up rfl hs1)))))) ?_
  refine RW.soft Wd.a (v := .tuple #[.agg #[.int .i64 id, .int .i64 sq, .int .i64 c0, .int .i64 c1, .int .i64 c2, .slice X m c], .bool true]) (by exact E.lookupS (b := mm) (ks := ks) (k := id) hg Try.underlying71 Try.underlying3 zr51 (AF_ev rfl (up rfl tp)) (AF_ev rfl tp) hst (.there (.there .here))) ?_
  refine RW.soft Wd.a (v := .tuple #[.agg #[.int .i64 id, .int .i64 sq, .int .i64 c0, .int .i64 c1, .int .i64 c2, .slice X m c], .bool true]) (by exact E.move (AF_ev rfl tp)) ?_
  refine RW.soft Wd.a (v := .agg #[.int .i64 id, .int .i64 sq, .int .i64 c0, .int .i64 c1, .int .i64 c2, .slice X m c]) (by exact E.extract (vs := #[.agg #[.int .i64 id, .int .i64 sq, .int .i64 c0, .int .i64 c1, .int .i64 c2, .slice X m c], .bool true]) (AF_ev rfl tp) rfl) ?_
  refine RW.soft Wd.a (v := .bool true) (by exact E.extract (vs := #[.agg #[.int .i64 id, .int .i64 sq, .int .i64 c0, .int .i64 c1, .int .i64 c2, .slice X m c], .bool true]) (AF_ev rfl (up rfl tp)) rfl) ?_
  refine RW.hard Wd.a ?_
  refine H.alloc zr51 hst fun b2 w hst => ?_
  refine RW.hard Wd.a ?_
  refine H.store (b := b2) (o := 0) (v := .agg #[.int .i64 id, .int .i64 sq, .int .i64 c0, .int .i64 c1, .int .i64 c2, .slice X m c]) (c' := #[.int .i64 id, .int .i64 sq, .int .i64 c0, .int .i64 c1, .int .i64 c2, .slice X m c]) (AF_ev rfl tp) (AF_ev rfl (up rfl (up rfl tp))) hst .here sz51 (by simp [Value.cells]) (by simp [Value.cells, Value.oneCell']) rfl fun w hst => ?_
  refine RW.soft Wd.a (v := .bool true) (by exact E.assign (AF_ev rfl (u0 (up rfl tp)))) ?_
  refine RW.fin (fun τ => τ 0 = .pointer (some ⟨t, 0, none⟩) ∧ τ 1 = .int .i64 id ∧ τ 2 = .int .i64 seq ∧ τ 3 = .agg #[.int .i64 r0, .int .i64 r1, .int .i64 r2, .slice Y l d] ∧ τ 7 = .pointer (some ⟨b1, 0, none⟩) ∧ τ 8 = .int .i64 0 ∧ τ 9 = .pointer (some ⟨b2, 0, none⟩) ∧ τ 10 = .bool true) ⟨up rfl (u0 (up rfl (up rfl (up rfl (up rfl (up rfl (up rfl (up rfl (up rfl (up rfl (up rfl hs0))))))))))), up rfl (u0 (up rfl (up rfl (up rfl (up rfl (up rfl (up rfl (up rfl (up rfl (up rfl (up rfl hs1))))))))))), up rfl (u0 (up rfl (up rfl (up rfl (up rfl (up rfl (up rfl (up rfl (up rfl (up rfl (up rfl hs2))))))))))), up rfl (u0 (up rfl (up rfl (up rfl (up rfl (up rfl (up rfl (up rfl (up rfl (up rfl (up rfl hs3))))))))))), up rfl (u0 (up rfl (up rfl (up rfl (up rfl (up rfl (up rfl (up rfl (up rfl (up rfl (up rfl hs7))))))))))), up rfl (u0 (up rfl (up rfl (up rfl (up rfl (up rfl (up rfl (up rfl (up rfl (up rfl (up rfl hs8))))))))))), up rfl (u0 tp), tp⟩ ?_
  rintro τ ⟨hs0, hs1, hs2, hs3, hs7, hs8, hs9, hs10⟩
  refine CW.seq ?_
  refine CW.block ?_
  refine CW.seq ?_
  refine CW.region ?_
  refine RW.soft Wd.a (v := .bool true) (by exact E.move (AF_ev rfl hs10)) ?_
  refine RW.soft Wd.a (v := .bool false) (by exact E.not (b := true) (AF_ev rfl tp)) ?_
  refine RW.soft Wd.a (v := .bool false) (by exact E.assign (AF_ev rfl tp)) ?_
  refine RW.fin (fun τ => τ 0 = .pointer (some ⟨t, 0, none⟩) ∧ τ 1 = .int .i64 id ∧ τ 2 = .int .i64 seq ∧ τ 3 = .agg #[.int .i64 r0, .int .i64 r1, .int .i64 r2, .slice Y l d] ∧ τ 7 = .pointer (some ⟨b1, 0, none⟩) ∧ τ 8 = .int .i64 0 ∧ τ 9 = .pointer (some ⟨b2, 0, none⟩) ∧ τ 10 = .bool true ∧ τ 20 = .bool false) ⟨up rfl (up rfl (up rfl hs0)), up rfl (up rfl (up rfl hs1)), up rfl (up rfl (up rfl hs2)), up rfl (up rfl (up rfl hs3)), up rfl (up rfl (up rfl hs7)), up rfl (up rfl (up rfl hs8)), up rfl (up rfl (up rfl hs9)), up rfl (up rfl (up rfl hs10)), tp⟩ ?_
  rintro τ ⟨hs0, hs1, hs2, hs3, hs7, hs8, hs9, hs10, hs20⟩
  refine CW.condF (AF_ev rfl hs20) ?_
  refine CW.seq ?_
  refine CW.region ?_
  refine RW.soft Wd.a (v := .int .i64 seq) (by exact E.move (AF_ev rfl hs2)) ?_
  refine RW.soft Wd.a (v := .pointer (some ⟨b2, 1, none⟩)) (by exact E.fieldAddr (b := b2) (o := 0) (f := { name := "Seq", type := 3, offset := 1, embedded := false, tag := "", pkgPath := "", byteOffset := 8 }) (AF_ev rfl (up rfl hs9)) Try.underlying51 rfl sz3 rfl) ?_
  refine RW.soft Wd.a (v := .int .i64 sq) (by exact E.load (a := ⟨b2, 1, none⟩) Try.underlying3 rfl (AF_ev rfl tp) (hst.cell .here rfl)) ?_
  refine RW.soft Wd.a (v := .bool true) (by exact E.b (a := decide (seq ≤ sq)) (E.leq (k := .i64) (a := seq) (b := sq) (AF_ev rfl (up rfl (up rfl tp))) (AF_ev rfl tp)) (by rw [decide_eq_true_eq]; omega)) ?_
  refine RW.soft Wd.a (v := .bool true) (by exact E.assign (AF_ev rfl tp)) ?_
  refine RW.fin (fun τ => τ 0 = .pointer (some ⟨t, 0, none⟩) ∧ τ 1 = .int .i64 id ∧ τ 2 = .int .i64 seq ∧ τ 3 = .agg #[.int .i64 r0, .int .i64 r1, .int .i64 r2, .slice Y l d] ∧ τ 7 = .pointer (some ⟨b1, 0, none⟩) ∧ τ 8 = .int .i64 0 ∧ τ 9 = .pointer (some ⟨b2, 0, none⟩) ∧ τ 10 = .bool true ∧ τ 20 = .bool false ∧ τ 23 = .bool true) ⟨up rfl (up rfl (up rfl (up rfl (up rfl hs0)))), up rfl (up rfl (up rfl (up rfl (up rfl hs1)))), up rfl (up rfl (up rfl (up rfl (up rfl hs2)))), up rfl (up rfl (up rfl (up rfl (up rfl hs3)))), up rfl (up rfl (up rfl (up rfl (up rfl hs7)))), up rfl (up rfl (up rfl (up rfl (up rfl hs8)))), up rfl (up rfl (up rfl (up rfl (up rfl hs9)))), up rfl (up rfl (up rfl (up rfl (up rfl hs10)))), up rfl (up rfl (up rfl (up rfl (up rfl hs20)))), tp⟩ ?_
  rintro τ ⟨hs0, hs1, hs2, hs3, hs7, hs8, hs9, hs10, hs20, hs23⟩
  refine CW.condT (AF_ev rfl hs23) ?_
  refine CW.seq ?_
  refine CW.region ?_
  refine RW.soft Wd.a (v := .int .i64 151) (by exact E.assign rfl) ?_
  refine RW.fin (fun τ => τ 0 = .pointer (some ⟨t, 0, none⟩) ∧ τ 1 = .int .i64 id ∧ τ 2 = .int .i64 seq ∧ τ 3 = .agg #[.int .i64 r0, .int .i64 r1, .int .i64 r2, .slice Y l d] ∧ τ 7 = .pointer (some ⟨b1, 0, none⟩) ∧ τ 8 = .int .i64 151 ∧ τ 9 = .pointer (some ⟨b2, 0, none⟩) ∧ τ 10 = .bool true ∧ τ 20 = .bool false ∧ τ 23 = .bool true) ⟨up rfl hs0, up rfl hs1, up rfl hs2, up rfl hs3, up rfl hs7, tp, up rfl hs9, up rfl hs10, up rfl hs20, up rfl hs23⟩ ?_
  rintro τ ⟨hs0, hs1, hs2, hs3, hs7, hs8, hs9, hs10, hs20, hs23⟩
  refine CW.ret ?_
  refine Bl.r ?_
  refine Th.r ?_
  refine ret1 (v := .int .i64 151) rfl (by exact (.tmp (AF_ev rfl hs8) .nil)) ?_
  have hst := hst.drop
  have hst := hst.drop
  exact ⟨rfl, hst⟩

theorem sess_Done_new {p : Pers} {w : World} {R : List Assn} {X : Option Addr} {m c : Nat} {ns : List Int} (sq c0 c1 c2 : Int) {A : Assn} {Y : Option Addr} {l d : Nat} {ms : List Int} (hA : ∀ w H, St p w (A :: H) → Src w 1 (.slice Y l d) l (bv ms)) (hl : l ≤ 140737488355328) (r0 r1 r2 : Int) (t mm : Nat) (ks : List (Int × Value)) (next id seq : Int) (hg : aget ks id = some (.agg #[.int .i64 id, .int .i64 sq, .int .i64 c0, .int .i64 c1, .int .i64 c2, .slice X m c])) (hL : Las p 1 (.slice X m c) m (bv ns)) (hm : m ≤ 140737488355328) (hlt : ¬ seq ≤ sq) (hst : St p w (pt t (.cells #[.map (some mm), .int .i64 next] 73) :: MapI mm ks :: A :: R)) :
    Calls Try.prog 25 #[.pointer (some ⟨t, 0, none⟩), .int .i64 id, .int .i64 seq, .agg #[.int .i64 r0, .int .i64 r1, .int .i64 r2, .slice Y l d]] w fun e w => ∃ q Z z, p.le q ∧ e = .returned (.int .i64 0) ∧ Las q 1 (.slice Z l z) l (bv ms) ∧ St q w (pt t (.cells #[.map (some mm), .int .i64 next] 73) :: MapI mm (aput ks id (.agg #[.int .i64 id, .int .i64 seq, .int .i64 r0, .int .i64 r1, .int .i64 r2, .slice Z l z])) :: A :: R) := by
  refine enter Try.func25 rfl (by simp) (n := 38) rfl fun τ hτ => ?_
  have hs0 : τ 0 = .pointer (some ⟨t, 0, none⟩) := hτ 0 (by simp)
  have hs1 : τ 1 = .int .i64 id := hτ 1 (by simp)
  have hs2 : τ 2 = .int .i64 seq := hτ 2 (by simp)
  have hs3 : τ 3 = .agg #[.int .i64 r0, .int .i64 r1, .int .i64 r2, .slice Y l d] := hτ 3 (by simp)
  clear hτ
  refine CW.seq ?_
  refine CW.region ?_
  refine RW.hard Wd.a ?_
  refine H.box (v := .agg #[.int .i64 r0, .int .i64 r1, .int .i64 r2, .slice Y l d]) (AF_ev rfl hs3) hst fun b1 w hst => ?_
  refine RW.soft Wd.a (v := .int .i64 0) (by exact E.assign rfl) ?_
  refine RW.fin (fun τ => τ 0 = .pointer (some ⟨t, 0, none⟩) ∧ τ 1 = .int .i64 id ∧ τ 2 = .int .i64 seq ∧ τ 3 = .agg #[.int .i64 r0, .int .i64 r1, .int .i64 r2, .slice Y l d] ∧ τ 7 = .pointer (some ⟨b1, 0, none⟩) ∧ τ 8 = .int .i64 0) ⟨up rfl (up rfl hs0), up rfl (up rfl hs1), up rfl (up rfl hs2), up rfl (up rfl hs3), up rfl tp, tp⟩ ?_
  rintro τ ⟨hs0, hs1, hs2, hs3, hs7, hs8⟩
  refine CW.seq ?_
  refine CW.region ?_
  refine RW.soft Wd.a (v := .pointer (some ⟨t, 0, none⟩)) (by exact E.move (AF_ev rfl hs0)) ?_
  refine RW.soft Wd.a (v := .pointer (some ⟨t, 0, none⟩)) (by exact E.nilCheck (a := ⟨t, 0, none⟩) (AF_ev rfl tp)) ?_
  refine RW.soft Wd.a (v := .pointer (some ⟨t, 0, none⟩)) (by exact E.fieldAddr (b := t) (o := 0) (f := { name := "m", type := 71, offset := 0, embedded := false, tag := "", pkgPath := "strongroom/sessions", byteOffset := 0 }) (AF_ev rfl tp) Try.underlying73 rfl sz71 rfl) ?_
  refine RW.soft Wd.a (v := .map (some mm)) (by exact E.load (a := ⟨t, 0, none⟩) Try.underlying71 rfl (AF_ev rfl tp) (hst.cell (.there .here) rfl)) ?_
  refine RW.soft Wd.a (v := .int .i64 id) (by exact E.move (AF_ev rfl (up rfl (up rfl (up rfl (up rfl hs1)))))) ?_
  refine RW.soft Wd.a (v := .tuple #[.agg #[.int .i64 id, .int .i64 sq, .int .i64 c0, .int .i64 c1, .int .i64 c2, .slice X m c], .bool true]) (by exact E.lookupS (b := mm) (ks := ks) (k := id) hg Try.underlying71 Try.underlying3 zr51 (AF_ev rfl (up rfl tp)) (AF_ev rfl tp) hst (.there (.there .here))) ?_
  refine RW.soft Wd.a (v := .tuple #[.agg #[.int .i64 id, .int .i64 sq, .int .i64 c0, .int .i64 c1, .int .i64 c2, .slice X m c], .bool true]) (by exact E.move (AF_ev rfl tp)) ?_
  refine RW.soft Wd.a (v := .agg #[.int .i64 id, .int .i64 sq, .int .i64 c0, .int .i64 c1, .int .i64 c2, .slice X m c]) (by exact E.extract (vs := #[.agg #[.int .i64 id, .int .i64 sq, .int .i64 c0, .int .i64 c1, .int .i64 c2, .slice X m c], .bool true]) (AF_ev rfl tp) rfl) ?_
  refine RW.soft Wd.a (v := .bool true) (by exact E.extract (vs := #[.agg #[.int .i64 id, .int .i64 sq, .int .i64 c0, .int .i64 c1, .int .i64 c2, .slice X m c], .bool true]) (AF_ev rfl (up rfl tp)) rfl) ?_
  refine RW.hard Wd.a ?_
  refine H.alloc zr51 hst fun b2 w hst => ?_
  refine RW.hard Wd.a ?_
  refine H.store (b := b2) (o := 0) (v := .agg #[.int .i64 id, .int .i64 sq, .int .i64 c0, .int .i64 c1, .int .i64 c2, .slice X m c]) (c' := #[.int .i64 id, .int .i64 sq, .int .i64 c0, .int .i64 c1, .int .i64 c2, .slice X m c]) (AF_ev rfl tp) (AF_ev rfl (up rfl (up rfl tp))) hst .here sz51 (by simp [Value.cells]) (by simp [Value.cells, Value.oneCell']) rfl fun w hst => ?_
  refine RW.soft Wd.a (v := .bool true) (by exact E.assign (AF_ev rfl (u0 (up rfl tp)))) ?_
  refine RW.fin (fun τ => τ 0 = .pointer (some ⟨t, 0, none⟩) ∧ τ 1 = .int .i64 id ∧ τ 2 = .int .i64 seq ∧ τ 3 = .agg #[.int .i64 r0, .int .i64 r1, .int .i64 r2, .slice Y l d] ∧ τ 7 = .pointer (some ⟨b1, 0, none⟩) ∧ τ 8 = .int .i64 0 ∧ τ 9 = .pointer (some ⟨b2, 0, none⟩) ∧ τ 10 = .bool true) ⟨up rfl (u0 (up rfl (up rfl (up rfl (up rfl (up rfl (up rfl (up rfl (up rfl (up rfl (up rfl hs0))))))))))), up rfl (u0 (up rfl (up rfl (up rfl (up rfl (up rfl (up rfl (up rfl (up rfl (up rfl (up rfl hs1))))))))))), up rfl (u0 (up rfl (up rfl (up rfl (up rfl (up rfl (up rfl (up rfl (up rfl (up rfl (up rfl hs2))))))))))), up rfl (u0 (up rfl (up rfl (up rfl (up rfl (up rfl (up rfl (up rfl (up rfl (up rfl (up rfl hs3))))))))))), up rfl (u0 (up rfl (up rfl (up rfl (up rfl (up rfl (up rfl (up rfl (up rfl (up rfl (up rfl hs7))))))))))), up rfl (u0 (up rfl (up rfl (up rfl (up rfl (up rfl (up rfl (up rfl (up rfl (up rfl (up rfl hs8))))))))))), up rfl (u0 tp), tp⟩ ?_
  rintro τ ⟨hs0, hs1, hs2, hs3, hs7, hs8, hs9, hs10⟩
  refine CW.seq ?_
  refine CW.block ?_
  refine CW.seq ?_
  refine CW.region ?_
  refine RW.soft Wd.a (v := .bool true) (by exact E.move (AF_ev rfl hs10)) ?_
  refine RW.soft Wd.a (v := .bool false) (by exact E.not (b := true) (AF_ev rfl tp)) ?_
  refine RW.soft Wd.a (v := .bool false) (by exact E.assign (AF_ev rfl tp)) ?_
  refine RW.fin (fun τ => τ 0 = .pointer (some ⟨t, 0, none⟩) ∧ τ 1 = .int .i64 id ∧ τ 2 = .int .i64 seq ∧ τ 3 = .agg #[.int .i64 r0, .int .i64 r1, .int .i64 r2, .slice Y l d] ∧ τ 7 = .pointer (some ⟨b1, 0, none⟩) ∧ τ 8 = .int .i64 0 ∧ τ 9 = .pointer (some ⟨b2, 0, none⟩) ∧ τ 10 = .bool true ∧ τ 20 = .bool false) ⟨up rfl (up rfl (up rfl hs0)), up rfl (up rfl (up rfl hs1)), up rfl (up rfl (up rfl hs2)), up rfl (up rfl (up rfl hs3)), up rfl (up rfl (up rfl hs7)), up rfl (up rfl (up rfl hs8)), up rfl (up rfl (up rfl hs9)), up rfl (up rfl (up rfl hs10)), tp⟩ ?_
  rintro τ ⟨hs0, hs1, hs2, hs3, hs7, hs8, hs9, hs10, hs20⟩
  refine CW.condF (AF_ev rfl hs20) ?_
  refine CW.seq ?_
  refine CW.region ?_
  refine RW.soft Wd.a (v := .int .i64 seq) (by exact E.move (AF_ev rfl hs2)) ?_
  refine RW.soft Wd.a (v := .pointer (some ⟨b2, 1, none⟩)) (by exact E.fieldAddr (b := b2) (o := 0) (f := { name := "Seq", type := 3, offset := 1, embedded := false, tag := "", pkgPath := "", byteOffset := 8 }) (AF_ev rfl (up rfl hs9)) Try.underlying51 rfl sz3 rfl) ?_
  refine RW.soft Wd.a (v := .int .i64 sq) (by exact E.load (a := ⟨b2, 1, none⟩) Try.underlying3 rfl (AF_ev rfl tp) (hst.cell .here rfl)) ?_
  refine RW.soft Wd.a (v := .bool false) (by exact E.b (a := decide (seq ≤ sq)) (E.leq (k := .i64) (a := seq) (b := sq) (AF_ev rfl (up rfl (up rfl tp))) (AF_ev rfl tp)) (by rw [decide_eq_false_iff_not]; omega)) ?_
  refine RW.soft Wd.a (v := .bool false) (by exact E.assign (AF_ev rfl tp)) ?_
  refine RW.fin (fun τ => τ 0 = .pointer (some ⟨t, 0, none⟩) ∧ τ 1 = .int .i64 id ∧ τ 2 = .int .i64 seq ∧ τ 3 = .agg #[.int .i64 r0, .int .i64 r1, .int .i64 r2, .slice Y l d] ∧ τ 7 = .pointer (some ⟨b1, 0, none⟩) ∧ τ 8 = .int .i64 0 ∧ τ 9 = .pointer (some ⟨b2, 0, none⟩) ∧ τ 10 = .bool true ∧ τ 20 = .bool false ∧ τ 23 = .bool false) ⟨up rfl (up rfl (up rfl (up rfl (up rfl hs0)))), up rfl (up rfl (up rfl (up rfl (up rfl hs1)))), up rfl (up rfl (up rfl (up rfl (up rfl hs2)))), up rfl (up rfl (up rfl (up rfl (up rfl hs3)))), up rfl (up rfl (up rfl (up rfl (up rfl hs7)))), up rfl (up rfl (up rfl (up rfl (up rfl hs8)))), up rfl (up rfl (up rfl (up rfl (up rfl hs9)))), up rfl (up rfl (up rfl (up rfl (up rfl hs10)))), up rfl (up rfl (up rfl (up rfl (up rfl hs20)))), tp⟩ ?_
  rintro τ ⟨hs0, hs1, hs2, hs3, hs7, hs8, hs9, hs10, hs20, hs23⟩
  refine CW.condF (AF_ev rfl hs23) ?_
  refine CW.skip ?_
  refine Bl.n ?_
  refine Th.n ?_
  refine CW.seq ?_
  refine CW.regionD [0, 1, 2, 3, 4, 5, 6, 7] (fun w => w.cell? ⟨t, 0, none⟩ = some (.map (some mm)) ∧ (∀ j_ v_, ([.int .i64 r0, .int .i64 r1, .int .i64 r2, .slice Y l d] : List Value)[j_]? = some v_ → w.cell? ⟨b1, 0 + j_, none⟩ = some v_)) mixed ?_
  have hst := hst.drew
  generalize w.drew = w at hst ⊢
  have hS : w.cell? ⟨t, 0, none⟩ = some (.map (some mm)) ∧ (∀ j_ v_, ([.int .i64 r0, .int .i64 r1, .int .i64 r2, .slice Y l d] : List Value)[j_]? = some v_ → w.cell? ⟨b1, 0 + j_, none⟩ = some v_) := ⟨hst.cell (.there (.there .here)) rfl, hst.cellsIn (.there .here) rfl⟩
  refine RD.take 0 rfl (by kernel_rfl) Wd.a (v := .pointer (some ⟨t, 0, none⟩)) (fun w hS => by exact E.move (AF_ev rfl hs0)) hS ?_
  refine RD.take 1 rfl (by kernel_rfl) Wd.a (v := .pointer (some ⟨t, 0, none⟩)) (fun w hS => by exact E.nilCheck (a := ⟨t, 0, none⟩) (AF_ev rfl tp)) hS ?_
  refine RD.take 2 rfl (by kernel_rfl) Wd.a (v := .pointer (some ⟨t, 0, none⟩)) (fun w hS => by exact E.fieldAddr (b := t) (o := 0) (f := { name := "m", type := 71, offset := 0, embedded := false, tag := "", pkgPath := "strongroom/sessions", byteOffset := 0 }) (AF_ev rfl tp) Try.underlying73 rfl sz71 rfl) hS ?_
  refine RD.take 3 rfl (by kernel_rfl) Wd.a (v := .map (some mm)) (fun w hS => by exact E.load (a := ⟨t, 0, none⟩) Try.underlying71 rfl (AF_ev rfl tp) hS.1) hS ?_
  refine RD.take 4 rfl (by kernel_rfl) Wd.a (v := .int .i64 id) (fun w hS => by exact E.move (AF_ev rfl (up rfl (up rfl (up rfl (up rfl hs1)))))) hS ?_
  refine RD.take 5 rfl (by kernel_rfl) Wd.a (v := .int .i64 id) (fun w hS => by exact E.move (AF_ev rfl (up rfl (up rfl (up rfl (up rfl (up rfl hs1))))))) hS ?_
  refine RD.take 6 rfl (by kernel_rfl) Wd.a (v := .int .i64 seq) (fun w hS => by exact E.move (AF_ev rfl (up rfl (up rfl (up rfl (up rfl (up rfl (up rfl hs2)))))))) hS ?_
  refine RD.take 7 rfl (by kernel_rfl) Wd.a (v := .agg #[.int .i64 r0, .int .i64 r1, .int .i64 r2, .slice Y l d]) (fun w hS => by exact E.loadN (b := b1) (o := 0) (cs := [.int .i64 r0, .int .i64 r1, .int .i64 r2, .slice Y l d]) Try.underlying39 rfl sz39 (AF_ev rfl (up rfl (up rfl (up rfl (up rfl (up rfl (up rfl (up rfl hs7)))))))) rfl hS.2) hS ?_
  refine RD.only 8 rfl (by kernel_rfl) Wd.a ?_
  have hst := hst.take (.there (.there (.there (.there .here))))
  refine H.call0 Try.func47 nm47 rfl (map1 (AF_ev rfl tp)) (Calls.mono (sess_own hA (bv_one _) (by omega) r0 r1 r2 hst) ?_)
  rintro _ w ⟨vX3, rfl, hnX3, hst⟩
  obtain ⟨X3, c4, rfl, hcX3, hmX3, hlX3, hbX3⟩ := hst.shape
  refine ⟨_, rfl, ?_⟩
  have hS : w.cell? ⟨t, 0, none⟩ = some (.map (some mm)) ∧ (∀ j_ v_, ([.int .i64 r0, .int .i64 r1, .int .i64 r2, .slice Y l d] : List Value)[j_]? = some v_ → w.cell? ⟨b1, 0 + j_, none⟩ = some v_) := ⟨hst.cell (.there (.there (.there (.there .here)))) rfl, hst.cellsIn (.there (.there (.there .here))) rfl⟩
  refine ⟨fun _ => hS, ?_⟩
  refine RD.only 9 rfl (by kernel_rfl) Wd.a (Hd.value (v := .agg #[.int .i64 id, .int .i64 seq, .int .i64 r0, .int .i64 r1, .int .i64 r2, .slice X3 l c4]) (by exact E.build (vs := #[(0, .int .i64 id), (1, .int .i64 seq), (2, .agg #[.int .i64 r0, .int .i64 r1, .int .i64 r2, .slice X3 l c4])]) (bld3 (AF_ev rfl (up rfl (up rfl (up rfl tp)))) (AF_ev rfl (up rfl (up rfl tp))) (AF_ev rfl tp)) (by kernel_rfl)) ⟨fun _ => hS, ?_⟩)
  refine RD.only 10 rfl (by kernel_rfl) Wd.a ?_
  refine H.mapUpdate (b := mm) (ks := ks) (k := id) (v := .agg #[.int .i64 id, .int .i64 seq, .int .i64 r0, .int .i64 r1, .int .i64 r2, .slice X3 l c4]) Try.underlying71 Try.underlying3 (AF_ev rfl (up rfl (up rfl (up rfl (up rfl (up rfl (up rfl tp))))))) (AF_ev rfl (up rfl (up rfl (up rfl (up rfl (up rfl tp)))))) (AF_ev rfl tp) hst (.there (.there (.there (.there (.there .here))))) fun w hst => ?_
  refine ⟨fun h => Bool.noConfusion ((show needs _ _ _ = false by kernel_rfl).symm.trans h), ?_⟩
  refine RD.fin (by kernel_rfl) (fun τ => τ 0 = .pointer (some ⟨t, 0, none⟩) ∧ τ 1 = .int .i64 id ∧ τ 2 = .int .i64 seq ∧ τ 3 = .agg #[.int .i64 r0, .int .i64 r1, .int .i64 r2, .slice Y l d] ∧ τ 7 = .pointer (some ⟨b1, 0, none⟩) ∧ τ 8 = .int .i64 0 ∧ τ 9 = .pointer (some ⟨b2, 0, none⟩) ∧ τ 10 = .bool true ∧ τ 20 = .bool false ∧ τ 23 = .bool false) ⟨u0 (up rfl (up rfl (up rfl (up rfl (up rfl (up rfl (up rfl (up rfl (up rfl (up rfl hs0)))))))))), u0 (up rfl (up rfl (up rfl (up rfl (up rfl (up rfl (up rfl (up rfl (up rfl (up rfl hs1)))))))))), u0 (up rfl (up rfl (up rfl (up rfl (up rfl (up rfl (up rfl (up rfl (up rfl (up rfl hs2)))))))))), u0 (up rfl (up rfl (up rfl (up rfl (up rfl (up rfl (up rfl (up rfl (up rfl (up rfl hs3)))))))))), u0 (up rfl (up rfl (up rfl (up rfl (up rfl (up rfl (up rfl (up rfl (up rfl (up rfl hs7)))))))))), u0 (up rfl (up rfl (up rfl (up rfl (up rfl (up rfl (up rfl (up rfl (up rfl (up rfl hs8)))))))))), u0 (up rfl (up rfl (up rfl (up rfl (up rfl (up rfl (up rfl (up rfl (up rfl (up rfl hs9)))))))))), u0 (up rfl (up rfl (up rfl (up rfl (up rfl (up rfl (up rfl (up rfl (up rfl (up rfl hs10)))))))))), u0 (up rfl (up rfl (up rfl (up rfl (up rfl (up rfl (up rfl (up rfl (up rfl (up rfl hs20)))))))))), u0 (up rfl (up rfl (up rfl (up rfl (up rfl (up rfl (up rfl (up rfl (up rfl (up rfl hs23))))))))))⟩ ?_
  rintro τ ⟨hs0, hs1, hs2, hs3, hs7, hs8, hs9, hs10, hs20, hs23⟩
  refine CW.seq ?_
  refine CW.region ?_
  refine RW.soft Wd.a (v := .int .i64 0) (by exact E.assign rfl) ?_
  refine RW.fin (fun τ => τ 0 = .pointer (some ⟨t, 0, none⟩) ∧ τ 1 = .int .i64 id ∧ τ 2 = .int .i64 seq ∧ τ 3 = .agg #[.int .i64 r0, .int .i64 r1, .int .i64 r2, .slice Y l d] ∧ τ 7 = .pointer (some ⟨b1, 0, none⟩) ∧ τ 8 = .int .i64 0 ∧ τ 9 = .pointer (some ⟨b2, 0, none⟩) ∧ τ 10 = .bool true ∧ τ 20 = .bool false ∧ τ 23 = .bool false) ⟨up rfl hs0, up rfl hs1, up rfl hs2, up rfl hs3, up rfl hs7, tp, up rfl hs9, up rfl hs10, up rfl hs20, up rfl hs23⟩ ?_
  rintro τ ⟨hs0, hs1, hs2, hs3, hs7, hs8, hs9, hs10, hs20, hs23⟩
  refine CW.ret ?_
  refine ret1 (v := .int .i64 0) rfl (by exact (.tmp (AF_ev rfl hs8) .nil)) ?_
  have hst := hst.take (.there .here)
  have hst := hst.take (.there (.there (.there (.there (.there .here)))))
  have hst := hst.take (.there (.there (.there (.there (.there .here)))))
  have hst := hst.take (.there (.there (.there .here)))
  have hst := (hst.take (.there (.there (.there (.there .here))))).drop
  have hst := (hst.take (.there (.there (.there (.there .here))))).drop
  obtain ⟨q, hle, hlas, hst⟩ := hst.ownKeep
  exact ⟨q, _, _, hle, rfl, hlas, hst⟩

theorem law15_own {p : Pers} {w : World} {R : List Assn} {A : Assn} {X : Option Addr} {m c : Nat} {ns : List Int} (hA : ∀ w H, St p w (A :: H) → Src w 1 (.slice X m c) m (bv ns)) (c0 c1 c2 : Int) (hst : St p w (A :: R)) :
    Calls Try.prog 24 #[.agg #[.int .i64 c0, .int .i64 c1, .int .i64 c2, .slice X m c]] w fun e w => ∃ v k ys, e = .returned (.agg #[.int .i64 c0, .int .i64 c1, .int .i64 c2, v]) ∧ isNil v = false ∧ k = min m 100 ∧ ys = bv (ns.take 100) ∧ St p w (Own 5 1 v k ys :: A :: R) := by
  have hst0 := hst
  have hlen := (hA _ _ hst).len
  refine enter Try.func24 rfl (by simp) (n := 17) rfl fun τ hτ => ?_
  have hs0 : τ 0 = .agg #[.int .i64 c0, .int .i64 c1, .int .i64 c2, .slice X m c] := hτ 0 (by simp)
  clear hτ
  refine CW.seq ?_
  refine CW.region ?_
  refine RW.hard Wd.a ?_
  refine H.box (v := .agg #[.int .i64 c0, .int .i64 c1, .int .i64 c2, .slice X m c]) (AF_ev rfl hs0) hst fun b1 w hst => ?_
  refine RW.hard Wd.a ?_
  refine H.alloc zr39 hst fun b2 w hst => ?_
  refine RW.fin (fun τ => τ 0 = .agg #[.int .i64 c0, .int .i64 c1, .int .i64 c2, .slice X m c] ∧ τ 1 = .pointer (some ⟨b1, 0, none⟩) ∧ τ 2 = .pointer (some ⟨b2, 0, none⟩)) ⟨up rfl (up rfl hs0), up rfl tp, tp⟩ ?_
  rintro τ ⟨hs0, hs1, hs2⟩
  refine CW.seq ?_
  refine CW.seq ?_
  refine CW.region ?_
  refine RW.soft Wd.a (v := .pointer (some ⟨b1, 3, none⟩)) (by exact E.fieldAddr (b := b1) (o := 0) (f := { name := "Bytes", type := 37, offset := 3, embedded := false, tag := "", pkgPath := "", byteOffset := 24 }) (AF_ev rfl hs1) Try.underlying39 rfl sz37 rfl) ?_
  refine RW.soft Wd.a (v := .slice X m c) (by exact E.load (a := ⟨b1, 3, none⟩) Try.underlying37 rfl (AF_ev rfl tp) (hst.cell (.there .here) rfl)) ?_
  refine RW.soft Wd.a (v := .int .i64 ((m : Nat) : Int)) (by exact E.lenS (p := X) (l := m) (c := c) Try.underlying37 (AF_ev rfl tp)) ?_
  refine RW.soft Wd.a (v := .bool (decide (((m : Nat) : Int) > 100))) (by exact E.gtr (k := .i64) (a := ((m : Nat) : Int)) (b := 100) (AF_ev rfl tp) rfl) ?_
  refine RW.fin (fun τ => τ 0 = .agg #[.int .i64 c0, .int .i64 c1, .int .i64 c2, .slice X m c] ∧ τ 1 = .pointer (some ⟨b1, 0, none⟩) ∧ τ 2 = .pointer (some ⟨b2, 0, none⟩) ∧ τ 6 = .bool (decide (((m : Nat) : Int) > 100))) ⟨up rfl (up rfl (up rfl (up rfl hs0))), up rfl (up rfl (up rfl (up rfl hs1))), up rfl (up rfl (up rfl (up rfl hs2))), tp⟩ ?_
  rintro τ ⟨hs0, hs1, hs2, hs6⟩
  refine CW.cond (AF_ev rfl hs6) (fun hc3 => ?_) (fun hc3 => ?_)
  · have hc3_ := hc3
    try simp only [decide_eq_true_eq, decide_eq_false_iff_not, Bool.and_eq_true, Bool.or_eq_true, Bool.and_eq_false_iff, Bool.or_eq_false_iff, Bool.not_eq_true', Bool.not_eq_false', beq_iff_eq, beq_eq_false_iff_ne, bne_iff_ne, bne_eq_false_iff_eq, ne_eq, Int.not_lt, Int.not_le, gt_iff_lt, ge_iff_le] at hc3_
    obtain ⟨b0, o0, rfl⟩ := (hA _ _ (hst.take (.there (.there .here)))).someOf (by omega)
    refine CW.region ?_
    refine RW.soft Wd.a (v := .pointer (some ⟨b1, 3, none⟩)) (by exact E.fieldAddr (b := b1) (o := 0) (f := { name := "Bytes", type := 37, offset := 3, embedded := false, tag := "", pkgPath := "", byteOffset := 24 }) (AF_ev rfl hs1) Try.underlying39 rfl sz37 rfl) ?_
    refine RW.soft Wd.a (v := .slice (some ⟨b0, o0, none⟩) m c) (by exact E.load (a := ⟨b1, 3, none⟩) Try.underlying37 rfl (AF_ev rfl tp) (hst.cell (.there .here) rfl)) ?_
    refine RW.soft Wd.a (v := .slice (some ⟨b0, o0, none⟩) 100 c) (by exact E.slice (i := 0) (j := 100) Try.underlying37 sz5 (AF_ev rfl tp) rfl rfl (by omega) (by omega) (by simp)) ?_
    refine RW.soft Wd.a (v := .pointer (some ⟨b1, 3, none⟩)) (by exact E.fieldAddr (b := b1) (o := 0) (f := { name := "Bytes", type := 37, offset := 3, embedded := false, tag := "", pkgPath := "", byteOffset := 24 }) (AF_ev rfl (up rfl (up rfl (up rfl hs1)))) Try.underlying39 rfl sz37 rfl) ?_
    refine RW.hard Wd.a ?_
    refine H.store (b := b1) (o := 3) (v := .slice (some ⟨b0, o0, none⟩) 100 c) (c' := #[.int .i64 c0, .int .i64 c1, .int .i64 c2, .slice (some ⟨b0, o0, none⟩) 100 c]) (AF_ev rfl tp) (AF_ev rfl (up rfl tp)) hst (.there .here) sz37 (by simp [Value.cells]) (by simp [Value.cells, Value.oneCell']) rfl fun w hst => ?_
    refine RW.fin (fun τ => τ 0 = .agg #[.int .i64 c0, .int .i64 c1, .int .i64 c2, .slice (some ⟨b0, o0, none⟩) m c] ∧ τ 1 = .pointer (some ⟨b1, 0, none⟩) ∧ τ 2 = .pointer (some ⟨b2, 0, none⟩) ∧ τ 6 = .bool true) ⟨u0 (up rfl (up rfl (up rfl (up rfl hs0)))), u0 (up rfl (up rfl (up rfl (up rfl hs1)))), u0 (up rfl (up rfl (up rfl (up rfl hs2)))), u0 (up rfl (up rfl (up rfl (up rfl (Eq.trans hs6 (congrArg Value.bool hc3))))))⟩ ?_
    rintro τ ⟨hs0, hs1, hs2, hs6⟩
    refine CW.seq ?_
    refine CW.region ?_
    refine RW.hard Wd.a ?_
    refine H.buildSlice (e := 5) (cs := #[]) (vs := #[]) (by simp) (fun _ => by kernel_rfl) hst fun b4 w hst => ?_
    refine RW.soft Wd.a (v := .pointer (some ⟨b1, 3, none⟩)) (by exact E.fieldAddr (b := b1) (o := 0) (f := { name := "Bytes", type := 37, offset := 3, embedded := false, tag := "", pkgPath := "", byteOffset := 24 }) (AF_ev rfl (up rfl hs1)) Try.underlying39 rfl sz37 rfl) ?_
    refine RW.soft Wd.a (v := .slice (some ⟨b0, o0, none⟩) 100 c) (by exact E.load (a := ⟨b1, 3, none⟩) Try.underlying37 rfl (AF_ev rfl tp) (hst.cell (.there (.there .here)) rfl)) ?_
    have hst := hst.ownNew (n := 0) (cap := 0) (sz := 1) (xs := []) (by omega) (by simp [maxLen]) rfl rfl
    refine RW.hard Wd.a ?_
    refine H.append2 (n2 := 100) (xs2 := (bv ns).take (100 * 1)) (by first | rfl | simp) (by first | rfl | simp) (m := 100) (news := (bv ns).take (100 * 1)) (s0 := .slice (some ⟨b4, 0, none⟩) 0 0) (x0 := .slice (some ⟨b0, o0, none⟩) 100 c) Try.underlying37 inf5 rfl (AF_ev rfl (up rfl (up rfl tp))) (AF_ev rfl tp) hst .here ((hA _ _ (hst.take (.there (.there (.there .here))))).take (by omega)) (fun u hu => bv_one ns u (List.mem_of_mem_take hu)) (by omega) (by simp only [maxLen]; omega) ?_
    intro vX5 w hnilX5 hst
    obtain ⟨X5, c6, rfl, hcX5, hmX5, hlX5, hbX5⟩ := hst.shape
    refine RW.soft Wd.a (v := .pointer (some ⟨b1, 3, none⟩)) (by exact E.fieldAddr (b := b1) (o := 0) (f := { name := "Bytes", type := 37, offset := 3, embedded := false, tag := "", pkgPath := "", byteOffset := 24 }) (AF_ev rfl (up rfl (up rfl (up rfl (up rfl hs1))))) Try.underlying39 rfl sz37 rfl) ?_
    refine RW.hard Wd.a ?_
    refine H.store (b := b1) (o := 3) (v := .slice X5 100 c6) (c' := #[.int .i64 c0, .int .i64 c1, .int .i64 c2, .slice X5 100 c6]) (AF_ev rfl tp) (AF_ev rfl (up rfl tp)) hst (.there (.there .here)) sz37 (by simp [Value.cells]) (by simp [Value.cells, Value.oneCell']) rfl fun w hst => ?_
    refine RW.fin (fun τ => τ 0 = .agg #[.int .i64 c0, .int .i64 c1, .int .i64 c2, .slice (some ⟨b0, o0, none⟩) m c] ∧ τ 1 = .pointer (some ⟨b1, 0, none⟩) ∧ τ 2 = .pointer (some ⟨b2, 0, none⟩) ∧ τ 6 = .bool true) ⟨u0 (up rfl (up rfl (up rfl (up rfl (up rfl hs0))))), u0 (up rfl (up rfl (up rfl (up rfl (up rfl hs1))))), u0 (up rfl (up rfl (up rfl (up rfl (up rfl hs2))))), u0 (up rfl (up rfl (up rfl (up rfl (up rfl hs6)))))⟩ ?_
    rintro τ ⟨hs0, hs1, hs2, hs6⟩
    refine CW.seq ?_
    refine CW.region ?_
    refine RW.soft Wd.a (v := .agg #[.int .i64 c0, .int .i64 c1, .int .i64 c2, .slice X5 100 c6]) (by exact E.loadN (b := b1) (o := 0) (cs := [.int .i64 c0, .int .i64 c1, .int .i64 c2, .slice X5 100 c6]) Try.underlying39 rfl sz39 (AF_ev rfl hs1) rfl (hst.cellsIn (.there (.there .here)) rfl)) ?_
    refine RW.hard Wd.a ?_
    refine H.store (b := b2) (o := 0) (v := .agg #[.int .i64 c0, .int .i64 c1, .int .i64 c2, .slice X5 100 c6]) (c' := #[.int .i64 c0, .int .i64 c1, .int .i64 c2, .slice X5 100 c6]) (AF_ev rfl (up rfl hs2)) (AF_ev rfl tp) hst (.there .here) sz39 (by simp [Value.cells]) (by simp [Value.cells, Value.oneCell']) rfl fun w hst => ?_
    refine RW.fin (fun τ => τ 0 = .agg #[.int .i64 c0, .int .i64 c1, .int .i64 c2, .slice (some ⟨b0, o0, none⟩) m c] ∧ τ 1 = .pointer (some ⟨b1, 0, none⟩) ∧ τ 2 = .pointer (some ⟨b2, 0, none⟩) ∧ τ 6 = .bool true) ⟨u0 (up rfl hs0), u0 (up rfl hs1), u0 (up rfl hs2), u0 (up rfl hs6)⟩ ?_
    rintro τ ⟨hs0, hs1, hs2, hs6⟩
    refine CW.ret ?_
    refine ret1 (v := .agg #[.int .i64 c0, .int .i64 c1, .int .i64 c2, .slice X5 100 c6]) rfl (by exact (.cell (AF_ev rfl hs2) (hst.blockAt (.there .here)) Try.underlying39 rfl sz39 .nil)) ?_
    have hst := hst.take (.there (.there (.there .here)))
    have hst := hst.take (.there .here)
    have hst := (hst.take (.there (.there .here))).drop
    have hst := (hst.take (.there (.there .here))).drop
    refine ⟨_, 100, _, rfl, by rw [Bool.eq_false_iff]; intro h; have q := (hnilX5.1 h).1; simp [isNil] at q, by omega, ?_, hst⟩
    rw [bv_take]
  · have hc3_ := hc3
    try simp only [decide_eq_true_eq, decide_eq_false_iff_not, Bool.and_eq_true, Bool.or_eq_true, Bool.and_eq_false_iff, Bool.or_eq_false_iff, Bool.not_eq_true', Bool.not_eq_false', beq_iff_eq, beq_eq_false_iff_ne, bne_iff_ne, bne_eq_false_iff_eq, ne_eq, Int.not_lt, Int.not_le, gt_iff_lt, ge_iff_le] at hc3_
    refine CW.skip ?_
    refine Th.n ?_
    refine CW.seq ?_
    refine CW.region ?_
    refine RW.hard Wd.a ?_
    refine H.buildSlice (e := 5) (cs := #[]) (vs := #[]) (by simp) (fun _ => by kernel_rfl) hst fun b7 w hst => ?_
    refine RW.soft Wd.a (v := .pointer (some ⟨b1, 3, none⟩)) (by exact E.fieldAddr (b := b1) (o := 0) (f := { name := "Bytes", type := 37, offset := 3, embedded := false, tag := "", pkgPath := "", byteOffset := 24 }) (AF_ev rfl (up rfl hs1)) Try.underlying39 rfl sz37 rfl) ?_
    refine RW.soft Wd.a (v := .slice X m c) (by exact E.load (a := ⟨b1, 3, none⟩) Try.underlying37 rfl (AF_ev rfl tp) (hst.cell (.there (.there .here)) rfl)) ?_
    have hst := hst.ownNew (n := 0) (cap := 0) (sz := 1) (xs := []) (by omega) (by simp [maxLen]) rfl rfl
    refine RW.hard Wd.a ?_
    refine H.append2 (n2 := m) (xs2 := bv ns) (by first | rfl | simp) (by first | rfl | simp) (m := m) (news := bv ns) (s0 := .slice (some ⟨b7, 0, none⟩) 0 0) (x0 := .slice X m c) Try.underlying37 inf5 rfl (AF_ev rfl (up rfl (up rfl tp))) (AF_ev rfl tp) hst .here (hA _ _ (hst.take (.there (.there (.there .here))))) (bv_one _) (by omega) (by simp only [maxLen]; omega) ?_
    intro vX8 w hnilX8 hst
    obtain ⟨X8, c9, rfl, hcX8, hmX8, hlX8, hbX8⟩ := hst.shape
    refine RW.soft Wd.a (v := .pointer (some ⟨b1, 3, none⟩)) (by exact E.fieldAddr (b := b1) (o := 0) (f := { name := "Bytes", type := 37, offset := 3, embedded := false, tag := "", pkgPath := "", byteOffset := 24 }) (AF_ev rfl (up rfl (up rfl (up rfl (up rfl hs1))))) Try.underlying39 rfl sz37 rfl) ?_
    refine RW.hard Wd.a ?_
    refine H.store (b := b1) (o := 3) (v := .slice X8 m c9) (c' := #[.int .i64 c0, .int .i64 c1, .int .i64 c2, .slice X8 m c9]) (AF_ev rfl tp) (AF_ev rfl (up rfl tp)) hst (.there (.there .here)) sz37 (by simp [Value.cells]) (by simp [Value.cells, Value.oneCell']) rfl fun w hst => ?_
    refine RW.fin (fun τ => τ 0 = .agg #[.int .i64 c0, .int .i64 c1, .int .i64 c2, .slice X m c] ∧ τ 1 = .pointer (some ⟨b1, 0, none⟩) ∧ τ 2 = .pointer (some ⟨b2, 0, none⟩) ∧ τ 6 = .bool false) ⟨u0 (up rfl (up rfl (up rfl (up rfl (up rfl hs0))))), u0 (up rfl (up rfl (up rfl (up rfl (up rfl hs1))))), u0 (up rfl (up rfl (up rfl (up rfl (up rfl hs2))))), u0 (up rfl (up rfl (up rfl (up rfl (up rfl (Eq.trans hs6 (congrArg Value.bool hc3)))))))⟩ ?_
    rintro τ ⟨hs0, hs1, hs2, hs6⟩
    refine CW.seq ?_
    refine CW.region ?_
    refine RW.soft Wd.a (v := .agg #[.int .i64 c0, .int .i64 c1, .int .i64 c2, .slice X8 m c9]) (by exact E.loadN (b := b1) (o := 0) (cs := [.int .i64 c0, .int .i64 c1, .int .i64 c2, .slice X8 m c9]) Try.underlying39 rfl sz39 (AF_ev rfl hs1) rfl (hst.cellsIn (.there (.there .here)) rfl)) ?_
    refine RW.hard Wd.a ?_
    refine H.store (b := b2) (o := 0) (v := .agg #[.int .i64 c0, .int .i64 c1, .int .i64 c2, .slice X8 m c9]) (c' := #[.int .i64 c0, .int .i64 c1, .int .i64 c2, .slice X8 m c9]) (AF_ev rfl (up rfl hs2)) (AF_ev rfl tp) hst (.there .here) sz39 (by simp [Value.cells]) (by simp [Value.cells, Value.oneCell']) rfl fun w hst => ?_
    refine RW.fin (fun τ => τ 0 = .agg #[.int .i64 c0, .int .i64 c1, .int .i64 c2, .slice X m c] ∧ τ 1 = .pointer (some ⟨b1, 0, none⟩) ∧ τ 2 = .pointer (some ⟨b2, 0, none⟩) ∧ τ 6 = .bool false) ⟨u0 (up rfl hs0), u0 (up rfl hs1), u0 (up rfl hs2), u0 (up rfl hs6)⟩ ?_
    rintro τ ⟨hs0, hs1, hs2, hs6⟩
    refine CW.ret ?_
    refine ret1 (v := .agg #[.int .i64 c0, .int .i64 c1, .int .i64 c2, .slice X8 m c9]) rfl (by exact (.cell (AF_ev rfl hs2) (hst.blockAt (.there .here)) Try.underlying39 rfl sz39 .nil)) ?_
    have hst := hst.take (.there (.there (.there .here)))
    have hst := hst.take (.there .here)
    have hst := (hst.take (.there (.there .here))).drop
    have hst := (hst.take (.there (.there .here))).drop
    refine ⟨_, m, _, rfl, by rw [Bool.eq_false_iff]; intro h; have q := (hnilX8.1 h).1; simp [isNil] at q, by omega, ?_, hst⟩
    rw [List.take_of_length_le (by have := bv_length ns; have q := (hA _ _ hst0).len; omega)]

theorem law15_own_ {p : Pers} {w : World} {R : List Assn} {A : Assn} {X : Option Addr} {m c : Nat} {ns : List Int} (hA : ∀ w H, St p w (A :: H) → Src w 1 (.slice X m c) m (bv ns)) (c0 c1 c2 : Int) (hst : St p w (A :: R)) :
    Calls Try.prog 24 #[.agg #[.int .i64 c0, .int .i64 c1, .int .i64 c2, .slice X m c]] w fun e w => ∃ v, e = .returned (.agg #[.int .i64 c0, .int .i64 c1, .int .i64 c2, v]) ∧ isNil v = false ∧ St p w (Own 5 1 v (ns.take 100).length (bv (ns.take 100)) :: A :: R) := by
  have hl := (hA _ _ hst).len
  have h2 := bv_length ns
  refine Calls.mono (law15_own hA c0 c1 c2 hst) ?_
  rintro _ w ⟨v, k, ys, rfl, hn, rfl, rfl, hst⟩
  refine ⟨v, rfl, hn, ?_⟩
  have : (ns.take 100).length = min m 100 := by rw [List.length_take]; omega
  rw [this]; exact hst

theorem ref_SameReply {p : Pers} {w : World} {R : List Assn} {A B : Assn} {X Y : Option Addr} {m c l d : Nat} {ns ms : List Int} (hA : ∀ w H, St p w (A :: H) → Src w 1 (.slice X m c) m (bv ns)) (hB : ∀ w H, St p w (B :: H) → Src w 1 (.slice Y l d) l (bv ms)) (c0 c1 c2 r0 r1 r2 : Int) (hst : St p w (A :: B :: R)) :
    Calls Try.prog 23 #[.agg #[.int .i64 c0, .int .i64 c1, .int .i64 c2, .slice X m c], .agg #[.int .i64 r0, .int .i64 r1, .int .i64 r2, .slice Y l d]] w fun e w => e = .returned (.bool (((c0 == r0) && (c1 == r1)) && (c2 == r2) && ((bstr ns).toList == (bstr ms).toList))) ∧ St p w (A :: B :: R) := by
  refine enter Try.func23 rfl (by simp) (n := 33) rfl fun τ hτ => ?_
  have hs0 : τ 0 = .agg #[.int .i64 c0, .int .i64 c1, .int .i64 c2, .slice X m c] := hτ 0 (by simp)
  have hs1 : τ 1 = .agg #[.int .i64 r0, .int .i64 r1, .int .i64 r2, .slice Y l d] := hτ 1 (by simp)
  clear hτ
  refine CW.seq ?_
  refine CW.region ?_
  refine RW.hard Wd.a ?_
  refine H.box (v := .agg #[.int .i64 c0, .int .i64 c1, .int .i64 c2, .slice X m c]) (AF_ev rfl hs0) hst fun b1 w hst => ?_
  refine RW.hard Wd.a ?_
  refine H.box (v := .agg #[.int .i64 r0, .int .i64 r1, .int .i64 r2, .slice Y l d]) (AF_ev rfl (up rfl hs1)) hst fun b2 w hst => ?_
  refine RW.soft Wd.a (v := .bool false) (by exact E.assign rfl) ?_
  refine RW.fin (fun τ => τ 0 = .agg #[.int .i64 c0, .int .i64 c1, .int .i64 c2, .slice X m c] ∧ τ 1 = .agg #[.int .i64 r0, .int .i64 r1, .int .i64 r2, .slice Y l d] ∧ τ 2 = .pointer (some ⟨b1, 0, none⟩) ∧ τ 3 = .pointer (some ⟨b2, 0, none⟩) ∧ τ 4 = .bool false) ⟨up rfl (up rfl (up rfl hs0)), up rfl (up rfl (up rfl hs1)), up rfl (up rfl tp), up rfl tp, tp⟩ ?_
  rintro τ ⟨hs0, hs1, hs2, hs3, hs4⟩
  refine CW.seq ?_
  refine CW.cut (fun τ => τ 0 = .agg #[.int .i64 c0, .int .i64 c1, .int .i64 c2, .slice X m c] ∧ τ 1 = .agg #[.int .i64 r0, .int .i64 r1, .int .i64 r2, .slice Y l d] ∧ τ 2 = .pointer (some ⟨b1, 0, none⟩) ∧ τ 3 = .pointer (some ⟨b2, 0, none⟩) ∧ τ 4 = .bool ((((c0 == r0) && (c1 == r1)) && (c2 == r2)) && ((bstr ns).toList == (bstr ms).toList))) ?_ ?_
  · refine CW.region ?_
    refine RW.soft Wd.a (v := .pointer (some ⟨b1, 0, none⟩)) (by exact E.fieldAddr (b := b1) (o := 0) (f := { name := "Code", type := 26, offset := 0, embedded := false, tag := "", pkgPath := "", byteOffset := 0 }) (AF_ev rfl hs2) Try.underlying39 rfl sz26 rfl) ?_
    refine RW.soft Wd.a (v := .int .i64 c0) (by exact E.load (a := ⟨b1, 0, none⟩) Try.underlying26 rfl (AF_ev rfl tp) (hst.cell (.there .here) rfl)) ?_
    refine RW.soft Wd.a (v := .pointer (some ⟨b2, 0, none⟩)) (by exact E.fieldAddr (b := b2) (o := 0) (f := { name := "Code", type := 26, offset := 0, embedded := false, tag := "", pkgPath := "", byteOffset := 0 }) (AF_ev rfl (up rfl (up rfl hs3))) Try.underlying39 rfl sz26 rfl) ?_
    refine RW.soft Wd.a (v := .int .i64 r0) (by exact E.load (a := ⟨b2, 0, none⟩) Try.underlying26 rfl (AF_ev rfl tp) (hst.cell .here rfl)) ?_
    refine RW.soft Wd.a (v := .bool (c0 == r0)) (by exact E.eql (k := .i64) (a := c0) (b := r0) (AF_ev rfl (up rfl (up rfl tp))) (AF_ev rfl tp)) ?_
    refine RW.soft Wd.a (v := .bool (c0 == r0)) (by exact E.move (AF_ev rfl tp)) ?_
    refine Or.elim (Bool.eq_false_or_eq_true (c0 == r0)) (fun hg3 => ?_) (fun hg3 => ?_)
    · have hg3_ := hg3
      try simp only [decide_eq_true_eq, decide_eq_false_iff_not, Bool.and_eq_true, Bool.or_eq_true, Bool.and_eq_false_iff, Bool.or_eq_false_iff, Bool.not_eq_true', Bool.not_eq_false', beq_iff_eq, beq_eq_false_iff_ne, bne_iff_ne, bne_eq_false_iff_eq, ne_eq, Int.not_lt, Int.not_le, gt_iff_lt, ge_iff_le] at hg3_
      refine RW.soft (by exact Wd.yes (x := 10) rfl (AF_ev rfl (Eq.trans tp (congrArg Value.bool hg3)))) (v := .pointer (some ⟨b1, 1, none⟩)) (by exact E.fieldAddr (b := b1) (o := 0) (f := { name := "N", type := 3, offset := 1, embedded := false, tag := "", pkgPath := "", byteOffset := 8 }) (AF_ev rfl (up rfl (up rfl (up rfl (up rfl (up rfl (up rfl hs2))))))) Try.underlying39 rfl sz3 rfl) ?_
      refine RW.soft (by exact Wd.yes (x := 10) rfl (AF_ev rfl (up rfl (Eq.trans tp (congrArg Value.bool hg3))))) (v := .int .i64 c1) (by exact E.load (a := ⟨b1, 1, none⟩) Try.underlying3 rfl (AF_ev rfl tp) (hst.cell (.there .here) rfl)) ?_
      refine RW.soft (by exact Wd.yes (x := 10) rfl (AF_ev rfl (up rfl (up rfl (Eq.trans tp (congrArg Value.bool hg3)))))) (v := .pointer (some ⟨b2, 1, none⟩)) (by exact E.fieldAddr (b := b2) (o := 0) (f := { name := "N", type := 3, offset := 1, embedded := false, tag := "", pkgPath := "", byteOffset := 8 }) (AF_ev rfl (up rfl (up rfl (up rfl (up rfl (up rfl (up rfl (up rfl (up rfl hs3))))))))) Try.underlying39 rfl sz3 rfl) ?_
      refine RW.soft (by exact Wd.yes (x := 10) rfl (AF_ev rfl (up rfl (up rfl (up rfl (Eq.trans tp (congrArg Value.bool hg3))))))) (v := .int .i64 r1) (by exact E.load (a := ⟨b2, 1, none⟩) Try.underlying3 rfl (AF_ev rfl tp) (hst.cell .here rfl)) ?_
      refine RW.soft (by exact Wd.yes (x := 10) rfl (AF_ev rfl (up rfl (up rfl (up rfl (up rfl (Eq.trans tp (congrArg Value.bool hg3)))))))) (v := .bool (c1 == r1)) (by exact E.eql (k := .i64) (a := c1) (b := r1) (AF_ev rfl (up rfl (up rfl tp))) (AF_ev rfl tp)) ?_
      refine RW.soft Wd.a (v := .bool (c1 == r1)) (by exact E.pickT (AF_ev rfl (up rfl (up rfl (up rfl (up rfl (up rfl (Eq.trans tp (congrArg Value.bool hg3)))))))) (AF_ev rfl tp)) ?_
      refine RW.soft Wd.a (v := .bool (c1 == r1)) (by exact E.move (AF_ev rfl tp)) ?_
      refine Or.elim (Bool.eq_false_or_eq_true (c1 == r1)) (fun hg4 => ?_) (fun hg4 => ?_)
      · have hg4_ := hg4
        try simp only [decide_eq_true_eq, decide_eq_false_iff_not, Bool.and_eq_true, Bool.or_eq_true, Bool.and_eq_false_iff, Bool.or_eq_false_iff, Bool.not_eq_true', Bool.not_eq_false', beq_iff_eq, beq_eq_false_iff_ne, bne_iff_ne, bne_eq_false_iff_eq, ne_eq, Int.not_lt, Int.not_le, gt_iff_lt, ge_iff_le] at hg4_
        refine RW.soft (by exact Wd.yes (x := 17) rfl (AF_ev rfl (Eq.trans tp (congrArg Value.bool hg4)))) (v := .pointer (some ⟨b1, 2, none⟩)) (by exact E.fieldAddr (b := b1) (o := 0) (f := { name := "M", type := 3, offset := 2, embedded := false, tag := "", pkgPath := "", byteOffset := 16 }) (AF_ev rfl (up rfl (up rfl (up rfl (up rfl (up rfl (up rfl (up rfl (up rfl (up rfl (up rfl (up rfl (up rfl (up rfl hs2)))))))))))))) Try.underlying39 rfl sz3 rfl) ?_
        refine RW.soft (by exact Wd.yes (x := 17) rfl (AF_ev rfl (up rfl (Eq.trans tp (congrArg Value.bool hg4))))) (v := .int .i64 c2) (by exact E.load (a := ⟨b1, 2, none⟩) Try.underlying3 rfl (AF_ev rfl tp) (hst.cell (.there .here) rfl)) ?_
        refine RW.soft (by exact Wd.yes (x := 17) rfl (AF_ev rfl (up rfl (up rfl (Eq.trans tp (congrArg Value.bool hg4)))))) (v := .pointer (some ⟨b2, 2, none⟩)) (by exact E.fieldAddr (b := b2) (o := 0) (f := { name := "M", type := 3, offset := 2, embedded := false, tag := "", pkgPath := "", byteOffset := 16 }) (AF_ev rfl (up rfl (up rfl (up rfl (up rfl (up rfl (up rfl (up rfl (up rfl (up rfl (up rfl (up rfl (up rfl (up rfl (up rfl (up rfl hs3)))))))))))))))) Try.underlying39 rfl sz3 rfl) ?_
        refine RW.soft (by exact Wd.yes (x := 17) rfl (AF_ev rfl (up rfl (up rfl (up rfl (Eq.trans tp (congrArg Value.bool hg4))))))) (v := .int .i64 r2) (by exact E.load (a := ⟨b2, 2, none⟩) Try.underlying3 rfl (AF_ev rfl tp) (hst.cell .here rfl)) ?_
        refine RW.soft (by exact Wd.yes (x := 17) rfl (AF_ev rfl (up rfl (up rfl (up rfl (up rfl (Eq.trans tp (congrArg Value.bool hg4)))))))) (v := .bool (c2 == r2)) (by exact E.eql (k := .i64) (a := c2) (b := r2) (AF_ev rfl (up rfl (up rfl tp))) (AF_ev rfl tp)) ?_
        refine RW.soft Wd.a (v := .bool (c2 == r2)) (by exact E.pickT (AF_ev rfl (up rfl (up rfl (up rfl (up rfl (up rfl (Eq.trans tp (congrArg Value.bool hg4)))))))) (AF_ev rfl tp)) ?_
        refine RW.soft Wd.a (v := .bool (c2 == r2)) (by exact E.move (AF_ev rfl tp)) ?_
        refine Or.elim (Bool.eq_false_or_eq_true (c2 == r2)) (fun hg5 => ?_) (fun hg5 => ?_)
        · have hg5_ := hg5
          try simp only [decide_eq_true_eq, decide_eq_false_iff_not, Bool.and_eq_true, Bool.or_eq_true, Bool.and_eq_false_iff, Bool.or_eq_false_iff, Bool.not_eq_true', Bool.not_eq_false', beq_iff_eq, beq_eq_false_iff_ne, bne_iff_ne, bne_eq_false_iff_eq, ne_eq, Int.not_lt, Int.not_le, gt_iff_lt, ge_iff_le] at hg5_
          refine RW.soft (by exact Wd.yes (x := 24) rfl (AF_ev rfl (Eq.trans tp (congrArg Value.bool hg5)))) (v := .pointer (some ⟨b1, 3, none⟩)) (by exact E.fieldAddr (b := b1) (o := 0) (f := { name := "Bytes", type := 37, offset := 3, embedded := false, tag := "", pkgPath := "", byteOffset := 24 }) (AF_ev rfl (up rfl (up rfl (up rfl (up rfl (up rfl (up rfl (up rfl (up rfl (up rfl (up rfl (up rfl (up rfl (up rfl (up rfl (up rfl (up rfl (up rfl (up rfl (up rfl (up rfl hs2))))))))))))))))))))) Try.underlying39 rfl sz37 rfl) ?_
          refine RW.soft (by exact Wd.yes (x := 24) rfl (AF_ev rfl (up rfl (Eq.trans tp (congrArg Value.bool hg5))))) (v := .slice X m c) (by exact E.load (a := ⟨b1, 3, none⟩) Try.underlying37 rfl (AF_ev rfl tp) (hst.cell (.there .here) rfl)) ?_
          refine RW.soft (by exact Wd.yes (x := 24) rfl (AF_ev rfl (up rfl (up rfl (Eq.trans tp (congrArg Value.bool hg5)))))) (v := .string (bstr ns)) (by exact E.bytesStr (ns := ns) (m := m) Try.underlying37 Try.underlying5 Try.underlying9 (AF_ev rfl tp) (hA _ _ (hst.take (.there (.there .here))))) ?_
          refine RW.soft (by exact Wd.yes (x := 24) rfl (AF_ev rfl (up rfl (up rfl (up rfl (Eq.trans tp (congrArg Value.bool hg5))))))) (v := .pointer (some ⟨b2, 3, none⟩)) (by exact E.fieldAddr (b := b2) (o := 0) (f := { name := "Bytes", type := 37, offset := 3, embedded := false, tag := "", pkgPath := "", byteOffset := 24 }) (AF_ev rfl (up rfl (up rfl (up rfl (up rfl (up rfl (up rfl (up rfl (up rfl (up rfl (up rfl (up rfl (up rfl (up rfl (up rfl (up rfl (up rfl (up rfl (up rfl (up rfl (up rfl (up rfl (up rfl (up rfl hs3)))))))))))))))))))))))) Try.underlying39 rfl sz37 rfl) ?_
          refine RW.soft (by exact Wd.yes (x := 24) rfl (AF_ev rfl (up rfl (up rfl (up rfl (up rfl (Eq.trans tp (congrArg Value.bool hg5)))))))) (v := .slice Y l d) (by exact E.load (a := ⟨b2, 3, none⟩) Try.underlying37 rfl (AF_ev rfl tp) (hst.cell .here rfl)) ?_
          refine RW.soft (by exact Wd.yes (x := 24) rfl (AF_ev rfl (up rfl (up rfl (up rfl (up rfl (up rfl (Eq.trans tp (congrArg Value.bool hg5))))))))) (v := .string (bstr ms)) (by exact E.bytesStr (ns := ms) (m := l) Try.underlying37 Try.underlying5 Try.underlying9 (AF_ev rfl tp) (hB _ _ (hst.take (.there (.there (.there .here)))))) ?_
          refine RW.soft (by exact Wd.yes (x := 24) rfl (AF_ev rfl (up rfl (up rfl (up rfl (up rfl (up rfl (up rfl (Eq.trans tp (congrArg Value.bool hg5)))))))))) (v := .bool ((bstr ns).toList == (bstr ms).toList)) (by exact E.eqlStr (a := bstr ns) (b := bstr ms) (AF_ev rfl (up rfl (up rfl (up rfl tp)))) (AF_ev rfl tp)) ?_
          refine RW.soft Wd.a (v := .bool ((bstr ns).toList == (bstr ms).toList)) (by exact E.pickT (AF_ev rfl (up rfl (up rfl (up rfl (up rfl (up rfl (up rfl (up rfl (Eq.trans tp (congrArg Value.bool hg5)))))))))) (AF_ev rfl tp)) ?_
          refine RW.soft Wd.a (v := .bool ((bstr ns).toList == (bstr ms).toList)) (by exact E.assign (AF_ev rfl tp)) ?_
          refine RW.nil ⟨rfl, rfl, up rfl (up rfl (up rfl (up rfl (up rfl (up rfl (up rfl (up rfl (up rfl (up rfl (up rfl (up rfl (up rfl (up rfl (up rfl (up rfl (up rfl (up rfl (up rfl (up rfl (up rfl (up rfl (up rfl (up rfl (up rfl (up rfl (up rfl (up rfl (up rfl hs0)))))))))))))))))))))))))))), up rfl (up rfl (up rfl (up rfl (up rfl (up rfl (up rfl (up rfl (up rfl (up rfl (up rfl (up rfl (up rfl (up rfl (up rfl (up rfl (up rfl (up rfl (up rfl (up rfl (up rfl (up rfl (up rfl (up rfl (up rfl (up rfl (up rfl (up rfl (up rfl hs1)))))))))))))))))))))))))))), up rfl (up rfl (up rfl (up rfl (up rfl (up rfl (up rfl (up rfl (up rfl (up rfl (up rfl (up rfl (up rfl (up rfl (up rfl (up rfl (up rfl (up rfl (up rfl (up rfl (up rfl (up rfl (up rfl (up rfl (up rfl (up rfl (up rfl (up rfl (up rfl hs2)))))))))))))))))))))))))))), up rfl (up rfl (up rfl (up rfl (up rfl (up rfl (up rfl (up rfl (up rfl (up rfl (up rfl (up rfl (up rfl (up rfl (up rfl (up rfl (up rfl (up rfl (up rfl (up rfl (up rfl (up rfl (up rfl (up rfl (up rfl (up rfl (up rfl (up rfl (up rfl hs3)))))))))))))))))))))))))))), (bool_eq (a := (bstr ns).toList == (bstr ms).toList) tp (by simp only [hg3, hg4, hg5, Bool.true_and, Bool.false_and, Bool.true_or, Bool.false_or]))⟩
        · have hg5_ := hg5
          try simp only [decide_eq_true_eq, decide_eq_false_iff_not, Bool.and_eq_true, Bool.or_eq_true, Bool.and_eq_false_iff, Bool.or_eq_false_iff, Bool.not_eq_true', Bool.not_eq_false', beq_iff_eq, beq_eq_false_iff_ne, bne_iff_ne, bne_eq_false_iff_eq, ne_eq, Int.not_lt, Int.not_le, gt_iff_lt, ge_iff_le] at hg5_
          refine RW.pass (by exact Wd.no (x := 24) (b := false) rfl (AF_ev rfl (Eq.trans tp (congrArg Value.bool hg5))) rfl) ?_
          refine RW.pass (by exact Wd.no (x := 24) (b := false) rfl (AF_ev rfl (up rfl (Eq.trans tp (congrArg Value.bool hg5)))) rfl) ?_
          refine RW.pass (by exact Wd.no (x := 24) (b := false) rfl (AF_ev rfl (up rfl (up rfl (Eq.trans tp (congrArg Value.bool hg5))))) rfl) ?_
          refine RW.pass (by exact Wd.no (x := 24) (b := false) rfl (AF_ev rfl (up rfl (up rfl (up rfl (Eq.trans tp (congrArg Value.bool hg5)))))) rfl) ?_
          refine RW.pass (by exact Wd.no (x := 24) (b := false) rfl (AF_ev rfl (up rfl (up rfl (up rfl (up rfl (Eq.trans tp (congrArg Value.bool hg5))))))) rfl) ?_
          refine RW.pass (by exact Wd.no (x := 24) (b := false) rfl (AF_ev rfl (up rfl (up rfl (up rfl (up rfl (up rfl (Eq.trans tp (congrArg Value.bool hg5)))))))) rfl) ?_
          refine RW.pass (by exact Wd.no (x := 24) (b := false) rfl (AF_ev rfl (up rfl (up rfl (up rfl (up rfl (up rfl (up rfl (Eq.trans tp (congrArg Value.bool hg5))))))))) rfl) ?_
          refine RW.soft Wd.a (v := .bool false) (by exact E.pickF (AF_ev rfl (up rfl (up rfl (up rfl (up rfl (up rfl (up rfl (up rfl (Eq.trans tp (congrArg Value.bool hg5)))))))))) rfl) ?_
          refine RW.soft Wd.a (v := .bool false) (by exact E.assign (AF_ev rfl tp)) ?_
          refine RW.nil ⟨rfl, rfl, up rfl (up rfl (up rfl (up rfl (up rfl (up rfl (up rfl (up rfl (up rfl (up rfl (up rfl (up rfl (up rfl (up rfl (up rfl (up rfl (up rfl (up rfl (up rfl (up rfl (up rfl (up rfl (up rfl (up rfl (up rfl (up rfl (up rfl (up rfl (up rfl hs0)))))))))))))))))))))))))))), up rfl (up rfl (up rfl (up rfl (up rfl (up rfl (up rfl (up rfl (up rfl (up rfl (up rfl (up rfl (up rfl (up rfl (up rfl (up rfl (up rfl (up rfl (up rfl (up rfl (up rfl (up rfl (up rfl (up rfl (up rfl (up rfl (up rfl (up rfl (up rfl hs1)))))))))))))))))))))))))))), up rfl (up rfl (up rfl (up rfl (up rfl (up rfl (up rfl (up rfl (up rfl (up rfl (up rfl (up rfl (up rfl (up rfl (up rfl (up rfl (up rfl (up rfl (up rfl (up rfl (up rfl (up rfl (up rfl (up rfl (up rfl (up rfl (up rfl (up rfl (up rfl hs2)))))))))))))))))))))))))))), up rfl (up rfl (up rfl (up rfl (up rfl (up rfl (up rfl (up rfl (up rfl (up rfl (up rfl (up rfl (up rfl (up rfl (up rfl (up rfl (up rfl (up rfl (up rfl (up rfl (up rfl (up rfl (up rfl (up rfl (up rfl (up rfl (up rfl (up rfl (up rfl hs3)))))))))))))))))))))))))))), (bool_eq (a := false) tp (by simp only [hg3, hg4, hg5, Bool.true_and, Bool.false_and, Bool.true_or, Bool.false_or]))⟩
      · have hg4_ := hg4
        try simp only [decide_eq_true_eq, decide_eq_false_iff_not, Bool.and_eq_true, Bool.or_eq_true, Bool.and_eq_false_iff, Bool.or_eq_false_iff, Bool.not_eq_true', Bool.not_eq_false', beq_iff_eq, beq_eq_false_iff_ne, bne_iff_ne, bne_eq_false_iff_eq, ne_eq, Int.not_lt, Int.not_le, gt_iff_lt, ge_iff_le] at hg4_
        refine RW.pass (by exact Wd.no (x := 17) (b := false) rfl (AF_ev rfl (Eq.trans tp (congrArg Value.bool hg4))) rfl) ?_
        refine RW.pass (by exact Wd.no (x := 17) (b := false) rfl (AF_ev rfl (up rfl (Eq.trans tp (congrArg Value.bool hg4)))) rfl) ?_
        refine RW.pass (by exact Wd.no (x := 17) (b := false) rfl (AF_ev rfl (up rfl (up rfl (Eq.trans tp (congrArg Value.bool hg4))))) rfl) ?_
        refine RW.pass (by exact Wd.no (x := 17) (b := false) rfl (AF_ev rfl (up rfl (up rfl (up rfl (Eq.trans tp (congrArg Value.bool hg4)))))) rfl) ?_
        refine RW.pass (by exact Wd.no (x := 17) (b := false) rfl (AF_ev rfl (up rfl (up rfl (up rfl (up rfl (Eq.trans tp (congrArg Value.bool hg4))))))) rfl) ?_
        refine RW.soft Wd.a (v := .bool false) (by exact E.pickF (AF_ev rfl (up rfl (up rfl (up rfl (up rfl (up rfl (Eq.trans tp (congrArg Value.bool hg4)))))))) rfl) ?_
        refine RW.soft Wd.a (v := .bool false) (by exact E.move (AF_ev rfl tp)) ?_
        refine RW.pass (by exact Wd.no (x := 24) (b := false) rfl (AF_ev rfl tp) rfl) ?_
        refine RW.pass (by exact Wd.no (x := 24) (b := false) rfl (AF_ev rfl (up rfl tp)) rfl) ?_
        refine RW.pass (by exact Wd.no (x := 24) (b := false) rfl (AF_ev rfl (up rfl (up rfl tp))) rfl) ?_
        refine RW.pass (by exact Wd.no (x := 24) (b := false) rfl (AF_ev rfl (up rfl (up rfl (up rfl tp)))) rfl) ?_
        refine RW.pass (by exact Wd.no (x := 24) (b := false) rfl (AF_ev rfl (up rfl (up rfl (up rfl (up rfl tp))))) rfl) ?_
        refine RW.pass (by exact Wd.no (x := 24) (b := false) rfl (AF_ev rfl (up rfl (up rfl (up rfl (up rfl (up rfl tp)))))) rfl) ?_
        refine RW.pass (by exact Wd.no (x := 24) (b := false) rfl (AF_ev rfl (up rfl (up rfl (up rfl (up rfl (up rfl (up rfl tp))))))) rfl) ?_
        refine RW.soft Wd.a (v := .bool false) (by exact E.pickF (AF_ev rfl (up rfl (up rfl (up rfl (up rfl (up rfl (up rfl (up rfl tp)))))))) rfl) ?_
        refine RW.soft Wd.a (v := .bool false) (by exact E.assign (AF_ev rfl tp)) ?_
        refine RW.nil ⟨rfl, rfl, up rfl (up rfl (up rfl (up rfl (up rfl (up rfl (up rfl (up rfl (up rfl (up rfl (up rfl (up rfl (up rfl (up rfl (up rfl (up rfl (up rfl (up rfl (up rfl (up rfl (up rfl (up rfl (up rfl (up rfl (up rfl (up rfl (up rfl (up rfl (up rfl hs0)))))))))))))))))))))))))))), up rfl (up rfl (up rfl (up rfl (up rfl (up rfl (up rfl (up rfl (up rfl (up rfl (up rfl (up rfl (up rfl (up rfl (up rfl (up rfl (up rfl (up rfl (up rfl (up rfl (up rfl (up rfl (up rfl (up rfl (up rfl (up rfl (up rfl (up rfl (up rfl hs1)))))))))))))))))))))))))))), up rfl (up rfl (up rfl (up rfl (up rfl (up rfl (up rfl (up rfl (up rfl (up rfl (up rfl (up rfl (up rfl (up rfl (up rfl (up rfl (up rfl (up rfl (up rfl (up rfl (up rfl (up rfl (up rfl (up rfl (up rfl (up rfl (up rfl (up rfl (up rfl hs2)))))))))))))))))))))))))))), up rfl (up rfl (up rfl (up rfl (up rfl (up rfl (up rfl (up rfl (up rfl (up rfl (up rfl (up rfl (up rfl (up rfl (up rfl (up rfl (up rfl (up rfl (up rfl (up rfl (up rfl (up rfl (up rfl (up rfl (up rfl (up rfl (up rfl (up rfl (up rfl hs3)))))))))))))))))))))))))))), (bool_eq (a := false) tp (by simp only [hg3, hg4, Bool.true_and, Bool.false_and, Bool.true_or, Bool.false_or]))⟩
    · have hg3_ := hg3
      try simp only [decide_eq_true_eq, decide_eq_false_iff_not, Bool.and_eq_true, Bool.or_eq_true, Bool.and_eq_false_iff, Bool.or_eq_false_iff, Bool.not_eq_true', Bool.not_eq_false', beq_iff_eq, beq_eq_false_iff_ne, bne_iff_ne, bne_eq_false_iff_eq, ne_eq, Int.not_lt, Int.not_le, gt_iff_lt, ge_iff_le] at hg3_
      refine RW.pass (by exact Wd.no (x := 10) (b := false) rfl (AF_ev rfl (Eq.trans tp (congrArg Value.bool hg3))) rfl) ?_
      refine RW.pass (by exact Wd.no (x := 10) (b := false) rfl (AF_ev rfl (up rfl (Eq.trans tp (congrArg Value.bool hg3)))) rfl) ?_
      refine RW.pass (by exact Wd.no (x := 10) (b := false) rfl (AF_ev rfl (up rfl (up rfl (Eq.trans tp (congrArg Value.bool hg3))))) rfl) ?_
      refine RW.pass (by exact Wd.no (x := 10) (b := false) rfl (AF_ev rfl (up rfl (up rfl (up rfl (Eq.trans tp (congrArg Value.bool hg3)))))) rfl) ?_
      refine RW.pass (by exact Wd.no (x := 10) (b := false) rfl (AF_ev rfl (up rfl (up rfl (up rfl (up rfl (Eq.trans tp (congrArg Value.bool hg3))))))) rfl) ?_
      refine RW.soft Wd.a (v := .bool false) (by exact E.pickF (AF_ev rfl (up rfl (up rfl (up rfl (up rfl (up rfl (Eq.trans tp (congrArg Value.bool hg3)))))))) rfl) ?_
      refine RW.soft Wd.a (v := .bool false) (by exact E.move (AF_ev rfl tp)) ?_
      refine RW.pass (by exact Wd.no (x := 17) (b := false) rfl (AF_ev rfl tp) rfl) ?_
      refine RW.pass (by exact Wd.no (x := 17) (b := false) rfl (AF_ev rfl (up rfl tp)) rfl) ?_
      refine RW.pass (by exact Wd.no (x := 17) (b := false) rfl (AF_ev rfl (up rfl (up rfl tp))) rfl) ?_
      refine RW.pass (by exact Wd.no (x := 17) (b := false) rfl (AF_ev rfl (up rfl (up rfl (up rfl tp)))) rfl) ?_
      refine RW.pass (by exact Wd.no (x := 17) (b := false) rfl (AF_ev rfl (up rfl (up rfl (up rfl (up rfl tp))))) rfl) ?_
      refine RW.soft Wd.a (v := .bool false) (by exact E.pickF (AF_ev rfl (up rfl (up rfl (up rfl (up rfl (up rfl tp)))))) rfl) ?_
      refine RW.soft Wd.a (v := .bool false) (by exact E.move (AF_ev rfl tp)) ?_
      refine RW.pass (by exact Wd.no (x := 24) (b := false) rfl (AF_ev rfl tp) rfl) ?_
      refine RW.pass (by exact Wd.no (x := 24) (b := false) rfl (AF_ev rfl (up rfl tp)) rfl) ?_
      refine RW.pass (by exact Wd.no (x := 24) (b := false) rfl (AF_ev rfl (up rfl (up rfl tp))) rfl) ?_
      refine RW.pass (by exact Wd.no (x := 24) (b := false) rfl (AF_ev rfl (up rfl (up rfl (up rfl tp)))) rfl) ?_
      refine RW.pass (by exact Wd.no (x := 24) (b := false) rfl (AF_ev rfl (up rfl (up rfl (up rfl (up rfl tp))))) rfl) ?_
      refine RW.pass (by exact Wd.no (x := 24) (b := false) rfl (AF_ev rfl (up rfl (up rfl (up rfl (up rfl (up rfl tp)))))) rfl) ?_
      refine RW.pass (by exact Wd.no (x := 24) (b := false) rfl (AF_ev rfl (up rfl (up rfl (up rfl (up rfl (up rfl (up rfl tp))))))) rfl) ?_
      refine RW.soft Wd.a (v := .bool false) (by exact E.pickF (AF_ev rfl (up rfl (up rfl (up rfl (up rfl (up rfl (up rfl (up rfl tp)))))))) rfl) ?_
      refine RW.soft Wd.a (v := .bool false) (by exact E.assign (AF_ev rfl tp)) ?_
      refine RW.nil ⟨rfl, rfl, up rfl (up rfl (up rfl (up rfl (up rfl (up rfl (up rfl (up rfl (up rfl (up rfl (up rfl (up rfl (up rfl (up rfl (up rfl (up rfl (up rfl (up rfl (up rfl (up rfl (up rfl (up rfl (up rfl (up rfl (up rfl (up rfl (up rfl (up rfl (up rfl hs0)))))))))))))))))))))))))))), up rfl (up rfl (up rfl (up rfl (up rfl (up rfl (up rfl (up rfl (up rfl (up rfl (up rfl (up rfl (up rfl (up rfl (up rfl (up rfl (up rfl (up rfl (up rfl (up rfl (up rfl (up rfl (up rfl (up rfl (up rfl (up rfl (up rfl (up rfl (up rfl hs1)))))))))))))))))))))))))))), up rfl (up rfl (up rfl (up rfl (up rfl (up rfl (up rfl (up rfl (up rfl (up rfl (up rfl (up rfl (up rfl (up rfl (up rfl (up rfl (up rfl (up rfl (up rfl (up rfl (up rfl (up rfl (up rfl (up rfl (up rfl (up rfl (up rfl (up rfl (up rfl hs2)))))))))))))))))))))))))))), up rfl (up rfl (up rfl (up rfl (up rfl (up rfl (up rfl (up rfl (up rfl (up rfl (up rfl (up rfl (up rfl (up rfl (up rfl (up rfl (up rfl (up rfl (up rfl (up rfl (up rfl (up rfl (up rfl (up rfl (up rfl (up rfl (up rfl (up rfl (up rfl hs3)))))))))))))))))))))))))))), (bool_eq (a := false) tp (by simp only [hg3, Bool.true_and, Bool.false_and, Bool.true_or, Bool.false_or]))⟩
  rintro τ ⟨hs0, hs1, hs2, hs3, hs4⟩
  refine CW.ret ?_
  refine ret1 (v := .bool ((((c0 == r0) && (c1 == r1)) && (c2 == r2)) && ((bstr ns).toList == (bstr ms).toList))) rfl (by exact (.tmp (AF_ev rfl hs4) .nil)) ?_
  have hst := hst.drop
  have hst := hst.drop
  exact ⟨rfl, hst⟩
end Go.Proofs.Ytjagffnbobnofaa
