/- The calls of the package entries, walked through operation by operation. -/
import Derived.Test.YtdlcjoonhojpfaaE0
import Derived.Test.YtdlcjoonhojpfaaT1
namespace Go.Proofs.Ytdlcjoonhojpfaa
open Go.RowKit Go.SL Go.E17
attribute [local irreducible] Go.SL.RW Go.SL.CW Go.SL.RD Go.SL.Hd Go.SL.St
set_option linter.unusedVariables false
set_option linter.unusedSimpArgs false

theorem inf3 : (Try.prog.info? 3).map (fun i => (i.zero, i.size, i.bytes)) = some (some (.int .i64 0), 1, 8) := by kernel_rfl
theorem inf58 : (Try.prog.info? 58).map (fun i => (i.zero, i.size, i.bytes)) = some (some (.agg #[.int .i64 0, .int .i64 0, .slice none 0 0, .slice none 0 0]), 4, 64) := by kernel_rfl
theorem nm52 : (Try.f52.name == "runtime.NumGoroutine") = false := by kernel_rfl
theorem nm89 : (Try.f89.name == "runtime.NumGoroutine") = false := by kernel_rfl
theorem sz56 : (Try.prog.info? 56).map (·.size) = some 1 := by kernel_rfl
theorem sz58 : (Try.prog.info? 58).map (·.size) = some 4 := by kernel_rfl
theorem zr58 : (Try.prog.info? 58).bind (·.zero) = some (.agg #[.int .i64 0, .int .i64 0, .slice none 0 0, .slice none 0 0]) := by kernel_rfl

theorem kind17 {p : Pers} {w : World} {R : List Assn} (c n : Int) (hc : -9223372036854775808 ≤ c ∧ c ≤ 9223372036854775807) (hn : 1 ≤ n ∧ n ≤ 100) (hst : St p w (R)) :
    Calls Try.prog 52 #[.int .i64 c, .int .i64 n] w fun e w => e = .returned (.int .i64 (kindF c n)) ∧ St p w R := by
  refine enter Try.func52 rfl (by simp) (n := 13) rfl fun τ hτ => ?_
  have hs0 : τ 0 = .int .i64 c := hτ 0 (by simp)
  have hs1 : τ 1 = .int .i64 n := hτ 1 (by simp)
  clear hτ
  refine CW.seq ?_
  refine CW.region ?_
  refine RW.soft Wd.a (v := .int .i64 0) (by exact E.assign rfl) ?_
  refine RW.fin (fun τ => τ 0 = .int .i64 c ∧ τ 1 = .int .i64 n ∧ τ 4 = .int .i64 0) ⟨up rfl hs0, up rfl hs1, tp⟩ ?_
  rintro τ ⟨hs0, hs1, hs4⟩
  refine CW.seq ?_
  refine CW.seq ?_
  refine CW.region ?_
  refine RW.soft Wd.a (v := .int .i64 c) (by exact E.move (AF_ev rfl hs0)) ?_
  refine RW.soft Wd.a (v := .bool (decide (c < 0))) (by exact E.lss (k := .i64) (a := c) (b := 0) (AF_ev rfl tp) rfl) ?_
  refine RW.fin (fun τ => τ 0 = .int .i64 c ∧ τ 1 = .int .i64 n ∧ τ 4 = .int .i64 0 ∧ τ 6 = .bool (decide (c < 0))) ⟨up rfl (up rfl hs0), up rfl (up rfl hs1), up rfl (up rfl hs4), tp⟩ ?_
  rintro τ ⟨hs0, hs1, hs4, hs6⟩
  refine CW.cond (AF_ev rfl hs6) (fun hc1 => ?_) (fun hc1 => ?_)
  · have hc1_ := hc1
    try simp only [decide_eq_true_eq, decide_eq_false_iff_not, Bool.and_eq_true, Bool.or_eq_true, Bool.and_eq_false_iff, Bool.or_eq_false_iff, Bool.not_eq_true', Bool.not_eq_false', beq_iff_eq, beq_eq_false_iff_ne, bne_iff_ne, bne_eq_false_iff_eq, ne_eq, Int.not_lt, Int.not_le, gt_iff_lt, ge_iff_le] at hc1_
    refine CW.region ?_
    refine RW.soft Wd.a (v := .int .i64 c) (by exact E.move (AF_ev rfl hs0)) ?_
    refine RW.soft Wd.a (v := .int .i64 (c + 1)) (by exact E.add (k := .i64) (a := c) (b := 1) (AF_ev rfl tp) rfl (show IntKind.i64.wrap (c + 1) = c + 1 from (by rw [IntWalk.i64_in _ (by omega)]))) ?_
    refine RW.soft Wd.a (v := .int .i64 (-(c + 1))) (by exact E.neg (k := .i64) (a := c + 1) (AF_ev rfl tp) (by rw [Int.zero_sub]; exact (show IntKind.i64.wrap (-(c + 1)) = -(c + 1) from (by rw [IntWalk.i64_in _ (by omega)])))) ?_
    refine RW.soft Wd.a (v := .int .i64 (-(c + 1))) (by exact E.assign (AF_ev rfl tp)) ?_
    refine RW.fin (fun τ => τ 0 = .int .i64 (-(c + 1)) ∧ τ 1 = .int .i64 n ∧ τ 4 = .int .i64 0 ∧ τ 6 = .bool true) ⟨tp, up rfl (up rfl (up rfl (up rfl hs1))), up rfl (up rfl (up rfl (up rfl hs4))), up rfl (up rfl (up rfl (up rfl (Eq.trans hs6 (congrArg Value.bool hc1)))))⟩ ?_
    rintro τ ⟨hs0, hs1, hs4, hs6⟩
    refine CW.seq ?_
    refine CW.region ?_
    refine RW.soft Wd.a (v := .int .i64 (-(c + 1))) (by exact E.move (AF_ev rfl hs0)) ?_
    refine RW.soft Wd.a (v := .int .i64 n) (by exact E.move (AF_ev rfl (up rfl hs1))) ?_
    refine RW.soft Wd.a (v := .int .i64 ((-(c + 1)) % n)) (by exact E.rem (k := .i64) (a := -(c + 1)) (b := n) (AF_ev rfl (up rfl tp)) (AF_ev rfl tp) (by omega) (Int.tmod_eq_emod_of_nonneg (by omega))) ?_
    refine RW.soft Wd.a (v := .int .i64 ((-(c + 1)) % n)) (by exact E.assign (AF_ev rfl tp)) ?_
    refine RW.fin (fun τ => τ 0 = .int .i64 (-(c + 1)) ∧ τ 1 = .int .i64 n ∧ τ 4 = .int .i64 ((-(c + 1)) % n) ∧ τ 6 = .bool true) ⟨up rfl (up rfl (up rfl (up rfl hs0))), up rfl (up rfl (up rfl (up rfl hs1))), tp, up rfl (up rfl (up rfl (up rfl hs6)))⟩ ?_
    rintro τ ⟨hs0, hs1, hs4, hs6⟩
    refine CW.ret ?_
    refine ret1 (v := .int .i64 ((-(c + 1)) % n)) rfl (by exact (.tmp (AF_ev rfl hs4) .nil)) ?_
    exact ⟨by unfold kindF; congr 2; split <;> omega, hst⟩
  · have hc1_ := hc1
    try simp only [decide_eq_true_eq, decide_eq_false_iff_not, Bool.and_eq_true, Bool.or_eq_true, Bool.and_eq_false_iff, Bool.or_eq_false_iff, Bool.not_eq_true', Bool.not_eq_false', beq_iff_eq, beq_eq_false_iff_ne, bne_iff_ne, bne_eq_false_iff_eq, ne_eq, Int.not_lt, Int.not_le, gt_iff_lt, ge_iff_le] at hc1_
    refine CW.skip ?_
    refine Th.n ?_
    refine CW.seq ?_
    refine CW.region ?_
    refine RW.soft Wd.a (v := .int .i64 c) (by exact E.move (AF_ev rfl hs0)) ?_
    refine RW.soft Wd.a (v := .int .i64 n) (by exact E.move (AF_ev rfl (up rfl hs1))) ?_
    refine RW.soft Wd.a (v := .int .i64 (c % n)) (by exact E.rem (k := .i64) (a := c) (b := n) (AF_ev rfl (up rfl tp)) (AF_ev rfl tp) (by omega) (Int.tmod_eq_emod_of_nonneg (by omega))) ?_
    refine RW.soft Wd.a (v := .int .i64 (c % n)) (by exact E.assign (AF_ev rfl tp)) ?_
    refine RW.fin (fun τ => τ 0 = .int .i64 c ∧ τ 1 = .int .i64 n ∧ τ 4 = .int .i64 (c % n) ∧ τ 6 = .bool false) ⟨up rfl (up rfl (up rfl (up rfl hs0))), up rfl (up rfl (up rfl (up rfl hs1))), tp, up rfl (up rfl (up rfl (up rfl (Eq.trans hs6 (congrArg Value.bool hc1)))))⟩ ?_
    rintro τ ⟨hs0, hs1, hs4, hs6⟩
    refine CW.ret ?_
    refine ret1 (v := .int .i64 (c % n)) rfl (by exact (.tmp (AF_ev rfl hs4) .nil)) ?_
    exact ⟨by unfold kindF; congr 2; split <;> omega, hst⟩

def nearF (i : Int) : Int := if i < -5 ∨ i > 1099511627776 then kindF i 40 else i
theorem kindF_range (c n : Int) (hn : 1 ≤ n) : 0 ≤ kindF c n ∧ kindF c n < n := by
  unfold kindF
  have h1 := Int.emod_nonneg c (b := n) (by omega); have h2 := Int.emod_lt_of_pos c (b := n) (by omega)
  have h3 := Int.emod_nonneg (-(c + 1)) (b := n) (by omega); have h4 := Int.emod_lt_of_pos (-(c + 1)) (b := n) (by omega)
  split <;> omega
theorem nearF_range (i : Int) : -5 ≤ nearF i ∧ nearF i ≤ 1099511627776 := by
  have := kindF_range i 40 (by omega)
  unfold nearF; split <;> omega

theorem near17 {p : Pers} {w : World} {R : List Assn} (i : Int) (hi : -9223372036854775808 ≤ i ∧ i ≤ 9223372036854775807) (hst : St p w (R)) :
    Calls Try.prog 26 #[.int .i64 i] w fun e w => e = .returned (.int .i64 (nearF i)) ∧ St p w R := by
  refine enter Try.func26 rfl (by simp) (n := 12) rfl fun τ hτ => ?_
  have hs0 : τ 0 = .int .i64 i := hτ 0 (by simp)
  clear hτ
  refine CW.seq ?_
  refine CW.region ?_
  refine RW.soft Wd.a (v := .int .i64 0) (by exact E.assign rfl) ?_
  refine RW.fin (fun τ => τ 0 = .int .i64 i ∧ τ 2 = .int .i64 0) ⟨up rfl hs0, tp⟩ ?_
  rintro τ ⟨hs0, hs2⟩
  refine CW.seq ?_
  refine CW.seq ?_
  refine CW.cut (fun τ => τ 0 = .int .i64 i ∧ τ 2 = .int .i64 0 ∧ τ 8 = .bool ((decide (i < (-5))) || (decide (i > 1099511627776)))) ?_ ?_
  · refine CW.region ?_
    refine RW.soft Wd.a (v := .int .i64 i) (by exact E.move (AF_ev rfl hs0)) ?_
    refine RW.soft Wd.a (v := .bool (decide (i < (-5)))) (by exact E.lss (k := .i64) (a := i) (b := -5) (AF_ev rfl tp) rfl) ?_
    refine RW.soft Wd.a (v := .bool (decide (i < (-5)))) (by exact E.move (AF_ev rfl tp)) ?_
    refine Or.elim (Bool.eq_false_or_eq_true (decide (i < (-5)))) (fun hg1 => ?_) (fun hg1 => ?_)
    · have hg1_ := hg1
      try simp only [decide_eq_true_eq, decide_eq_false_iff_not, Bool.and_eq_true, Bool.or_eq_true, Bool.and_eq_false_iff, Bool.or_eq_false_iff, Bool.not_eq_true', Bool.not_eq_false', beq_iff_eq, beq_eq_false_iff_ne, bne_iff_ne, bne_eq_false_iff_eq, ne_eq, Int.not_lt, Int.not_le, gt_iff_lt, ge_iff_le] at hg1_
      refine RW.pass (by exact Wd.no (x := 5) (b := true) rfl (AF_ev rfl (Eq.trans tp (congrArg Value.bool hg1))) rfl) ?_
      refine RW.pass (by exact Wd.no (x := 5) (b := true) rfl (AF_ev rfl (up rfl (Eq.trans tp (congrArg Value.bool hg1)))) rfl) ?_
      refine RW.soft Wd.a (v := .bool true) (by exact E.pickT (AF_ev rfl (up rfl (up rfl (Eq.trans tp (congrArg Value.bool hg1))))) rfl) ?_
      refine RW.nil ⟨rfl, rfl, up rfl (up rfl (up rfl (up rfl (up rfl (up rfl hs0))))), up rfl (up rfl (up rfl (up rfl (up rfl (up rfl hs2))))), (bool_eq (a := true) tp (by simp only [hg1, Bool.true_and, Bool.false_and, Bool.true_or, Bool.false_or]))⟩
    · have hg1_ := hg1
      try simp only [decide_eq_true_eq, decide_eq_false_iff_not, Bool.and_eq_true, Bool.or_eq_true, Bool.and_eq_false_iff, Bool.or_eq_false_iff, Bool.not_eq_true', Bool.not_eq_false', beq_iff_eq, beq_eq_false_iff_ne, bne_iff_ne, bne_eq_false_iff_eq, ne_eq, Int.not_lt, Int.not_le, gt_iff_lt, ge_iff_le] at hg1_
      refine RW.soft (by exact Wd.yes (x := 5) rfl (AF_ev rfl (Eq.trans tp (congrArg Value.bool hg1)))) (v := .int .i64 i) (by exact E.move (AF_ev rfl (up rfl (up rfl (up rfl hs0))))) ?_
      refine RW.soft (by exact Wd.yes (x := 5) rfl (AF_ev rfl (up rfl (Eq.trans tp (congrArg Value.bool hg1))))) (v := .bool (decide (i > 1099511627776))) (by exact E.gtr (k := .i64) (a := i) (b := 1099511627776) (AF_ev rfl tp) rfl) ?_
      refine RW.soft Wd.a (v := .bool (decide (i > 1099511627776))) (by exact E.pickF (AF_ev rfl (up rfl (up rfl (Eq.trans tp (congrArg Value.bool hg1))))) (AF_ev rfl tp)) ?_
      refine RW.nil ⟨rfl, rfl, up rfl (up rfl (up rfl (up rfl (up rfl (up rfl hs0))))), up rfl (up rfl (up rfl (up rfl (up rfl (up rfl hs2))))), (bool_eq (a := decide (i > 1099511627776)) tp (by simp only [hg1, Bool.true_and, Bool.false_and, Bool.true_or, Bool.false_or]))⟩
  rintro τ ⟨hs0, hs2, hs8⟩
  refine CW.cond (AF_ev rfl hs8) (fun hc2 => ?_) (fun hc2 => ?_)
  · have hc2_ := hc2
    try simp only [decide_eq_true_eq, decide_eq_false_iff_not, Bool.and_eq_true, Bool.or_eq_true, Bool.and_eq_false_iff, Bool.or_eq_false_iff, Bool.not_eq_true', Bool.not_eq_false', beq_iff_eq, beq_eq_false_iff_ne, bne_iff_ne, bne_eq_false_iff_eq, ne_eq, Int.not_lt, Int.not_le, gt_iff_lt, ge_iff_le] at hc2_
    refine CW.seq ?_
    refine CW.region ?_
    refine RW.soft Wd.a (v := .int .i64 i) (by exact E.move (AF_ev rfl hs0)) ?_
    refine RW.hard Wd.a ?_
    refine H.call0 Try.func52 nm52 rfl (map2 (AF_ev rfl tp) rfl) (Calls.mono (kind17 i 40 (by omega) (by omega) hst) ?_)
    rintro _ w ⟨rfl, hst⟩
    refine ⟨_, rfl, ?_⟩
    show RW _ _ _ _ _ _ _
    refine RW.soft Wd.a (v := .int .i64 (kindF i 40)) (by exact E.assign (AF_ev rfl tp)) ?_
    refine RW.fin (fun τ => τ 0 = .int .i64 i ∧ τ 2 = .int .i64 (kindF i 40) ∧ τ 8 = .bool true) ⟨up rfl (up rfl (up rfl hs0)), tp, up rfl (up rfl (up rfl (Eq.trans hs8 (congrArg Value.bool hc2))))⟩ ?_
    rintro τ ⟨hs0, hs2, hs8⟩
    refine CW.ret ?_
    refine Th.r ?_
    refine ret1 (v := .int .i64 (kindF i 40)) rfl (by exact (.tmp (AF_ev rfl hs2) .nil)) ?_
    exact ⟨by unfold nearF; rw [if_pos (by omega)], hst⟩
  · have hc2_ := hc2
    try simp only [decide_eq_true_eq, decide_eq_false_iff_not, Bool.and_eq_true, Bool.or_eq_true, Bool.and_eq_false_iff, Bool.or_eq_false_iff, Bool.not_eq_true', Bool.not_eq_false', beq_iff_eq, beq_eq_false_iff_ne, bne_iff_ne, bne_eq_false_iff_eq, ne_eq, Int.not_lt, Int.not_le, gt_iff_lt, ge_iff_le] at hc2_
    refine CW.skip ?_
    refine Th.n ?_
    refine CW.seq ?_
    refine CW.region ?_
    refine RW.soft Wd.a (v := .int .i64 i) (by exact E.move (AF_ev rfl hs0)) ?_
    refine RW.soft Wd.a (v := .int .i64 i) (by exact E.assign (AF_ev rfl tp)) ?_
    refine RW.fin (fun τ => τ 0 = .int .i64 i ∧ τ 2 = .int .i64 i ∧ τ 8 = .bool false) ⟨up rfl (up rfl hs0), tp, up rfl (up rfl (Eq.trans hs8 (congrArg Value.bool hc2)))⟩ ?_
    rintro τ ⟨hs0, hs2, hs8⟩
    refine CW.ret ?_
    refine ret1 (v := .int .i64 i) rfl (by exact (.tmp (AF_ev rfl hs2) .nil)) ?_
    exact ⟨by unfold nearF; rw [if_neg (by omega)], hst⟩

theorem clone_ints {p : Pers} {w : World} {R : List Assn} {A : Assn} {X : Option Addr} {m c : Nat} {xs : List Value} (hA : ∀ w H, St p w (A :: H) → Src w 1 (.slice X m c) m xs) (h1 : ∀ u ∈ xs, u.oneCell' = true) (hm : m * 8 ≤ 140737488355328) (hst : St p w (A :: R)) :
    Calls Try.prog 89 #[.slice X m c] w fun e w => ∃ v, e = .returned v ∧ (isNil v = true ↔ X.isNone = true) ∧ St p w (Own 3 1 v m xs :: A :: R) := by
  refine enter Try.func89 rfl (by simp) (n := 8) rfl fun τ hτ => ?_
  have hs0 : τ 0 = .slice X m c := hτ 0 (by simp)
  clear hτ
  refine CW.seq ?_
  refine CW.region ?_
  refine RW.soft Wd.a (v := .slice none 0 0) (by exact E.assign rfl) ?_
  refine RW.fin (fun τ => τ 0 = .slice X m c ∧ τ 2 = .slice none 0 0) ⟨up rfl hs0, tp⟩ ?_
  rintro τ ⟨hs0, hs2⟩
  refine CW.seq ?_
  refine CW.seq ?_
  refine CW.region ?_
  refine RW.soft Wd.a (v := .slice X m c) (by exact E.move (AF_ev rfl hs0)) ?_
  refine RW.soft Wd.a (v := .bool X.isNone) (by exact E.eqlS (p := X) (l := m) (c := c) Try.underlying56 (AF_ev rfl tp) rfl) ?_
  refine RW.fin (fun τ => τ 0 = .slice X m c ∧ τ 2 = .slice none 0 0 ∧ τ 4 = .bool X.isNone) ⟨up rfl (up rfl hs0), up rfl (up rfl hs2), tp⟩ ?_
  rintro τ ⟨hs0, hs2, hs4⟩
  refine CW.cond (AF_ev rfl hs4) (fun hc1 => ?_) (fun hc1 => ?_)
  · have hc1_ := hc1
    try simp only [decide_eq_true_eq, decide_eq_false_iff_not, Bool.and_eq_true, Bool.or_eq_true, Bool.and_eq_false_iff, Bool.or_eq_false_iff, Bool.not_eq_true', Bool.not_eq_false', beq_iff_eq, beq_eq_false_iff_ne, bne_iff_ne, bne_eq_false_iff_eq, ne_eq, Int.not_lt, Int.not_le, gt_iff_lt, ge_iff_le] at hc1_
    refine CW.seq ?_
    refine CW.region ?_
    refine RW.soft Wd.a (v := .slice none 0 0) (by exact E.assign rfl) ?_
    refine RW.fin (fun τ => τ 0 = .slice X m c ∧ τ 2 = .slice none 0 0 ∧ τ 4 = .bool true) ⟨up rfl hs0, tp, up rfl (Eq.trans hs4 (congrArg Value.bool hc1))⟩ ?_
    rintro τ ⟨hs0, hs2, hs4⟩
    refine CW.ret ?_
    refine Th.r ?_
    refine ret1 (v := .slice none 0 0) rfl (by exact (.tmp (AF_ev rfl hs2) .nil)) ?_
    obtain rfl := Option.isNone_iff_eq_none.1 hc1
    obtain ⟨rfl, -, rfl⟩ := (hA _ _ hst).nil0
    exact ⟨_, rfl, by simp [isNil], hst.ownNil none⟩
  · have hc1_ := hc1
    try simp only [decide_eq_true_eq, decide_eq_false_iff_not, Bool.and_eq_true, Bool.or_eq_true, Bool.and_eq_false_iff, Bool.or_eq_false_iff, Bool.not_eq_true', Bool.not_eq_false', beq_iff_eq, beq_eq_false_iff_ne, bne_iff_ne, bne_eq_false_iff_eq, ne_eq, Int.not_lt, Int.not_le, gt_iff_lt, ge_iff_le] at hc1_
    refine CW.skip ?_
    refine Th.n ?_
    refine CW.seq ?_
    have hmx : m ≤ 140737488355328 := Nat.le_trans (Nat.le_mul_of_pos_right m (by omega)) hm
    refine CW.region ?_
    refine RW.hard Wd.a ?_
    refine H.buildSlice (e := 3) (cs := #[]) (vs := #[]) (by simp) (fun _ => by kernel_rfl) hst fun b2 w hst => ?_
    refine RW.soft Wd.a (v := .slice X m c) (by exact E.move (AF_ev rfl (up rfl hs0))) ?_
    have hst := hst.ownNew (n := 0) (cap := 0) (sz := 1) (xs := []) (by omega) (by simp [maxLen]) rfl rfl
    refine RW.hard Wd.a ?_
    refine H.append2 (n2 := m) (xs2 := xs) (by first | rfl | simp) (by first | rfl | simp) (m := m) (news := xs) (s0 := .slice (some ⟨b2, 0, none⟩) 0 0) (x0 := .slice X m c) Try.underlying56 inf3 rfl (AF_ev rfl (up rfl tp)) (AF_ev rfl tp) hst .here (hA _ _ (hst.take (.there .here))) h1 (by omega) (by simp only [maxLen]; omega) ?_
    intro vX3 w hnilX3 hst
    obtain ⟨X3, c4, rfl, hcX3, hmX3, hlX3, hbX3⟩ := hst.shape
    refine RW.soft Wd.a (v := .slice X3 m c4) (by exact E.assign (AF_ev rfl tp)) ?_
    refine RW.fin (fun τ => τ 0 = .slice X m c ∧ τ 2 = .slice X3 m c4 ∧ τ 4 = .bool false) ⟨up rfl (up rfl (up rfl (up rfl hs0))), tp, up rfl (up rfl (up rfl (up rfl (Eq.trans hs4 (congrArg Value.bool hc1)))))⟩ ?_
    rintro τ ⟨hs0, hs2, hs4⟩
    refine CW.ret ?_
    refine ret1 (v := .slice X3 m c4) rfl (by exact (.tmp (AF_ev rfl hs2) .nil)) ?_
    have hst := hst.take (.there .here)
    have hst := hst.take (.there .here)
    exact ⟨_, rfl, ⟨fun h => by have q := (hnilX3.1 h).1; simp [isNil] at q, fun h => by rw [hc1] at h; cases h⟩, hst⟩

theorem clone_ents {p : Pers} {w : World} {R : List Assn} {A : Assn} {X : Option Addr} {m c : Nat} {xs : List Value} (hA : ∀ w H, St p w (A :: H) → Src w 4 (.slice X m c) m xs) (h1 : ∀ u ∈ xs, u.oneCell' = true) (hm : m * 64 ≤ 140737488355328) (hst : St p w (A :: R)) :
    Calls Try.prog 67 #[.slice X m c] w fun e w => ∃ v, e = .returned v ∧ (isNil v = true ↔ X.isNone = true) ∧ St p w (Own 58 4 v m xs :: A :: R) := by
  refine enter Try.func67 rfl (by simp) (n := 8) rfl fun τ hτ => ?_
  have hs0 : τ 0 = .slice X m c := hτ 0 (by simp)
  clear hτ
  refine CW.seq ?_
  refine CW.region ?_
  refine RW.soft Wd.a (v := .slice none 0 0) (by exact E.assign rfl) ?_
  refine RW.fin (fun τ => τ 0 = .slice X m c ∧ τ 2 = .slice none 0 0) ⟨up rfl hs0, tp⟩ ?_
  rintro τ ⟨hs0, hs2⟩
  refine CW.seq ?_
  refine CW.seq ?_
  refine CW.region ?_
  refine RW.soft Wd.a (v := .slice X m c) (by exact E.move (AF_ev rfl hs0)) ?_
  refine RW.soft Wd.a (v := .bool X.isNone) (by exact E.eqlS (p := X) (l := m) (c := c) Try.underlying44 (AF_ev rfl tp) rfl) ?_
  refine RW.fin (fun τ => τ 0 = .slice X m c ∧ τ 2 = .slice none 0 0 ∧ τ 4 = .bool X.isNone) ⟨up rfl (up rfl hs0), up rfl (up rfl hs2), tp⟩ ?_
  rintro τ ⟨hs0, hs2, hs4⟩
  refine CW.cond (AF_ev rfl hs4) (fun hc1 => ?_) (fun hc1 => ?_)
  · have hc1_ := hc1
    try simp only [decide_eq_true_eq, decide_eq_false_iff_not, Bool.and_eq_true, Bool.or_eq_true, Bool.and_eq_false_iff, Bool.or_eq_false_iff, Bool.not_eq_true', Bool.not_eq_false', beq_iff_eq, beq_eq_false_iff_ne, bne_iff_ne, bne_eq_false_iff_eq, ne_eq, Int.not_lt, Int.not_le, gt_iff_lt, ge_iff_le] at hc1_
    refine CW.seq ?_
    refine CW.region ?_
    refine RW.soft Wd.a (v := .slice none 0 0) (by exact E.assign rfl) ?_
    refine RW.fin (fun τ => τ 0 = .slice X m c ∧ τ 2 = .slice none 0 0 ∧ τ 4 = .bool true) ⟨up rfl hs0, tp, up rfl (Eq.trans hs4 (congrArg Value.bool hc1))⟩ ?_
    rintro τ ⟨hs0, hs2, hs4⟩
    refine CW.ret ?_
    refine Th.r ?_
    refine ret1 (v := .slice none 0 0) rfl (by exact (.tmp (AF_ev rfl hs2) .nil)) ?_
    obtain rfl := Option.isNone_iff_eq_none.1 hc1
    obtain ⟨rfl, -, rfl⟩ := (hA _ _ hst).nil0
    exact ⟨_, rfl, by simp [isNil], hst.ownNil none⟩
  · have hc1_ := hc1
    try simp only [decide_eq_true_eq, decide_eq_false_iff_not, Bool.and_eq_true, Bool.or_eq_true, Bool.and_eq_false_iff, Bool.or_eq_false_iff, Bool.not_eq_true', Bool.not_eq_false', beq_iff_eq, beq_eq_false_iff_ne, bne_iff_ne, bne_eq_false_iff_eq, ne_eq, Int.not_lt, Int.not_le, gt_iff_lt, ge_iff_le] at hc1_
    refine CW.skip ?_
    refine Th.n ?_
    refine CW.seq ?_
    have hmx : m ≤ 140737488355328 := Nat.le_trans (Nat.le_mul_of_pos_right m (by omega)) hm
    refine CW.region ?_
    refine RW.hard Wd.a ?_
    refine H.buildSlice (e := 58) (cs := #[]) (vs := #[]) (by simp) (fun _ => by kernel_rfl) hst fun b2 w hst => ?_
    refine RW.soft Wd.a (v := .slice X m c) (by exact E.move (AF_ev rfl (up rfl hs0))) ?_
    have hst := hst.ownNew (n := 0) (cap := 0) (sz := 4) (xs := []) (by omega) (by simp [maxLen]) rfl rfl
    refine RW.hard Wd.a ?_
    refine H.append2 (n2 := m) (xs2 := xs) (by first | rfl | simp) (by first | rfl | simp) (m := m) (news := xs) (s0 := .slice (some ⟨b2, 0, none⟩) 0 0) (x0 := .slice X m c) Try.underlying44 inf58 rfl (AF_ev rfl (up rfl tp)) (AF_ev rfl tp) hst .here (hA _ _ (hst.take (.there .here))) h1 (by omega) (by simp only [maxLen]; omega) ?_
    intro vX3 w hnilX3 hst
    obtain ⟨X3, c4, rfl, hcX3, hmX3, hlX3, hbX3⟩ := hst.shape
    refine RW.soft Wd.a (v := .slice X3 m c4) (by exact E.assign (AF_ev rfl tp)) ?_
    refine RW.fin (fun τ => τ 0 = .slice X m c ∧ τ 2 = .slice X3 m c4 ∧ τ 4 = .bool false) ⟨up rfl (up rfl (up rfl (up rfl hs0))), tp, up rfl (up rfl (up rfl (up rfl (Eq.trans hs4 (congrArg Value.bool hc1)))))⟩ ?_
    rintro τ ⟨hs0, hs2, hs4⟩
    refine CW.ret ?_
    refine ret1 (v := .slice X3 m c4) rfl (by exact (.tmp (AF_ev rfl hs2) .nil)) ?_
    have hst := hst.take (.there .here)
    have hst := hst.take (.there .here)
    exact ⟨_, rfl, ⟨fun h => by have q := (hnilX3.1 h).1; simp [isNil] at q, fun h => by rw [hc1] at h; cases h⟩, hst⟩

theorem ent_own_ {p : Pers} {w : World} {R : List Assn} {p0 : Pers} {A : Assn} {X : Option Addr} {c : Nat} {l : List Ent} (hA0 : Tells p0 A 4 (.slice X l.length c) l.length (flat l)) (hE0 : EsOk p0 l) (hl : l.length ≤ 1000000) (hle : p0.le p) (hst : St p w (A :: R)) :
    Calls Try.prog 66 #[.slice X l.length c] w fun e w => ∃ q v es', p0.le q ∧ e = .returned v ∧ EsOk q es' ∧ vs es' = vs l ∧ St q w (Own 58 4 v es'.length (flat es') :: A :: R) := by
  refine enter Try.func66 rfl (by simp) (n := 26) rfl fun τ hτ => ?_
  have hs0 : τ 0 = .slice X l.length c := hτ 0 (by simp)
  clear hτ
  refine CW.seq ?_
  refine CW.region ?_
  refine RW.soft Wd.a (v := .slice none 0 0) (by exact E.assign rfl) ?_
  refine RW.fin (fun τ => τ 0 = .slice X l.length c ∧ τ 2 = .slice none 0 0) ⟨up rfl hs0, tp⟩ ?_
  rintro τ ⟨hs0, hs2⟩
  refine CW.seq ?_
  refine CW.region ?_
  refine RW.soft Wd.a (v := .slice none 0 0) (by exact E.assign rfl) ?_
  refine RW.fin (fun τ => τ 0 = .slice X l.length c ∧ τ 2 = .slice none 0 0 ∧ τ 3 = .slice none 0 0) ⟨up rfl hs0, up rfl hs2, tp⟩ ?_
  rintro τ ⟨hs0, hs2, hs3⟩
  refine CW.seq ?_
  refine CW.seq ?_
  refine CW.region ?_
  refine RW.soft Wd.a (v := .slice X l.length c) (by exact E.move (AF_ev rfl hs0)) ?_
  refine RW.soft Wd.a (v := .int .i64 ((l.length : Nat) : Int)) (by exact E.lenS (p := X) (l := l.length) (c := c) Try.underlying44 (AF_ev rfl tp)) ?_
  refine RW.soft Wd.a (v := .int .i64 0) (by exact E.move rfl) ?_
  refine RW.fin (fun τ => τ 0 = .slice X l.length c ∧ τ 2 = .slice none 0 0 ∧ τ 3 = .slice none 0 0 ∧ τ 6 = .slice X l.length c ∧ τ 7 = .int .i64 ((l.length : Nat) : Int) ∧ τ 8 = .int .i64 0) ⟨up rfl (up rfl (up rfl hs0)), up rfl (up rfl (up rfl hs2)), up rfl (up rfl (up rfl hs3)), up rfl (up rfl tp), up rfl tp, tp⟩ ?_
  rintro τ ⟨hs0, hs2, hs3, hs6, hs7, hs8⟩
  refine CW.block ?_
  have hst : St p w (Own 58 4 (.slice none 0 0) 0 (flat []) :: A :: R) := hst.ownNil none
  refine CW.loop (fun (k : Nat) (τ : Fr) (w : World) => ∃ (p : Pers) (es' : List Ent) (i : Nat) (V : Option Addr) (cv : Nat), p0.le p ∧ EsOk p es' ∧ vs es' = vs (l.take i) ∧ i ≤ l.length ∧ k = l.length - i ∧ τ 3 = .slice V i cv ∧ τ 6 = .slice X l.length c ∧ τ 7 = .int .i64 ((l.length : Nat) : Int) ∧ τ 8 = .int .i64 ((i : Nat) : Int) ∧ St p w (Own 58 4 (.slice V i cv) i (flat es') :: A :: R)) (l.length - 0) ⟨p, [], 0, none, 0, hle, EsOk.nil, rfl, by omega, rfl, hs3, hs6, hs7, (int_eq (a := 0) hs8 (by omega)), hst⟩ ?_
  clear hst
  rintro k τ w ⟨p, es', i, V, cv, hle, hes, hv, hi, hk, hs3, hs6, hs7, hs8, hst⟩
  refine CW.seq ?_
  refine CW.region ?_
  refine RW.soft Wd.a (v := .bool (decide (((i : Nat) : Int) < ((l.length : Nat) : Int)))) (by exact E.lss (k := .i64) (a := ((i : Nat) : Int)) (b := ((l.length : Nat) : Int)) (AF_ev rfl hs8) (AF_ev rfl hs7)) ?_
  refine RW.fin (fun τ => τ 3 = .slice V i cv ∧ τ 6 = .slice X l.length c ∧ τ 7 = .int .i64 ((l.length : Nat) : Int) ∧ τ 8 = .int .i64 ((i : Nat) : Int) ∧ τ 9 = .bool (decide (((i : Nat) : Int) < ((l.length : Nat) : Int)))) ⟨up rfl hs3, up rfl hs6, up rfl hs7, up rfl hs8, tp⟩ ?_
  rintro τ ⟨hs3, hs6, hs7, hs8, hs9⟩
  refine CW.seq ?_
  refine CW.cond (AF_ev rfl hs9) (fun hc1 => ?_) (fun hc1 => ?_)
  · have hc1_ := hc1
    try simp only [decide_eq_true_eq, decide_eq_false_iff_not, Bool.and_eq_true, Bool.or_eq_true, Bool.and_eq_false_iff, Bool.or_eq_false_iff, Bool.not_eq_true', Bool.not_eq_false', beq_iff_eq, beq_eq_false_iff_ne, bne_iff_ne, bne_eq_false_iff_eq, ne_eq, Int.not_lt, Int.not_le, gt_iff_lt, ge_iff_le] at hc1_
    refine CW.skip ?_
    refine Th.n ?_
    refine CW.seq ?_
    refine CW.block ?_
    refine CW.seq ?_
    have hA := hA0.le hle
    have hE := hE0.le hle
    have hlen' : es'.length = i := by have := vs_len hv; rw [List.length_take] at this; omega
    obtain ⟨b0, o0, rfl, hcell0⟩ := hA.place (hst.take (.there .here)) (by omega)
    obtain ⟨x, hx⟩ : ∃ x, l[i]? = some x := ⟨l[i]'(by omega), List.getElem?_eq_getElem (by omega)⟩
    have hEx := hE x (List.mem_of_getElem? hx)
    have hEx1 := hEx.2.2.1
    have hEx2 := hEx.2.2.2
    have hst := hst.emp
    have hst := hst.emp
    refine CW.region ?_
    refine RW.soft Wd.a (v := .pointer (some ⟨b0, o0 + i * 4, none⟩)) (by exact E.indexAddr (b := b0) (o := o0) (l := l.length) (c := c) (i := ((i : Nat) : Int)) Try.underlying44 sz58 (AF_ev rfl hs6) (AF_ev rfl hs8) (by omega) (by omega) (by simp)) ?_
    refine RW.soft Wd.a (v := .agg #[.int .i64 x.term, .int .i64 x.kind, .slice x.X x.ns.length x.xc, .slice x.Y x.ms.length x.yc]) (by exact E.loadN (b := b0) (o := o0 + i * 4) (cs := x.enc) Try.underlying58 rfl sz58 (AF_ev rfl tp) rfl (fun j u hu => by rw [Nat.add_assoc]; exact hcell0 p.le_refl (hst.take (.there (.there (.there .here)))) _ _ (flat_get Ent.enc_len hx hu))) ?_
    refine RW.hard Wd.a ?_
    refine H.alloc zr58 hst fun b2 w hst => ?_
    refine RW.hard Wd.a ?_
    refine H.store (b := b2) (o := 0) (v := .agg #[.int .i64 x.term, .int .i64 x.kind, .slice x.X x.ns.length x.xc, .slice x.Y x.ms.length x.yc]) (c' := #[.int .i64 x.term, .int .i64 x.kind, .slice x.X x.ns.length x.xc, .slice x.Y x.ms.length x.yc]) (AF_ev rfl tp) (AF_ev rfl (up rfl tp)) hst .here sz58 (by simp [Value.cells]) (by simp [Value.cells, Value.oneCell']) rfl fun w hst => ?_
    refine RW.fin (fun τ => τ 3 = .slice V i cv ∧ τ 5 = .pointer (some ⟨b2, 0, none⟩) ∧ τ 6 = .slice (some ⟨b0, o0, none⟩) l.length c ∧ τ 7 = .int .i64 ((l.length : Nat) : Int) ∧ τ 8 = .int .i64 ((i : Nat) : Int) ∧ τ 9 = .bool true) ⟨u0 (up rfl (up rfl (up rfl hs3))), u0 tp, u0 (up rfl (up rfl (up rfl hs6))), u0 (up rfl (up rfl (up rfl hs7))), u0 (up rfl (up rfl (up rfl hs8))), u0 (up rfl (up rfl (up rfl (Eq.trans hs9 (congrArg Value.bool hc1)))))⟩ ?_
    rintro τ ⟨hs3, hs5, hs6, hs7, hs8, hs9⟩
    refine CW.seq ?_
    refine CW.regionD [0, 1, 3, 4, 6] (fun w => w.cell? ⟨b2, 2, none⟩ = some (.slice x.X x.ns.length x.xc) ∧ w.cell? ⟨b2, 3, none⟩ = some (.slice x.Y x.ms.length x.yc)) mixed ?_
    have hst := hst.drew
    generalize w.drew = w at hst ⊢
    have hS : w.cell? ⟨b2, 2, none⟩ = some (.slice x.X x.ns.length x.xc) ∧ w.cell? ⟨b2, 3, none⟩ = some (.slice x.Y x.ms.length x.yc) := ⟨hst.cell .here rfl, hst.cell .here rfl⟩
    refine RD.take 0 rfl (by kernel_rfl) Wd.a (v := .pointer (some ⟨b2, 2, none⟩)) (fun w hS => by exact E.fieldAddr (b := b2) (o := 0) (f := { name := "Data", type := 27, offset := 2, embedded := false, tag := "", pkgPath := "", byteOffset := 16 }) (AF_ev rfl hs5) Try.underlying58 rfl sz27 rfl) hS ?_
    refine RD.take 1 rfl (by kernel_rfl) Wd.a (v := .slice x.X x.ns.length x.xc) (fun w hS => by exact E.load (a := ⟨b2, 2, none⟩) Try.underlying27 rfl (AF_ev rfl tp) hS.1) hS ?_
    refine RD.take 3 rfl (by kernel_rfl) Wd.a (v := .pointer (some ⟨b2, 3, none⟩)) (fun w hS => by exact E.fieldAddr (b := b2) (o := 0) (f := { name := "Members", type := 56, offset := 3, embedded := false, tag := "", pkgPath := "", byteOffset := 40 }) (AF_ev rfl (up rfl (up rfl hs5))) Try.underlying58 rfl sz56 rfl) hS ?_
    refine RD.take 4 rfl (by kernel_rfl) Wd.a (v := .slice x.Y x.ms.length x.yc) (fun w hS => by exact E.load (a := ⟨b2, 3, none⟩) Try.underlying56 rfl (AF_ev rfl tp) hS.2) hS ?_
    refine RD.only 2 rfl (by kernel_rfl) Wd.a ?_
    have hst := hst.take (.there (.there .here))
    refine H.call0 Try.func88 nm88 rfl (map1 (AF_ev rfl (up rfl (up rfl tp)))) (Calls.mono (clone_bytes (fun w H s => hEx.1.src s) (bv_one _) (by omega) hst) ?_)
    rintro _ w ⟨vX3, rfl, hnX3, hst⟩
    obtain ⟨X3, c4, rfl, hcX3, hmX3, hlX3, hbX3⟩ := hst.shape
    refine ⟨_, rfl, ?_⟩
    have hS : w.cell? ⟨b2, 2, none⟩ = some (.slice x.X x.ns.length x.xc) ∧ w.cell? ⟨b2, 3, none⟩ = some (.slice x.Y x.ms.length x.yc) := ⟨hst.cell (.there (.there .here)) rfl, hst.cell (.there (.there .here)) rfl⟩
    refine ⟨fun _ => hS, ?_⟩
    refine RD.take 6 rfl (by kernel_rfl) Wd.a (v := .pointer (some ⟨b2, 2, none⟩)) (fun w hS => by exact E.fieldAddr (b := b2) (o := 0) (f := { name := "Data", type := 27, offset := 2, embedded := false, tag := "", pkgPath := "", byteOffset := 16 }) (AF_ev rfl (up rfl (up rfl (up rfl (up rfl (up rfl hs5)))))) Try.underlying58 rfl sz27 rfl) hS ?_
    refine RD.only 5 rfl (by kernel_rfl) Wd.a ?_
    have hst := hst.take (.there (.there (.there .here)))
    refine H.call0 Try.func89 nm89 rfl (map1 (AF_ev rfl (up rfl (up rfl tp)))) (Calls.mono (clone_ints (fun w H s => hEx.2.1.src s) (iv_one _) (by omega) hst) ?_)
    rintro _ w ⟨vX5, rfl, hnX5, hst⟩
    obtain ⟨X5, c6, rfl, hcX5, hmX5, hlX5, hbX5⟩ := hst.shape
    refine ⟨_, rfl, ?_⟩
    have hS : w.cell? ⟨b2, 2, none⟩ = some (.slice x.X x.ns.length x.xc) ∧ w.cell? ⟨b2, 3, none⟩ = some (.slice x.Y x.ms.length x.yc) := ⟨hst.cell (.there (.there (.there (.there .here)))) rfl, hst.cell (.there (.there (.there (.there .here)))) rfl⟩
    refine ⟨fun _ => hS, ?_⟩
    refine RD.only 7 rfl (by kernel_rfl) Wd.a ?_
    refine H.store (b := b2) (o := 2) (v := .slice X3 x.ns.length c4) (c' := #[.int .i64 x.term, .int .i64 x.kind, .slice X3 x.ns.length c4, .slice x.Y x.ms.length x.yc]) (AF_ev rfl (up rfl tp)) (AF_ev rfl (up rfl (up rfl tp))) hst (.there (.there (.there (.there .here)))) sz27 (by simp [Value.cells]) (by simp [Value.cells, Value.oneCell']) rfl fun w hst => ?_
    refine ⟨fun h => Bool.noConfusion ((show needs _ _ _ = false by kernel_rfl).symm.trans h), ?_⟩
    refine RD.only 8 rfl (by kernel_rfl) Wd.a (Hd.value (v := .pointer (some ⟨b2, 3, none⟩)) (by exact E.fieldAddr (b := b2) (o := 0) (f := { name := "Members", type := 56, offset := 3, embedded := false, tag := "", pkgPath := "", byteOffset := 40 }) (AF_ev rfl (u0 (up rfl (up rfl (up rfl (up rfl (up rfl (up rfl (up rfl hs5))))))))) Try.underlying58 rfl sz56 rfl) ⟨fun h => Bool.noConfusion ((show needs _ _ _ = false by kernel_rfl).symm.trans h), ?_⟩)
    refine RD.only 9 rfl (by kernel_rfl) Wd.a ?_
    refine H.store (b := b2) (o := 3) (v := .slice X5 x.ms.length c6) (c' := #[.int .i64 x.term, .int .i64 x.kind, .slice X3 x.ns.length c4, .slice X5 x.ms.length c6]) (AF_ev rfl tp) (AF_ev rfl (up rfl (u0 tp))) hst (.there (.there (.there (.there .here)))) sz56 (by simp [Value.cells]) (by simp [Value.cells, Value.oneCell']) rfl fun w hst => ?_
    refine ⟨fun h => Bool.noConfusion ((show needs _ _ _ = false by kernel_rfl).symm.trans h), ?_⟩
    refine RD.fin (by kernel_rfl) (fun τ => τ 3 = .slice V i cv ∧ τ 5 = .pointer (some ⟨b2, 0, none⟩) ∧ τ 6 = .slice (some ⟨b0, o0, none⟩) l.length c ∧ τ 7 = .int .i64 ((l.length : Nat) : Int) ∧ τ 8 = .int .i64 ((i : Nat) : Int) ∧ τ 9 = .bool true) ⟨u0 (up rfl (u0 (up rfl (up rfl (up rfl (up rfl (up rfl (up rfl (up rfl hs3))))))))), u0 (up rfl (u0 (up rfl (up rfl (up rfl (up rfl (up rfl (up rfl (up rfl hs5))))))))), u0 (up rfl (u0 (up rfl (up rfl (up rfl (up rfl (up rfl (up rfl (up rfl hs6))))))))), u0 (up rfl (u0 (up rfl (up rfl (up rfl (up rfl (up rfl (up rfl (up rfl hs7))))))))), u0 (up rfl (u0 (up rfl (up rfl (up rfl (up rfl (up rfl (up rfl (up rfl hs8))))))))), u0 (up rfl (u0 (up rfl (up rfl (up rfl (up rfl (up rfl (up rfl (up rfl hs9)))))))))⟩ ?_
    rintro τ ⟨hs3, hs5, hs6, hs7, hs8, hs9⟩
    have hst := hst.take (.there (.there .here))
    obtain ⟨p1, hle1, hlas1, hst⟩ := hst.ownKeep
    obtain ⟨p2, hle2, hlas2, hst⟩ := hst.ownKeep
    have hle0 := hle1.trans hle2
    have hlas1 := hlas1.le hle2
    have hle00 := hle
    refine CW.region ?_
    refine RW.soft Wd.a (v := .slice V i cv) (by exact E.move (AF_ev rfl hs3)) ?_
    refine RW.soft Wd.a (v := .agg #[.int .i64 x.term, .int .i64 x.kind, .slice X3 x.ns.length c4, .slice X5 x.ms.length c6]) (by exact E.loadN (b := b2) (o := 0) (cs := [.int .i64 x.term, .int .i64 x.kind, .slice X3 x.ns.length c4, .slice X5 x.ms.length c6]) Try.underlying58 rfl sz58 (AF_ev rfl (up rfl hs5)) rfl (hst.cellsIn (.there (.there .here)) rfl)) ?_
    refine RW.hard Wd.a ?_
    refine H.buildSlice (e := 58) (cs := #[.int .i64 x.term, .int .i64 x.kind, .slice X3 x.ns.length c4, .slice X5 x.ms.length c6]) (vs := #[(0, .agg #[.int .i64 x.term, .int .i64 x.kind, .slice X3 x.ns.length c4, .slice X5 x.ms.length c6])]) (bld1 (AF_ev rfl tp)) (fun _ => by kernel_rfl) hst fun b7 w hst => ?_
    refine RW.hard Wd.a ?_
    refine H.append2 (n2 := i + 1) (xs2 := (flat es') ++ ([.int .i64 x.term, .int .i64 x.kind, .slice X3 x.ns.length c4, .slice X5 x.ms.length c6])) (by first | rfl | simp) (by first | rfl | simp) (m := 1) (news := [.int .i64 x.term, .int .i64 x.kind, .slice X3 x.ns.length c4, .slice X5 x.ms.length c6]) (s0 := .slice V i cv) (x0 := .slice (some ⟨b7, 0, none⟩) 1 1) Try.underlying44 inf58 rfl (AF_ev rfl (up rfl (up rfl tp))) (AF_ev rfl tp) hst (.there (.there (.there (.there .here)))) ⟨rfl, _, _, rfl, by omega, .inr ⟨_, 0, rfl, hst.cellsIn .here rfl⟩⟩ (by simp [Value.oneCell']) (by omega) (by simp only [maxLen]; omega) ?_
    intro vX8 w hnilX8 hst
    obtain ⟨X8, c9, rfl, hcX8, hmX8, hlX8, hbX8⟩ := hst.shape
    refine RW.soft Wd.a (v := .slice X8 (i + 1) c9) (by exact E.assign (AF_ev rfl tp)) ?_
    refine RW.nil ?_
    refine Bl.n ?_
    refine Th.n ?_
    refine CW.region ?_
    refine RW.soft Wd.a (v := .int .i64 (((i : Nat) : Int) + 1)) (by exact E.add (k := .i64) (a := ((i : Nat) : Int)) (b := 1) (AF_ev rfl (up rfl (up rfl (up rfl (up rfl (up rfl hs8)))))) rfl (show IntKind.i64.wrap (((i : Nat) : Int) + 1) = ((i : Nat) : Int) + 1 from (by rw [IntWalk.i64_in _ (by omega)]))) ?_
    refine RW.soft Wd.a (v := .int .i64 (((i : Nat) : Int) + 1)) (by exact E.move (AF_ev rfl tp)) ?_
    refine RW.nil ?_
    refine Th.n ?_
    have hst := hst.take (.there (.there (.there (.there (.there .here)))))
    have hst := hst.take (.there .here)
    have hst := (hst.take (.there (.there .here))).drop
    have hst := (hst.take (.there (.there .here))).drop
    have hst := (hst.take (.there (.there .here))).drop
    have hst := (hst.take (.there (.there .here))).drop
    have hvs : vs (es' ++ [(⟨x.term, x.kind, X3, c4, x.ns, X5, c6, x.ms⟩ : Ent)]) = vs (l.take (i + 1)) := by
      rw [List.take_add_one, hx]; simp only [vs, List.map_append] at hv ⊢; rw [hv]; rfl
    have hok : EsOk p2 (es' ++ [(⟨x.term, x.kind, X3, c4, x.ns, X5, c6, x.ms⟩ : Ent)]) := (hes.le hle0).append (fun y hy => by rw [List.mem_singleton.1 hy]; exact ⟨hlas1, hlas2, hEx.2.2⟩)
    have hle := hle.trans hle0
    have hst : St p2 w (Own 58 4 (.slice X8 (i + 1) c9) (i + 1) (flat (es' ++ [(⟨x.term, x.kind, X3, c4, x.ns, X5, c6, x.ms⟩ : Ent)])) :: A :: R) := by rw [flat_append]; exact hst
    have hst := hst.take (.there .here)
    have hst := hst.take (.there .here)
    exact ⟨l.length - (i + 1), by omega, p2, (es' ++ [(⟨x.term, x.kind, X3, c4, x.ns, X5, c6, x.ms⟩ : Ent)]), i + 1, X8, c9, hle, hok, hvs, (by omega), (by omega), up rfl (up rfl tp), up rfl (up rfl (up rfl (up rfl (up rfl (up rfl (up rfl hs6)))))), up rfl (up rfl (up rfl (up rfl (up rfl (up rfl (up rfl hs7)))))), (int_eq (a := ((i : Nat) : Int) + 1) tp (by omega)), hst⟩
  · have hc1_ := hc1
    try simp only [decide_eq_true_eq, decide_eq_false_iff_not, Bool.and_eq_true, Bool.or_eq_true, Bool.and_eq_false_iff, Bool.or_eq_false_iff, Bool.not_eq_true', Bool.not_eq_false', beq_iff_eq, beq_eq_false_iff_ne, bne_iff_ne, bne_eq_false_iff_eq, ne_eq, Int.not_lt, Int.not_le, gt_iff_lt, ge_iff_le] at hc1_
    refine CW.exit ?_
    refine Th.x ?_
    refine Th.x ?_
    refine Bl.x ?_
    refine Th.n ?_
    refine CW.seq ?_
    refine CW.region ?_
    refine RW.soft Wd.a (v := .slice V i cv) (by exact E.move (AF_ev rfl hs3)) ?_
    refine RW.soft Wd.a (v := .slice V i cv) (by exact E.assign (AF_ev rfl tp)) ?_
    refine RW.fin (fun τ => τ 2 = .slice V i cv ∧ τ 3 = .slice V i cv ∧ τ 6 = .slice X l.length c ∧ τ 7 = .int .i64 ((l.length : Nat) : Int) ∧ τ 8 = .int .i64 ((i : Nat) : Int) ∧ τ 9 = .bool false) ⟨tp, up rfl (up rfl hs3), up rfl (up rfl hs6), up rfl (up rfl hs7), up rfl (up rfl hs8), up rfl (up rfl (Eq.trans hs9 (congrArg Value.bool hc1)))⟩ ?_
    rintro τ ⟨hs2, hs3, hs6, hs7, hs8, hs9⟩
    refine CW.ret ?_
    refine ret1 (v := .slice V i cv) rfl (by exact (.tmp (AF_ev rfl hs2) .nil)) ?_
    have hlen' : es'.length = i := by have := vs_len hv; rw [List.length_take] at this; omega
    obtain rfl : i = l.length := by omega
    exact ⟨p, _, es', hle, rfl, hes, by rw [hv, List.take_length], by rw [hlen']; exact hst⟩
end Go.Proofs.Ytdlcjoonhojpfaa
