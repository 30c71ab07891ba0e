/- The functions of the package quorum, walked through operation by operation. -/
import Derived.Test.YtjagffnbobnofaaQ17
import Derived.Test.YtjagffnbobnofaaQ15
import Derived.Test.YtjagffnbobnofaaQ16
import Derived.Test.YtjagffnbobnofaaQ13
import Derived.Test.YtjagffnbobnofaaQ14
import Derived.Test.YtjagffnbobnofaaQ11
import Derived.Test.YtjagffnbobnofaaQ12
import Derived.Test.YtjagffnbobnofaaQ9
import Derived.Test.YtjagffnbobnofaaQ10
import Derived.Test.YtjagffnbobnofaaQ8
import Derived.Test.YtjagffnbobnofaaSN
import Derived.Test.YtjagffnbobnofaaQ6
import Derived.Test.YtjagffnbobnofaaQ7
import Derived.Test.YtjagffnbobnofaaQ4
import Derived.Test.YtjagffnbobnofaaQ5
import Derived.Test.YtjagffnbobnofaaQ2
import Derived.Test.YtjagffnbobnofaaQ1
import Derived.Test.YtjagffnbobnofaaQ3
import Derived.Test.YtjagffnbobnofaaQ0
import Derived.Test.YtjagffnbobnofaaSM
namespace Go.Proofs.Ytjagffnbobnofaa
open Go.RowKit Go.SL Go.Q18
attribute [local irreducible] Go.SL.RW Go.SL.CW Go.SL.RD Go.SL.Hd Go.SL.St
set_option linter.unusedVariables false
set_option linter.unusedSimpArgs false

theorem nm31 : (Try.f31.name == "runtime.NumGoroutine") = false := by kernel_rfl
theorem nm32 : (Try.f32.name == "runtime.NumGoroutine") = false := by kernel_rfl
theorem nm34 : (Try.f34.name == "runtime.NumGoroutine") = false := by kernel_rfl
theorem nm40 : (Try.f40.name == "runtime.NumGoroutine") = false := by kernel_rfl
theorem nm42 : (Try.f42.name == "runtime.NumGoroutine") = false := by kernel_rfl
theorem nm44 : (Try.f44.name == "runtime.NumGoroutine") = false := by kernel_rfl

theorem q_fewL {p : Pers} {w : World} {R : List Assn} {X : Option Addr} {c : Nat} {zs : List Int} (hL : LI p (.slice X zs.length c) zs) (hl : zs.length ≤ 9223372036854775807) (hst : St p w (R)) :
    Calls Try.prog 32 #[.slice X zs.length c] w fun e w => ∃ X2 n2 c2, e = .returned (.slice X2 n2 c2) ∧ n2 = (zs.take 30).length ∧ LI p (.slice X2 n2 c2) (zs.take 30) ∧ St p w R := by
  refine enter Try.func32 rfl (by simp) (n := 9) rfl fun τ hτ => ?_
  have hs0 : τ 0 = .slice X zs.length c := hτ 0 (by simp)
  clear hτ
  refine CW.seq ?_
  refine CW.region ?_
  refine RW.soft Wd.a (v := .slice none 0 0) (by exact E.assign rfl) ?_
  refine RW.fin (fun τ => τ 0 = .slice X zs.length c ∧ τ 2 = .slice none 0 0) ⟨up rfl hs0, tp⟩ ?_
  rintro τ ⟨hs0, hs2⟩
  refine CW.seq ?_
  refine CW.seq ?_
  refine CW.region ?_
  refine RW.soft Wd.a (v := .slice X zs.length c) (by exact E.move (AF_ev rfl hs0)) ?_
  refine RW.soft Wd.a (v := .int .i64 ((zs.length : Nat) : Int)) (by exact E.lenS (p := X) (l := zs.length) (c := c) Try.underlying58 (AF_ev rfl tp)) ?_
  refine RW.soft Wd.a (v := .bool (decide (((zs.length : Nat) : Int) > 30))) (by exact E.gtr (k := .i64) (a := ((zs.length : Nat) : Int)) (b := 30) (AF_ev rfl tp) rfl) ?_
  refine RW.fin (fun τ => τ 0 = .slice X zs.length c ∧ τ 2 = .slice none 0 0 ∧ τ 5 = .bool (decide (((zs.length : Nat) : Int) > 30))) ⟨up rfl (up rfl (up rfl hs0)), up rfl (up rfl (up rfl hs2)), tp⟩ ?_
  rintro τ ⟨hs0, hs2, hs5⟩
  refine CW.cond (AF_ev rfl hs5) (fun hc1 => ?_) (fun hc1 => ?_)
  · have hc1_ := hc1
    try simp only [decide_eq_true_eq, decide_eq_false_iff_not, Bool.and_eq_true, Bool.or_eq_true, Bool.and_eq_false_iff, Bool.or_eq_false_iff, Bool.not_eq_true', Bool.not_eq_false', beq_iff_eq, beq_eq_false_iff_ne, bne_iff_ne, bne_eq_false_iff_eq, ne_eq, Int.not_lt, Int.not_le, gt_iff_lt, ge_iff_le] at hc1_
    refine CW.seq ?_
    obtain ⟨X9, c9, hsh, hcl⟩ := TI.shape hL.tells hst.emp
    cases hsh
    obtain ⟨b0, o0, rfl, hcell0⟩ := Las.place hL (by omega)
    refine CW.region ?_
    refine RW.soft Wd.a (v := .slice (some ⟨b0, o0, none⟩) zs.length c) (by exact E.move (AF_ev rfl hs0)) ?_
    refine RW.soft Wd.a (v := .slice (some ⟨b0, o0, none⟩) 30 c) (by exact E.slice (i := 0) (j := 30) Try.underlying58 sz3 (AF_ev rfl tp) rfl rfl (by omega) (by omega) (by simp)) ?_
    refine RW.soft Wd.a (v := .slice (some ⟨b0, o0, none⟩) 30 c) (by exact E.assign (AF_ev rfl tp)) ?_
    refine RW.fin (fun τ => τ 0 = .slice (some ⟨b0, o0, none⟩) zs.length c ∧ τ 2 = .slice (some ⟨b0, o0, none⟩) 30 c ∧ τ 5 = .bool true) ⟨up rfl (up rfl (up rfl hs0)), tp, up rfl (up rfl (up rfl (Eq.trans hs5 (congrArg Value.bool hc1))))⟩ ?_
    rintro τ ⟨hs0, hs2, hs5⟩
    refine CW.ret ?_
    refine Th.r ?_
    refine ret1 (v := .slice (some ⟨b0, o0, none⟩) 30 c) rfl (by exact (.tmp (AF_ev rfl hs2) .nil)) ?_
    exact ⟨_, 30, _, rfl, by rw [List.length_take]; omega, LI.take hL (by omega), hst⟩
  · have hc1_ := hc1
    try simp only [decide_eq_true_eq, decide_eq_false_iff_not, Bool.and_eq_true, Bool.or_eq_true, Bool.and_eq_false_iff, Bool.or_eq_false_iff, Bool.not_eq_true', Bool.not_eq_false', beq_iff_eq, beq_eq_false_iff_ne, bne_iff_ne, bne_eq_false_iff_eq, ne_eq, Int.not_lt, Int.not_le, gt_iff_lt, ge_iff_le] at hc1_
    refine CW.skip ?_
    refine Th.n ?_
    refine CW.seq ?_
    refine CW.region ?_
    refine RW.soft Wd.a (v := .slice X zs.length c) (by exact E.move (AF_ev rfl hs0)) ?_
    refine RW.soft Wd.a (v := .slice X zs.length c) (by exact E.assign (AF_ev rfl tp)) ?_
    refine RW.fin (fun τ => τ 0 = .slice X zs.length c ∧ τ 2 = .slice X zs.length c ∧ τ 5 = .bool false) ⟨up rfl (up rfl hs0), tp, up rfl (up rfl (Eq.trans hs5 (congrArg Value.bool hc1)))⟩ ?_
    rintro τ ⟨hs0, hs2, hs5⟩
    refine CW.ret ?_
    refine ret1 (v := .slice X zs.length c) rfl (by exact (.tmp (AF_ev rfl hs2) .nil)) ?_
    have ht : zs.take 30 = zs := List.take_of_length_le (by omega)
    exact ⟨_, _, _, rfl, by rw [ht], by rw [ht]; exact hL, hst⟩

theorem checks_walk {p : Pers} {w : World} {R : List Assn} {X : Option Addr} {c : Nat} {zs : List Int} (hL : LI p (.slice X zs.length c) zs) (hl : zs.length ≤ 9223372036854775807) (id : Int) (hst : St p w (R)) :
    Calls Try.prog 6 #[.slice X zs.length c, .int .i64 id] w fun e w => e = .returned (.bool true) ∧ St p w R := by
  refine enter Try.func6 rfl (by simp) (n := 65) rfl fun τ hτ => ?_
  have hs0 : τ 0 = .slice X zs.length c := hτ 0 (by simp)
  have hs1 : τ 1 = .int .i64 id := hτ 1 (by simp)
  clear hτ
  refine CW.seq ?_
  refine CW.region ?_
  refine RW.soft Wd.a (v := .bool false) (by exact E.assign rfl) ?_
  refine RW.fin (fun τ => τ 0 = .slice X zs.length c ∧ τ 1 = .int .i64 id ∧ τ 4 = .bool false) ⟨up rfl hs0, up rfl hs1, tp⟩ ?_
  rintro τ ⟨hs0, hs1, hs4⟩
  refine CW.seq ?_
  refine CW.region ?_
  refine RW.hard Wd.a ?_
  refine H.call0 Try.func31 nm31 rfl map0 (Calls.mono (shown18 hst) ?_)
  rintro _ w ⟨rfl, hst⟩
  refine ⟨_, rfl, ?_⟩
  show RW _ _ _ _ _ _ _
  refine RW.soft Wd.a (v := .bool true) (by exact E.assign (AF_ev rfl tp)) ?_
  refine RW.fin (fun τ => τ 0 = .slice X zs.length c ∧ τ 1 = .int .i64 id ∧ τ 4 = .bool false ∧ τ 5 = .bool true) ⟨up rfl (up rfl hs0), up rfl (up rfl hs1), up rfl (up rfl hs4), tp⟩ ?_
  rintro τ ⟨hs0, hs1, hs4, hs5⟩
  refine CW.seq ?_
  refine CW.region ?_
  refine RW.soft Wd.a (v := .slice X zs.length c) (by exact E.move (AF_ev rfl hs0)) ?_
  refine RW.hard Wd.a ?_
  refine H.call0 Try.func32 nm32 rfl (map1 (AF_ev rfl tp)) (Calls.mono (q_fewL hL hl hst) ?_)
  rintro _ w ⟨X1, nX1, c2, rfl, hnX1, hLX1, hst⟩
  subst hnX1
  have htX1 := take_le zs
  refine ⟨_, rfl, ?_⟩
  show RW _ _ _ _ _ _ _
  refine RW.soft Wd.a (v := .slice X1 ((zs.take 30).length) c2) (by exact E.assign (AF_ev rfl tp)) ?_
  refine RW.fin (fun τ => τ 0 = .slice X1 ((zs.take 30).length) c2 ∧ τ 1 = .int .i64 id ∧ τ 4 = .bool false ∧ τ 5 = .bool true) ⟨tp, up rfl (up rfl (up rfl hs1)), up rfl (up rfl (up rfl hs4)), up rfl (up rfl (up rfl hs5))⟩ ?_
  rintro τ ⟨hs0, hs1, hs4, hs5⟩
  refine CW.seq ?_
  refine CW.region ?_
  refine RW.hard Wd.a ?_
  refine H.buildSlice (e := 3) (cs := #[]) (vs := #[]) (by simp) (fun _ => by kernel_rfl) hst fun b3 w hst => ?_
  refine RW.soft Wd.a (v := .slice X1 ((zs.take 30).length) c2) (by exact E.move (AF_ev rfl (up rfl hs0))) ?_
  have hst : St p w (Own 3 1 (.slice (some ⟨b3, 0, none⟩) 0 0) 0 (([] : List Int).flatMap ienc) :: _) := hst.ownNew (n := 0) (cap := 0) (sz := 1) (xs := ([] : List Int).flatMap ienc) (by omega) (by simp [maxLen]) rfl rfl
  refine RW.hard Wd.a ?_
  refine H.append2 (m := (zs.take 30).length) (news := (zs.take 30).flatMap ienc) (n2 := (zs.take 30).length) (xs2 := (zs.take 30).flatMap ienc) (s0 := .slice (some ⟨b3, 0, none⟩) 0 0) (x0 := .slice X1 ((zs.take 30).length) c2) (by first | (simp; done) | (rw [List.length_append]; simp only [List.length_cons, List.length_nil]; omega)) (by simp [ienc]) Try.underlying58 inf3 rfl (AF_ev rfl (up rfl tp)) (AF_ev rfl tp) hst .here (Las.src hLX1 hst) (ienc_ones _) (by omega) (by simp only [maxLen]; omega) ?_
  intro vX4 w hnilX4 hst
  obtain ⟨X4, c5, rfl, hcX4, hmX4, hlX4, hbX4⟩ := hst.shape
  refine RW.soft Wd.a (v := .slice X4 ((zs.take 30).length) c5) (by exact E.assign (AF_ev rfl tp)) ?_
  refine RW.fin (fun τ => τ 0 = .slice X1 ((zs.take 30).length) c2 ∧ τ 1 = .int .i64 id ∧ τ 4 = .bool false ∧ τ 5 = .bool true ∧ τ 6 = .slice X4 ((zs.take 30).length) c5) ⟨up rfl (up rfl (up rfl (up rfl hs0))), up rfl (up rfl (up rfl (up rfl hs1))), up rfl (up rfl (up rfl (up rfl hs4))), up rfl (up rfl (up rfl (up rfl hs5))), tp⟩ ?_
  rintro τ ⟨hs0, hs1, hs4, hs5, hs6⟩
  refine CW.seq ?_
  refine CW.region ?_
  refine RW.soft Wd.a (v := .slice X4 ((zs.take 30).length) c5) (by exact E.move (AF_ev rfl hs6)) ?_
  refine RW.soft Wd.a (v := .int .i64 id) (by exact E.move (AF_ev rfl (up rfl hs1))) ?_
  refine RW.hard Wd.a ?_
  refine H.call0 Try.func33 nm33 rfl (map2 (AF_ev rfl (up rfl tp)) (AF_ev rfl tp)) (Calls.mono (q_Change (zs := (zs.take 30)) (own_TI (by first | rfl | omega | simp)) (Nat.le_trans (take_le _) (by decide)) id hst) ?_)
  rintro _ w ⟨vX6, rfl, hst⟩
  obtain ⟨X6, c7, heX6, hcX6, hmX6, hlX6, hbX6⟩ := hst.shape
  subst heX6
  refine ⟨_, rfl, ?_⟩
  show RW _ _ _ _ _ _ _
  refine RW.soft Wd.a (v := .tuple #[.slice X6 ((chgR (zs.take 30) id).length) c7, .int .i64 (chgE (zs.take 30) id)]) (by exact E.move (AF_ev rfl tp)) ?_
  refine RW.soft Wd.a (v := .slice X6 ((chgR (zs.take 30) id).length) c7) (by exact E.extract (vs := #[.slice X6 ((chgR (zs.take 30) id).length) c7, .int .i64 (chgE (zs.take 30) id)]) (AF_ev rfl tp) rfl) ?_
  refine RW.soft Wd.a (v := .int .i64 (chgE (zs.take 30) id)) (by exact E.extract (vs := #[.slice X6 ((chgR (zs.take 30) id).length) c7, .int .i64 (chgE (zs.take 30) id)]) (AF_ev rfl (up rfl tp)) rfl) ?_
  refine RW.soft Wd.a (v := .slice X6 ((chgR (zs.take 30) id).length) c7) (by exact E.assign (AF_ev rfl (up rfl tp))) ?_
  refine RW.soft Wd.a (v := .int .i64 (chgE (zs.take 30) id)) (by exact E.assign (AF_ev rfl (up rfl tp))) ?_
  refine RW.fin (fun τ => τ 0 = .slice X1 ((zs.take 30).length) c2 ∧ τ 1 = .int .i64 id ∧ τ 4 = .bool false ∧ τ 5 = .bool true ∧ τ 6 = .slice X4 ((zs.take 30).length) c5 ∧ τ 7 = .slice X6 ((chgR (zs.take 30) id).length) c7 ∧ τ 8 = .int .i64 (chgE (zs.take 30) id)) ⟨up rfl (up rfl (up rfl (up rfl (up rfl (up rfl (up rfl (up rfl hs0))))))), up rfl (up rfl (up rfl (up rfl (up rfl (up rfl (up rfl (up rfl hs1))))))), up rfl (up rfl (up rfl (up rfl (up rfl (up rfl (up rfl (up rfl hs4))))))), up rfl (up rfl (up rfl (up rfl (up rfl (up rfl (up rfl (up rfl hs5))))))), up rfl (up rfl (up rfl (up rfl (up rfl (up rfl (up rfl (up rfl hs6))))))), up rfl tp, tp⟩ ?_
  rintro τ ⟨hs0, hs1, hs4, hs5, hs6, hs7, hs8⟩
  refine CW.seq ?_
  refine CW.region ?_
  refine RW.soft Wd.a (v := .slice X1 ((zs.take 30).length) c2) (by exact E.move (AF_ev rfl hs0)) ?_
  refine RW.soft Wd.a (v := .int .i64 id) (by exact E.move (AF_ev rfl (up rfl hs1))) ?_
  have hst := hst.emp
  refine RW.hard Wd.a ?_
  refine H.call0 Try.func34 nm34 rfl (map2 (AF_ev rfl (up rfl tp)) (AF_ev rfl tp)) (Calls.mono (r_Change (zs := (zs.take 30)) hLX1.tells (Nat.le_trans (take_le _) (by decide)) id hst) ?_)
  rintro _ w ⟨vX8, rfl, hst⟩
  have hst := (hst.take (.there .here)).drop
  obtain ⟨X8, c9, heX8, hcX8, hmX8, hlX8, hbX8⟩ := hst.shape
  subst heX8
  refine ⟨_, rfl, ?_⟩
  show RW _ _ _ _ _ _ _
  refine RW.soft Wd.a (v := .tuple #[.slice X8 ((chgR (zs.take 30) id).length) c9, .int .i64 (chgE (zs.take 30) id)]) (by exact E.move (AF_ev rfl tp)) ?_
  refine RW.soft Wd.a (v := .slice X8 ((chgR (zs.take 30) id).length) c9) (by exact E.extract (vs := #[.slice X8 ((chgR (zs.take 30) id).length) c9, .int .i64 (chgE (zs.take 30) id)]) (AF_ev rfl tp) rfl) ?_
  refine RW.soft Wd.a (v := .int .i64 (chgE (zs.take 30) id)) (by exact E.extract (vs := #[.slice X8 ((chgR (zs.take 30) id).length) c9, .int .i64 (chgE (zs.take 30) id)]) (AF_ev rfl (up rfl tp)) rfl) ?_
  refine RW.soft Wd.a (v := .slice X8 ((chgR (zs.take 30) id).length) c9) (by exact E.assign (AF_ev rfl (up rfl tp))) ?_
  refine RW.soft Wd.a (v := .int .i64 (chgE (zs.take 30) id)) (by exact E.assign (AF_ev rfl (up rfl tp))) ?_
  refine RW.fin (fun τ => τ 0 = .slice X1 ((zs.take 30).length) c2 ∧ τ 1 = .int .i64 id ∧ τ 4 = .bool false ∧ τ 5 = .bool true ∧ τ 6 = .slice X4 ((zs.take 30).length) c5 ∧ τ 7 = .slice X6 ((chgR (zs.take 30) id).length) c7 ∧ τ 8 = .int .i64 (chgE (zs.take 30) id) ∧ τ 9 = .slice X8 ((chgR (zs.take 30) id).length) c9 ∧ τ 10 = .int .i64 (chgE (zs.take 30) id)) ⟨up rfl (up rfl (up rfl (up rfl (up rfl (up rfl (up rfl (up rfl hs0))))))), up rfl (up rfl (up rfl (up rfl (up rfl (up rfl (up rfl (up rfl hs1))))))), up rfl (up rfl (up rfl (up rfl (up rfl (up rfl (up rfl (up rfl hs4))))))), up rfl (up rfl (up rfl (up rfl (up rfl (up rfl (up rfl (up rfl hs5))))))), up rfl (up rfl (up rfl (up rfl (up rfl (up rfl (up rfl (up rfl hs6))))))), up rfl (up rfl (up rfl (up rfl (up rfl (up rfl (up rfl (up rfl hs7))))))), up rfl (up rfl (up rfl (up rfl (up rfl (up rfl (up rfl (up rfl hs8))))))), up rfl tp, tp⟩ ?_
  rintro τ ⟨hs0, hs1, hs4, hs5, hs6, hs7, hs8, hs9, hs10⟩
  refine CW.seq ?_
  refine CW.region ?_
  refine RW.soft Wd.a (v := .slice X6 ((chgR (zs.take 30) id).length) c7) (by exact E.move (AF_ev rfl hs7)) ?_
  refine RW.soft Wd.a (v := .slice X8 ((chgR (zs.take 30) id).length) c9) (by exact E.move (AF_ev rfl (up rfl hs9))) ?_
  have hst := hst.take (.there .here)
  refine RW.hard Wd.a ?_
  refine H.call0 Try.func35 nm35 rfl (map2 (AF_ev rfl (up rfl tp)) (AF_ev rfl tp)) (Calls.mono (q_ints (zs := (chgR (zs.take 30) id)) (own_TI (by first | rfl | omega | simp)) (own_TI (by first | rfl | omega | simp)) (Nat.le_trans (chg_le _ _) (by decide)) hst) ?_)
  rintro _ w ⟨rfl, hst⟩
  refine ⟨_, rfl, ?_⟩
  show RW _ _ _ _ _ _ _
  refine RW.soft Wd.a (v := .bool true) (by exact E.assign (AF_ev rfl tp)) ?_
  refine RW.fin (fun τ => τ 0 = .slice X1 ((zs.take 30).length) c2 ∧ τ 1 = .int .i64 id ∧ τ 4 = .bool false ∧ τ 5 = .bool true ∧ τ 6 = .slice X4 ((zs.take 30).length) c5 ∧ τ 7 = .slice X6 ((chgR (zs.take 30) id).length) c7 ∧ τ 8 = .int .i64 (chgE (zs.take 30) id) ∧ τ 9 = .slice X8 ((chgR (zs.take 30) id).length) c9 ∧ τ 10 = .int .i64 (chgE (zs.take 30) id) ∧ τ 11 = .bool true) ⟨up rfl (up rfl (up rfl (up rfl hs0))), up rfl (up rfl (up rfl (up rfl hs1))), up rfl (up rfl (up rfl (up rfl hs4))), up rfl (up rfl (up rfl (up rfl hs5))), up rfl (up rfl (up rfl (up rfl hs6))), up rfl (up rfl (up rfl (up rfl hs7))), up rfl (up rfl (up rfl (up rfl hs8))), up rfl (up rfl (up rfl (up rfl hs9))), up rfl (up rfl (up rfl (up rfl hs10))), tp⟩ ?_
  rintro τ ⟨hs0, hs1, hs4, hs5, hs6, hs7, hs8, hs9, hs10, hs11⟩
  refine CW.seq ?_
  refine CW.region ?_
  refine RW.soft Wd.a (v := .slice X4 ((zs.take 30).length) c5) (by exact E.move (AF_ev rfl hs6)) ?_
  refine RW.soft Wd.a (v := .slice X1 ((zs.take 30).length) c2) (by exact E.move (AF_ev rfl (up rfl hs0))) ?_
  have hst := hst.emp
  have hst := hst.take (.there (.there (.there .here)))
  refine RW.hard Wd.a ?_
  refine H.call0 Try.func35 nm35 rfl (map2 (AF_ev rfl (up rfl tp)) (AF_ev rfl tp)) (Calls.mono (q_ints (zs := (zs.take 30)) (own_TI (by first | rfl | omega | simp)) hLX1.tells (Nat.le_trans (take_le _) (by decide)) hst) ?_)
  rintro _ w ⟨rfl, hst⟩
  have hst := (hst.take (.there .here)).drop
  refine ⟨_, rfl, ?_⟩
  show RW _ _ _ _ _ _ _
  refine RW.soft Wd.a (v := .bool true) (by exact E.assign (AF_ev rfl tp)) ?_
  refine RW.fin (fun τ => τ 0 = .slice X1 ((zs.take 30).length) c2 ∧ τ 1 = .int .i64 id ∧ τ 4 = .bool false ∧ τ 5 = .bool true ∧ τ 6 = .slice X4 ((zs.take 30).length) c5 ∧ τ 7 = .slice X6 ((chgR (zs.take 30) id).length) c7 ∧ τ 8 = .int .i64 (chgE (zs.take 30) id) ∧ τ 9 = .slice X8 ((chgR (zs.take 30) id).length) c9 ∧ τ 10 = .int .i64 (chgE (zs.take 30) id) ∧ τ 11 = .bool true ∧ τ 12 = .bool true) ⟨up rfl (up rfl (up rfl (up rfl hs0))), up rfl (up rfl (up rfl (up rfl hs1))), up rfl (up rfl (up rfl (up rfl hs4))), up rfl (up rfl (up rfl (up rfl hs5))), up rfl (up rfl (up rfl (up rfl hs6))), up rfl (up rfl (up rfl (up rfl hs7))), up rfl (up rfl (up rfl (up rfl hs8))), up rfl (up rfl (up rfl (up rfl hs9))), up rfl (up rfl (up rfl (up rfl hs10))), up rfl (up rfl (up rfl (up rfl hs11))), tp⟩ ?_
  rintro τ ⟨hs0, hs1, hs4, hs5, hs6, hs7, hs8, hs9, hs10, hs11, hs12⟩
  refine CW.seq ?_
  refine CW.region ?_
  refine RW.soft Wd.a (v := .bool true) (by exact E.move (AF_ev rfl hs5)) ?_
  refine RW.soft Wd.a (v := .bool true) (by exact E.move (AF_ev rfl tp)) ?_
  refine RW.soft (by exact Wd.yes (x := 38) rfl (AF_ev rfl tp)) (v := .slice X1 ((zs.take 30).length) c2) (by exact E.move (AF_ev rfl (up rfl (up rfl hs0)))) ?_
  have hst := hst.emp
  refine RW.hard (by exact Wd.yes (x := 38) rfl (AF_ev rfl (up rfl tp))) ?_
  refine H.call0 Try.func36 nm36 rfl (map1 (AF_ev rfl tp)) (Calls.mono (q_Check (zs := (zs.take 30)) hLX1.tells (Nat.le_trans (take_le _) (by decide))  hst) ?_)
  rintro _ w ⟨rfl, hst⟩
  have hst := hst.drop
  refine ⟨_, rfl, ?_⟩
  show RW _ _ _ _ _ _ _
  refine RW.soft (by exact Wd.yes (x := 38) rfl (AF_ev rfl (up rfl (up rfl tp)))) (v := .slice X1 ((zs.take 30).length) c2) (by exact E.move (AF_ev rfl (up rfl (up rfl (up rfl (up rfl hs0)))))) ?_
  have hst := hst.emp
  refine RW.hard (by exact Wd.yes (x := 38) rfl (AF_ev rfl (up rfl (up rfl (up rfl tp))))) ?_
  refine H.call0 Try.func37 nm37 rfl (map1 (AF_ev rfl tp)) (Calls.mono (r_Check (zs := (zs.take 30)) hLX1.tells (Nat.le_trans (take_le _) (by decide))  hst) ?_)
  rintro _ w ⟨rfl, hst⟩
  have hst := hst.drop
  refine ⟨_, rfl, ?_⟩
  show RW _ _ _ _ _ _ _
  refine RW.soft (by exact Wd.yes (x := 38) rfl (AF_ev rfl (up rfl (up rfl (up rfl (up rfl tp)))))) (v := .bool true) (by exact E.b (a := (checkI (zs.take 30)) == (checkI (zs.take 30))) (E.eql (k := .i64) (a := checkI (zs.take 30)) (b := checkI (zs.take 30)) (AF_ev rfl (up rfl (up rfl tp))) (AF_ev rfl tp)) (by simp)) ?_
  refine RW.soft Wd.a (v := .bool true) (by exact E.pickT (AF_ev rfl (up rfl (up rfl (up rfl (up rfl (up rfl tp)))))) (AF_ev rfl tp)) ?_
  refine RW.soft Wd.a (v := .bool true) (by exact E.move (AF_ev rfl tp)) ?_
  refine RW.soft (by exact Wd.yes (x := 45) rfl (AF_ev rfl tp)) (v := .slice X1 ((zs.take 30).length) c2) (by exact E.move (AF_ev rfl (up rfl (up rfl (up rfl (up rfl (up rfl (up rfl (up rfl (up rfl (up rfl hs0))))))))))) ?_
  refine RW.soft (by exact Wd.yes (x := 45) rfl (AF_ev rfl (up rfl tp))) (v := .int .i64 id) (by exact E.move (AF_ev rfl (up rfl (up rfl (up rfl (up rfl (up rfl (up rfl (up rfl (up rfl (up rfl (up rfl hs1)))))))))))) ?_
  have hst := hst.emp
  refine RW.hard (by exact Wd.yes (x := 45) rfl (AF_ev rfl (up rfl (up rfl tp)))) ?_
  refine H.call0 Try.func38 nm38 rfl (map2 (AF_ev rfl (up rfl tp)) (AF_ev rfl tp)) (Calls.mono (q_Has (zs := (zs.take 30)) hLX1.tells (Nat.le_trans (take_le _) (by decide)) id hst) ?_)
  rintro _ w ⟨rfl, hst⟩
  have hst := hst.drop
  refine ⟨_, rfl, ?_⟩
  show RW _ _ _ _ _ _ _
  refine RW.soft (by exact Wd.yes (x := 45) rfl (AF_ev rfl (up rfl (up rfl (up rfl tp))))) (v := .slice X1 ((zs.take 30).length) c2) (by exact E.move (AF_ev rfl (up rfl (up rfl (up rfl (up rfl (up rfl (up rfl (up rfl (up rfl (up rfl (up rfl (up rfl (up rfl hs0)))))))))))))) ?_
  refine RW.soft (by exact Wd.yes (x := 45) rfl (AF_ev rfl (up rfl (up rfl (up rfl (up rfl tp)))))) (v := .int .i64 id) (by exact E.move (AF_ev rfl (up rfl (up rfl (up rfl (up rfl (up rfl (up rfl (up rfl (up rfl (up rfl (up rfl (up rfl (up rfl (up rfl hs1))))))))))))))) ?_
  have hst := hst.emp
  refine RW.hard (by exact Wd.yes (x := 45) rfl (AF_ev rfl (up rfl (up rfl (up rfl (up rfl (up rfl tp))))))) ?_
  refine H.call0 Try.func39 nm39 rfl (map2 (AF_ev rfl (up rfl tp)) (AF_ev rfl tp)) (Calls.mono (r_Has (zs := (zs.take 30)) hLX1.tells (Nat.le_trans (take_le _) (by decide)) id hst) ?_)
  rintro _ w ⟨rfl, hst⟩
  have hst := hst.drop
  refine ⟨_, rfl, ?_⟩
  show RW _ _ _ _ _ _ _
  refine RW.soft (by exact Wd.yes (x := 45) rfl (AF_ev rfl (up rfl (up rfl (up rfl (up rfl (up rfl (up rfl tp)))))))) (v := .bool true) (by exact E.b (a := ((zs.take 30).contains id) == ((zs.take 30).contains id)) (E.eqlB (a := (zs.take 30).contains id) (b := (zs.take 30).contains id) Try.underlying4 (AF_ev rfl (up rfl (up rfl (up rfl tp)))) (AF_ev rfl tp)) (by simp)) ?_
  refine RW.soft Wd.a (v := .bool true) (by exact E.pickT (AF_ev rfl (up rfl (up rfl (up rfl (up rfl (up rfl (up rfl (up rfl tp)))))))) (AF_ev rfl tp)) ?_
  refine RW.soft Wd.a (v := .bool true) (by exact E.move (AF_ev rfl tp)) ?_
  refine RW.soft (by exact Wd.yes (x := 54) rfl (AF_ev rfl tp)) (v := .bool true) (by exact E.move (AF_ev rfl (up rfl (up rfl (up rfl (up rfl (up rfl (up rfl (up rfl (up rfl (up rfl (up rfl (up rfl (up rfl (up rfl (up rfl (up rfl (up rfl (up rfl (up rfl hs11)))))))))))))))))))) ?_
  refine RW.soft Wd.a (v := .bool true) (by exact E.pickT (AF_ev rfl (up rfl tp)) (AF_ev rfl tp)) ?_
  refine RW.soft Wd.a (v := .bool true) (by exact E.move (AF_ev rfl tp)) ?_
  refine RW.soft (by exact Wd.yes (x := 57) rfl (AF_ev rfl tp)) (v := .int .i64 (chgE (zs.take 30) id)) (by exact E.move (AF_ev rfl (up rfl (up rfl (up rfl (up rfl (up rfl (up rfl (up rfl (up rfl (up rfl (up rfl (up rfl (up rfl (up rfl (up rfl (up rfl (up rfl (up rfl (up rfl (up rfl (up rfl (up rfl hs8))))))))))))))))))))))) ?_
  refine RW.soft (by exact Wd.yes (x := 57) rfl (AF_ev rfl (up rfl tp))) (v := .int .i64 (chgE (zs.take 30) id)) (by exact E.move (AF_ev rfl (up rfl (up rfl (up rfl (up rfl (up rfl (up rfl (up rfl (up rfl (up rfl (up rfl (up rfl (up rfl (up rfl (up rfl (up rfl (up rfl (up rfl (up rfl (up rfl (up rfl (up rfl (up rfl hs10)))))))))))))))))))))))) ?_
  refine RW.soft (by exact Wd.yes (x := 57) rfl (AF_ev rfl (up rfl (up rfl tp)))) (v := .bool true) (by exact E.b (a := (chgE (zs.take 30) id) == (chgE (zs.take 30) id)) (E.eql (k := .i64) (a := chgE (zs.take 30) id) (b := chgE (zs.take 30) id) (AF_ev rfl (up rfl tp)) (AF_ev rfl tp)) (by simp)) ?_
  refine RW.soft Wd.a (v := .bool true) (by exact E.pickT (AF_ev rfl (up rfl (up rfl (up rfl tp)))) (AF_ev rfl tp)) ?_
  refine RW.soft Wd.a (v := .bool true) (by exact E.move (AF_ev rfl tp)) ?_
  refine RW.soft (by exact Wd.yes (x := 62) rfl (AF_ev rfl tp)) (v := .bool true) (by exact E.move (AF_ev rfl (up rfl (up rfl (up rfl (up rfl (up rfl (up rfl (up rfl (up rfl (up rfl (up rfl (up rfl (up rfl (up rfl (up rfl (up rfl (up rfl (up rfl (up rfl (up rfl (up rfl (up rfl (up rfl (up rfl (up rfl (up rfl (up rfl hs12)))))))))))))))))))))))))))) ?_
  refine RW.soft Wd.a (v := .bool true) (by exact E.pickT (AF_ev rfl (up rfl tp)) (AF_ev rfl tp)) ?_
  refine RW.soft Wd.a (v := .bool true) (by exact E.assign (AF_ev rfl tp)) ?_
  refine RW.fin (fun τ => τ 0 = .slice X1 ((zs.take 30).length) c2 ∧ τ 1 = .int .i64 id ∧ τ 4 = .bool true ∧ τ 5 = .bool true ∧ τ 6 = .slice X4 ((zs.take 30).length) c5 ∧ τ 7 = .slice X6 ((chgR (zs.take 30) id).length) c7 ∧ τ 8 = .int .i64 (chgE (zs.take 30) id) ∧ τ 9 = .slice X8 ((chgR (zs.take 30) id).length) c9 ∧ τ 10 = .int .i64 (chgE (zs.take 30) id) ∧ τ 11 = .bool true ∧ τ 12 = .bool true) ⟨up rfl (up rfl (up rfl (up rfl (up rfl (up rfl (up rfl (up rfl (up rfl (up rfl (up rfl (up rfl (up rfl (up rfl (up rfl (up rfl (up rfl (up rfl (up rfl (up rfl (up rfl (up rfl (up rfl (up rfl (up rfl (up rfl (up rfl (up rfl (up rfl hs0)))))))))))))))))))))))))))), up rfl (up rfl (up rfl (up rfl (up rfl (up rfl (up rfl (up rfl (up rfl (up rfl (up rfl (up rfl (up rfl (up rfl (up rfl (up rfl (up rfl (up rfl (up rfl (up rfl (up rfl (up rfl (up rfl (up rfl (up rfl (up rfl (up rfl (up rfl (up rfl hs1)))))))))))))))))))))))))))), tp, up rfl (up rfl (up rfl (up rfl (up rfl (up rfl (up rfl (up rfl (up rfl (up rfl (up rfl (up rfl (up rfl (up rfl (up rfl (up rfl (up rfl (up rfl (up rfl (up rfl (up rfl (up rfl (up rfl (up rfl (up rfl (up rfl (up rfl (up rfl (up rfl hs5)))))))))))))))))))))))))))), up rfl (up rfl (up rfl (up rfl (up rfl (up rfl (up rfl (up rfl (up rfl (up rfl (up rfl (up rfl (up rfl (up rfl (up rfl (up rfl (up rfl (up rfl (up rfl (up rfl (up rfl (up rfl (up rfl (up rfl (up rfl (up rfl (up rfl (up rfl (up rfl hs6)))))))))))))))))))))))))))), up rfl (up rfl (up rfl (up rfl (up rfl (up rfl (up rfl (up rfl (up rfl (up rfl (up rfl (up rfl (up rfl (up rfl (up rfl (up rfl (up rfl (up rfl (up rfl (up rfl (up rfl (up rfl (up rfl (up rfl (up rfl (up rfl (up rfl (up rfl (up rfl hs7)))))))))))))))))))))))))))), up rfl (up rfl (up rfl (up rfl (up rfl (up rfl (up rfl (up rfl (up rfl (up rfl (up rfl (up rfl (up rfl (up rfl (up rfl (up rfl (up rfl (up rfl (up rfl (up rfl (up rfl (up rfl (up rfl (up rfl (up rfl (up rfl (up rfl (up rfl (up rfl hs8)))))))))))))))))))))))))))), up rfl (up rfl (up rfl (up rfl (up rfl (up rfl (up rfl (up rfl (up rfl (up rfl (up rfl (up rfl (up rfl (up rfl (up rfl (up rfl (up rfl (up rfl (up rfl (up rfl (up rfl (up rfl (up rfl (up rfl (up rfl (up rfl (up rfl (up rfl (up rfl hs9)))))))))))))))))))))))))))), up rfl (up rfl (up rfl (up rfl (up rfl (up rfl (up rfl (up rfl (up rfl (up rfl (up rfl (up rfl (up rfl (up rfl (up rfl (up rfl (up rfl (up rfl (up rfl (up rfl (up rfl (up rfl (up rfl (up rfl (up rfl (up rfl (up rfl (up rfl (up rfl hs10)))))))))))))))))))))))))))), up rfl (up rfl (up rfl (up rfl (up rfl (up rfl (up rfl (up rfl (up rfl (up rfl (up rfl (up rfl (up rfl (up rfl (up rfl (up rfl (up rfl (up rfl (up rfl (up rfl (up rfl (up rfl (up rfl (up rfl (up rfl (up rfl (up rfl (up rfl (up rfl hs11)))))))))))))))))))))))))))), up rfl (up rfl (up rfl (up rfl (up rfl (up rfl (up rfl (up rfl (up rfl (up rfl (up rfl (up rfl (up rfl (up rfl (up rfl (up rfl (up rfl (up rfl (up rfl (up rfl (up rfl (up rfl (up rfl (up rfl (up rfl (up rfl (up rfl (up rfl (up rfl hs12))))))))))))))))))))))))))))⟩ ?_
  rintro τ ⟨hs0, hs1, hs4, hs5, hs6, hs7, hs8, hs9, hs10, hs11, hs12⟩
  refine CW.ret ?_
  refine ret1 (v := .bool true) rfl (by exact (.tmp (AF_ev rfl hs4) .nil)) ?_
  have hst := (hst.take .here).drop
  have hst := (hst.take .here).drop
  have hst := (hst.take .here).drop
  exact ⟨rfl, hst⟩

theorem counts_walk {p : Pers} {w : World} {R : List Assn} {Y T : Option Addr} {d f : Nat} {ys ts : List Int} (bits : Int) (hY : LI p (.slice Y ys.length d) ys) (hy : ys.length ≤ 9223372036854775807) (hT : LI p (.slice T ts.length f) ts) (ht : ts.length ≤ 9223372036854775807) (hf : Fit ts) (hst : St p w (R)) :
    Calls Try.prog 7 #[.int .i64 bits, .slice Y ys.length d, .slice T ts.length f] w fun e w => ∃ q, p.le q ∧ e = .returned (.bool true) ∧ St q w R := by
  refine enter Try.func7 rfl (by simp) (n := 35) rfl fun τ hτ => ?_
  have hs0 : τ 0 = .int .i64 bits := hτ 0 (by simp)
  have hs1 : τ 1 = .slice Y ys.length d := hτ 1 (by simp)
  have hs2 : τ 2 = .slice T ts.length f := hτ 2 (by simp)
  clear hτ
  refine CW.seq ?_
  refine CW.region ?_
  refine RW.soft Wd.a (v := .bool false) (by exact E.assign rfl) ?_
  refine RW.fin (fun τ => τ 0 = .int .i64 bits ∧ τ 1 = .slice Y ys.length d ∧ τ 2 = .slice T ts.length f ∧ τ 6 = .bool false) ⟨up rfl hs0, up rfl hs1, up rfl hs2, tp⟩ ?_
  rintro τ ⟨hs0, hs1, hs2, hs6⟩
  refine CW.seq ?_
  refine CW.region ?_
  refine RW.hard Wd.a ?_
  refine H.call0 Try.func31 nm31 rfl map0 (Calls.mono (shown18 hst) ?_)
  rintro _ w ⟨rfl, hst⟩
  refine ⟨_, rfl, ?_⟩
  show RW _ _ _ _ _ _ _
  refine RW.soft Wd.a (v := .bool true) (by exact E.assign (AF_ev rfl tp)) ?_
  refine RW.fin (fun τ => τ 0 = .int .i64 bits ∧ τ 1 = .slice Y ys.length d ∧ τ 2 = .slice T ts.length f ∧ τ 6 = .bool false ∧ τ 7 = .bool true) ⟨up rfl (up rfl hs0), up rfl (up rfl hs1), up rfl (up rfl hs2), up rfl (up rfl hs6), tp⟩ ?_
  rintro τ ⟨hs0, hs1, hs2, hs6, hs7⟩
  refine CW.seq ?_
  refine CW.region ?_
  refine RW.soft Wd.a (v := .int .i64 bits) (by exact E.move (AF_ev rfl hs0)) ?_
  refine RW.hard Wd.a ?_
  refine H.call0 Try.func40 nm40 rfl (map1 (AF_ev rfl tp)) (Calls.mono (q_made bits hst) ?_)
  rintro _ w ⟨vX1, rfl, hst⟩
  obtain ⟨X1, c2, heX1, hcX1, hmX1, hlX1, hbX1⟩ := hst.shape
  subst heX1
  obtain ⟨p, hleX1, hLX1, hst⟩ := keepI rfl hst
  replace hY := LI.le hY hleX1
  replace hT := LI.le hT hleX1
  have hm7X1 := made_le bits
  have hmpX1 := made_pos bits
  refine ⟨_, rfl, ?_⟩
  show RW _ _ _ _ _ _ _
  refine RW.soft Wd.a (v := .slice X1 ((madeR bits).length) c2) (by exact E.assign (AF_ev rfl tp)) ?_
  refine RW.fin (fun τ => τ 0 = .int .i64 bits ∧ τ 1 = .slice Y ys.length d ∧ τ 2 = .slice T ts.length f ∧ τ 6 = .bool false ∧ τ 7 = .bool true ∧ τ 8 = .slice X1 ((madeR bits).length) c2) ⟨up rfl (up rfl (up rfl hs0)), up rfl (up rfl (up rfl hs1)), up rfl (up rfl (up rfl hs2)), up rfl (up rfl (up rfl hs6)), up rfl (up rfl (up rfl hs7)), tp⟩ ?_
  rintro τ ⟨hs0, hs1, hs2, hs6, hs7, hs8⟩
  refine CW.seq ?_
  refine CW.region ?_
  refine RW.soft Wd.a (v := .bool true) (by exact E.move (AF_ev rfl hs7)) ?_
  refine RW.soft Wd.a (v := .bool true) (by exact E.move (AF_ev rfl tp)) ?_
  refine RW.soft (by exact Wd.yes (x := 13) rfl (AF_ev rfl tp)) (v := .slice X1 ((madeR bits).length) c2) (by exact E.move (AF_ev rfl (up rfl (up rfl hs8)))) ?_
  refine RW.soft (by exact Wd.yes (x := 13) rfl (AF_ev rfl (up rfl tp))) (v := .slice Y ys.length d) (by exact E.move (AF_ev rfl (up rfl (up rfl (up rfl hs1))))) ?_
  refine RW.hard (by exact Wd.yes (x := 13) rfl (AF_ev rfl (up rfl (up rfl tp)))) ?_
  refine H.call0 Try.func32 nm32 rfl (map1 (AF_ev rfl tp)) (Calls.mono (q_fewL hY hy hst) ?_)
  rintro _ w ⟨X3, nX3, c4, rfl, hnX3, hLX3, hst⟩
  subst hnX3
  have htX3 := take_le ys
  refine ⟨_, rfl, ?_⟩
  show RW _ _ _ _ _ _ _
  have hst := hst.emp
  have hst := hst.emp
  refine RW.hard (by exact Wd.yes (x := 13) rfl (AF_ev rfl (up rfl (up rfl (up rfl tp))))) ?_
  refine H.call0 Try.func41 nm41 rfl (map2 (AF_ev rfl (up rfl (up rfl tp))) (AF_ev rfl tp)) (Calls.mono (q_Most (zs := (madeR bits)) (ys := (ys.take 30)) hLX1.tells (Nat.le_trans (made_le _) (by decide)) hLX3.tells (Nat.le_trans (take_le _) (by decide)) (made_pos _) hst) ?_)
  rintro _ w ⟨rfl, hst⟩
  have hst := (hst.take (.there .here)).drop
  have hst := hst.drop
  refine ⟨_, rfl, ?_⟩
  show RW _ _ _ _ _ _ _
  refine RW.soft (by exact Wd.yes (x := 13) rfl (AF_ev rfl (up rfl (up rfl (up rfl (up rfl tp)))))) (v := .slice X1 ((madeR bits).length) c2) (by exact E.move (AF_ev rfl (up rfl (up rfl (up rfl (up rfl (up rfl (up rfl hs8)))))))) ?_
  refine RW.soft (by exact Wd.yes (x := 13) rfl (AF_ev rfl (up rfl (up rfl (up rfl (up rfl (up rfl tp))))))) (v := .slice Y ys.length d) (by exact E.move (AF_ev rfl (up rfl (up rfl (up rfl (up rfl (up rfl (up rfl (up rfl hs1))))))))) ?_
  refine RW.hard (by exact Wd.yes (x := 13) rfl (AF_ev rfl (up rfl (up rfl (up rfl (up rfl (up rfl (up rfl tp)))))))) ?_
  refine H.call0 Try.func32 nm32 rfl (map1 (AF_ev rfl tp)) (Calls.mono (q_fewL hY hy hst) ?_)
  rintro _ w ⟨X5, nX5, c6, rfl, hnX5, hLX5, hst⟩
  subst hnX5
  have htX5 := take_le ys
  refine ⟨_, rfl, ?_⟩
  show RW _ _ _ _ _ _ _
  have hst := hst.emp
  have hst := hst.emp
  refine RW.hard (by exact Wd.yes (x := 13) rfl (AF_ev rfl (up rfl (up rfl (up rfl (up rfl (up rfl (up rfl (up rfl tp))))))))) ?_
  refine H.call0 Try.func42 nm42 rfl (map2 (AF_ev rfl (up rfl (up rfl tp))) (AF_ev rfl tp)) (Calls.mono (r_Most (zs := (madeR bits)) (ys := (ys.take 30)) hLX1.tells (Nat.le_trans (made_le _) (by decide)) hLX5.tells (Nat.le_trans (take_le _) (by decide)) hst) ?_)
  rintro _ w ⟨rfl, hst⟩
  have hst := (hst.take (.there .here)).drop
  have hst := hst.drop
  refine ⟨_, rfl, ?_⟩
  show RW _ _ _ _ _ _ _
  refine RW.soft (by exact Wd.yes (x := 13) rfl (AF_ev rfl (up rfl (up rfl (up rfl (up rfl (up rfl (up rfl (up rfl (up rfl tp)))))))))) (v := .bool true) (by exact E.b (a := (decide (((cntOf (madeR bits) (ys.take 30) : Nat) : Int) > (((madeR bits).length : Nat) : Int) / 2)) == (decide (2 * ((cntOf (madeR bits) (ys.take 30) : Nat) : Int) > (((madeR bits).length : Nat) : Int)))) (E.eqlB (a := decide (((cntOf (madeR bits) (ys.take 30) : Nat) : Int) > (((madeR bits).length : Nat) : Int) / 2)) (b := decide (2 * ((cntOf (madeR bits) (ys.take 30) : Nat) : Int) > (((madeR bits).length : Nat) : Int))) Try.underlying4 (AF_ev rfl (up rfl (up rfl (up rfl (up rfl tp))))) (AF_ev rfl tp)) (most_same _ _)) ?_
  refine RW.soft Wd.a (v := .bool true) (by exact E.pickT (AF_ev rfl (up rfl (up rfl (up rfl (up rfl (up rfl (up rfl (up rfl (up rfl (up rfl tp)))))))))) (AF_ev rfl tp)) ?_
  refine RW.soft Wd.a (v := .bool true) (by exact E.move (AF_ev rfl tp)) ?_
  refine RW.soft (by exact Wd.yes (x := 24) rfl (AF_ev rfl tp)) (v := .slice X1 ((madeR bits).length) c2) (by exact E.move (AF_ev rfl (up rfl (up rfl (up rfl (up rfl (up rfl (up rfl (up rfl (up rfl (up rfl (up rfl (up rfl (up rfl (up rfl hs8))))))))))))))) ?_
  refine RW.soft (by exact Wd.yes (x := 24) rfl (AF_ev rfl (up rfl tp))) (v := .slice T ts.length f) (by exact E.move (AF_ev rfl (up rfl (up rfl (up rfl (up rfl (up rfl (up rfl (up rfl (up rfl (up rfl (up rfl (up rfl (up rfl (up rfl (up rfl hs2)))))))))))))))) ?_
  refine RW.hard (by exact Wd.yes (x := 24) rfl (AF_ev rfl (up rfl (up rfl tp)))) ?_
  refine H.call0 Try.func32 nm32 rfl (map1 (AF_ev rfl tp)) (Calls.mono (q_fewL hT ht hst) ?_)
  rintro _ w ⟨X7, nX7, c8, rfl, hnX7, hLX7, hst⟩
  subst hnX7
  have htX7 := take_le ts
  refine ⟨_, rfl, ?_⟩
  show RW _ _ _ _ _ _ _
  have hst := hst.emp
  have hst := hst.emp
  refine RW.hard (by exact Wd.yes (x := 24) rfl (AF_ev rfl (up rfl (up rfl (up rfl tp))))) ?_
  refine H.call0 Try.func43 nm43 rfl (map2 (AF_ev rfl (up rfl (up rfl tp))) (AF_ev rfl tp)) (Calls.mono (q_Agreed (zs := (madeR bits)) (ys := (ts.take 30)) hLX1.tells (Nat.le_trans (made_le _) (by decide)) hLX7.tells (Nat.le_trans (take_le _) (by decide)) (made_pos _) (Nat.le_trans (made_le _) (by decide)) (fun n hn => by have := made_mem hn; omega) (Fit.take hf 30) hst) ?_)
  rintro _ w ⟨rfl, hst⟩
  have hst := (hst.take (.there .here)).drop
  have hst := hst.drop
  refine ⟨_, rfl, ?_⟩
  show RW _ _ _ _ _ _ _
  refine RW.soft (by exact Wd.yes (x := 24) rfl (AF_ev rfl (up rfl (up rfl (up rfl (up rfl tp)))))) (v := .slice X1 ((madeR bits).length) c2) (by exact E.move (AF_ev rfl (up rfl (up rfl (up rfl (up rfl (up rfl (up rfl (up rfl (up rfl (up rfl (up rfl (up rfl (up rfl (up rfl (up rfl (up rfl (up rfl (up rfl hs8))))))))))))))))))) ?_
  refine RW.soft (by exact Wd.yes (x := 24) rfl (AF_ev rfl (up rfl (up rfl (up rfl (up rfl (up rfl tp))))))) (v := .slice T ts.length f) (by exact E.move (AF_ev rfl (up rfl (up rfl (up rfl (up rfl (up rfl (up rfl (up rfl (up rfl (up rfl (up rfl (up rfl (up rfl (up rfl (up rfl (up rfl (up rfl (up rfl (up rfl hs2)))))))))))))))))))) ?_
  refine RW.hard (by exact Wd.yes (x := 24) rfl (AF_ev rfl (up rfl (up rfl (up rfl (up rfl (up rfl (up rfl tp)))))))) ?_
  refine H.call0 Try.func32 nm32 rfl (map1 (AF_ev rfl tp)) (Calls.mono (q_fewL hT ht hst) ?_)
  rintro _ w ⟨X9, nX9, c10, rfl, hnX9, hLX9, hst⟩
  subst hnX9
  have htX9 := take_le ts
  refine ⟨_, rfl, ?_⟩
  show RW _ _ _ _ _ _ _
  have hst := hst.emp
  have hst := hst.emp
  refine RW.hard (by exact Wd.yes (x := 24) rfl (AF_ev rfl (up rfl (up rfl (up rfl (up rfl (up rfl (up rfl (up rfl tp))))))))) ?_
  refine H.call0 Try.func44 nm44 rfl (map2 (AF_ev rfl (up rfl (up rfl tp))) (AF_ev rfl tp)) (Calls.mono (r_Agreed (zs := (madeR bits)) (ys := (ts.take 30)) hLX1.tells (Nat.le_trans (made_le _) (by decide)) hLX9.tells (Nat.le_trans (take_le _) (by decide)) hst) ?_)
  rintro _ w ⟨rfl, hst⟩
  have hst := (hst.take (.there .here)).drop
  have hst := hst.drop
  refine ⟨_, rfl, ?_⟩
  show RW _ _ _ _ _ _ _
  refine RW.soft (by exact Wd.yes (x := 24) rfl (AF_ev rfl (up rfl (up rfl (up rfl (up rfl (up rfl (up rfl (up rfl (up rfl tp)))))))))) (v := .bool true) (by exact E.b (a := (bestOf (madeR bits) (ts.take 30) (madeR bits)) == (bestOf (madeR bits) (ts.take 30) (madeR bits))) (E.eql (k := .i64) (a := bestOf (madeR bits) (ts.take 30) (madeR bits)) (b := bestOf (madeR bits) (ts.take 30) (madeR bits)) (AF_ev rfl (up rfl (up rfl (up rfl (up rfl tp))))) (AF_ev rfl tp)) (by simp)) ?_
  refine RW.soft Wd.a (v := .bool true) (by exact E.pickT (AF_ev rfl (up rfl (up rfl (up rfl (up rfl (up rfl (up rfl (up rfl (up rfl (up rfl tp)))))))))) (AF_ev rfl tp)) ?_
  refine RW.soft Wd.a (v := .bool true) (by exact E.assign (AF_ev rfl tp)) ?_
  refine RW.fin (fun τ => τ 0 = .int .i64 bits ∧ τ 1 = .slice Y ys.length d ∧ τ 2 = .slice T ts.length f ∧ τ 6 = .bool true ∧ τ 7 = .bool true ∧ τ 8 = .slice X1 ((madeR bits).length) c2) ⟨up rfl (up rfl (up rfl (up rfl (up rfl (up rfl (up rfl (up rfl (up rfl (up rfl (up rfl (up rfl (up rfl (up rfl (up rfl (up rfl (up rfl (up rfl (up rfl (up rfl (up rfl (up rfl (up rfl (up rfl hs0))))))))))))))))))))))), up rfl (up rfl (up rfl (up rfl (up rfl (up rfl (up rfl (up rfl (up rfl (up rfl (up rfl (up rfl (up rfl (up rfl (up rfl (up rfl (up rfl (up rfl (up rfl (up rfl (up rfl (up rfl (up rfl (up rfl hs1))))))))))))))))))))))), up rfl (up rfl (up rfl (up rfl (up rfl (up rfl (up rfl (up rfl (up rfl (up rfl (up rfl (up rfl (up rfl (up rfl (up rfl (up rfl (up rfl (up rfl (up rfl (up rfl (up rfl (up rfl (up rfl (up rfl hs2))))))))))))))))))))))), tp, up rfl (up rfl (up rfl (up rfl (up rfl (up rfl (up rfl (up rfl (up rfl (up rfl (up rfl (up rfl (up rfl (up rfl (up rfl (up rfl (up rfl (up rfl (up rfl (up rfl (up rfl (up rfl (up rfl (up rfl hs7))))))))))))))))))))))), up rfl (up rfl (up rfl (up rfl (up rfl (up rfl (up rfl (up rfl (up rfl (up rfl (up rfl (up rfl (up rfl (up rfl (up rfl (up rfl (up rfl (up rfl (up rfl (up rfl (up rfl (up rfl (up rfl (up rfl hs8)))))))))))))))))))))))⟩ ?_
  rintro τ ⟨hs0, hs1, hs2, hs6, hs7, hs8⟩
  refine CW.ret ?_
  refine ret1 (v := .bool true) rfl (by exact (.tmp (AF_ev rfl hs6) .nil)) ?_
  
  exact ⟨p, hleX1, rfl, hst⟩
end Go.Proofs.Ytjagffnbobnofaa
