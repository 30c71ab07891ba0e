/- The functions of the package quorum, walked through operation by operation. -/
import Derived.Test.YtjagffnbobnofaaQ9
import Derived.Test.YtjagffnbobnofaaQ10
import Derived.Test.YtjagffnbobnofaaQ8
import Derived.Test.YtjagffnbobnofaaSN
import Derived.Test.YtjagffnbobnofaaQ6
import Derived.Test.YtjagffnbobnofaaQ7
import Derived.Test.YtjagffnbobnofaaQ4
import Derived.Test.YtjagffnbobnofaaQ5
import Derived.Test.YtjagffnbobnofaaQ2
import Derived.Test.YtjagffnbobnofaaQ1
import Derived.Test.YtjagffnbobnofaaQ3
import Derived.Test.YtjagffnbobnofaaQ0
import Derived.Test.YtjagffnbobnofaaSM
namespace Go.Proofs.Ytjagffnbobnofaa
open Go.RowKit Go.SL Go.Q18
attribute [local irreducible] Go.SL.RW Go.SL.CW Go.SL.RD Go.SL.Hd Go.SL.St
set_option linter.unusedVariables false
set_option linter.unusedSimpArgs false

theorem nm36 : (Try.f36.name == "runtime.NumGoroutine") = false := by kernel_rfl
theorem nm52 : (Try.f52.name == "runtime.NumGoroutine") = false := by kernel_rfl
theorem nm54 : (Try.f54.name == "runtime.NumGoroutine") = false := by kernel_rfl
theorem nm55 : (Try.f55.name == "runtime.NumGoroutine") = false := by kernel_rfl

theorem q_Change {p : Pers} {w : World} {R : List Assn} {A : Assn} {X : Option Addr} {c : Nat} {zs : List Int} (hA : TI p A (.slice X zs.length c) zs) (hl : zs.length ≤ 1000000) (id : Int) (hst : St p w (A :: R)) :
    Calls Try.prog 33 #[.slice X zs.length c, .int .i64 id] w fun e w => ∃ v, e = .returned (.tuple #[v, .int .i64 (chgE zs id)]) ∧ St p w (Own 3 1 v (chgR zs id).length ((chgR zs id).flatMap ienc) :: A :: R) := by
  refine enter Try.func33 rfl (by simp) (n := 38) rfl fun τ hτ => ?_
  have hs0 : τ 0 = .slice X zs.length c := hτ 0 (by simp)
  have hs1 : τ 1 = .int .i64 id := hτ 1 (by simp)
  clear hτ
  refine CW.seq ?_
  refine CW.region ?_
  refine RW.soft Wd.a (v := .slice none 0 0) (by exact E.assign rfl) ?_
  refine RW.soft Wd.a (v := .int .i64 0) (by exact E.assign rfl) ?_
  refine RW.fin (fun τ => τ 0 = .slice X zs.length c ∧ τ 1 = .int .i64 id ∧ τ 4 = .slice none 0 0 ∧ τ 5 = .int .i64 0) ⟨up rfl (up rfl hs0), up rfl (up rfl hs1), up rfl tp, tp⟩ ?_
  rintro τ ⟨hs0, hs1, hs4, hs5⟩
  refine CW.seq ?_
  refine CW.seq ?_
  refine CW.region ?_
  refine RW.soft Wd.a (v := .slice X zs.length c) (by exact E.move (AF_ev rfl hs0)) ?_
  refine RW.hard Wd.a ?_
  refine H.call0 Try.func36 nm36 rfl (map1 (AF_ev rfl tp)) (Calls.mono (q_Check hA hl  hst) ?_)
  rintro _ w ⟨rfl, hst⟩
  refine ⟨_, rfl, ?_⟩
  show RW _ _ _ _ _ _ _
  refine RW.soft Wd.a (v := .bool ((checkI zs) != 0)) (by exact E.neq (k := .i64) (a := checkI zs) (b := 0) (AF_ev rfl tp) rfl) ?_
  refine RW.fin (fun τ => τ 0 = .slice X zs.length c ∧ τ 1 = .int .i64 id ∧ τ 4 = .slice none 0 0 ∧ τ 5 = .int .i64 0 ∧ τ 12 = .bool ((checkI zs) != 0)) ⟨up rfl (up rfl (up rfl hs0)), up rfl (up rfl (up rfl hs1)), up rfl (up rfl (up rfl hs4)), up rfl (up rfl (up rfl hs5)), tp⟩ ?_
  rintro τ ⟨hs0, hs1, hs4, hs5, hs12⟩
  refine CW.cond (AF_ev rfl hs12) (fun hc1 => ?_) (fun hc1 => ?_)
  · have hc1_ := hc1
    try simp only [decide_eq_true_eq, decide_eq_false_iff_not, Bool.and_eq_true, Bool.or_eq_true, Bool.and_eq_false_iff, Bool.or_eq_false_iff, Bool.not_eq_true', Bool.not_eq_false', beq_iff_eq, beq_eq_false_iff_ne, bne_iff_ne, bne_eq_false_iff_eq, ne_eq, Int.not_lt, Int.not_le, gt_iff_lt, ge_iff_le] at hc1_
    refine CW.seq ?_
    refine CW.region ?_
    refine RW.soft Wd.a (v := .slice none 0 0) (by exact E.assign rfl) ?_
    refine RW.soft Wd.a (v := .int .i64 192) (by exact E.assign rfl) ?_
    refine RW.fin (fun τ => τ 0 = .slice X zs.length c ∧ τ 1 = .int .i64 id ∧ τ 4 = .slice none 0 0 ∧ τ 5 = .int .i64 192 ∧ τ 12 = .bool true) ⟨up rfl (up rfl hs0), up rfl (up rfl hs1), up rfl tp, tp, up rfl (up rfl (Eq.trans hs12 (congrArg Value.bool hc1)))⟩ ?_
    rintro τ ⟨hs0, hs1, hs4, hs5, hs12⟩
    refine CW.ret ?_
    refine Th.r ?_
    refine retN (rs := [.tmp 4, .tmp 5]) (vs := [.slice none 0 0, .int .i64 192]) rfl (by exact (.tmp (AF_ev rfl hs4) (.tmp (AF_ev rfl hs5) .nil))) (by simp) ?_
    
    have hno : ¬ (checkI zs = 0 ∧ (upL (chgF zs id) 7).length ≠ 0 ∧ 1 ≤ id ∧ id ≤ 7) := fun h => hc1_ h.1
    exact ⟨_, by unfold chgE; rw [if_neg hno], by unfold chgR; rw [if_neg hno]; exact hst.ownNil none⟩
  · have hc1_ := hc1
    try simp only [decide_eq_true_eq, decide_eq_false_iff_not, Bool.and_eq_true, Bool.or_eq_true, Bool.and_eq_false_iff, Bool.or_eq_false_iff, Bool.not_eq_true', Bool.not_eq_false', beq_iff_eq, beq_eq_false_iff_ne, bne_iff_ne, bne_eq_false_iff_eq, ne_eq, Int.not_lt, Int.not_le, gt_iff_lt, ge_iff_le] at hc1_
    have hok : checkI zs = 0 := by simpa using hc1
    have hs := ok_rises (check_ok hok).1
    have hz0 : 0 < zs.length := List.length_pos_iff.2 (check_ok hok).2
    have hl7 : zs.length ≤ 7 := by have := okFrom_len (check_ok hok).1 (by omega); omega
    refine CW.skip ?_
    refine Th.n ?_
    refine CW.seq ?_
    refine CW.region ?_
    refine RW.soft Wd.a (v := .slice X zs.length c) (by exact E.move (AF_ev rfl hs0)) ?_
    refine RW.soft Wd.a (v := .int .i64 id) (by exact E.move (AF_ev rfl (up rfl hs1))) ?_
    refine RW.hard Wd.a ?_
    refine H.call0 Try.func52 nm52 rfl (map2 (AF_ev rfl (up rfl tp)) (AF_ev rfl tp)) (Calls.mono (q_Search hA hl hs id hst) ?_)
    rintro _ w ⟨i, rfl, hLB, hst⟩
    refine ⟨_, rfl, ?_⟩
    show RW _ _ _ _ _ _ _
    refine RW.soft Wd.a (v := .tuple #[.int .i64 ((i : Nat) : Int), .bool (zs.contains id)]) (by exact E.move (AF_ev rfl tp)) ?_
    refine RW.soft Wd.a (v := .int .i64 ((i : Nat) : Int)) (by exact E.extract (vs := #[.int .i64 ((i : Nat) : Int), .bool (zs.contains id)]) (AF_ev rfl tp) rfl) ?_
    refine RW.soft Wd.a (v := .bool (zs.contains id)) (by exact E.extract (vs := #[.int .i64 ((i : Nat) : Int), .bool (zs.contains id)]) (AF_ev rfl (up rfl tp)) rfl) ?_
    refine RW.soft Wd.a (v := .int .i64 ((i : Nat) : Int)) (by exact E.assign (AF_ev rfl (up rfl tp))) ?_
    refine RW.soft Wd.a (v := .bool (zs.contains id)) (by exact E.assign (AF_ev rfl (up rfl tp))) ?_
    refine RW.fin (fun τ => τ 0 = .slice X zs.length c ∧ τ 1 = .int .i64 id ∧ τ 4 = .slice none 0 0 ∧ τ 5 = .int .i64 0 ∧ τ 6 = .int .i64 ((i : Nat) : Int) ∧ τ 7 = .bool (zs.contains id) ∧ τ 12 = .bool false) ⟨up rfl (up rfl (up rfl (up rfl (up rfl (up rfl (up rfl (up rfl hs0))))))), up rfl (up rfl (up rfl (up rfl (up rfl (up rfl (up rfl (up rfl hs1))))))), up rfl (up rfl (up rfl (up rfl (up rfl (up rfl (up rfl (up rfl hs4))))))), up rfl (up rfl (up rfl (up rfl (up rfl (up rfl (up rfl (up rfl hs5))))))), up rfl tp, tp, up rfl (up rfl (up rfl (up rfl (up rfl (up rfl (up rfl (up rfl (Eq.trans hs12 (congrArg Value.bool hc1)))))))))⟩ ?_
    rintro τ ⟨hs0, hs1, hs4, hs5, hs6, hs7, hs12⟩
    refine CW.seq ?_
    refine CW.region ?_
    refine RW.soft Wd.a (v := .slice X zs.length c) (by exact E.move (AF_ev rfl hs0)) ?_
    refine RW.hard Wd.a ?_
    refine H.call0 Try.func53 nm53 rfl (map1 (AF_ev rfl tp)) (Calls.mono (clone_ints hA (ienc_ones _) (by omega) hst) ?_)
    rintro _ w ⟨vX2, rfl, hnX2, hst⟩
    obtain ⟨X2, c3, rfl, hcX2, hmX2, hlX2, hbX2⟩ := hst.shape
    refine ⟨_, rfl, ?_⟩
    show RW _ _ _ _ _ _ _
    refine RW.soft Wd.a (v := .slice X2 zs.length c3) (by exact E.assign (AF_ev rfl tp)) ?_
    refine RW.fin (fun τ => τ 0 = .slice X zs.length c ∧ τ 1 = .int .i64 id ∧ τ 4 = .slice none 0 0 ∧ τ 5 = .int .i64 0 ∧ τ 6 = .int .i64 ((i : Nat) : Int) ∧ τ 7 = .bool (zs.contains id) ∧ τ 8 = .slice X2 zs.length c3 ∧ τ 12 = .bool false) ⟨up rfl (up rfl (up rfl hs0)), up rfl (up rfl (up rfl hs1)), up rfl (up rfl (up rfl hs4)), up rfl (up rfl (up rfl hs5)), up rfl (up rfl (up rfl hs6)), up rfl (up rfl (up rfl hs7)), tp, up rfl (up rfl (up rfl hs12))⟩ ?_
    rintro τ ⟨hs0, hs1, hs4, hs5, hs6, hs7, hs8, hs12⟩
    refine CW.seq ?_
    refine CW.seq ?_
    refine CW.region ?_
    refine RW.soft Wd.a (v := .bool (zs.contains id)) (by exact E.move (AF_ev rfl hs7)) ?_
    refine RW.fin (fun τ => τ 0 = .slice X zs.length c ∧ τ 1 = .int .i64 id ∧ τ 4 = .slice none 0 0 ∧ τ 5 = .int .i64 0 ∧ τ 6 = .int .i64 ((i : Nat) : Int) ∧ τ 7 = .bool (zs.contains id) ∧ τ 8 = .slice X2 zs.length c3 ∧ τ 12 = .bool false ∧ τ 21 = .bool (zs.contains id)) ⟨up rfl hs0, up rfl hs1, up rfl hs4, up rfl hs5, up rfl hs6, up rfl hs7, up rfl hs8, up rfl hs12, tp⟩ ?_
    rintro τ ⟨hs0, hs1, hs4, hs5, hs6, hs7, hs8, hs12, hs21⟩
    refine CW.cond (AF_ev rfl hs21) (fun hc4 => ?_) (fun hc4 => ?_)
    · have hc4_ := hc4
      try simp only [decide_eq_true_eq, decide_eq_false_iff_not, Bool.and_eq_true, Bool.or_eq_true, Bool.and_eq_false_iff, Bool.or_eq_false_iff, Bool.not_eq_true', Bool.not_eq_false', beq_iff_eq, beq_eq_false_iff_ne, bne_iff_ne, bne_eq_false_iff_eq, ne_eq, Int.not_lt, Int.not_le, gt_iff_lt, ge_iff_le] at hc4_
      have hat := low_at hs hLB hc4
      have hilt := (List.getElem?_eq_some_iff.1 hat).1
      obtain ⟨g, hg⟩ := hbX2 hz0
      subst hg
      refine CW.region ?_
      refine RW.soft Wd.a (v := .slice (some ⟨g, 0, none⟩) zs.length c3) (by exact E.move (AF_ev rfl hs8)) ?_
      refine RW.soft Wd.a (v := .int .i64 ((i : Nat) : Int)) (by exact E.move (AF_ev rfl (up rfl hs6))) ?_
      refine RW.soft Wd.a (v := .int .i64 ((i : Nat) : Int)) (by exact E.move (AF_ev rfl (up rfl (up rfl hs6)))) ?_
      refine RW.soft Wd.a (v := .int .i64 (((i : Nat) : Int) + 1)) (by exact E.add (k := .i64) (a := ((i : Nat) : Int)) (b := 1) (AF_ev rfl tp) rfl (show IntKind.i64.wrap (((i : Nat) : Int) + 1) = ((i : Nat) : Int) + 1 from (by rw [IntWalk.i64_in _ (by omega)]))) ?_
      refine RW.hard Wd.a ?_
      refine H.call0 Try.func54 nm54 rfl (map3 (AF_ev rfl (up rfl (up rfl (up rfl tp)))) (AF_ev rfl (up rfl (up rfl tp))) (AF_ev rfl tp)) (Calls.mono (q_Delete (by omega) hcX2 hmX2 hilt hst) ?_)
      rintro _ w ⟨n2, rfl, hn2, hst⟩
      have hol := putOut_len hilt
      obtain rfl : n2 = (putOut zs i).length := by omega
      refine ⟨_, rfl, ?_⟩
      show RW _ _ _ _ _ _ _
      refine RW.soft Wd.a (v := .slice (some ⟨g, 0, none⟩) ((putOut zs i).length) c3) (by exact E.assign (AF_ev rfl tp)) ?_
      refine RW.fin (fun τ => τ 0 = .slice X zs.length c ∧ τ 1 = .int .i64 id ∧ τ 4 = .slice none 0 0 ∧ τ 5 = .int .i64 0 ∧ τ 6 = .int .i64 ((i : Nat) : Int) ∧ τ 7 = .bool true ∧ τ 8 = .slice (some ⟨g, 0, none⟩) ((putOut zs i).length) c3 ∧ τ 12 = .bool false ∧ τ 21 = .bool true) ⟨up rfl (up rfl (up rfl (up rfl (up rfl (up rfl hs0))))), up rfl (up rfl (up rfl (up rfl (up rfl (up rfl hs1))))), up rfl (up rfl (up rfl (up rfl (up rfl (up rfl hs4))))), up rfl (up rfl (up rfl (up rfl (up rfl (up rfl hs5))))), up rfl (up rfl (up rfl (up rfl (up rfl (up rfl hs6))))), up rfl (up rfl (up rfl (up rfl (up rfl (up rfl (Eq.trans hs7 (congrArg Value.bool hc4))))))), tp, up rfl (up rfl (up rfl (up rfl (up rfl (up rfl hs12))))), up rfl (up rfl (up rfl (up rfl (up rfl (up rfl (Eq.trans hs21 (congrArg Value.bool hc4)))))))⟩ ?_
      rintro τ ⟨hs0, hs1, hs4, hs5, hs6, hs7, hs8, hs12, hs21⟩
      refine CW.seq ?_
      refine CW.seq ?_
      refine CW.region ?_
      refine RW.soft Wd.a (v := .slice (some ⟨g, 0, none⟩) ((putOut zs i).length) c3) (by exact E.move (AF_ev rfl hs8)) ?_
      refine RW.hard Wd.a ?_
      refine H.call0 Try.func36 nm36 rfl (map1 (AF_ev rfl tp)) (Calls.mono (q_Check (own_TI (by first | rfl | omega | simp)) (by first | omega | decide)  hst) ?_)
      rintro _ w ⟨rfl, hst⟩
      refine ⟨_, rfl, ?_⟩
      show RW _ _ _ _ _ _ _
      refine RW.soft Wd.a (v := .int .i64 (checkI (putOut zs i))) (by exact E.assign (AF_ev rfl tp)) ?_
      refine RW.fin (fun τ => τ 0 = .slice X zs.length c ∧ τ 1 = .int .i64 id ∧ τ 4 = .slice none 0 0 ∧ τ 5 = .int .i64 0 ∧ τ 6 = .int .i64 ((i : Nat) : Int) ∧ τ 7 = .bool true ∧ τ 8 = .slice (some ⟨g, 0, none⟩) ((putOut zs i).length) c3 ∧ τ 9 = .int .i64 (checkI (putOut zs i)) ∧ τ 12 = .bool false ∧ τ 21 = .bool true) ⟨up rfl (up rfl (up rfl hs0)), up rfl (up rfl (up rfl hs1)), up rfl (up rfl (up rfl hs4)), up rfl (up rfl (up rfl hs5)), up rfl (up rfl (up rfl hs6)), up rfl (up rfl (up rfl hs7)), up rfl (up rfl (up rfl hs8)), tp, up rfl (up rfl (up rfl hs12)), up rfl (up rfl (up rfl hs21))⟩ ?_
      rintro τ ⟨hs0, hs1, hs4, hs5, hs6, hs7, hs8, hs9, hs12, hs21⟩
      refine CW.seq ?_
      refine CW.region ?_
      refine RW.soft Wd.a (v := .int .i64 (checkI (putOut zs i))) (by exact E.move (AF_ev rfl hs9)) ?_
      refine RW.soft Wd.a (v := .bool ((checkI (putOut zs i)) != 0)) (by exact E.neq (k := .i64) (a := checkI (putOut zs i)) (b := 0) (AF_ev rfl tp) rfl) ?_
      refine RW.fin (fun τ => τ 0 = .slice X zs.length c ∧ τ 1 = .int .i64 id ∧ τ 4 = .slice none 0 0 ∧ τ 5 = .int .i64 0 ∧ τ 6 = .int .i64 ((i : Nat) : Int) ∧ τ 7 = .bool true ∧ τ 8 = .slice (some ⟨g, 0, none⟩) ((putOut zs i).length) c3 ∧ τ 9 = .int .i64 (checkI (putOut zs i)) ∧ τ 12 = .bool false ∧ τ 21 = .bool true ∧ τ 35 = .bool ((checkI (putOut zs i)) != 0)) ⟨up rfl (up rfl hs0), up rfl (up rfl hs1), up rfl (up rfl hs4), up rfl (up rfl hs5), up rfl (up rfl hs6), up rfl (up rfl hs7), up rfl (up rfl hs8), up rfl (up rfl hs9), up rfl (up rfl hs12), up rfl (up rfl hs21), tp⟩ ?_
      rintro τ ⟨hs0, hs1, hs4, hs5, hs6, hs7, hs8, hs9, hs12, hs21, hs35⟩
      refine CW.cond (AF_ev rfl hs35) (fun hc5 => ?_) (fun hc5 => ?_)
      · have hc5_ := hc5
        try simp only [decide_eq_true_eq, decide_eq_false_iff_not, Bool.and_eq_true, Bool.or_eq_true, Bool.and_eq_false_iff, Bool.or_eq_false_iff, Bool.not_eq_true', Bool.not_eq_false', beq_iff_eq, beq_eq_false_iff_ne, bne_iff_ne, bne_eq_false_iff_eq, ne_eq, Int.not_lt, Int.not_le, gt_iff_lt, ge_iff_le] at hc5_
        refine CW.seq ?_
        refine CW.region ?_
        refine RW.soft Wd.a (v := .int .i64 (checkI (putOut zs i))) (by exact E.move (AF_ev rfl hs9)) ?_
        refine RW.soft Wd.a (v := .slice none 0 0) (by exact E.assign rfl) ?_
        refine RW.soft Wd.a (v := .int .i64 (checkI (putOut zs i))) (by exact E.assign (AF_ev rfl (up rfl tp))) ?_
        refine RW.fin (fun τ => τ 0 = .slice X zs.length c ∧ τ 1 = .int .i64 id ∧ τ 4 = .slice none 0 0 ∧ τ 5 = .int .i64 (checkI (putOut zs i)) ∧ τ 6 = .int .i64 ((i : Nat) : Int) ∧ τ 7 = .bool true ∧ τ 8 = .slice (some ⟨g, 0, none⟩) ((putOut zs i).length) c3 ∧ τ 9 = .int .i64 (checkI (putOut zs i)) ∧ τ 12 = .bool false ∧ τ 21 = .bool true ∧ τ 35 = .bool true) ⟨up rfl (up rfl (up rfl hs0)), up rfl (up rfl (up rfl hs1)), up rfl tp, tp, up rfl (up rfl (up rfl hs6)), up rfl (up rfl (up rfl hs7)), up rfl (up rfl (up rfl hs8)), up rfl (up rfl (up rfl hs9)), up rfl (up rfl (up rfl hs12)), up rfl (up rfl (up rfl hs21)), up rfl (up rfl (up rfl (Eq.trans hs35 (congrArg Value.bool hc5))))⟩ ?_
        rintro τ ⟨hs0, hs1, hs4, hs5, hs6, hs7, hs8, hs9, hs12, hs21, hs35⟩
        refine CW.ret ?_
        refine Th.r ?_
        refine retN (rs := [.tmp 4, .tmp 5]) (vs := [.slice none 0 0, .int .i64 (checkI (putOut zs i))]) rfl (by exact (.tmp (AF_ev rfl hs4) (.tmp (AF_ev rfl hs5) .nil))) (by simp) ?_
        have hst := hst.take (.there .here)
        have hst := (hst.take (.there .here)).drop
        have hce_ : checkI (putOut zs i) ≠ 0 := by simpa using hc5
        have hno : ¬ (checkI zs = 0 ∧ (upL (chgF zs id) 7).length ≠ 0 ∧ 1 ≤ id ∧ id ≤ 7) := by
          rintro ⟨h1, h2, h3, h4⟩
          exact hce_ ((out_bounds hok hat).2 (by rw [(chg_out hok hat).1] at h2; exact h2))
        exact ⟨_, by unfold chgE; rw [if_neg hno, check_no hce_], by unfold chgR; rw [if_neg hno]; exact hst.ownNil none⟩
      · have hc5_ := hc5
        try simp only [decide_eq_true_eq, decide_eq_false_iff_not, Bool.and_eq_true, Bool.or_eq_true, Bool.and_eq_false_iff, Bool.or_eq_false_iff, Bool.not_eq_true', Bool.not_eq_false', beq_iff_eq, beq_eq_false_iff_ne, bne_iff_ne, bne_eq_false_iff_eq, ne_eq, Int.not_lt, Int.not_le, gt_iff_lt, ge_iff_le] at hc5_
        refine CW.skip ?_
        refine Th.n ?_
        refine CW.seq ?_
        refine CW.region ?_
        refine RW.soft Wd.a (v := .slice (some ⟨g, 0, none⟩) ((putOut zs i).length) c3) (by exact E.move (AF_ev rfl hs8)) ?_
        refine RW.soft Wd.a (v := .slice (some ⟨g, 0, none⟩) ((putOut zs i).length) c3) (by exact E.assign (AF_ev rfl tp)) ?_
        refine RW.soft Wd.a (v := .int .i64 0) (by exact E.assign rfl) ?_
        refine RW.fin (fun τ => τ 0 = .slice X zs.length c ∧ τ 1 = .int .i64 id ∧ τ 4 = .slice (some ⟨g, 0, none⟩) ((putOut zs i).length) c3 ∧ τ 5 = .int .i64 0 ∧ τ 6 = .int .i64 ((i : Nat) : Int) ∧ τ 7 = .bool true ∧ τ 8 = .slice (some ⟨g, 0, none⟩) ((putOut zs i).length) c3 ∧ τ 9 = .int .i64 (checkI (putOut zs i)) ∧ τ 12 = .bool false ∧ τ 21 = .bool true ∧ τ 35 = .bool false) ⟨up rfl (up rfl (up rfl hs0)), up rfl (up rfl (up rfl hs1)), up rfl tp, tp, up rfl (up rfl (up rfl hs6)), up rfl (up rfl (up rfl hs7)), up rfl (up rfl (up rfl hs8)), up rfl (up rfl (up rfl hs9)), up rfl (up rfl (up rfl hs12)), up rfl (up rfl (up rfl hs21)), up rfl (up rfl (up rfl (Eq.trans hs35 (congrArg Value.bool hc5))))⟩ ?_
        rintro τ ⟨hs0, hs1, hs4, hs5, hs6, hs7, hs8, hs9, hs12, hs21, hs35⟩
        refine CW.ret ?_
        refine retN (rs := [.tmp 4, .tmp 5]) (vs := [.slice (some ⟨g, 0, none⟩) ((putOut zs i).length) c3, .int .i64 0]) rfl (by exact (.tmp (AF_ev rfl hs4) (.tmp (AF_ev rfl hs5) .nil))) (by simp) ?_
        have hst := hst.take (.there .here)
        have hst := hst.take (.there .here)
        have hce_ : checkI (putOut zs i) = 0 := by simpa using hc5
        have hL := chg_out hok hat
        have hyes : checkI zs = 0 ∧ (upL (chgF zs id) 7).length ≠ 0 ∧ 1 ≤ id ∧ id ≤ 7 := ⟨hok, by rw [hL.1]; exact (out_bounds hok hat).1 hce_, hL.2⟩
        exact ⟨_, by unfold chgE; rw [if_pos hyes], by unfold chgR; rw [if_pos hyes, hL.1]; exact hst⟩
    · have hc4_ := hc4
      try simp only [decide_eq_true_eq, decide_eq_false_iff_not, Bool.and_eq_true, Bool.or_eq_true, Bool.and_eq_false_iff, Bool.or_eq_false_iff, Bool.not_eq_true', Bool.not_eq_false', beq_iff_eq, beq_eq_false_iff_ne, bne_iff_ne, bne_eq_false_iff_eq, ne_eq, Int.not_lt, Int.not_le, gt_iff_lt, ge_iff_le] at hc4_
      have hnot : zs.contains id = false := hc4
      have hile := hLB.le
      obtain ⟨g, hg⟩ := hbX2 hz0
      subst hg
      refine CW.region ?_
      refine RW.soft Wd.a (v := .slice (some ⟨g, 0, none⟩) zs.length c3) (by exact E.move (AF_ev rfl hs8)) ?_
      refine RW.soft Wd.a (v := .int .i64 ((i : Nat) : Int)) (by exact E.move (AF_ev rfl (up rfl hs6))) ?_
      refine RW.soft Wd.a (v := .int .i64 id) (by exact E.move (AF_ev rfl (up rfl (up rfl hs1)))) ?_
      refine RW.hard Wd.a ?_
      refine H.buildSlice (e := 3) (cs := #[.int .i64 id]) (vs := #[(0, .int .i64 id)]) (bld1 (AF_ev rfl tp)) (fun _ => by kernel_rfl) hst fun b6 w hst => ?_
      have hst := hst.take (.there .here)
      refine RW.hard Wd.a ?_
      refine H.call0 Try.func55 nm55 rfl (map3 (AF_ev rfl (up rfl (up rfl (up rfl tp)))) (AF_ev rfl (up rfl (up rfl tp))) (AF_ev rfl tp)) (Calls.mono (q_Insert rfl (by omega) hcX2 hmX2 hile hz0 hst) ?_)
      rintro _ w ⟨vX7, rfl, hst⟩
      have hil := putIn_len (id := id) hile
      rw [← hil] at hst
      obtain ⟨X7, c8, rfl, hcX7, hmX7, hlX7, hbX7⟩ := hst.shape
      refine ⟨_, rfl, ?_⟩
      show RW _ _ _ _ _ _ _
      refine RW.soft Wd.a (v := .slice X7 ((putIn zs id i).length) c8) (by exact E.assign (AF_ev rfl tp)) ?_
      refine RW.fin (fun τ => τ 0 = .slice X zs.length c ∧ τ 1 = .int .i64 id ∧ τ 4 = .slice none 0 0 ∧ τ 5 = .int .i64 0 ∧ τ 6 = .int .i64 ((i : Nat) : Int) ∧ τ 7 = .bool false ∧ τ 8 = .slice X7 ((putIn zs id i).length) c8 ∧ τ 12 = .bool false ∧ τ 21 = .bool false) ⟨up rfl (up rfl (up rfl (up rfl (up rfl (up rfl hs0))))), up rfl (up rfl (up rfl (up rfl (up rfl (up rfl hs1))))), up rfl (up rfl (up rfl (up rfl (up rfl (up rfl hs4))))), up rfl (up rfl (up rfl (up rfl (up rfl (up rfl hs5))))), up rfl (up rfl (up rfl (up rfl (up rfl (up rfl hs6))))), up rfl (up rfl (up rfl (up rfl (up rfl (up rfl (Eq.trans hs7 (congrArg Value.bool hc4))))))), tp, up rfl (up rfl (up rfl (up rfl (up rfl (up rfl hs12))))), up rfl (up rfl (up rfl (up rfl (up rfl (up rfl (Eq.trans hs21 (congrArg Value.bool hc4)))))))⟩ ?_
      rintro τ ⟨hs0, hs1, hs4, hs5, hs6, hs7, hs8, hs12, hs21⟩
      refine CW.seq ?_
      refine CW.seq ?_
      refine CW.region ?_
      refine RW.soft Wd.a (v := .slice X7 ((putIn zs id i).length) c8) (by exact E.move (AF_ev rfl hs8)) ?_
      refine RW.hard Wd.a ?_
      refine H.call0 Try.func36 nm36 rfl (map1 (AF_ev rfl tp)) (Calls.mono (q_Check (own_TI (by first | rfl | omega | simp)) (by first | omega | decide)  hst) ?_)
      rintro _ w ⟨rfl, hst⟩
      refine ⟨_, rfl, ?_⟩
      show RW _ _ _ _ _ _ _
      refine RW.soft Wd.a (v := .int .i64 (checkI (putIn zs id i))) (by exact E.assign (AF_ev rfl tp)) ?_
      refine RW.fin (fun τ => τ 0 = .slice X zs.length c ∧ τ 1 = .int .i64 id ∧ τ 4 = .slice none 0 0 ∧ τ 5 = .int .i64 0 ∧ τ 6 = .int .i64 ((i : Nat) : Int) ∧ τ 7 = .bool false ∧ τ 8 = .slice X7 ((putIn zs id i).length) c8 ∧ τ 9 = .int .i64 (checkI (putIn zs id i)) ∧ τ 12 = .bool false ∧ τ 21 = .bool false) ⟨up rfl (up rfl (up rfl hs0)), up rfl (up rfl (up rfl hs1)), up rfl (up rfl (up rfl hs4)), up rfl (up rfl (up rfl hs5)), up rfl (up rfl (up rfl hs6)), up rfl (up rfl (up rfl hs7)), up rfl (up rfl (up rfl hs8)), tp, up rfl (up rfl (up rfl hs12)), up rfl (up rfl (up rfl hs21))⟩ ?_
      rintro τ ⟨hs0, hs1, hs4, hs5, hs6, hs7, hs8, hs9, hs12, hs21⟩
      refine CW.seq ?_
      refine CW.region ?_
      refine RW.soft Wd.a (v := .int .i64 (checkI (putIn zs id i))) (by exact E.move (AF_ev rfl hs9)) ?_
      refine RW.soft Wd.a (v := .bool ((checkI (putIn zs id i)) != 0)) (by exact E.neq (k := .i64) (a := checkI (putIn zs id i)) (b := 0) (AF_ev rfl tp) rfl) ?_
      refine RW.fin (fun τ => τ 0 = .slice X zs.length c ∧ τ 1 = .int .i64 id ∧ τ 4 = .slice none 0 0 ∧ τ 5 = .int .i64 0 ∧ τ 6 = .int .i64 ((i : Nat) : Int) ∧ τ 7 = .bool false ∧ τ 8 = .slice X7 ((putIn zs id i).length) c8 ∧ τ 9 = .int .i64 (checkI (putIn zs id i)) ∧ τ 12 = .bool false ∧ τ 21 = .bool false ∧ τ 35 = .bool ((checkI (putIn zs id i)) != 0)) ⟨up rfl (up rfl hs0), up rfl (up rfl hs1), up rfl (up rfl hs4), up rfl (up rfl hs5), up rfl (up rfl hs6), up rfl (up rfl hs7), up rfl (up rfl hs8), up rfl (up rfl hs9), up rfl (up rfl hs12), up rfl (up rfl hs21), tp⟩ ?_
      rintro τ ⟨hs0, hs1, hs4, hs5, hs6, hs7, hs8, hs9, hs12, hs21, hs35⟩
      refine CW.cond (AF_ev rfl hs35) (fun hc9 => ?_) (fun hc9 => ?_)
      · have hc9_ := hc9
        try simp only [decide_eq_true_eq, decide_eq_false_iff_not, Bool.and_eq_true, Bool.or_eq_true, Bool.and_eq_false_iff, Bool.or_eq_false_iff, Bool.not_eq_true', Bool.not_eq_false', beq_iff_eq, beq_eq_false_iff_ne, bne_iff_ne, bne_eq_false_iff_eq, ne_eq, Int.not_lt, Int.not_le, gt_iff_lt, ge_iff_le] at hc9_
        refine CW.seq ?_
        refine CW.region ?_
        refine RW.soft Wd.a (v := .int .i64 (checkI (putIn zs id i))) (by exact E.move (AF_ev rfl hs9)) ?_
        refine RW.soft Wd.a (v := .slice none 0 0) (by exact E.assign rfl) ?_
        refine RW.soft Wd.a (v := .int .i64 (checkI (putIn zs id i))) (by exact E.assign (AF_ev rfl (up rfl tp))) ?_
        refine RW.fin (fun τ => τ 0 = .slice X zs.length c ∧ τ 1 = .int .i64 id ∧ τ 4 = .slice none 0 0 ∧ τ 5 = .int .i64 (checkI (putIn zs id i)) ∧ τ 6 = .int .i64 ((i : Nat) : Int) ∧ τ 7 = .bool false ∧ τ 8 = .slice X7 ((putIn zs id i).length) c8 ∧ τ 9 = .int .i64 (checkI (putIn zs id i)) ∧ τ 12 = .bool false ∧ τ 21 = .bool false ∧ τ 35 = .bool true) ⟨up rfl (up rfl (up rfl hs0)), up rfl (up rfl (up rfl hs1)), up rfl tp, tp, up rfl (up rfl (up rfl hs6)), up rfl (up rfl (up rfl hs7)), up rfl (up rfl (up rfl hs8)), up rfl (up rfl (up rfl hs9)), up rfl (up rfl (up rfl hs12)), up rfl (up rfl (up rfl hs21)), up rfl (up rfl (up rfl (Eq.trans hs35 (congrArg Value.bool hc9))))⟩ ?_
        rintro τ ⟨hs0, hs1, hs4, hs5, hs6, hs7, hs8, hs9, hs12, hs21, hs35⟩
        refine CW.ret ?_
        refine Th.r ?_
        refine retN (rs := [.tmp 4, .tmp 5]) (vs := [.slice none 0 0, .int .i64 (checkI (putIn zs id i))]) rfl (by exact (.tmp (AF_ev rfl hs4) (.tmp (AF_ev rfl hs5) .nil))) (by simp) ?_
        have hst := hst.take (.there .here)
        have hst := (hst.take (.there .here)).drop
        have hce_ : checkI (putIn zs id i) ≠ 0 := by simpa using hc9
        have hno : ¬ (checkI zs = 0 ∧ (upL (chgF zs id) 7).length ≠ 0 ∧ 1 ≤ id ∧ id ≤ 7) := by
          rintro ⟨h1, h2, h3, h4⟩
          exact hce_ ((in_bounds hok hLB hnot).2 ⟨h3, h4⟩)
        exact ⟨_, by unfold chgE; rw [if_neg hno, check_no hce_], by unfold chgR; rw [if_neg hno]; exact hst.ownNil none⟩
      · have hc9_ := hc9
        try simp only [decide_eq_true_eq, decide_eq_false_iff_not, Bool.and_eq_true, Bool.or_eq_true, Bool.and_eq_false_iff, Bool.or_eq_false_iff, Bool.not_eq_true', Bool.not_eq_false', beq_iff_eq, beq_eq_false_iff_ne, bne_iff_ne, bne_eq_false_iff_eq, ne_eq, Int.not_lt, Int.not_le, gt_iff_lt, ge_iff_le] at hc9_
        refine CW.skip ?_
        refine Th.n ?_
        refine CW.seq ?_
        refine CW.region ?_
        refine RW.soft Wd.a (v := .slice X7 ((putIn zs id i).length) c8) (by exact E.move (AF_ev rfl hs8)) ?_
        refine RW.soft Wd.a (v := .slice X7 ((putIn zs id i).length) c8) (by exact E.assign (AF_ev rfl tp)) ?_
        refine RW.soft Wd.a (v := .int .i64 0) (by exact E.assign rfl) ?_
        refine RW.fin (fun τ => τ 0 = .slice X zs.length c ∧ τ 1 = .int .i64 id ∧ τ 4 = .slice X7 ((putIn zs id i).length) c8 ∧ τ 5 = .int .i64 0 ∧ τ 6 = .int .i64 ((i : Nat) : Int) ∧ τ 7 = .bool false ∧ τ 8 = .slice X7 ((putIn zs id i).length) c8 ∧ τ 9 = .int .i64 (checkI (putIn zs id i)) ∧ τ 12 = .bool false ∧ τ 21 = .bool false ∧ τ 35 = .bool false) ⟨up rfl (up rfl (up rfl hs0)), up rfl (up rfl (up rfl hs1)), up rfl tp, tp, up rfl (up rfl (up rfl hs6)), up rfl (up rfl (up rfl hs7)), up rfl (up rfl (up rfl hs8)), up rfl (up rfl (up rfl hs9)), up rfl (up rfl (up rfl hs12)), up rfl (up rfl (up rfl hs21)), up rfl (up rfl (up rfl (Eq.trans hs35 (congrArg Value.bool hc9))))⟩ ?_
        rintro τ ⟨hs0, hs1, hs4, hs5, hs6, hs7, hs8, hs9, hs12, hs21, hs35⟩
        refine CW.ret ?_
        refine retN (rs := [.tmp 4, .tmp 5]) (vs := [.slice X7 ((putIn zs id i).length) c8, .int .i64 0]) rfl (by exact (.tmp (AF_ev rfl hs4) (.tmp (AF_ev rfl hs5) .nil))) (by simp) ?_
        have hst := hst.take (.there .here)
        have hst := hst.take (.there .here)
        have hce_ : checkI (putIn zs id i) = 0 := by simpa using hc9
        have hbd := (in_bounds hok hLB hnot).1 hce_
        have hL := chg_in hok hLB hnot hbd
        have hyes : checkI zs = 0 ∧ (upL (chgF zs id) 7).length ≠ 0 ∧ 1 ≤ id ∧ id ≤ 7 := ⟨hok, by rw [hL]; omega, hbd⟩
        exact ⟨_, by unfold chgE; rw [if_pos hyes], by unfold chgR; rw [if_pos hyes, hL]; exact hst⟩
end Go.Proofs.Ytjagffnbobnofaa
