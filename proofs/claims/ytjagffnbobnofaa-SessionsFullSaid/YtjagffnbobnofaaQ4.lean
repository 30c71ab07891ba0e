/- The functions of the package quorum, walked through operation by operation. -/
import Derived.Test.YtjagffnbobnofaaQ2
import Derived.Test.YtjagffnbobnofaaQ1
import Derived.Test.YtjagffnbobnofaaQ3
import Derived.Test.YtjagffnbobnofaaQ0
import Derived.Test.YtjagffnbobnofaaSM
namespace Go.Proofs.Ytjagffnbobnofaa
open Go.RowKit Go.SL Go.Q18
attribute [local irreducible] Go.SL.RW Go.SL.CW Go.SL.RD Go.SL.Hd Go.SL.St
set_option linter.unusedVariables false
set_option linter.unusedSimpArgs false

theorem inf3 : (Try.prog.info? 3).map (fun i => (i.zero, i.size, i.bytes)) = some (some (.int .i64 0), 1, 8) := by kernel_rfl
theorem nm37 : (Try.f37.name == "runtime.NumGoroutine") = false := by kernel_rfl
theorem nm60 : (Try.f60.name == "runtime.NumGoroutine") = false := by kernel_rfl

theorem q_made {p : Pers} {w : World} {R : List Assn} (bits : Int) (hst : St p w (R)) :
    Calls Try.prog 40 #[.int .i64 bits] w fun e w => ∃ v, e = .returned v ∧ St p w (Own 3 1 v (madeR bits).length ((madeR bits).flatMap ienc) :: R) := by
  refine enter Try.func40 rfl (by simp) (n := 24) rfl fun τ hτ => ?_
  have hs0 : τ 0 = .int .i64 bits := hτ 0 (by simp)
  clear hτ
  refine CW.seq ?_
  refine CW.region ?_
  refine RW.soft Wd.a (v := .slice none 0 0) (by exact E.assign rfl) ?_
  refine RW.fin (fun τ => τ 0 = .int .i64 bits ∧ τ 2 = .slice none 0 0) ⟨up rfl hs0, tp⟩ ?_
  rintro τ ⟨hs0, hs2⟩
  refine CW.seq ?_
  refine CW.region ?_
  refine RW.hard Wd.a ?_
  refine H.buildSlice (e := 3) (cs := #[]) (vs := #[]) (by simp) (fun _ => by kernel_rfl) hst fun b1 w hst => ?_
  refine RW.soft Wd.a (v := .slice (some ⟨b1, 0, none⟩) 0 0) (by exact E.assign (AF_ev rfl tp)) ?_
  refine RW.fin (fun τ => τ 0 = .int .i64 bits ∧ τ 2 = .slice none 0 0 ∧ τ 3 = .slice (some ⟨b1, 0, none⟩) 0 0) ⟨up rfl (up rfl hs0), up rfl (up rfl hs2), tp⟩ ?_
  rintro τ ⟨hs0, hs2, hs3⟩
  refine CW.seq ?_
  refine CW.seq ?_
  refine CW.region ?_
  refine RW.soft Wd.a (v := .int .i64 1) (by exact E.assign rfl) ?_
  refine RW.fin (fun τ => τ 0 = .int .i64 bits ∧ τ 2 = .slice none 0 0 ∧ τ 3 = .slice (some ⟨b1, 0, none⟩) 0 0 ∧ τ 4 = .int .i64 1) ⟨up rfl hs0, up rfl hs2, up rfl hs3, tp⟩ ?_
  rintro τ ⟨hs0, hs2, hs3, hs4⟩
  refine CW.block ?_
  have hst : St p w (Own 3 1 (.slice (some ⟨b1, 0, none⟩) 0 0) 0 (([] : List Int).flatMap ienc) :: _) := hst.ownNew (n := 0) (cap := 0) (sz := 1) (xs := ([] : List Int).flatMap ienc) (by omega) (by simp [maxLen]) rfl rfl
  refine CW.loop (fun (k : Nat) (τ : Fr) (w : World) => ∃ (j : Nat) (X1 : Option Addr) (L : List Int) (c1 : Nat), L = upL (bitB bits) j ∧ j ≤ 7 ∧ k = 7 - j ∧ τ 0 = .int .i64 bits ∧ τ 3 = .slice X1 L.length c1 ∧ τ 4 = .int .i64 (((j : Nat) : Int) + 1) ∧ St p w (Own 3 1 (.slice X1 L.length c1) L.length (L.flatMap ienc) :: R)) (7 - 0) ⟨0, (some ⟨b1, 0, none⟩), [], 0, rfl, by omega, rfl, hs0, hs3, (int_eq (a := 1) hs4 (by omega)), hst⟩ ?_
  clear hst
  rintro k τ w ⟨j, X1, L, c1, hL, hj, hkj, hs0, hs3, hs4, hst⟩
  refine CW.seq ?_
  refine CW.seq ?_
  refine CW.region ?_
  refine RW.soft Wd.a (v := .int .i64 (((j : Nat) : Int) + 1)) (by exact E.move (AF_ev rfl hs4)) ?_
  refine RW.soft Wd.a (v := .bool (decide ((((j : Nat) : Int) + 1) ≤ 7))) (by exact E.leq (k := .i64) (a := ((j : Nat) : Int) + 1) (b := 7) (AF_ev rfl tp) rfl) ?_
  refine RW.fin (fun τ => τ 0 = .int .i64 bits ∧ τ 3 = .slice X1 L.length c1 ∧ τ 4 = .int .i64 (((j : Nat) : Int) + 1) ∧ τ 7 = .bool (decide ((((j : Nat) : Int) + 1) ≤ 7))) ⟨up rfl (up rfl hs0), up rfl (up rfl hs3), up rfl (up rfl hs4), tp⟩ ?_
  rintro τ ⟨hs0, hs3, hs4, hs7⟩
  refine CW.cond (AF_ev rfl hs7) (fun hc2 => ?_) (fun hc2 => ?_)
  · have hc2_ := hc2
    try simp only [decide_eq_true_eq, decide_eq_false_iff_not, Bool.and_eq_true, Bool.or_eq_true, Bool.and_eq_false_iff, Bool.or_eq_false_iff, Bool.not_eq_true', Bool.not_eq_false', beq_iff_eq, beq_eq_false_iff_ne, bne_iff_ne, bne_eq_false_iff_eq, ne_eq, Int.not_lt, Int.not_le, gt_iff_lt, ge_iff_le] at hc2_
    refine CW.skip ?_
    refine Th.n ?_
    refine CW.seq ?_
    refine CW.block ?_
    refine CW.seq ?_
    have hll : L.length ≤ 7 := by rw [hL]; exact Nat.le_trans (upL_le _ _) (by omega)
    refine CW.region ?_
    refine RW.soft Wd.a (v := .int .i64 bits) (by exact E.move (AF_ev rfl hs0)) ?_
    refine RW.soft Wd.a (v := .int .i64 (((j : Nat) : Int) + 1)) (by exact E.move (AF_ev rfl (up rfl hs4))) ?_
    refine RW.soft Wd.a (v := .int .i64 (shrI bits (((j : Nat) : Int) + 1))) (by exact E.shr (a := bits) (b := ((j : Nat) : Int) + 1) (AF_ev rfl (up rfl tp)) (AF_ev rfl tp) (by omega)) ?_
    refine RW.soft Wd.a (v := .int .i64 (andI (shrI bits (((j : Nat) : Int) + 1)) 1)) (by exact E.and (a := shrI bits (((j : Nat) : Int) + 1)) (b := 1) (AF_ev rfl tp) rfl) ?_
    refine RW.soft Wd.a (v := .bool ((andI (shrI bits (((j : Nat) : Int) + 1)) 1) == 1)) (by exact E.eql (k := .i64) (a := andI (shrI bits (((j : Nat) : Int) + 1)) 1) (b := 1) (AF_ev rfl tp) rfl) ?_
    refine RW.fin (fun τ => τ 0 = .int .i64 bits ∧ τ 3 = .slice X1 L.length c1 ∧ τ 4 = .int .i64 (((j : Nat) : Int) + 1) ∧ τ 7 = .bool true ∧ τ 14 = .bool ((andI (shrI bits (((j : Nat) : Int) + 1)) 1) == 1)) ⟨up rfl (up rfl (up rfl (up rfl (up rfl hs0)))), up rfl (up rfl (up rfl (up rfl (up rfl hs3)))), up rfl (up rfl (up rfl (up rfl (up rfl hs4)))), up rfl (up rfl (up rfl (up rfl (up rfl (Eq.trans hs7 (congrArg Value.bool hc2)))))), tp⟩ ?_
    rintro τ ⟨hs0, hs3, hs4, hs7, hs14⟩
    refine CW.cond (AF_ev rfl hs14) (fun hc3 => ?_) (fun hc3 => ?_)
    · have hc3_ := hc3
      try simp only [decide_eq_true_eq, decide_eq_false_iff_not, Bool.and_eq_true, Bool.or_eq_true, Bool.and_eq_false_iff, Bool.or_eq_false_iff, Bool.not_eq_true', Bool.not_eq_false', beq_iff_eq, beq_eq_false_iff_ne, bne_iff_ne, bne_eq_false_iff_eq, ne_eq, Int.not_lt, Int.not_le, gt_iff_lt, ge_iff_le] at hc3_
      refine CW.region ?_
      refine RW.soft Wd.a (v := .slice X1 L.length c1) (by exact E.move (AF_ev rfl hs3)) ?_
      refine RW.soft Wd.a (v := .int .i64 (((j : Nat) : Int) + 1)) (by exact E.move (AF_ev rfl (up rfl hs4))) ?_
      refine RW.hard Wd.a ?_
      refine H.buildSlice (e := 3) (cs := #[.int .i64 (((j : Nat) : Int) + 1)]) (vs := #[(0, .int .i64 (((j : Nat) : Int) + 1))]) (bld1 (AF_ev rfl tp)) (fun _ => by kernel_rfl) hst fun b4 w hst => ?_
      refine RW.hard Wd.a ?_
      refine H.append2 (m := 1) (news := [.int .i64 (((j : Nat) : Int) + 1)]) (n2 := (L ++ [((j : Nat) : Int) + 1]).length) (xs2 := (L ++ [((j : Nat) : Int) + 1]).flatMap ienc) (s0 := .slice X1 L.length c1) (x0 := .slice (some ⟨b4, 0, none⟩) 1 1) (by first | (simp; done) | (rw [List.length_append]; simp only [List.length_cons, List.length_nil]; omega)) (by simp [ienc]) Try.underlying58 inf3 rfl (AF_ev rfl (up rfl (up rfl tp))) (AF_ev rfl tp) hst (.there .here) ⟨rfl, _, _, rfl, by omega, .inr ⟨_, 0, rfl, hst.cellsIn .here rfl⟩⟩ (by simp [Value.oneCell']) (by omega) (by simp only [maxLen]; omega) ?_
      intro vX5 w hnilX5 hst
      obtain ⟨X5, c6, rfl, hcX5, hmX5, hlX5, hbX5⟩ := hst.shape
      refine RW.soft Wd.a (v := .slice X5 ((L ++ [((j : Nat) : Int) + 1]).length) c6) (by exact E.assign (AF_ev rfl tp)) ?_
      refine RW.nil ?_
      refine Bl.n ?_
      refine Th.n ?_
      refine CW.region ?_
      refine RW.soft Wd.a (v := .int .i64 (((j : Nat) : Int) + 1)) (by exact E.move (AF_ev rfl (up rfl (up rfl (up rfl (up rfl (up rfl hs4))))))) ?_
      refine RW.soft Wd.a (v := .int .i64 (((j : Nat) : Int) + 1 + 1)) (by exact E.add (k := .i64) (a := ((j : Nat) : Int) + 1) (b := 1) (AF_ev rfl tp) rfl (show IntKind.i64.wrap ((((j : Nat) : Int) + 1) + 1) = ((j : Nat) : Int) + 1 + 1 from (by rw [IntWalk.i64_in _ (by omega)] <;> omega))) ?_
      refine RW.soft Wd.a (v := .int .i64 (((j : Nat) : Int) + 1 + 1)) (by exact E.assign (AF_ev rfl tp)) ?_
      refine RW.nil ?_
      refine Th.n ?_
      have hL2 := upL_more hL (show (bitB bits) (((j : Nat) : Int) + 1) = true from hc3)
      have hst := (hst.take (.there .here)).drop
      exact ⟨7 - (j + 1), by omega, j + 1, X5, (L ++ [((j : Nat) : Int) + 1]), c6, hL2, (by omega), rfl, up rfl (up rfl (up rfl (up rfl (up rfl (up rfl (up rfl (up rfl hs0))))))), up rfl (up rfl (up rfl tp)), (int_eq (a := ((j : Nat) : Int) + 1 + 1) tp (by omega)), hst⟩
    · have hc3_ := hc3
      try simp only [decide_eq_true_eq, decide_eq_false_iff_not, Bool.and_eq_true, Bool.or_eq_true, Bool.and_eq_false_iff, Bool.or_eq_false_iff, Bool.not_eq_true', Bool.not_eq_false', beq_iff_eq, beq_eq_false_iff_ne, bne_iff_ne, bne_eq_false_iff_eq, ne_eq, Int.not_lt, Int.not_le, gt_iff_lt, ge_iff_le] at hc3_
      refine CW.skip ?_
      refine Bl.n ?_
      refine Th.n ?_
      refine CW.region ?_
      refine RW.soft Wd.a (v := .int .i64 (((j : Nat) : Int) + 1)) (by exact E.move (AF_ev rfl hs4)) ?_
      refine RW.soft Wd.a (v := .int .i64 (((j : Nat) : Int) + 1 + 1)) (by exact E.add (k := .i64) (a := ((j : Nat) : Int) + 1) (b := 1) (AF_ev rfl tp) rfl (show IntKind.i64.wrap ((((j : Nat) : Int) + 1) + 1) = ((j : Nat) : Int) + 1 + 1 from (by rw [IntWalk.i64_in _ (by omega)] <;> omega))) ?_
      refine RW.soft Wd.a (v := .int .i64 (((j : Nat) : Int) + 1 + 1)) (by exact E.assign (AF_ev rfl tp)) ?_
      refine RW.nil ?_
      refine Th.n ?_
      have hL2 := upL_same hL (show (bitB bits) (((j : Nat) : Int) + 1) = false from hc3)
      exact ⟨7 - (j + 1), by omega, j + 1, X1, L, c1, hL2, (by omega), rfl, up rfl (up rfl (up rfl hs0)), up rfl (up rfl (up rfl hs3)), (int_eq (a := ((j : Nat) : Int) + 1 + 1) tp (by omega)), hst⟩
  · have hc2_ := hc2
    try simp only [decide_eq_true_eq, decide_eq_false_iff_not, Bool.and_eq_true, Bool.or_eq_true, Bool.and_eq_false_iff, Bool.or_eq_false_iff, Bool.not_eq_true', Bool.not_eq_false', beq_iff_eq, beq_eq_false_iff_ne, bne_iff_ne, bne_eq_false_iff_eq, ne_eq, Int.not_lt, Int.not_le, gt_iff_lt, ge_iff_le] at hc2_
    refine CW.exit ?_
    refine Th.x ?_
    refine Th.x ?_
    refine Bl.x ?_
    refine Th.n ?_
    refine CW.seq ?_
    refine CW.seq ?_
    refine CW.region ?_
    refine RW.soft Wd.a (v := .slice X1 L.length c1) (by exact E.move (AF_ev rfl hs3)) ?_
    refine RW.soft Wd.a (v := .int .i64 ((L.length : Nat) : Int)) (by exact E.lenS (p := X1) (l := L.length) (c := c1) Try.underlying58 (AF_ev rfl tp)) ?_
    refine RW.soft Wd.a (v := .bool (((L.length : Nat) : Int) == 0)) (by exact E.eql (k := .i64) (a := ((L.length : Nat) : Int)) (b := 0) (AF_ev rfl tp) rfl) ?_
    refine RW.fin (fun τ => τ 0 = .int .i64 bits ∧ τ 3 = .slice X1 L.length c1 ∧ τ 4 = .int .i64 (((j : Nat) : Int) + 1) ∧ τ 7 = .bool false ∧ τ 21 = .bool (((L.length : Nat) : Int) == 0)) ⟨up rfl (up rfl (up rfl hs0)), up rfl (up rfl (up rfl hs3)), up rfl (up rfl (up rfl hs4)), up rfl (up rfl (up rfl (Eq.trans hs7 (congrArg Value.bool hc2)))), tp⟩ ?_
    rintro τ ⟨hs0, hs3, hs4, hs7, hs21⟩
    refine CW.cond (AF_ev rfl hs21) (fun hc7 => ?_) (fun hc7 => ?_)
    · have hc7_ := hc7
      try simp only [decide_eq_true_eq, decide_eq_false_iff_not, Bool.and_eq_true, Bool.or_eq_true, Bool.and_eq_false_iff, Bool.or_eq_false_iff, Bool.not_eq_true', Bool.not_eq_false', beq_iff_eq, beq_eq_false_iff_ne, bne_iff_ne, bne_eq_false_iff_eq, ne_eq, Int.not_lt, Int.not_le, gt_iff_lt, ge_iff_le] at hc7_
      refine CW.seq ?_
      refine CW.region ?_
      refine RW.hard Wd.a ?_
      refine H.buildSlice (e := 3) (cs := #[.int .i64 1]) (vs := #[(0, .int .i64 1)]) (bld1 rfl) (fun _ => by kernel_rfl) hst fun b8 w hst => ?_
      refine RW.soft Wd.a (v := .slice (some ⟨b8, 0, none⟩) 1 1) (by exact E.assign (AF_ev rfl tp)) ?_
      refine RW.fin (fun τ => τ 0 = .int .i64 bits ∧ τ 2 = .slice (some ⟨b8, 0, none⟩) 1 1 ∧ τ 3 = .slice X1 L.length c1 ∧ τ 4 = .int .i64 (((j : Nat) : Int) + 1) ∧ τ 7 = .bool false ∧ τ 21 = .bool true) ⟨up rfl (up rfl hs0), tp, up rfl (up rfl hs3), up rfl (up rfl hs4), up rfl (up rfl hs7), up rfl (up rfl (Eq.trans hs21 (congrArg Value.bool hc7)))⟩ ?_
      rintro τ ⟨hs0, hs2, hs3, hs4, hs7, hs21⟩
      refine CW.ret ?_
      refine Th.r ?_
      refine ret1 (v := .slice (some ⟨b8, 0, none⟩) 1 1) rfl (by exact (.tmp (AF_ev rfl hs2) .nil)) ?_
      have hst : St p w (Own 3 1 (.slice (some ⟨b8, 0, none⟩) 1 1) 1 (([1] : List Int).flatMap ienc) :: _) := hst.ownNew (n := 1) (cap := 1) (sz := 1) (xs := ([1] : List Int).flatMap ienc) (by omega) (by simp [maxLen]) rfl rfl
      have hst := (hst.take (.there .here)).drop
      have hj7 : j = 7 := by omega
      have hm : madeR bits = [1] := by unfold madeR; rw [if_pos (by rw [← hj7, ← hL]; omega)]
      exact ⟨_, rfl, by rw [hm]; exact hst⟩
    · have hc7_ := hc7
      try simp only [decide_eq_true_eq, decide_eq_false_iff_not, Bool.and_eq_true, Bool.or_eq_true, Bool.and_eq_false_iff, Bool.or_eq_false_iff, Bool.not_eq_true', Bool.not_eq_false', beq_iff_eq, beq_eq_false_iff_ne, bne_iff_ne, bne_eq_false_iff_eq, ne_eq, Int.not_lt, Int.not_le, gt_iff_lt, ge_iff_le] at hc7_
      refine CW.skip ?_
      refine Th.n ?_
      refine CW.seq ?_
      refine CW.region ?_
      refine RW.soft Wd.a (v := .slice X1 L.length c1) (by exact E.move (AF_ev rfl hs3)) ?_
      refine RW.soft Wd.a (v := .slice X1 L.length c1) (by exact E.assign (AF_ev rfl tp)) ?_
      refine RW.fin (fun τ => τ 0 = .int .i64 bits ∧ τ 2 = .slice X1 L.length c1 ∧ τ 3 = .slice X1 L.length c1 ∧ τ 4 = .int .i64 (((j : Nat) : Int) + 1) ∧ τ 7 = .bool false ∧ τ 21 = .bool false) ⟨up rfl (up rfl hs0), tp, up rfl (up rfl hs3), up rfl (up rfl hs4), up rfl (up rfl hs7), up rfl (up rfl (Eq.trans hs21 (congrArg Value.bool hc7)))⟩ ?_
      rintro τ ⟨hs0, hs2, hs3, hs4, hs7, hs21⟩
      refine CW.ret ?_
      refine ret1 (v := .slice X1 L.length c1) rfl (by exact (.tmp (AF_ev rfl hs2) .nil)) ?_
      
      have hj7 : j = 7 := by omega
      have hm : madeR bits = L := by unfold madeR; rw [if_neg (by rw [← hj7, ← hL]; omega), ← hj7, ← hL]
      exact ⟨_, rfl, by rw [hm]; exact hst⟩

theorem r_Change {p : Pers} {w : World} {R : List Assn} {A : Assn} {X : Option Addr} {c : Nat} {zs : List Int} (hA : TI p A (.slice X zs.length c) zs) (hl : zs.length ≤ 1000000) (id : Int) (hst : St p w (A :: R)) :
    Calls Try.prog 34 #[.slice X zs.length c, .int .i64 id] w fun e w => ∃ v, e = .returned (.tuple #[v, .int .i64 (chgE zs id)]) ∧ St p w (Own 3 1 v (chgR zs id).length ((chgR zs id).flatMap ienc) :: A :: R) := by
  refine enter Try.func34 rfl (by simp) (n := 38) rfl fun τ hτ => ?_
  have hs0 : τ 0 = .slice X zs.length c := hτ 0 (by simp)
  have hs1 : τ 1 = .int .i64 id := hτ 1 (by simp)
  clear hτ
  refine CW.seq ?_
  refine CW.region ?_
  refine RW.soft Wd.a (v := .slice none 0 0) (by exact E.assign rfl) ?_
  refine RW.soft Wd.a (v := .int .i64 0) (by exact E.assign rfl) ?_
  refine RW.fin (fun τ => τ 0 = .slice X zs.length c ∧ τ 1 = .int .i64 id ∧ τ 4 = .slice none 0 0 ∧ τ 5 = .int .i64 0) ⟨up rfl (up rfl hs0), up rfl (up rfl hs1), up rfl tp, tp⟩ ?_
  rintro τ ⟨hs0, hs1, hs4, hs5⟩
  refine CW.seq ?_
  refine CW.seq ?_
  refine CW.region ?_
  refine RW.soft Wd.a (v := .slice X zs.length c) (by exact E.move (AF_ev rfl hs0)) ?_
  refine RW.hard Wd.a ?_
  refine H.call0 Try.func37 nm37 rfl (map1 (AF_ev rfl tp)) (Calls.mono (r_Check hA hl  hst) ?_)
  rintro _ w ⟨rfl, hst⟩
  refine ⟨_, rfl, ?_⟩
  show RW _ _ _ _ _ _ _
  refine RW.soft Wd.a (v := .bool ((checkI zs) != 0)) (by exact E.neq (k := .i64) (a := checkI zs) (b := 0) (AF_ev rfl tp) rfl) ?_
  refine RW.fin (fun τ => τ 0 = .slice X zs.length c ∧ τ 1 = .int .i64 id ∧ τ 4 = .slice none 0 0 ∧ τ 5 = .int .i64 0 ∧ τ 10 = .bool ((checkI zs) != 0)) ⟨up rfl (up rfl (up rfl hs0)), up rfl (up rfl (up rfl hs1)), up rfl (up rfl (up rfl hs4)), up rfl (up rfl (up rfl hs5)), tp⟩ ?_
  rintro τ ⟨hs0, hs1, hs4, hs5, hs10⟩
  refine CW.cond (AF_ev rfl hs10) (fun hc1 => ?_) (fun hc1 => ?_)
  · have hc1_ := hc1
    try simp only [decide_eq_true_eq, decide_eq_false_iff_not, Bool.and_eq_true, Bool.or_eq_true, Bool.and_eq_false_iff, Bool.or_eq_false_iff, Bool.not_eq_true', Bool.not_eq_false', beq_iff_eq, beq_eq_false_iff_ne, bne_iff_ne, bne_eq_false_iff_eq, ne_eq, Int.not_lt, Int.not_le, gt_iff_lt, ge_iff_le] at hc1_
    refine CW.seq ?_
    refine CW.region ?_
    refine RW.soft Wd.a (v := .slice none 0 0) (by exact E.assign rfl) ?_
    refine RW.soft Wd.a (v := .int .i64 192) (by exact E.assign rfl) ?_
    refine RW.fin (fun τ => τ 0 = .slice X zs.length c ∧ τ 1 = .int .i64 id ∧ τ 4 = .slice none 0 0 ∧ τ 5 = .int .i64 192 ∧ τ 10 = .bool true) ⟨up rfl (up rfl hs0), up rfl (up rfl hs1), up rfl tp, tp, up rfl (up rfl (Eq.trans hs10 (congrArg Value.bool hc1)))⟩ ?_
    rintro τ ⟨hs0, hs1, hs4, hs5, hs10⟩
    refine CW.ret ?_
    refine Th.r ?_
    refine retN (rs := [.tmp 4, .tmp 5]) (vs := [.slice none 0 0, .int .i64 192]) rfl (by exact (.tmp (AF_ev rfl hs4) (.tmp (AF_ev rfl hs5) .nil))) (by simp) ?_
    
    exact ⟨_, by unfold chgE; rw [if_neg (fun h => hc1_ h.1)], by unfold chgR; rw [if_neg (fun h => hc1_ h.1)]; exact hst.ownNil none⟩
  · have hc1_ := hc1
    try simp only [decide_eq_true_eq, decide_eq_false_iff_not, Bool.and_eq_true, Bool.or_eq_true, Bool.and_eq_false_iff, Bool.or_eq_false_iff, Bool.not_eq_true', Bool.not_eq_false', beq_iff_eq, beq_eq_false_iff_ne, bne_iff_ne, bne_eq_false_iff_eq, ne_eq, Int.not_lt, Int.not_le, gt_iff_lt, ge_iff_le] at hc1_
    refine CW.skip ?_
    refine Th.n ?_
    refine CW.seq ?_
    refine CW.region ?_
    refine RW.soft Wd.a (v := .slice none 0 0) (by exact E.assign rfl) ?_
    refine RW.fin (fun τ => τ 0 = .slice X zs.length c ∧ τ 1 = .int .i64 id ∧ τ 4 = .slice none 0 0 ∧ τ 5 = .int .i64 0 ∧ τ 6 = .slice none 0 0 ∧ τ 10 = .bool false) ⟨up rfl hs0, up rfl hs1, up rfl hs4, up rfl hs5, tp, up rfl (Eq.trans hs10 (congrArg Value.bool hc1))⟩ ?_
    rintro τ ⟨hs0, hs1, hs4, hs5, hs6, hs10⟩
    refine CW.seq ?_
    refine CW.seq ?_
    refine CW.region ?_
    refine RW.soft Wd.a (v := .int .i64 1) (by exact E.assign rfl) ?_
    refine RW.fin (fun τ => τ 0 = .slice X zs.length c ∧ τ 1 = .int .i64 id ∧ τ 4 = .slice none 0 0 ∧ τ 5 = .int .i64 0 ∧ τ 6 = .slice none 0 0 ∧ τ 7 = .int .i64 1 ∧ τ 10 = .bool false) ⟨up rfl hs0, up rfl hs1, up rfl hs4, up rfl hs5, up rfl hs6, tp, up rfl hs10⟩ ?_
    rintro τ ⟨hs0, hs1, hs4, hs5, hs6, hs7, hs10⟩
    refine CW.block ?_
    have hst := hst.ownNil (e := 3) (sz := 1) none
    have hst := hst.take (.there .here)
    have hst := hst.take (.there .here)
    refine CW.loop (fun (k : Nat) (τ : Fr) (w : World) => ∃ (j : Nat) (X1 : Option Addr) (L : List Int) (c1 : Nat), L = upL (chgF zs id) j ∧ j ≤ 7 ∧ k = 7 - j ∧ τ 0 = .slice X zs.length c ∧ τ 1 = .int .i64 id ∧ τ 6 = .slice X1 L.length c1 ∧ τ 7 = .int .i64 (((j : Nat) : Int) + 1) ∧ St p w (Own 3 1 (.slice X1 L.length c1) L.length (L.flatMap ienc) :: A :: R)) (7 - 0) ⟨0, none, [], 0, rfl, by omega, rfl, hs0, hs1, hs6, (int_eq (a := 1) hs7 (by omega)), hst⟩ ?_
    clear hst
    rintro k τ w ⟨j, X1, L, c1, hL, hj, hkj, hs0, hs1, hs6, hs7, hst⟩
    refine CW.seq ?_
    refine CW.seq ?_
    refine CW.region ?_
    refine RW.soft Wd.a (v := .int .i64 (((j : Nat) : Int) + 1)) (by exact E.move (AF_ev rfl hs7)) ?_
    refine RW.soft Wd.a (v := .bool (decide ((((j : Nat) : Int) + 1) ≤ 7))) (by exact E.leq (k := .i64) (a := ((j : Nat) : Int) + 1) (b := 7) (AF_ev rfl tp) rfl) ?_
    refine RW.fin (fun τ => τ 0 = .slice X zs.length c ∧ τ 1 = .int .i64 id ∧ τ 6 = .slice X1 L.length c1 ∧ τ 7 = .int .i64 (((j : Nat) : Int) + 1) ∧ τ 12 = .bool (decide ((((j : Nat) : Int) + 1) ≤ 7))) ⟨up rfl (up rfl hs0), up rfl (up rfl hs1), up rfl (up rfl hs6), up rfl (up rfl hs7), tp⟩ ?_
    rintro τ ⟨hs0, hs1, hs6, hs7, hs12⟩
    refine CW.cond (AF_ev rfl hs12) (fun hc2 => ?_) (fun hc2 => ?_)
    · have hc2_ := hc2
      try simp only [decide_eq_true_eq, decide_eq_false_iff_not, Bool.and_eq_true, Bool.or_eq_true, Bool.and_eq_false_iff, Bool.or_eq_false_iff, Bool.not_eq_true', Bool.not_eq_false', beq_iff_eq, beq_eq_false_iff_ne, bne_iff_ne, bne_eq_false_iff_eq, ne_eq, Int.not_lt, Int.not_le, gt_iff_lt, ge_iff_le] at hc2_
      refine CW.skip ?_
      refine Th.n ?_
      refine CW.seq ?_
      refine CW.block ?_
      refine CW.seq ?_
      have hll : L.length ≤ 7 := by rw [hL]; exact Nat.le_trans (upL_le _ _) (by omega)
      refine CW.region ?_
      refine RW.soft Wd.a (v := .slice X zs.length c) (by exact E.move (AF_ev rfl hs0)) ?_
      refine RW.soft Wd.a (v := .int .i64 (((j : Nat) : Int) + 1)) (by exact E.move (AF_ev rfl (up rfl hs7))) ?_
      have hst := hst.take (.there .here)
      refine RW.hard Wd.a ?_
      refine H.call0 Try.func39 nm39 rfl (map2 (AF_ev rfl (up rfl tp)) (AF_ev rfl tp)) (Calls.mono (r_Has hA hl (((j : Nat) : Int) + 1) hst) ?_)
      rintro _ w ⟨rfl, hst⟩
      refine ⟨_, rfl, ?_⟩
      show RW _ _ _ _ _ _ _
      refine RW.soft Wd.a (v := .int .i64 (((j : Nat) : Int) + 1)) (by exact E.move (AF_ev rfl (up rfl (up rfl (up rfl hs7))))) ?_
      refine RW.soft Wd.a (v := .int .i64 id) (by exact E.move (AF_ev rfl (up rfl (up rfl (up rfl (up rfl hs1)))))) ?_
      refine RW.soft Wd.a (v := .bool ((((j : Nat) : Int) + 1) == id)) (by exact E.eql (k := .i64) (a := ((j : Nat) : Int) + 1) (b := id) (AF_ev rfl (up rfl tp)) (AF_ev rfl tp)) ?_
      refine RW.soft Wd.a (v := .bool ((zs.contains (((j : Nat) : Int) + 1)) != ((((j : Nat) : Int) + 1) == id))) (by exact E.neqB Try.underlying4 (AF_ev rfl (up rfl (up rfl (up rfl tp)))) (AF_ev rfl tp)) ?_
      refine RW.fin (fun τ => τ 0 = .slice X zs.length c ∧ τ 1 = .int .i64 id ∧ τ 6 = .slice X1 L.length c1 ∧ τ 7 = .int .i64 (((j : Nat) : Int) + 1) ∧ τ 12 = .bool true ∧ τ 21 = .bool ((zs.contains (((j : Nat) : Int) + 1)) != ((((j : Nat) : Int) + 1) == id))) ⟨up rfl (up rfl (up rfl (up rfl (up rfl (up rfl (up rfl hs0)))))), up rfl (up rfl (up rfl (up rfl (up rfl (up rfl (up rfl hs1)))))), up rfl (up rfl (up rfl (up rfl (up rfl (up rfl (up rfl hs6)))))), up rfl (up rfl (up rfl (up rfl (up rfl (up rfl (up rfl hs7)))))), up rfl (up rfl (up rfl (up rfl (up rfl (up rfl (up rfl (Eq.trans hs12 (congrArg Value.bool hc2)))))))), tp⟩ ?_
      rintro τ ⟨hs0, hs1, hs6, hs7, hs12, hs21⟩
      refine CW.cond (AF_ev rfl hs21) (fun hc3 => ?_) (fun hc3 => ?_)
      · have hc3_ := hc3
        try simp only [decide_eq_true_eq, decide_eq_false_iff_not, Bool.and_eq_true, Bool.or_eq_true, Bool.and_eq_false_iff, Bool.or_eq_false_iff, Bool.not_eq_true', Bool.not_eq_false', beq_iff_eq, beq_eq_false_iff_ne, bne_iff_ne, bne_eq_false_iff_eq, ne_eq, Int.not_lt, Int.not_le, gt_iff_lt, ge_iff_le] at hc3_
        refine CW.region ?_
        refine RW.soft Wd.a (v := .slice X1 L.length c1) (by exact E.move (AF_ev rfl hs6)) ?_
        refine RW.soft Wd.a (v := .int .i64 (((j : Nat) : Int) + 1)) (by exact E.move (AF_ev rfl (up rfl hs7))) ?_
        refine RW.hard Wd.a ?_
        refine H.buildSlice (e := 3) (cs := #[.int .i64 (((j : Nat) : Int) + 1)]) (vs := #[(0, .int .i64 (((j : Nat) : Int) + 1))]) (bld1 (AF_ev rfl tp)) (fun _ => by kernel_rfl) hst fun b4 w hst => ?_
        refine RW.hard Wd.a ?_
        refine H.append2 (m := 1) (news := [.int .i64 (((j : Nat) : Int) + 1)]) (n2 := (L ++ [((j : Nat) : Int) + 1]).length) (xs2 := (L ++ [((j : Nat) : Int) + 1]).flatMap ienc) (s0 := .slice X1 L.length c1) (x0 := .slice (some ⟨b4, 0, none⟩) 1 1) (by first | (simp; done) | (rw [List.length_append]; simp only [List.length_cons, List.length_nil]; omega)) (by simp [ienc]) Try.underlying58 inf3 rfl (AF_ev rfl (up rfl (up rfl tp))) (AF_ev rfl tp) hst (.there (.there .here)) ⟨rfl, _, _, rfl, by omega, .inr ⟨_, 0, rfl, hst.cellsIn .here rfl⟩⟩ (by simp [Value.oneCell']) (by omega) (by simp only [maxLen]; omega) ?_
        intro vX5 w hnilX5 hst
        obtain ⟨X5, c6, rfl, hcX5, hmX5, hlX5, hbX5⟩ := hst.shape
        refine RW.soft Wd.a (v := .slice X5 ((L ++ [((j : Nat) : Int) + 1]).length) c6) (by exact E.assign (AF_ev rfl tp)) ?_
        refine RW.nil ?_
        refine Bl.n ?_
        refine Th.n ?_
        refine CW.region ?_
        refine RW.soft Wd.a (v := .int .i64 (((j : Nat) : Int) + 1)) (by exact E.move (AF_ev rfl (up rfl (up rfl (up rfl (up rfl (up rfl hs7))))))) ?_
        refine RW.soft Wd.a (v := .int .i64 (((j : Nat) : Int) + 1 + 1)) (by exact E.add (k := .i64) (a := ((j : Nat) : Int) + 1) (b := 1) (AF_ev rfl tp) rfl (show IntKind.i64.wrap ((((j : Nat) : Int) + 1) + 1) = ((j : Nat) : Int) + 1 + 1 from (by rw [IntWalk.i64_in _ (by omega)] <;> omega))) ?_
        refine RW.soft Wd.a (v := .int .i64 (((j : Nat) : Int) + 1 + 1)) (by exact E.assign (AF_ev rfl tp)) ?_
        refine RW.nil ?_
        refine Th.n ?_
        have hL2 := upL_more hL (show (chgF zs id) (((j : Nat) : Int) + 1) = true from hc3)
        have hst := hst.take (.there (.there .here))
        have hst := hst.take (.there .here)
        have hst := (hst.take (.there (.there .here))).drop
        exact ⟨7 - (j + 1), by omega, j + 1, X5, (L ++ [((j : Nat) : Int) + 1]), c6, hL2, (by omega), rfl, up rfl (up rfl (up rfl (up rfl (up rfl (up rfl (up rfl (up rfl hs0))))))), up rfl (up rfl (up rfl (up rfl (up rfl (up rfl (up rfl (up rfl hs1))))))), up rfl (up rfl (up rfl tp)), (int_eq (a := ((j : Nat) : Int) + 1 + 1) tp (by omega)), hst⟩
      · have hc3_ := hc3
        try simp only [decide_eq_true_eq, decide_eq_false_iff_not, Bool.and_eq_true, Bool.or_eq_true, Bool.and_eq_false_iff, Bool.or_eq_false_iff, Bool.not_eq_true', Bool.not_eq_false', beq_iff_eq, beq_eq_false_iff_ne, bne_iff_ne, bne_eq_false_iff_eq, ne_eq, Int.not_lt, Int.not_le, gt_iff_lt, ge_iff_le] at hc3_
        refine CW.skip ?_
        refine Bl.n ?_
        refine Th.n ?_
        refine CW.region ?_
        refine RW.soft Wd.a (v := .int .i64 (((j : Nat) : Int) + 1)) (by exact E.move (AF_ev rfl hs7)) ?_
        refine RW.soft Wd.a (v := .int .i64 (((j : Nat) : Int) + 1 + 1)) (by exact E.add (k := .i64) (a := ((j : Nat) : Int) + 1) (b := 1) (AF_ev rfl tp) rfl (show IntKind.i64.wrap ((((j : Nat) : Int) + 1) + 1) = ((j : Nat) : Int) + 1 + 1 from (by rw [IntWalk.i64_in _ (by omega)] <;> omega))) ?_
        refine RW.soft Wd.a (v := .int .i64 (((j : Nat) : Int) + 1 + 1)) (by exact E.assign (AF_ev rfl tp)) ?_
        refine RW.nil ?_
        refine Th.n ?_
        have hL2 := upL_same hL (show (chgF zs id) (((j : Nat) : Int) + 1) = false from hc3)
        have hst := hst.take (.there .here)
        exact ⟨7 - (j + 1), by omega, j + 1, X1, L, c1, hL2, (by omega), rfl, up rfl (up rfl (up rfl hs0)), up rfl (up rfl (up rfl hs1)), up rfl (up rfl (up rfl hs6)), (int_eq (a := ((j : Nat) : Int) + 1 + 1) tp (by omega)), hst⟩
    · have hc2_ := hc2
      try simp only [decide_eq_true_eq, decide_eq_false_iff_not, Bool.and_eq_true, Bool.or_eq_true, Bool.and_eq_false_iff, Bool.or_eq_false_iff, Bool.not_eq_true', Bool.not_eq_false', beq_iff_eq, beq_eq_false_iff_ne, bne_iff_ne, bne_eq_false_iff_eq, ne_eq, Int.not_lt, Int.not_le, gt_iff_lt, ge_iff_le] at hc2_
      refine CW.exit ?_
      refine Th.x ?_
      refine Th.x ?_
      refine Bl.x ?_
      refine Th.n ?_
      refine CW.seq ?_
      refine CW.seq ?_
      refine CW.cut (fun τ => τ 0 = .slice X zs.length c ∧ τ 1 = .int .i64 id ∧ τ 6 = .slice X1 L.length c1 ∧ τ 7 = .int .i64 (((j : Nat) : Int) + 1) ∧ τ 12 = .bool false ∧ τ 36 = .bool (((((L.length : Nat) : Int) == 0) || (decide (id < 1))) || (decide (id > 7)))) ?_ ?_
      · refine CW.region ?_
        refine RW.soft Wd.a (v := .slice X1 L.length c1) (by exact E.move (AF_ev rfl hs6)) ?_
        refine RW.soft Wd.a (v := .int .i64 ((L.length : Nat) : Int)) (by exact E.lenS (p := X1) (l := L.length) (c := c1) Try.underlying58 (AF_ev rfl tp)) ?_
        refine RW.soft Wd.a (v := .bool (((L.length : Nat) : Int) == 0)) (by exact E.eql (k := .i64) (a := ((L.length : Nat) : Int)) (b := 0) (AF_ev rfl tp) rfl) ?_
        refine RW.soft Wd.a (v := .bool (((L.length : Nat) : Int) == 0)) (by exact E.move (AF_ev rfl tp)) ?_
        refine Or.elim (Bool.eq_false_or_eq_true (((L.length : Nat) : Int) == 0)) (fun hg7 => ?_) (fun hg7 => ?_)
        · have hg7_ := hg7
          try simp only [decide_eq_true_eq, decide_eq_false_iff_not, Bool.and_eq_true, Bool.or_eq_true, Bool.and_eq_false_iff, Bool.or_eq_false_iff, Bool.not_eq_true', Bool.not_eq_false', beq_iff_eq, beq_eq_false_iff_ne, bne_iff_ne, bne_eq_false_iff_eq, ne_eq, Int.not_lt, Int.not_le, gt_iff_lt, ge_iff_le] at hg7_
          refine RW.pass (by exact Wd.no (x := 29) (b := true) rfl (AF_ev rfl (Eq.trans tp (congrArg Value.bool hg7))) rfl) ?_
          refine RW.pass (by exact Wd.no (x := 29) (b := true) rfl (AF_ev rfl (up rfl (Eq.trans tp (congrArg Value.bool hg7)))) rfl) ?_
          refine RW.soft Wd.a (v := .bool true) (by exact E.pickT (AF_ev rfl (up rfl (up rfl (Eq.trans tp (congrArg Value.bool hg7))))) rfl) ?_
          refine RW.soft Wd.a (v := .bool true) (by exact E.move (AF_ev rfl tp)) ?_
          refine RW.pass (by exact Wd.no (x := 33) (b := true) rfl (AF_ev rfl tp) rfl) ?_
          refine RW.pass (by exact Wd.no (x := 33) (b := true) rfl (AF_ev rfl (up rfl tp)) rfl) ?_
          refine RW.soft Wd.a (v := .bool true) (by exact E.pickT (AF_ev rfl (up rfl (up rfl tp))) rfl) ?_
          refine RW.nil ⟨rfl, rfl, up rfl (up rfl (up rfl (up rfl (up rfl (up rfl (up rfl (up rfl (up rfl (up rfl (up rfl hs0)))))))))), up rfl (up rfl (up rfl (up rfl (up rfl (up rfl (up rfl (up rfl (up rfl (up rfl (up rfl hs1)))))))))), up rfl (up rfl (up rfl (up rfl (up rfl (up rfl (up rfl (up rfl (up rfl (up rfl (up rfl hs6)))))))))), up rfl (up rfl (up rfl (up rfl (up rfl (up rfl (up rfl (up rfl (up rfl (up rfl (up rfl hs7)))))))))), up rfl (up rfl (up rfl (up rfl (up rfl (up rfl (up rfl (up rfl (up rfl (up rfl (up rfl (Eq.trans hs12 (congrArg Value.bool hc2)))))))))))), (bool_eq (a := true) tp (by simp only [hg7, Bool.true_and, Bool.false_and, Bool.true_or, Bool.false_or]))⟩
        · have hg7_ := hg7
          try simp only [decide_eq_true_eq, decide_eq_false_iff_not, Bool.and_eq_true, Bool.or_eq_true, Bool.and_eq_false_iff, Bool.or_eq_false_iff, Bool.not_eq_true', Bool.not_eq_false', beq_iff_eq, beq_eq_false_iff_ne, bne_iff_ne, bne_eq_false_iff_eq, ne_eq, Int.not_lt, Int.not_le, gt_iff_lt, ge_iff_le] at hg7_
          refine RW.soft (by exact Wd.yes (x := 29) rfl (AF_ev rfl (Eq.trans tp (congrArg Value.bool hg7)))) (v := .int .i64 id) (by exact E.move (AF_ev rfl (up rfl (up rfl (up rfl (up rfl hs1)))))) ?_
          refine RW.soft (by exact Wd.yes (x := 29) rfl (AF_ev rfl (up rfl (Eq.trans tp (congrArg Value.bool hg7))))) (v := .bool (decide (id < 1))) (by exact E.lss (k := .i64) (a := id) (b := 1) (AF_ev rfl tp) rfl) ?_
          refine RW.soft Wd.a (v := .bool (decide (id < 1))) (by exact E.pickF (AF_ev rfl (up rfl (up rfl (Eq.trans tp (congrArg Value.bool hg7))))) (AF_ev rfl tp)) ?_
          refine RW.soft Wd.a (v := .bool (decide (id < 1))) (by exact E.move (AF_ev rfl tp)) ?_
          refine Or.elim (Bool.eq_false_or_eq_true (decide (id < 1))) (fun hg8 => ?_) (fun hg8 => ?_)
          · have hg8_ := hg8
            try simp only [decide_eq_true_eq, decide_eq_false_iff_not, Bool.and_eq_true, Bool.or_eq_true, Bool.and_eq_false_iff, Bool.or_eq_false_iff, Bool.not_eq_true', Bool.not_eq_false', beq_iff_eq, beq_eq_false_iff_ne, bne_iff_ne, bne_eq_false_iff_eq, ne_eq, Int.not_lt, Int.not_le, gt_iff_lt, ge_iff_le] at hg8_
            refine RW.pass (by exact Wd.no (x := 33) (b := true) rfl (AF_ev rfl (Eq.trans tp (congrArg Value.bool hg8))) rfl) ?_
            refine RW.pass (by exact Wd.no (x := 33) (b := true) rfl (AF_ev rfl (up rfl (Eq.trans tp (congrArg Value.bool hg8)))) rfl) ?_
            refine RW.soft Wd.a (v := .bool true) (by exact E.pickT (AF_ev rfl (up rfl (up rfl (Eq.trans tp (congrArg Value.bool hg8))))) rfl) ?_
            refine RW.nil ⟨rfl, rfl, up rfl (up rfl (up rfl (up rfl (up rfl (up rfl (up rfl (up rfl (up rfl (up rfl (up rfl hs0)))))))))), up rfl (up rfl (up rfl (up rfl (up rfl (up rfl (up rfl (up rfl (up rfl (up rfl (up rfl hs1)))))))))), up rfl (up rfl (up rfl (up rfl (up rfl (up rfl (up rfl (up rfl (up rfl (up rfl (up rfl hs6)))))))))), up rfl (up rfl (up rfl (up rfl (up rfl (up rfl (up rfl (up rfl (up rfl (up rfl (up rfl hs7)))))))))), up rfl (up rfl (up rfl (up rfl (up rfl (up rfl (up rfl (up rfl (up rfl (up rfl (up rfl (Eq.trans hs12 (congrArg Value.bool hc2)))))))))))), (bool_eq (a := true) tp (by simp only [hg7, hg8, Bool.true_and, Bool.false_and, Bool.true_or, Bool.false_or]))⟩
          · have hg8_ := hg8
            try simp only [decide_eq_true_eq, decide_eq_false_iff_not, Bool.and_eq_true, Bool.or_eq_true, Bool.and_eq_false_iff, Bool.or_eq_false_iff, Bool.not_eq_true', Bool.not_eq_false', beq_iff_eq, beq_eq_false_iff_ne, bne_iff_ne, bne_eq_false_iff_eq, ne_eq, Int.not_lt, Int.not_le, gt_iff_lt, ge_iff_le] at hg8_
            refine RW.soft (by exact Wd.yes (x := 33) rfl (AF_ev rfl (Eq.trans tp (congrArg Value.bool hg8)))) (v := .int .i64 id) (by exact E.move (AF_ev rfl (up rfl (up rfl (up rfl (up rfl (up rfl (up rfl (up rfl (up rfl hs1)))))))))) ?_
            refine RW.soft (by exact Wd.yes (x := 33) rfl (AF_ev rfl (up rfl (Eq.trans tp (congrArg Value.bool hg8))))) (v := .bool (decide (id > 7))) (by exact E.gtr (k := .i64) (a := id) (b := 7) (AF_ev rfl tp) rfl) ?_
            refine RW.soft Wd.a (v := .bool (decide (id > 7))) (by exact E.pickF (AF_ev rfl (up rfl (up rfl (Eq.trans tp (congrArg Value.bool hg8))))) (AF_ev rfl tp)) ?_
            refine RW.nil ⟨rfl, rfl, up rfl (up rfl (up rfl (up rfl (up rfl (up rfl (up rfl (up rfl (up rfl (up rfl (up rfl hs0)))))))))), up rfl (up rfl (up rfl (up rfl (up rfl (up rfl (up rfl (up rfl (up rfl (up rfl (up rfl hs1)))))))))), up rfl (up rfl (up rfl (up rfl (up rfl (up rfl (up rfl (up rfl (up rfl (up rfl (up rfl hs6)))))))))), up rfl (up rfl (up rfl (up rfl (up rfl (up rfl (up rfl (up rfl (up rfl (up rfl (up rfl hs7)))))))))), up rfl (up rfl (up rfl (up rfl (up rfl (up rfl (up rfl (up rfl (up rfl (up rfl (up rfl (Eq.trans hs12 (congrArg Value.bool hc2)))))))))))), (bool_eq (a := decide (id > 7)) tp (by simp only [hg7, hg8, Bool.true_and, Bool.false_and, Bool.true_or, Bool.false_or]))⟩
      rintro τ ⟨hs0, hs1, hs6, hs7, hs12, hs36⟩
      refine CW.cond (AF_ev rfl hs36) (fun hc9 => ?_) (fun hc9 => ?_)
      · have hc9_ := hc9
        try simp only [decide_eq_true_eq, decide_eq_false_iff_not, Bool.and_eq_true, Bool.or_eq_true, Bool.and_eq_false_iff, Bool.or_eq_false_iff, Bool.not_eq_true', Bool.not_eq_false', beq_iff_eq, beq_eq_false_iff_ne, bne_iff_ne, bne_eq_false_iff_eq, ne_eq, Int.not_lt, Int.not_le, gt_iff_lt, ge_iff_le] at hc9_
        refine CW.seq ?_
        refine CW.region ?_
        refine RW.soft Wd.a (v := .slice none 0 0) (by exact E.assign rfl) ?_
        refine RW.soft Wd.a (v := .int .i64 192) (by exact E.assign rfl) ?_
        refine RW.fin (fun τ => τ 0 = .slice X zs.length c ∧ τ 1 = .int .i64 id ∧ τ 4 = .slice none 0 0 ∧ τ 5 = .int .i64 192 ∧ τ 6 = .slice X1 L.length c1 ∧ τ 7 = .int .i64 (((j : Nat) : Int) + 1) ∧ τ 12 = .bool false ∧ τ 36 = .bool true) ⟨up rfl (up rfl hs0), up rfl (up rfl hs1), up rfl tp, tp, up rfl (up rfl hs6), up rfl (up rfl hs7), up rfl (up rfl hs12), up rfl (up rfl (Eq.trans hs36 (congrArg Value.bool hc9)))⟩ ?_
        rintro τ ⟨hs0, hs1, hs4, hs5, hs6, hs7, hs12, hs36⟩
        refine CW.ret ?_
        refine Th.r ?_
        refine retN (rs := [.tmp 4, .tmp 5]) (vs := [.slice none 0 0, .int .i64 192]) rfl (by exact (.tmp (AF_ev rfl hs4) (.tmp (AF_ev rfl hs5) .nil))) (by simp) ?_
        have hst := hst.take (.there .here)
        have hst := (hst.take (.there .here)).drop
        have hj7 : j = 7 := by omega
        have hno : ¬ (checkI zs = 0 ∧ (upL (chgF zs id) 7).length ≠ 0 ∧ 1 ≤ id ∧ id ≤ 7) := by rw [← hj7, ← hL]; omega
        exact ⟨_, by unfold chgE; rw [if_neg hno], by unfold chgR; rw [if_neg hno]; exact hst.ownNil none⟩
      · have hc9_ := hc9
        try simp only [decide_eq_true_eq, decide_eq_false_iff_not, Bool.and_eq_true, Bool.or_eq_true, Bool.and_eq_false_iff, Bool.or_eq_false_iff, Bool.not_eq_true', Bool.not_eq_false', beq_iff_eq, beq_eq_false_iff_ne, bne_iff_ne, bne_eq_false_iff_eq, ne_eq, Int.not_lt, Int.not_le, gt_iff_lt, ge_iff_le] at hc9_
        refine CW.skip ?_
        refine Th.n ?_
        refine CW.seq ?_
        refine CW.region ?_
        refine RW.soft Wd.a (v := .slice X1 L.length c1) (by exact E.move (AF_ev rfl hs6)) ?_
        refine RW.soft Wd.a (v := .slice X1 L.length c1) (by exact E.assign (AF_ev rfl tp)) ?_
        refine RW.soft Wd.a (v := .int .i64 0) (by exact E.assign rfl) ?_
        refine RW.fin (fun τ => τ 0 = .slice X zs.length c ∧ τ 1 = .int .i64 id ∧ τ 4 = .slice X1 L.length c1 ∧ τ 5 = .int .i64 0 ∧ τ 6 = .slice X1 L.length c1 ∧ τ 7 = .int .i64 (((j : Nat) : Int) + 1) ∧ τ 12 = .bool false ∧ τ 36 = .bool false) ⟨up rfl (up rfl (up rfl hs0)), up rfl (up rfl (up rfl hs1)), up rfl tp, tp, up rfl (up rfl (up rfl hs6)), up rfl (up rfl (up rfl hs7)), up rfl (up rfl (up rfl hs12)), up rfl (up rfl (up rfl (Eq.trans hs36 (congrArg Value.bool hc9))))⟩ ?_
        rintro τ ⟨hs0, hs1, hs4, hs5, hs6, hs7, hs12, hs36⟩
        refine CW.ret ?_
        refine retN (rs := [.tmp 4, .tmp 5]) (vs := [.slice X1 L.length c1, .int .i64 0]) rfl (by exact (.tmp (AF_ev rfl hs4) (.tmp (AF_ev rfl hs5) .nil))) (by simp) ?_
        have hst := hst.take (.there .here)
        have hst := hst.take (.there .here)
        have hj7 : j = 7 := by omega
        have hyes : checkI zs = 0 ∧ (upL (chgF zs id) 7).length ≠ 0 ∧ 1 ≤ id ∧ id ≤ 7 := by rw [← hj7, ← hL]; omega
        have hm : chgR zs id = L := by unfold chgR; rw [if_pos hyes, ← hj7, ← hL]
        exact ⟨_, by unfold chgE; rw [if_pos hyes], by rw [hm]; exact hst⟩

theorem r_Agreed {p : Pers} {w : World} {R : List Assn} {A : Assn} {X : Option Addr} {c : Nat} {zs : List Int} (hA : TI p A (.slice X zs.length c) zs) (hl : zs.length ≤ 1000000) {B : Assn} {Y : Option Addr} {d : Nat} {ys : List Int} (hB : TI p B (.slice Y ys.length d) ys) (hm : ys.length ≤ 1000000) (hst : St p w (A :: B :: R)) :
    Calls Try.prog 44 #[.slice X zs.length c, .slice Y ys.length d] w fun e w => e = .returned (.int .i64 (bestOf zs ys zs)) ∧ St p w (A :: B :: R) := by
  refine enter Try.func44 rfl (by simp) (n := 50) rfl fun τ hτ => ?_
  have hs0 : τ 0 = .slice X zs.length c := hτ 0 (by simp)
  have hs1 : τ 1 = .slice Y ys.length d := hτ 1 (by simp)
  clear hτ
  refine CW.seq ?_
  refine CW.region ?_
  refine RW.soft Wd.a (v := .int .i64 0) (by exact E.assign rfl) ?_
  refine RW.fin (fun τ => τ 0 = .slice X zs.length c ∧ τ 1 = .slice Y ys.length d ∧ τ 4 = .int .i64 0) ⟨up rfl hs0, up rfl hs1, tp⟩ ?_
  rintro τ ⟨hs0, hs1, hs4⟩
  refine CW.seq ?_
  refine CW.region ?_
  refine RW.soft Wd.a (v := .int .i64 (-9223372036854775808)) (by exact E.assign rfl) ?_
  refine RW.fin (fun τ => τ 0 = .slice X zs.length c ∧ τ 1 = .slice Y ys.length d ∧ τ 4 = .int .i64 0 ∧ τ 5 = .int .i64 (-9223372036854775808)) ⟨up rfl hs0, up rfl hs1, up rfl hs4, tp⟩ ?_
  rintro τ ⟨hs0, hs1, hs4, hs5⟩
  refine CW.seq ?_
  refine CW.seq ?_
  refine CW.region ?_
  refine RW.soft Wd.a (v := .int .i64 0) (by exact E.assign rfl) ?_
  refine RW.fin (fun τ => τ 0 = .slice X zs.length c ∧ τ 1 = .slice Y ys.length d ∧ τ 4 = .int .i64 0 ∧ τ 5 = .int .i64 (-9223372036854775808) ∧ τ 6 = .int .i64 0) ⟨up rfl hs0, up rfl hs1, up rfl hs4, up rfl hs5, tp⟩ ?_
  rintro τ ⟨hs0, hs1, hs4, hs5, hs6⟩
  refine CW.block ?_
  have hst := hst.take (.there .here)
  have hst := hst.take (.there .here)
  refine CW.loop (fun (k : Nat) (τ : Fr) (w : World) => ∃ (j : Nat) (best : Int), best = bestOf zs ys (zs.take j) ∧ j ≤ zs.length ∧ k = zs.length - j ∧ τ 0 = .slice X zs.length c ∧ τ 1 = .slice Y ys.length d ∧ τ 5 = .int .i64 best ∧ τ 6 = .int .i64 ((j : Nat) : Int) ∧ St p w (A :: B :: R)) (zs.length - 0) ⟨0, (-9223372036854775808), rfl, by omega, rfl, hs0, hs1, hs5, (int_eq (a := 0) hs6 (by omega)), hst⟩ ?_
  clear hst
  rintro k τ w ⟨j, best, hb, hj, hkj, hs0, hs1, hs5, hs6, hst⟩
  refine CW.seq ?_
  refine CW.seq ?_
  refine CW.region ?_
  refine RW.soft Wd.a (v := .int .i64 ((j : Nat) : Int)) (by exact E.move (AF_ev rfl hs6)) ?_
  refine RW.soft Wd.a (v := .slice X zs.length c) (by exact E.move (AF_ev rfl (up rfl hs0))) ?_
  refine RW.soft Wd.a (v := .int .i64 ((zs.length : Nat) : Int)) (by exact E.lenS (p := X) (l := zs.length) (c := c) Try.underlying58 (AF_ev rfl tp)) ?_
  refine RW.soft Wd.a (v := .bool (decide (((j : Nat) : Int) < ((zs.length : Nat) : Int)))) (by exact E.lss (k := .i64) (a := ((j : Nat) : Int)) (b := ((zs.length : Nat) : Int)) (AF_ev rfl (up rfl (up rfl tp))) (AF_ev rfl tp)) ?_
  refine RW.fin (fun τ => τ 0 = .slice X zs.length c ∧ τ 1 = .slice Y ys.length d ∧ τ 5 = .int .i64 best ∧ τ 6 = .int .i64 ((j : Nat) : Int) ∧ τ 13 = .bool (decide (((j : Nat) : Int) < ((zs.length : Nat) : Int)))) ⟨up rfl (up rfl (up rfl (up rfl hs0))), up rfl (up rfl (up rfl (up rfl hs1))), up rfl (up rfl (up rfl (up rfl hs5))), up rfl (up rfl (up rfl (up rfl hs6))), tp⟩ ?_
  rintro τ ⟨hs0, hs1, hs5, hs6, hs13⟩
  refine CW.cond (AF_ev rfl hs13) (fun hc1 => ?_) (fun hc1 => ?_)
  · have hc1_ := hc1
    try simp only [decide_eq_true_eq, decide_eq_false_iff_not, Bool.and_eq_true, Bool.or_eq_true, Bool.and_eq_false_iff, Bool.or_eq_false_iff, Bool.not_eq_true', Bool.not_eq_false', beq_iff_eq, beq_eq_false_iff_ne, bne_iff_ne, bne_eq_false_iff_eq, ne_eq, Int.not_lt, Int.not_le, gt_iff_lt, ge_iff_le] at hc1_
    refine CW.skip ?_
    refine Th.n ?_
    refine CW.seq ?_
    refine CW.block ?_
    refine CW.seq ?_
    obtain ⟨b0, o0, rfl, hcell0⟩ := TI.place hA (hst.take .here) (by omega)
    obtain ⟨x, hx⟩ : ∃ z, zs[j]? = some z := ⟨zs[j]'(by omega), List.getElem?_eq_getElem (by omega)⟩
    refine CW.region ?_
    refine RW.soft Wd.a (v := .slice Y ys.length d) (by exact E.move (AF_ev rfl hs1)) ?_
    refine RW.soft Wd.a (v := .slice (some ⟨b0, o0, none⟩) zs.length c) (by exact E.move (AF_ev rfl (up rfl hs0))) ?_
    refine RW.soft Wd.a (v := .int .i64 ((j : Nat) : Int)) (by exact E.move (AF_ev rfl (up rfl (up rfl hs6)))) ?_
    refine RW.soft Wd.a (v := .pointer (some ⟨b0, o0 + j * 1, none⟩)) (by exact E.indexAddr (b := b0) (o := o0) (l := zs.length) (c := c) (i := ((j : Nat) : Int)) Try.underlying58 sz3 (AF_ev rfl (up rfl tp)) (AF_ev rfl tp) (by omega) (by omega) (by simp)) ?_
    refine RW.soft Wd.a (v := .int .i64 x) (by exact E.load (a := ⟨b0, o0 + j * 1, none⟩) Try.underlying3 rfl (AF_ev rfl tp) (by exact hcell0 (hst.take .here) _ _ (flat_get (j := 0) ienc_len hx (rfl)))) ?_
    have hst := hst.take (.there .here)
    refine RW.hard Wd.a ?_
    refine H.call0 Try.func60 nm60 rfl (map2 (AF_ev rfl (up rfl (up rfl (up rfl (up rfl tp))))) (AF_ev rfl tp)) (Calls.mono (r_place hB hm x hst) ?_)
    rintro _ w ⟨rfl, hst⟩
    refine ⟨_, rfl, ?_⟩
    show RW _ _ _ _ _ _ _
    refine RW.soft Wd.a (v := .int .i64 (placeOf ys x)) (by exact E.assign (AF_ev rfl tp)) ?_
    refine RW.fin (fun τ => τ 0 = .slice (some ⟨b0, o0, none⟩) zs.length c ∧ τ 1 = .slice Y ys.length d ∧ τ 5 = .int .i64 best ∧ τ 6 = .int .i64 ((j : Nat) : Int) ∧ τ 7 = .int .i64 (placeOf ys x) ∧ τ 13 = .bool true) ⟨up rfl (up rfl (up rfl (up rfl (up rfl (up rfl (up rfl hs0)))))), up rfl (up rfl (up rfl (up rfl (up rfl (up rfl (up rfl hs1)))))), up rfl (up rfl (up rfl (up rfl (up rfl (up rfl (up rfl hs5)))))), up rfl (up rfl (up rfl (up rfl (up rfl (up rfl (up rfl hs6)))))), tp, up rfl (up rfl (up rfl (up rfl (up rfl (up rfl (up rfl (Eq.trans hs13 (congrArg Value.bool hc1))))))))⟩ ?_
    rintro τ ⟨hs0, hs1, hs5, hs6, hs7, hs13⟩
    refine CW.seq ?_
    refine CW.region ?_
    refine RW.soft Wd.a (v := .int .i64 0) (by exact E.assign rfl) ?_
    refine RW.fin (fun τ => τ 0 = .slice (some ⟨b0, o0, none⟩) zs.length c ∧ τ 1 = .slice Y ys.length d ∧ τ 5 = .int .i64 best ∧ τ 6 = .int .i64 ((j : Nat) : Int) ∧ τ 7 = .int .i64 (placeOf ys x) ∧ τ 8 = .int .i64 0 ∧ τ 13 = .bool true) ⟨up rfl hs0, up rfl hs1, up rfl hs5, up rfl hs6, up rfl hs7, tp, up rfl hs13⟩ ?_
    rintro τ ⟨hs0, hs1, hs5, hs6, hs7, hs8, hs13⟩
    refine CW.seq ?_
    refine CW.seq ?_
    refine CW.region ?_
    refine RW.soft Wd.a (v := .int .i64 0) (by exact E.assign rfl) ?_
    refine RW.fin (fun τ => τ 0 = .slice (some ⟨b0, o0, none⟩) zs.length c ∧ τ 1 = .slice Y ys.length d ∧ τ 5 = .int .i64 best ∧ τ 6 = .int .i64 ((j : Nat) : Int) ∧ τ 7 = .int .i64 (placeOf ys x) ∧ τ 8 = .int .i64 0 ∧ τ 9 = .int .i64 0 ∧ τ 13 = .bool true) ⟨up rfl hs0, up rfl hs1, up rfl hs5, up rfl hs6, up rfl hs7, up rfl hs8, tp, up rfl hs13⟩ ?_
    rintro τ ⟨hs0, hs1, hs5, hs6, hs7, hs8, hs9, hs13⟩
    refine CW.block ?_
    have hst := hst.take (.there .here)
    have hc0 : manyOf ys (placeOf ys x) (zs.take 0) = 0 := rfl
    refine CW.loop (fun (k : Nat) (τ : Fr) (w : World) => ∃ (q : Nat), q ≤ zs.length ∧ k = zs.length - q ∧ τ 0 = .slice (some ⟨b0, o0, none⟩) zs.length c ∧ τ 1 = .slice Y ys.length d ∧ τ 5 = .int .i64 best ∧ τ 6 = .int .i64 ((j : Nat) : Int) ∧ τ 7 = .int .i64 (placeOf ys x) ∧ τ 8 = .int .i64 ((manyOf ys (placeOf ys x) (zs.take q) : Nat) : Int) ∧ τ 9 = .int .i64 ((q : Nat) : Int) ∧ St p w (A :: B :: R)) (zs.length - 0) ⟨0, by omega, rfl, hs0, hs1, hs5, hs6, hs7, (int_eq (a := 0) hs8 (by omega)), (int_eq (a := 0) hs9 (by omega)), hst⟩ ?_
    clear hst
    rintro k τ w ⟨q, hq, hkq, hs0, hs1, hs5, hs6, hs7, hs8, hs9, hst⟩
    refine CW.seq ?_
    refine CW.seq ?_
    refine CW.region ?_
    refine RW.soft Wd.a (v := .int .i64 ((q : Nat) : Int)) (by exact E.move (AF_ev rfl hs9)) ?_
    refine RW.soft Wd.a (v := .slice (some ⟨b0, o0, none⟩) zs.length c) (by exact E.move (AF_ev rfl (up rfl hs0))) ?_
    refine RW.soft Wd.a (v := .int .i64 ((zs.length : Nat) : Int)) (by exact E.lenS (p := (some ⟨b0, o0, none⟩)) (l := zs.length) (c := c) Try.underlying58 (AF_ev rfl tp)) ?_
    refine RW.soft Wd.a (v := .bool (decide (((q : Nat) : Int) < ((zs.length : Nat) : Int)))) (by exact E.lss (k := .i64) (a := ((q : Nat) : Int)) (b := ((zs.length : Nat) : Int)) (AF_ev rfl (up rfl (up rfl tp))) (AF_ev rfl tp)) ?_
    refine RW.fin (fun τ => τ 0 = .slice (some ⟨b0, o0, none⟩) zs.length c ∧ τ 1 = .slice Y ys.length d ∧ τ 5 = .int .i64 best ∧ τ 6 = .int .i64 ((j : Nat) : Int) ∧ τ 7 = .int .i64 (placeOf ys x) ∧ τ 8 = .int .i64 ((manyOf ys (placeOf ys x) (zs.take q) : Nat) : Int) ∧ τ 9 = .int .i64 ((q : Nat) : Int) ∧ τ 25 = .bool (decide (((q : Nat) : Int) < ((zs.length : Nat) : Int)))) ⟨up rfl (up rfl (up rfl (up rfl hs0))), up rfl (up rfl (up rfl (up rfl hs1))), up rfl (up rfl (up rfl (up rfl hs5))), up rfl (up rfl (up rfl (up rfl hs6))), up rfl (up rfl (up rfl (up rfl hs7))), up rfl (up rfl (up rfl (up rfl hs8))), up rfl (up rfl (up rfl (up rfl hs9))), tp⟩ ?_
    rintro τ ⟨hs0, hs1, hs5, hs6, hs7, hs8, hs9, hs25⟩
    refine CW.cond (AF_ev rfl hs25) (fun hc2 => ?_) (fun hc2 => ?_)
    · have hc2_ := hc2
      try simp only [decide_eq_true_eq, decide_eq_false_iff_not, Bool.and_eq_true, Bool.or_eq_true, Bool.and_eq_false_iff, Bool.or_eq_false_iff, Bool.not_eq_true', Bool.not_eq_false', beq_iff_eq, beq_eq_false_iff_ne, bne_iff_ne, bne_eq_false_iff_eq, ne_eq, Int.not_lt, Int.not_le, gt_iff_lt, ge_iff_le] at hc2_
      refine CW.skip ?_
      refine Th.n ?_
      refine CW.seq ?_
      refine CW.block ?_
      refine CW.seq ?_
      have hcl := many_le ys (placeOf ys x) (zs.take q)
      have htl : (zs.take q).length ≤ zs.length := by rw [List.length_take]; omega
      obtain ⟨z, hz⟩ : ∃ z, zs[q]? = some z := ⟨zs[q]'(by omega), List.getElem?_eq_getElem (by omega)⟩
      refine CW.region ?_
      refine RW.soft Wd.a (v := .slice Y ys.length d) (by exact E.move (AF_ev rfl hs1)) ?_
      refine RW.soft Wd.a (v := .slice (some ⟨b0, o0, none⟩) zs.length c) (by exact E.move (AF_ev rfl (up rfl hs0))) ?_
      refine RW.soft Wd.a (v := .int .i64 ((q : Nat) : Int)) (by exact E.move (AF_ev rfl (up rfl (up rfl hs9)))) ?_
      refine RW.soft Wd.a (v := .pointer (some ⟨b0, o0 + q * 1, none⟩)) (by exact E.indexAddr (b := b0) (o := o0) (l := zs.length) (c := c) (i := ((q : Nat) : Int)) Try.underlying58 sz3 (AF_ev rfl (up rfl tp)) (AF_ev rfl tp) (by omega) (by omega) (by simp)) ?_
      refine RW.soft Wd.a (v := .int .i64 z) (by exact E.load (a := ⟨b0, o0 + q * 1, none⟩) Try.underlying3 rfl (AF_ev rfl tp) (by exact hcell0 (hst.take .here) _ _ (flat_get (j := 0) ienc_len hz (rfl)))) ?_
      have hst := hst.take (.there .here)
      refine RW.hard Wd.a ?_
      refine H.call0 Try.func60 nm60 rfl (map2 (AF_ev rfl (up rfl (up rfl (up rfl (up rfl tp))))) (AF_ev rfl tp)) (Calls.mono (r_place hB hm z hst) ?_)
      rintro _ w ⟨rfl, hst⟩
      refine ⟨_, rfl, ?_⟩
      show RW _ _ _ _ _ _ _
      refine RW.soft Wd.a (v := .int .i64 (placeOf ys x)) (by exact E.move (AF_ev rfl (up rfl (up rfl (up rfl (up rfl (up rfl (up rfl hs7)))))))) ?_
      refine RW.soft Wd.a (v := .bool (decide ((placeOf ys z) ≥ (placeOf ys x)))) (by exact E.geq (k := .i64) (a := placeOf ys z) (b := placeOf ys x) (AF_ev rfl (up rfl tp)) (AF_ev rfl tp)) ?_
      refine RW.fin (fun τ => τ 0 = .slice (some ⟨b0, o0, none⟩) zs.length c ∧ τ 1 = .slice Y ys.length d ∧ τ 5 = .int .i64 best ∧ τ 6 = .int .i64 ((j : Nat) : Int) ∧ τ 7 = .int .i64 (placeOf ys x) ∧ τ 8 = .int .i64 ((manyOf ys (placeOf ys x) (zs.take q) : Nat) : Int) ∧ τ 9 = .int .i64 ((q : Nat) : Int) ∧ τ 25 = .bool true ∧ τ 35 = .bool (decide ((placeOf ys z) ≥ (placeOf ys x)))) ⟨up rfl (up rfl (up rfl (up rfl (up rfl (up rfl (up rfl (up rfl hs0))))))), up rfl (up rfl (up rfl (up rfl (up rfl (up rfl (up rfl (up rfl hs1))))))), up rfl (up rfl (up rfl (up rfl (up rfl (up rfl (up rfl (up rfl hs5))))))), up rfl (up rfl (up rfl (up rfl (up rfl (up rfl (up rfl (up rfl hs6))))))), up rfl (up rfl (up rfl (up rfl (up rfl (up rfl (up rfl (up rfl hs7))))))), up rfl (up rfl (up rfl (up rfl (up rfl (up rfl (up rfl (up rfl hs8))))))), up rfl (up rfl (up rfl (up rfl (up rfl (up rfl (up rfl (up rfl hs9))))))), up rfl (up rfl (up rfl (up rfl (up rfl (up rfl (up rfl (up rfl (Eq.trans hs25 (congrArg Value.bool hc2))))))))), tp⟩ ?_
      rintro τ ⟨hs0, hs1, hs5, hs6, hs7, hs8, hs9, hs25, hs35⟩
      refine CW.cond (AF_ev rfl hs35) (fun hc3 => ?_) (fun hc3 => ?_)
      · have hc3_ := hc3
        try simp only [decide_eq_true_eq, decide_eq_false_iff_not, Bool.and_eq_true, Bool.or_eq_true, Bool.and_eq_false_iff, Bool.or_eq_false_iff, Bool.not_eq_true', Bool.not_eq_false', beq_iff_eq, beq_eq_false_iff_ne, bne_iff_ne, bne_eq_false_iff_eq, ne_eq, Int.not_lt, Int.not_le, gt_iff_lt, ge_iff_le] at hc3_
        refine CW.region ?_
        refine RW.soft Wd.a (v := .int .i64 ((manyOf ys (placeOf ys x) (zs.take q) : Nat) : Int)) (by exact E.move (AF_ev rfl hs8)) ?_
        refine RW.soft Wd.a (v := .int .i64 (((manyOf ys (placeOf ys x) (zs.take q) : Nat) : Int) + 1)) (by exact E.add (k := .i64) (a := ((manyOf ys (placeOf ys x) (zs.take q) : Nat) : Int)) (b := 1) (AF_ev rfl tp) rfl (show IntKind.i64.wrap (((manyOf ys (placeOf ys x) (zs.take q) : Nat) : Int) + 1) = ((manyOf ys (placeOf ys x) (zs.take q) : Nat) : Int) + 1 from (by rw [IntWalk.i64_in _ (by omega)]))) ?_
        refine RW.soft Wd.a (v := .int .i64 (((manyOf ys (placeOf ys x) (zs.take q) : Nat) : Int) + 1)) (by exact E.assign (AF_ev rfl tp)) ?_
        refine RW.nil ?_
        refine Bl.n ?_
        refine Th.n ?_
        refine CW.region ?_
        refine RW.soft Wd.a (v := .int .i64 ((q : Nat) : Int)) (by exact E.move (AF_ev rfl (up rfl (up rfl (up rfl hs9))))) ?_
        refine RW.soft Wd.a (v := .int .i64 (((q : Nat) : Int) + 1)) (by exact E.add (k := .i64) (a := ((q : Nat) : Int)) (b := 1) (AF_ev rfl tp) rfl (show IntKind.i64.wrap (((q : Nat) : Int) + 1) = ((q : Nat) : Int) + 1 from (by rw [IntWalk.i64_in _ (by omega)]))) ?_
        refine RW.soft Wd.a (v := .int .i64 (((q : Nat) : Int) + 1)) (by exact E.assign (AF_ev rfl tp)) ?_
        refine RW.nil ?_
        refine Th.n ?_
        have hcs := many_step (ys := ys) (n := placeOf ys x) hz
        rw [if_pos (by rw [show decide _ = true from hc3])] at hcs
        have hst := hst.take (.there .here)
        exact ⟨zs.length - (q + 1), by omega, q + 1, (by omega), rfl, up rfl (up rfl (up rfl (up rfl (up rfl (up rfl hs0))))), up rfl (up rfl (up rfl (up rfl (up rfl (up rfl hs1))))), up rfl (up rfl (up rfl (up rfl (up rfl (up rfl hs5))))), up rfl (up rfl (up rfl (up rfl (up rfl (up rfl hs6))))), up rfl (up rfl (up rfl (up rfl (up rfl (up rfl hs7))))), (int_eq (a := ((manyOf ys (placeOf ys x) (zs.take q) : Nat) : Int) + 1) (up rfl (up rfl (up rfl tp))) (by omega)), (int_eq (a := ((q : Nat) : Int) + 1) tp (by omega)), hst⟩
      · have hc3_ := hc3
        try simp only [decide_eq_true_eq, decide_eq_false_iff_not, Bool.and_eq_true, Bool.or_eq_true, Bool.and_eq_false_iff, Bool.or_eq_false_iff, Bool.not_eq_true', Bool.not_eq_false', beq_iff_eq, beq_eq_false_iff_ne, bne_iff_ne, bne_eq_false_iff_eq, ne_eq, Int.not_lt, Int.not_le, gt_iff_lt, ge_iff_le] at hc3_
        refine CW.skip ?_
        refine Bl.n ?_
        refine Th.n ?_
        refine CW.region ?_
        refine RW.soft Wd.a (v := .int .i64 ((q : Nat) : Int)) (by exact E.move (AF_ev rfl hs9)) ?_
        refine RW.soft Wd.a (v := .int .i64 (((q : Nat) : Int) + 1)) (by exact E.add (k := .i64) (a := ((q : Nat) : Int)) (b := 1) (AF_ev rfl tp) rfl (show IntKind.i64.wrap (((q : Nat) : Int) + 1) = ((q : Nat) : Int) + 1 from (by rw [IntWalk.i64_in _ (by omega)]))) ?_
        refine RW.soft Wd.a (v := .int .i64 (((q : Nat) : Int) + 1)) (by exact E.assign (AF_ev rfl tp)) ?_
        refine RW.nil ?_
        refine Th.n ?_
        have hcs := many_step (ys := ys) (n := placeOf ys x) hz
        rw [if_neg (by rw [show decide _ = false from hc3]; decide)] at hcs
        have hst := hst.take (.there .here)
        exact ⟨zs.length - (q + 1), by omega, q + 1, (by omega), rfl, up rfl (up rfl (up rfl hs0)), up rfl (up rfl (up rfl hs1)), up rfl (up rfl (up rfl hs5)), up rfl (up rfl (up rfl hs6)), up rfl (up rfl (up rfl hs7)), (int_eq (a := ((manyOf ys (placeOf ys x) (zs.take q) : Nat) : Int)) (up rfl (up rfl (up rfl hs8))) (by omega)), (int_eq (a := ((q : Nat) : Int) + 1) tp (by omega)), hst⟩
    · have hc2_ := hc2
      try simp only [decide_eq_true_eq, decide_eq_false_iff_not, Bool.and_eq_true, Bool.or_eq_true, Bool.and_eq_false_iff, Bool.or_eq_false_iff, Bool.not_eq_true', Bool.not_eq_false', beq_iff_eq, beq_eq_false_iff_ne, bne_iff_ne, bne_eq_false_iff_eq, ne_eq, Int.not_lt, Int.not_le, gt_iff_lt, ge_iff_le] at hc2_
      refine CW.exit ?_
      refine Th.x ?_
      refine Th.x ?_
      refine Bl.x ?_
      refine Th.n ?_
      refine CW.seq ?_
      have hcl := many_le ys (placeOf ys x) zs
      have hjz : zs.take q = zs := List.take_of_length_le (by omega)
      rw [hjz] at hs8
      refine CW.cut (fun τ => τ 0 = .slice (some ⟨b0, o0, none⟩) zs.length c ∧ τ 1 = .slice Y ys.length d ∧ τ 5 = .int .i64 best ∧ τ 6 = .int .i64 ((j : Nat) : Int) ∧ τ 7 = .int .i64 (placeOf ys x) ∧ τ 8 = .int .i64 ((manyOf ys (placeOf ys x) zs : Nat) : Int) ∧ τ 9 = .int .i64 ((q : Nat) : Int) ∧ τ 25 = .bool false ∧ τ 47 = .bool ((decide ((2 * ((manyOf ys (placeOf ys x) zs : Nat) : Int)) > ((zs.length : Nat) : Int))) && (decide ((placeOf ys x) > best)))) ?_ ?_
      · refine CW.region ?_
        refine RW.soft Wd.a (v := .int .i64 ((manyOf ys (placeOf ys x) zs : Nat) : Int)) (by exact E.move (AF_ev rfl hs8)) ?_
        refine RW.soft Wd.a (v := .int .i64 (2 * ((manyOf ys (placeOf ys x) zs : Nat) : Int))) (by exact E.mul (k := .i64) (a := 2) (b := ((manyOf ys (placeOf ys x) zs : Nat) : Int)) rfl (AF_ev rfl tp) (show IntKind.i64.wrap (2 * ((manyOf ys (placeOf ys x) zs : Nat) : Int)) = 2 * ((manyOf ys (placeOf ys x) zs : Nat) : Int) from (by rw [IntWalk.i64_in _ (by omega)]))) ?_
        refine RW.soft Wd.a (v := .slice (some ⟨b0, o0, none⟩) zs.length c) (by exact E.move (AF_ev rfl (up rfl (up rfl hs0)))) ?_
        refine RW.soft Wd.a (v := .int .i64 ((zs.length : Nat) : Int)) (by exact E.lenS (p := (some ⟨b0, o0, none⟩)) (l := zs.length) (c := c) Try.underlying58 (AF_ev rfl tp)) ?_
        refine RW.soft Wd.a (v := .bool (decide ((2 * ((manyOf ys (placeOf ys x) zs : Nat) : Int)) > ((zs.length : Nat) : Int)))) (by exact E.gtr (k := .i64) (a := 2 * ((manyOf ys (placeOf ys x) zs : Nat) : Int)) (b := ((zs.length : Nat) : Int)) (AF_ev rfl (up rfl (up rfl tp))) (AF_ev rfl tp)) ?_
        refine RW.soft Wd.a (v := .bool (decide ((2 * ((manyOf ys (placeOf ys x) zs : Nat) : Int)) > ((zs.length : Nat) : Int)))) (by exact E.move (AF_ev rfl tp)) ?_
        refine Or.elim (Bool.eq_false_or_eq_true (decide ((2 * ((manyOf ys (placeOf ys x) zs : Nat) : Int)) > ((zs.length : Nat) : Int)))) (fun hg4 => ?_) (fun hg4 => ?_)
        · have hg4_ := hg4
          try simp only [decide_eq_true_eq, decide_eq_false_iff_not, Bool.and_eq_true, Bool.or_eq_true, Bool.and_eq_false_iff, Bool.or_eq_false_iff, Bool.not_eq_true', Bool.not_eq_false', beq_iff_eq, beq_eq_false_iff_ne, bne_iff_ne, bne_eq_false_iff_eq, ne_eq, Int.not_lt, Int.not_le, gt_iff_lt, ge_iff_le] at hg4_
          refine RW.soft (by exact Wd.yes (x := 43) rfl (AF_ev rfl (Eq.trans tp (congrArg Value.bool hg4)))) (v := .int .i64 (placeOf ys x)) (by exact E.move (AF_ev rfl (up rfl (up rfl (up rfl (up rfl (up rfl (up rfl hs7)))))))) ?_
          refine RW.soft (by exact Wd.yes (x := 43) rfl (AF_ev rfl (up rfl (Eq.trans tp (congrArg Value.bool hg4))))) (v := .int .i64 best) (by exact E.move (AF_ev rfl (up rfl (up rfl (up rfl (up rfl (up rfl (up rfl (up rfl hs5))))))))) ?_
          refine RW.soft (by exact Wd.yes (x := 43) rfl (AF_ev rfl (up rfl (up rfl (Eq.trans tp (congrArg Value.bool hg4)))))) (v := .bool (decide ((placeOf ys x) > best))) (by exact E.gtr (k := .i64) (a := placeOf ys x) (b := best) (AF_ev rfl (up rfl tp)) (AF_ev rfl tp)) ?_
          refine RW.soft Wd.a (v := .bool (decide ((placeOf ys x) > best))) (by exact E.pickT (AF_ev rfl (up rfl (up rfl (up rfl (Eq.trans tp (congrArg Value.bool hg4)))))) (AF_ev rfl tp)) ?_
          refine RW.nil ⟨rfl, rfl, up rfl (up rfl (up rfl (up rfl (up rfl (up rfl (up rfl (up rfl (up rfl (up rfl hs0))))))))), up rfl (up rfl (up rfl (up rfl (up rfl (up rfl (up rfl (up rfl (up rfl (up rfl hs1))))))))), up rfl (up rfl (up rfl (up rfl (up rfl (up rfl (up rfl (up rfl (up rfl (up rfl hs5))))))))), up rfl (up rfl (up rfl (up rfl (up rfl (up rfl (up rfl (up rfl (up rfl (up rfl hs6))))))))), up rfl (up rfl (up rfl (up rfl (up rfl (up rfl (up rfl (up rfl (up rfl (up rfl hs7))))))))), up rfl (up rfl (up rfl (up rfl (up rfl (up rfl (up rfl (up rfl (up rfl (up rfl hs8))))))))), up rfl (up rfl (up rfl (up rfl (up rfl (up rfl (up rfl (up rfl (up rfl (up rfl hs9))))))))), up rfl (up rfl (up rfl (up rfl (up rfl (up rfl (up rfl (up rfl (up rfl (up rfl (Eq.trans hs25 (congrArg Value.bool hc2))))))))))), (bool_eq (a := decide ((placeOf ys x) > best)) tp (by simp only [hg4, Bool.true_and, Bool.false_and, Bool.true_or, Bool.false_or]))⟩
        · have hg4_ := hg4
          try simp only [decide_eq_true_eq, decide_eq_false_iff_not, Bool.and_eq_true, Bool.or_eq_true, Bool.and_eq_false_iff, Bool.or_eq_false_iff, Bool.not_eq_true', Bool.not_eq_false', beq_iff_eq, beq_eq_false_iff_ne, bne_iff_ne, bne_eq_false_iff_eq, ne_eq, Int.not_lt, Int.not_le, gt_iff_lt, ge_iff_le] at hg4_
          refine RW.pass (by exact Wd.no (x := 43) (b := false) rfl (AF_ev rfl (Eq.trans tp (congrArg Value.bool hg4))) rfl) ?_
          refine RW.pass (by exact Wd.no (x := 43) (b := false) rfl (AF_ev rfl (up rfl (Eq.trans tp (congrArg Value.bool hg4)))) rfl) ?_
          refine RW.pass (by exact Wd.no (x := 43) (b := false) rfl (AF_ev rfl (up rfl (up rfl (Eq.trans tp (congrArg Value.bool hg4))))) rfl) ?_
          refine RW.soft Wd.a (v := .bool false) (by exact E.pickF (AF_ev rfl (up rfl (up rfl (up rfl (Eq.trans tp (congrArg Value.bool hg4)))))) rfl) ?_
          refine RW.nil ⟨rfl, rfl, up rfl (up rfl (up rfl (up rfl (up rfl (up rfl (up rfl (up rfl (up rfl (up rfl hs0))))))))), up rfl (up rfl (up rfl (up rfl (up rfl (up rfl (up rfl (up rfl (up rfl (up rfl hs1))))))))), up rfl (up rfl (up rfl (up rfl (up rfl (up rfl (up rfl (up rfl (up rfl (up rfl hs5))))))))), up rfl (up rfl (up rfl (up rfl (up rfl (up rfl (up rfl (up rfl (up rfl (up rfl hs6))))))))), up rfl (up rfl (up rfl (up rfl (up rfl (up rfl (up rfl (up rfl (up rfl (up rfl hs7))))))))), up rfl (up rfl (up rfl (up rfl (up rfl (up rfl (up rfl (up rfl (up rfl (up rfl hs8))))))))), up rfl (up rfl (up rfl (up rfl (up rfl (up rfl (up rfl (up rfl (up rfl (up rfl hs9))))))))), up rfl (up rfl (up rfl (up rfl (up rfl (up rfl (up rfl (up rfl (up rfl (up rfl (Eq.trans hs25 (congrArg Value.bool hc2))))))))))), (bool_eq (a := false) tp (by simp only [hg4, Bool.true_and, Bool.false_and, Bool.true_or, Bool.false_or]))⟩
      rintro τ ⟨hs0, hs1, hs5, hs6, hs7, hs8, hs9, hs25, hs47⟩
      refine CW.cond (AF_ev rfl hs47) (fun hc5 => ?_) (fun hc5 => ?_)
      · have hc5_ := hc5
        try simp only [decide_eq_true_eq, decide_eq_false_iff_not, Bool.and_eq_true, Bool.or_eq_true, Bool.and_eq_false_iff, Bool.or_eq_false_iff, Bool.not_eq_true', Bool.not_eq_false', beq_iff_eq, beq_eq_false_iff_ne, bne_iff_ne, bne_eq_false_iff_eq, ne_eq, Int.not_lt, Int.not_le, gt_iff_lt, ge_iff_le] at hc5_
        refine CW.region ?_
        refine RW.soft Wd.a (v := .int .i64 (placeOf ys x)) (by exact E.move (AF_ev rfl hs7)) ?_
        refine RW.soft Wd.a (v := .int .i64 (placeOf ys x)) (by exact E.assign (AF_ev rfl tp)) ?_
        refine RW.nil ?_
        refine Bl.n ?_
        refine Th.n ?_
        refine CW.region ?_
        refine RW.soft Wd.a (v := .int .i64 ((j : Nat) : Int)) (by exact E.move (AF_ev rfl (up rfl (up rfl hs6)))) ?_
        refine RW.soft Wd.a (v := .int .i64 (((j : Nat) : Int) + 1)) (by exact E.add (k := .i64) (a := ((j : Nat) : Int)) (b := 1) (AF_ev rfl tp) rfl (show IntKind.i64.wrap (((j : Nat) : Int) + 1) = ((j : Nat) : Int) + 1 from (by rw [IntWalk.i64_in _ (by omega)]))) ?_
        refine RW.soft Wd.a (v := .int .i64 (((j : Nat) : Int) + 1)) (by exact E.assign (AF_ev rfl tp)) ?_
        refine RW.nil ?_
        refine Th.n ?_
        have hb2 : placeOf ys x = bestOf zs ys (zs.take (j + 1)) := by
          rw [best_step hx, ← hb]; unfold bestStep; rw [if_pos (show _ = true from hc5)]
        have hst := hst.take (.there .here)
        have hst := hst.take (.there .here)
        exact ⟨zs.length - (j + 1), by omega, j + 1, placeOf ys x, hb2, (by omega), rfl, up rfl (up rfl (up rfl (up rfl (up rfl hs0)))), up rfl (up rfl (up rfl (up rfl (up rfl hs1)))), up rfl (up rfl (up rfl tp)), (int_eq (a := ((j : Nat) : Int) + 1) tp (by omega)), hst⟩
      · have hc5_ := hc5
        try simp only [decide_eq_true_eq, decide_eq_false_iff_not, Bool.and_eq_true, Bool.or_eq_true, Bool.and_eq_false_iff, Bool.or_eq_false_iff, Bool.not_eq_true', Bool.not_eq_false', beq_iff_eq, beq_eq_false_iff_ne, bne_iff_ne, bne_eq_false_iff_eq, ne_eq, Int.not_lt, Int.not_le, gt_iff_lt, ge_iff_le] at hc5_
        refine CW.skip ?_
        refine Bl.n ?_
        refine Th.n ?_
        refine CW.region ?_
        refine RW.soft Wd.a (v := .int .i64 ((j : Nat) : Int)) (by exact E.move (AF_ev rfl hs6)) ?_
        refine RW.soft Wd.a (v := .int .i64 (((j : Nat) : Int) + 1)) (by exact E.add (k := .i64) (a := ((j : Nat) : Int)) (b := 1) (AF_ev rfl tp) rfl (show IntKind.i64.wrap (((j : Nat) : Int) + 1) = ((j : Nat) : Int) + 1 from (by rw [IntWalk.i64_in _ (by omega)]))) ?_
        refine RW.soft Wd.a (v := .int .i64 (((j : Nat) : Int) + 1)) (by exact E.assign (AF_ev rfl tp)) ?_
        refine RW.nil ?_
        refine Th.n ?_
        have hb2 : best = bestOf zs ys (zs.take (j + 1)) := by
          rw [best_step hx, ← hb]; unfold bestStep; rw [if_neg (by rw [show _ = false from hc5]; decide)]
        have hst := hst.take (.there .here)
        have hst := hst.take (.there .here)
        exact ⟨zs.length - (j + 1), by omega, j + 1, best, hb2, (by omega), rfl, up rfl (up rfl (up rfl hs0)), up rfl (up rfl (up rfl hs1)), up rfl (up rfl (up rfl hs5)), (int_eq (a := ((j : Nat) : Int) + 1) tp (by omega)), hst⟩
  · have hc1_ := hc1
    try simp only [decide_eq_true_eq, decide_eq_false_iff_not, Bool.and_eq_true, Bool.or_eq_true, Bool.and_eq_false_iff, Bool.or_eq_false_iff, Bool.not_eq_true', Bool.not_eq_false', beq_iff_eq, beq_eq_false_iff_ne, bne_iff_ne, bne_eq_false_iff_eq, ne_eq, Int.not_lt, Int.not_le, gt_iff_lt, ge_iff_le] at hc1_
    refine CW.exit ?_
    refine Th.x ?_
    refine Th.x ?_
    refine Bl.x ?_
    refine Th.n ?_
    refine CW.seq ?_
    refine CW.region ?_
    refine RW.soft Wd.a (v := .int .i64 best) (by exact E.move (AF_ev rfl hs5)) ?_
    refine RW.soft Wd.a (v := .int .i64 best) (by exact E.assign (AF_ev rfl tp)) ?_
    refine RW.fin (fun τ => τ 0 = .slice X zs.length c ∧ τ 1 = .slice Y ys.length d ∧ τ 4 = .int .i64 best ∧ τ 5 = .int .i64 best ∧ τ 6 = .int .i64 ((j : Nat) : Int) ∧ τ 13 = .bool false) ⟨up rfl (up rfl hs0), up rfl (up rfl hs1), tp, up rfl (up rfl hs5), up rfl (up rfl hs6), up rfl (up rfl (Eq.trans hs13 (congrArg Value.bool hc1)))⟩ ?_
    rintro τ ⟨hs0, hs1, hs4, hs5, hs6, hs13⟩
    refine CW.ret ?_
    refine ret1 (v := .int .i64 best) rfl (by exact (.tmp (AF_ev rfl hs4) .nil)) ?_
    have hst := hst.take (.there .here)
    have hst := hst.take (.there .here)
    have hjz : zs.take j = zs := List.take_of_length_le (by omega)
    exact ⟨by rw [hb, hjz], hst⟩
end Go.Proofs.Ytjagffnbobnofaa
