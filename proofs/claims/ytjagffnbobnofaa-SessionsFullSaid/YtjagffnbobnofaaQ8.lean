/- The functions of the package quorum, walked through operation by operation. -/
import Derived.Test.YtjagffnbobnofaaQ6
import Derived.Test.YtjagffnbobnofaaQ7
import Derived.Test.YtjagffnbobnofaaQ4
import Derived.Test.YtjagffnbobnofaaQ5
import Derived.Test.YtjagffnbobnofaaQ2
import Derived.Test.YtjagffnbobnofaaQ1
import Derived.Test.YtjagffnbobnofaaQ3
import Derived.Test.YtjagffnbobnofaaQ0
import Derived.Test.YtjagffnbobnofaaSM
namespace Go.Proofs.Ytjagffnbobnofaa
open Go.RowKit Go.SL Go.Q18
attribute [local irreducible] Go.SL.RW Go.SL.CW Go.SL.RD Go.SL.Hd Go.SL.St
set_option linter.unusedVariables false
set_option linter.unusedSimpArgs false

theorem nm69 : (Try.f69.name == "runtime.NumGoroutine") = false := by kernel_rfl
theorem nm70 : (Try.f70.name == "runtime.NumGoroutine") = false := by kernel_rfl
theorem nm80 : (Try.f80.name == "runtime.NumGoroutine") = false := by kernel_rfl

theorem q_nan70 {p : Pers} {w : World} {R : List Assn} (x : Int) (hst : St p w (R)) :
    Calls Try.prog 70 #[.int .i64 x] w fun e w => e = .returned (.bool false) ∧ St p w R := by
  refine enter Try.func70 rfl (by simp) (n := 6) rfl fun τ hτ => ?_
  have hs0 : τ 0 = .int .i64 x := hτ 0 (by simp)
  clear hτ
  refine CW.seq ?_
  refine CW.region ?_
  refine RW.soft Wd.a (v := .bool false) (by exact E.assign rfl) ?_
  refine RW.fin (fun τ => τ 0 = .int .i64 x ∧ τ 2 = .bool false) ⟨up rfl hs0, tp⟩ ?_
  rintro τ ⟨hs0, hs2⟩
  refine CW.seq ?_
  refine CW.region ?_
  refine RW.soft Wd.a (v := .int .i64 x) (by exact E.move (AF_ev rfl hs0)) ?_
  refine RW.soft Wd.a (v := .int .i64 x) (by exact E.move (AF_ev rfl (up rfl hs0))) ?_
  refine RW.soft Wd.a (v := .bool false) (by exact E.b (a := x != x) (E.neq (k := .i64) (a := x) (b := x) (AF_ev rfl (up rfl tp)) (AF_ev rfl tp)) (by simp)) ?_
  refine RW.soft Wd.a (v := .bool false) (by exact E.assign (AF_ev rfl tp)) ?_
  refine RW.fin (fun τ => τ 0 = .int .i64 x ∧ τ 2 = .bool false) ⟨up rfl (up rfl (up rfl (up rfl hs0))), tp⟩ ?_
  rintro τ ⟨hs0, hs2⟩
  refine CW.ret ?_
  refine ret1 (v := .bool false) rfl (by exact (.tmp (AF_ev rfl hs2) .nil)) ?_
  exact ⟨rfl, hst⟩

theorem q_nan80 {p : Pers} {w : World} {R : List Assn} (x : Int) (hst : St p w (R)) :
    Calls Try.prog 80 #[.int .i64 x] w fun e w => e = .returned (.bool false) ∧ St p w R := by
  refine enter Try.func80 rfl (by simp) (n := 6) rfl fun τ hτ => ?_
  have hs0 : τ 0 = .int .i64 x := hτ 0 (by simp)
  clear hτ
  refine CW.seq ?_
  refine CW.region ?_
  refine RW.soft Wd.a (v := .bool false) (by exact E.assign rfl) ?_
  refine RW.fin (fun τ => τ 0 = .int .i64 x ∧ τ 2 = .bool false) ⟨up rfl hs0, tp⟩ ?_
  rintro τ ⟨hs0, hs2⟩
  refine CW.seq ?_
  refine CW.region ?_
  refine RW.soft Wd.a (v := .int .i64 x) (by exact E.move (AF_ev rfl hs0)) ?_
  refine RW.soft Wd.a (v := .int .i64 x) (by exact E.move (AF_ev rfl (up rfl hs0))) ?_
  refine RW.soft Wd.a (v := .bool false) (by exact E.b (a := x != x) (E.neq (k := .i64) (a := x) (b := x) (AF_ev rfl (up rfl tp)) (AF_ev rfl tp)) (by simp)) ?_
  refine RW.soft Wd.a (v := .bool false) (by exact E.assign (AF_ev rfl tp)) ?_
  refine RW.fin (fun τ => τ 0 = .int .i64 x ∧ τ 2 = .bool false) ⟨up rfl (up rfl (up rfl (up rfl hs0))), tp⟩ ?_
  rintro τ ⟨hs0, hs2⟩
  refine CW.ret ?_
  refine ret1 (v := .bool false) rfl (by exact (.tmp (AF_ev rfl hs2) .nil)) ?_
  exact ⟨rfl, hst⟩

theorem q_Less {p : Pers} {w : World} {R : List Assn} (x y : Int) (hst : St p w (R)) :
    Calls Try.prog 69 #[.int .i64 x, .int .i64 y] w fun e w => e = .returned (.bool (decide (x < y))) ∧ St p w R := by
  refine enter Try.func69 rfl (by simp) (n := 17) rfl fun τ hτ => ?_
  have hs0 : τ 0 = .int .i64 x := hτ 0 (by simp)
  have hs1 : τ 1 = .int .i64 y := hτ 1 (by simp)
  clear hτ
  refine CW.seq ?_
  refine CW.region ?_
  refine RW.soft Wd.a (v := .bool false) (by exact E.assign rfl) ?_
  refine RW.fin (fun τ => τ 0 = .int .i64 x ∧ τ 1 = .int .i64 y ∧ τ 4 = .bool false) ⟨up rfl hs0, up rfl hs1, tp⟩ ?_
  rintro τ ⟨hs0, hs1, hs4⟩
  refine CW.seq ?_
  refine CW.region ?_
  refine RW.soft Wd.a (v := .int .i64 x) (by exact E.move (AF_ev rfl hs0)) ?_
  refine RW.hard Wd.a ?_
  refine H.call0 Try.func80 nm80 rfl (map1 (AF_ev rfl tp)) (Calls.mono (q_nan80 x hst) ?_)
  rintro _ w ⟨rfl, hst⟩
  refine ⟨_, rfl, ?_⟩
  show RW _ _ _ _ _ _ _
  refine RW.soft Wd.a (v := .bool false) (by exact E.move (AF_ev rfl tp)) ?_
  refine RW.pass (by exact Wd.no (x := 7) (b := false) rfl (AF_ev rfl tp) rfl) ?_
  refine RW.pass (by exact Wd.no (x := 7) (b := false) rfl (AF_ev rfl (up rfl tp)) rfl) ?_
  refine RW.pass (by exact Wd.no (x := 7) (b := false) rfl (AF_ev rfl (up rfl (up rfl tp))) rfl) ?_
  refine RW.soft Wd.a (v := .bool false) (by exact E.pickF (AF_ev rfl (up rfl (up rfl (up rfl tp)))) rfl) ?_
  refine RW.soft Wd.a (v := .bool false) (by exact E.move (AF_ev rfl tp)) ?_
  refine RW.soft (by exact Wd.yes (x := 12) rfl (AF_ev rfl tp)) (v := .int .i64 x) (by exact E.move (AF_ev rfl (up rfl (up rfl (up rfl (up rfl (up rfl (up rfl (up rfl (up rfl hs0)))))))))) ?_
  refine RW.soft (by exact Wd.yes (x := 12) rfl (AF_ev rfl (up rfl tp))) (v := .int .i64 y) (by exact E.move (AF_ev rfl (up rfl (up rfl (up rfl (up rfl (up rfl (up rfl (up rfl (up rfl (up rfl hs1))))))))))) ?_
  refine RW.soft (by exact Wd.yes (x := 12) rfl (AF_ev rfl (up rfl (up rfl tp)))) (v := .bool (decide (x < y))) (by exact E.lss (k := .i64) (a := x) (b := y) (AF_ev rfl (up rfl tp)) (AF_ev rfl tp)) ?_
  refine RW.soft Wd.a (v := .bool (decide (x < y))) (by exact E.pickF (AF_ev rfl (up rfl (up rfl (up rfl tp)))) (AF_ev rfl tp)) ?_
  refine RW.soft Wd.a (v := .bool (decide (x < y))) (by exact E.assign (AF_ev rfl tp)) ?_
  refine RW.fin (fun τ => τ 0 = .int .i64 x ∧ τ 1 = .int .i64 y ∧ τ 4 = .bool (decide (x < y))) ⟨up rfl (up rfl (up rfl (up rfl (up rfl (up rfl (up rfl (up rfl (up rfl (up rfl (up rfl (up rfl (up rfl hs0)))))))))))), up rfl (up rfl (up rfl (up rfl (up rfl (up rfl (up rfl (up rfl (up rfl (up rfl (up rfl (up rfl (up rfl hs1)))))))))))), tp⟩ ?_
  rintro τ ⟨hs0, hs1, hs4⟩
  refine CW.ret ?_
  refine ret1 (v := .bool (decide (x < y))) rfl (by exact (.tmp (AF_ev rfl hs4) .nil)) ?_
  exact ⟨rfl, hst⟩

theorem q_Search {p : Pers} {w : World} {R : List Assn} {A : Assn} {X : Option Addr} {c : Nat} {zs : List Int} (hA : TI p A (.slice X zs.length c) zs) (hl : zs.length ≤ 1000000) (hs : zs.Pairwise (· < ·)) (id : Int) (hst : St p w (A :: R)) :
    Calls Try.prog 52 #[.slice X zs.length c, .int .i64 id] w fun e w => ∃ i : Nat, e = .returned (.tuple #[.int .i64 ((i : Nat) : Int), .bool (zs.contains id)]) ∧ LowB zs id i ∧ St p w (A :: R) := by
  refine enter Try.func52 rfl (by simp) (n := 54) rfl fun τ hτ => ?_
  have hs0 : τ 0 = .slice X zs.length c := hτ 0 (by simp)
  have hs1 : τ 1 = .int .i64 id := hτ 1 (by simp)
  clear hτ
  refine CW.seq ?_
  refine CW.region ?_
  refine RW.soft Wd.a (v := .int .i64 0) (by exact E.assign rfl) ?_
  refine RW.soft Wd.a (v := .bool false) (by exact E.assign rfl) ?_
  refine RW.fin (fun τ => τ 0 = .slice X zs.length c ∧ τ 1 = .int .i64 id ∧ τ 4 = .int .i64 0 ∧ τ 5 = .bool false) ⟨up rfl (up rfl hs0), up rfl (up rfl hs1), up rfl tp, tp⟩ ?_
  rintro τ ⟨hs0, hs1, hs4, hs5⟩
  refine CW.seq ?_
  refine CW.region ?_
  refine RW.soft Wd.a (v := .slice X zs.length c) (by exact E.move (AF_ev rfl hs0)) ?_
  refine RW.soft Wd.a (v := .int .i64 ((zs.length : Nat) : Int)) (by exact E.lenS (p := X) (l := zs.length) (c := c) Try.underlying58 (AF_ev rfl tp)) ?_
  refine RW.soft Wd.a (v := .int .i64 ((zs.length : Nat) : Int)) (by exact E.assign (AF_ev rfl tp)) ?_
  refine RW.fin (fun τ => τ 0 = .slice X zs.length c ∧ τ 1 = .int .i64 id ∧ τ 4 = .int .i64 0 ∧ τ 5 = .bool false ∧ τ 6 = .int .i64 ((zs.length : Nat) : Int)) ⟨up rfl (up rfl (up rfl hs0)), up rfl (up rfl (up rfl hs1)), up rfl (up rfl (up rfl hs4)), up rfl (up rfl (up rfl hs5)), tp⟩ ?_
  rintro τ ⟨hs0, hs1, hs4, hs5, hs6⟩
  refine CW.seq ?_
  refine CW.region ?_
  refine RW.soft Wd.a (v := .int .i64 ((zs.length : Nat) : Int)) (by exact E.move (AF_ev rfl hs6)) ?_
  refine RW.soft Wd.a (v := .int .i64 0) (by exact E.assign rfl) ?_
  refine RW.soft Wd.a (v := .int .i64 ((zs.length : Nat) : Int)) (by exact E.assign (AF_ev rfl (up rfl tp))) ?_
  refine RW.fin (fun τ => τ 0 = .slice X zs.length c ∧ τ 1 = .int .i64 id ∧ τ 4 = .int .i64 0 ∧ τ 5 = .bool false ∧ τ 6 = .int .i64 ((zs.length : Nat) : Int) ∧ τ 7 = .int .i64 0 ∧ τ 8 = .int .i64 ((zs.length : Nat) : Int)) ⟨up rfl (up rfl (up rfl hs0)), up rfl (up rfl (up rfl hs1)), up rfl (up rfl (up rfl hs4)), up rfl (up rfl (up rfl hs5)), up rfl (up rfl (up rfl hs6)), up rfl tp, tp⟩ ?_
  rintro τ ⟨hs0, hs1, hs4, hs5, hs6, hs7, hs8⟩
  refine CW.seq ?_
  refine CW.block ?_
  refine CW.loop (fun (k : Nat) (τ : Fr) (w : World) => ∃ (i j : Nat), (i ≤ j ∧ j ≤ zs.length) ∧ (∀ x ∈ zs.take i, x < id) ∧ (∀ x ∈ zs.drop j, id ≤ x) ∧ k = j - i ∧ τ 0 = .slice X zs.length c ∧ τ 1 = .int .i64 id ∧ τ 6 = .int .i64 ((zs.length : Nat) : Int) ∧ τ 7 = .int .i64 ((i : Nat) : Int) ∧ τ 8 = .int .i64 ((j : Nat) : Int) ∧ St p w (A :: R)) (zs.length - 0) ⟨0, zs.length, (by omega), (by simp), (by simp), rfl, hs0, hs1, hs6, (int_eq (a := 0) hs7 (by omega)), hs8, hst⟩ ?_
  clear hst
  rintro k τ w ⟨i, j, hij, hlo, hhi, hkj, hs0, hs1, hs6, hs7, hs8, hst⟩
  refine CW.seq ?_
  refine CW.seq ?_
  refine CW.region ?_
  refine RW.soft Wd.a (v := .int .i64 ((i : Nat) : Int)) (by exact E.move (AF_ev rfl hs7)) ?_
  refine RW.soft Wd.a (v := .int .i64 ((j : Nat) : Int)) (by exact E.move (AF_ev rfl (up rfl hs8))) ?_
  refine RW.soft Wd.a (v := .bool (decide (((i : Nat) : Int) < ((j : Nat) : Int)))) (by exact E.lss (k := .i64) (a := ((i : Nat) : Int)) (b := ((j : Nat) : Int)) (AF_ev rfl (up rfl tp)) (AF_ev rfl tp)) ?_
  refine RW.fin (fun τ => τ 0 = .slice X zs.length c ∧ τ 1 = .int .i64 id ∧ τ 6 = .int .i64 ((zs.length : Nat) : Int) ∧ τ 7 = .int .i64 ((i : Nat) : Int) ∧ τ 8 = .int .i64 ((j : Nat) : Int) ∧ τ 15 = .bool (decide (((i : Nat) : Int) < ((j : Nat) : Int)))) ⟨up rfl (up rfl (up rfl hs0)), up rfl (up rfl (up rfl hs1)), up rfl (up rfl (up rfl hs6)), up rfl (up rfl (up rfl hs7)), up rfl (up rfl (up rfl hs8)), tp⟩ ?_
  rintro τ ⟨hs0, hs1, hs6, hs7, hs8, hs15⟩
  refine CW.cond (AF_ev rfl hs15) (fun hc1 => ?_) (fun hc1 => ?_)
  · have hc1_ := hc1
    try simp only [decide_eq_true_eq, decide_eq_false_iff_not, Bool.and_eq_true, Bool.or_eq_true, Bool.and_eq_false_iff, Bool.or_eq_false_iff, Bool.not_eq_true', Bool.not_eq_false', beq_iff_eq, beq_eq_false_iff_ne, bne_iff_ne, bne_eq_false_iff_eq, ne_eq, Int.not_lt, Int.not_le, gt_iff_lt, ge_iff_le] at hc1_
    refine CW.skip ?_
    refine Th.n ?_
    refine CW.block ?_
    refine CW.seq ?_
    refine CW.region ?_
    refine RW.soft Wd.a (v := .int .i64 ((i : Nat) : Int)) (by exact E.move (AF_ev rfl hs7)) ?_
    refine RW.soft Wd.a (v := .int .i64 ((j : Nat) : Int)) (by exact E.move (AF_ev rfl (up rfl hs8))) ?_
    refine RW.soft Wd.a (v := .int .i64 (((i : Nat) : Int) + ((j : Nat) : Int))) (by exact E.add (k := .i64) (a := ((i : Nat) : Int)) (b := ((j : Nat) : Int)) (AF_ev rfl (up rfl tp)) (AF_ev rfl tp) (show IntKind.i64.wrap (((i : Nat) : Int) + ((j : Nat) : Int)) = ((i : Nat) : Int) + ((j : Nat) : Int) from (by rw [IntWalk.i64_in _ (by omega)]))) ?_
    refine RW.soft Wd.a (v := .int .u64 (((i : Nat) : Int) + ((j : Nat) : Int))) (by exact E.convInt (a := ((i : Nat) : Int) + ((j : Nat) : Int)) (by rw [Try.underlying3]; rfl) Try.underlying96 (AF_ev rfl tp) (show IntKind.u64.wrap (((i : Nat) : Int) + ((j : Nat) : Int)) = ((i : Nat) : Int) + ((j : Nat) : Int) from (by rw [IntWalk.u64_in _ (by omega)]))) ?_
    refine RW.soft Wd.a (v := .int .u64 ((((i : Nat) : Int) + ((j : Nat) : Int)) / 2)) (by exact E.shrU (a := ((i : Nat) : Int) + ((j : Nat) : Int)) (AF_ev rfl tp) rfl (by decide)) ?_
    refine RW.soft Wd.a (v := .int .i64 ((((i : Nat) : Int) + ((j : Nat) : Int)) / 2)) (by exact E.convInt (a := (((i : Nat) : Int) + ((j : Nat) : Int)) / 2) (by rw [Try.underlying96]; rfl) Try.underlying3 (AF_ev rfl tp) (show IntKind.i64.wrap ((((i : Nat) : Int) + ((j : Nat) : Int)) / 2) = (((i : Nat) : Int) + ((j : Nat) : Int)) / 2 from (by rw [IntWalk.i64_in _ (by omega)]))) ?_
    refine RW.soft Wd.a (v := .int .i64 ((((i : Nat) : Int) + ((j : Nat) : Int)) / 2)) (by exact E.assign (AF_ev rfl tp)) ?_
    refine RW.fin (fun τ => τ 0 = .slice X zs.length c ∧ τ 1 = .int .i64 id ∧ τ 6 = .int .i64 ((zs.length : Nat) : Int) ∧ τ 7 = .int .i64 ((i : Nat) : Int) ∧ τ 8 = .int .i64 ((j : Nat) : Int) ∧ τ 9 = .int .i64 ((((i : Nat) : Int) + ((j : Nat) : Int)) / 2) ∧ τ 15 = .bool true) ⟨up rfl (up rfl (up rfl (up rfl (up rfl (up rfl (up rfl hs0)))))), up rfl (up rfl (up rfl (up rfl (up rfl (up rfl (up rfl hs1)))))), up rfl (up rfl (up rfl (up rfl (up rfl (up rfl (up rfl hs6)))))), up rfl (up rfl (up rfl (up rfl (up rfl (up rfl (up rfl hs7)))))), up rfl (up rfl (up rfl (up rfl (up rfl (up rfl (up rfl hs8)))))), tp, up rfl (up rfl (up rfl (up rfl (up rfl (up rfl (up rfl (Eq.trans hs15 (congrArg Value.bool hc1))))))))⟩ ?_
    rintro τ ⟨hs0, hs1, hs6, hs7, hs8, hs9, hs15⟩
    refine CW.seq ?_
    obtain ⟨h, hh⟩ : ∃ h : Nat, (((i : Nat) : Int) + ((j : Nat) : Int)) / 2 = ((h : Nat) : Int) := ⟨(i + j) / 2, by omega⟩
    rw [hh] at hs9
    obtain ⟨b0, o0, rfl, hcell0⟩ := TI.place hA (hst.take .here) (by omega)
    obtain ⟨x, hx⟩ : ∃ z, zs[h]? = some z := ⟨zs[h]'(by omega), List.getElem?_eq_getElem (by omega)⟩
    refine CW.region ?_
    refine RW.soft Wd.a (v := .slice (some ⟨b0, o0, none⟩) zs.length c) (by exact E.move (AF_ev rfl hs0)) ?_
    refine RW.soft Wd.a (v := .int .i64 ((h : Nat) : Int)) (by exact E.move (AF_ev rfl (up rfl hs9))) ?_
    refine RW.soft Wd.a (v := .pointer (some ⟨b0, o0 + h * 1, none⟩)) (by exact E.indexAddr (b := b0) (o := o0) (l := zs.length) (c := c) (i := ((h : Nat) : Int)) Try.underlying58 sz3 (AF_ev rfl (up rfl tp)) (AF_ev rfl tp) (by omega) (by omega) (by simp)) ?_
    refine RW.soft Wd.a (v := .int .i64 x) (by exact E.load (a := ⟨b0, o0 + h * 1, none⟩) Try.underlying3 rfl (AF_ev rfl tp) (by exact hcell0 (hst.take .here) _ _ (flat_get (j := 0) ienc_len hx (rfl)))) ?_
    refine RW.soft Wd.a (v := .int .i64 id) (by exact E.move (AF_ev rfl (up rfl (up rfl (up rfl (up rfl hs1)))))) ?_
    refine RW.hard Wd.a ?_
    refine H.call0 Try.func69 nm69 rfl (map2 (AF_ev rfl (up rfl tp)) (AF_ev rfl tp)) (Calls.mono (q_Less x id hst) ?_)
    rintro _ w ⟨rfl, hst⟩
    refine ⟨_, rfl, ?_⟩
    show RW _ _ _ _ _ _ _
    refine RW.fin (fun τ => τ 0 = .slice (some ⟨b0, o0, none⟩) zs.length c ∧ τ 1 = .int .i64 id ∧ τ 6 = .int .i64 ((zs.length : Nat) : Int) ∧ τ 7 = .int .i64 ((i : Nat) : Int) ∧ τ 8 = .int .i64 ((j : Nat) : Int) ∧ τ 9 = .int .i64 ((h : Nat) : Int) ∧ τ 15 = .bool true ∧ τ 27 = .bool (decide (x < id))) ⟨up rfl (up rfl (up rfl (up rfl (up rfl (up rfl hs0))))), up rfl (up rfl (up rfl (up rfl (up rfl (up rfl hs1))))), up rfl (up rfl (up rfl (up rfl (up rfl (up rfl hs6))))), up rfl (up rfl (up rfl (up rfl (up rfl (up rfl hs7))))), up rfl (up rfl (up rfl (up rfl (up rfl (up rfl hs8))))), up rfl (up rfl (up rfl (up rfl (up rfl (up rfl hs9))))), up rfl (up rfl (up rfl (up rfl (up rfl (up rfl hs15))))), tp⟩ ?_
    rintro τ ⟨hs0, hs1, hs6, hs7, hs8, hs9, hs15, hs27⟩
    refine CW.cond (AF_ev rfl hs27) (fun hc2 => ?_) (fun hc2 => ?_)
    · have hc2_ := hc2
      try simp only [decide_eq_true_eq, decide_eq_false_iff_not, Bool.and_eq_true, Bool.or_eq_true, Bool.and_eq_false_iff, Bool.or_eq_false_iff, Bool.not_eq_true', Bool.not_eq_false', beq_iff_eq, beq_eq_false_iff_ne, bne_iff_ne, bne_eq_false_iff_eq, ne_eq, Int.not_lt, Int.not_le, gt_iff_lt, ge_iff_le] at hc2_
      refine CW.region ?_
      refine RW.soft Wd.a (v := .int .i64 ((h : Nat) : Int)) (by exact E.move (AF_ev rfl hs9)) ?_
      refine RW.soft Wd.a (v := .int .i64 (((h : Nat) : Int) + 1)) (by exact E.add (k := .i64) (a := ((h : Nat) : Int)) (b := 1) (AF_ev rfl tp) rfl (show IntKind.i64.wrap (((h : Nat) : Int) + 1) = ((h : Nat) : Int) + 1 from (by rw [IntWalk.i64_in _ (by omega)]))) ?_
      refine RW.soft Wd.a (v := .int .i64 (((h : Nat) : Int) + 1)) (by exact E.assign (AF_ev rfl tp)) ?_
      refine RW.nil ?_
      refine Bl.n ?_
      refine Th.n ?_
      have hlo2 := low_step hs hx (by omega)
      exact ⟨j - (h + 1), by omega, h + 1, j, (by omega), hlo2, hhi, rfl, up rfl (up rfl (up rfl hs0)), up rfl (up rfl (up rfl hs1)), up rfl (up rfl (up rfl hs6)), (int_eq (a := ((h : Nat) : Int) + 1) tp (by omega)), up rfl (up rfl (up rfl hs8)), hst⟩
    · have hc2_ := hc2
      try simp only [decide_eq_true_eq, decide_eq_false_iff_not, Bool.and_eq_true, Bool.or_eq_true, Bool.and_eq_false_iff, Bool.or_eq_false_iff, Bool.not_eq_true', Bool.not_eq_false', beq_iff_eq, beq_eq_false_iff_ne, bne_iff_ne, bne_eq_false_iff_eq, ne_eq, Int.not_lt, Int.not_le, gt_iff_lt, ge_iff_le] at hc2_
      refine CW.region ?_
      refine RW.soft Wd.a (v := .int .i64 ((h : Nat) : Int)) (by exact E.move (AF_ev rfl hs9)) ?_
      refine RW.soft Wd.a (v := .int .i64 ((h : Nat) : Int)) (by exact E.assign (AF_ev rfl tp)) ?_
      refine RW.nil ?_
      refine Bl.n ?_
      refine Th.n ?_
      have hhi2 := high_step hs hx (by omega)
      exact ⟨h - i, by omega, i, h, (by omega), hlo, hhi2, rfl, up rfl (up rfl hs0), up rfl (up rfl hs1), up rfl (up rfl hs6), up rfl (up rfl hs7), tp, hst⟩
  · have hc1_ := hc1
    try simp only [decide_eq_true_eq, decide_eq_false_iff_not, Bool.and_eq_true, Bool.or_eq_true, Bool.and_eq_false_iff, Bool.or_eq_false_iff, Bool.not_eq_true', Bool.not_eq_false', beq_iff_eq, beq_eq_false_iff_ne, bne_iff_ne, bne_eq_false_iff_eq, ne_eq, Int.not_lt, Int.not_le, gt_iff_lt, ge_iff_le] at hc1_
    refine CW.exit ?_
    refine Th.x ?_
    refine Th.x ?_
    refine Bl.x ?_
    refine Th.n ?_
    refine CW.seq ?_
    refine Or.elim (Bool.eq_false_or_eq_true (decide (((i : Nat) : Int) < ((zs.length : Nat) : Int)))) (fun hD => ?_) (fun hD => ?_)
    · skip
      have hD_ := of_decide_eq_true hD
      obtain ⟨b0, o0, rfl, hcell0⟩ := TI.place hA (hst.take .here) (by omega)
      obtain ⟨x, hx⟩ : ∃ z, zs[i]? = some z := ⟨zs[i]'(by omega), List.getElem?_eq_getElem (by omega)⟩
      refine Or.elim (Bool.eq_false_or_eq_true (x == id)) (fun hE => ?_) (fun hE => ?_)
      · skip
        refine CW.region ?_
        refine RW.soft Wd.a (v := .int .i64 ((i : Nat) : Int)) (by exact E.move (AF_ev rfl hs7)) ?_
        refine RW.soft Wd.a (v := .int .i64 ((i : Nat) : Int)) (by exact E.move (AF_ev rfl (up rfl hs7))) ?_
        refine RW.soft Wd.a (v := .int .i64 ((zs.length : Nat) : Int)) (by exact E.move (AF_ev rfl (up rfl (up rfl hs6)))) ?_
        refine RW.soft Wd.a (v := .bool true) (by exact E.b (a := decide (((i : Nat) : Int) < ((zs.length : Nat) : Int))) (E.lss (k := .i64) (a := ((i : Nat) : Int)) (b := ((zs.length : Nat) : Int)) (AF_ev rfl (up rfl tp)) (AF_ev rfl tp)) hD) ?_
        refine RW.soft Wd.a (v := .bool true) (by exact E.move (AF_ev rfl tp)) ?_
        refine RW.soft (by exact Wd.yes (x := 35) rfl (AF_ev rfl tp)) (v := .slice (some ⟨b0, o0, none⟩) zs.length c) (by exact E.move (AF_ev rfl (up rfl (up rfl (up rfl (up rfl (up rfl hs0))))))) ?_
        refine RW.soft (by exact Wd.yes (x := 35) rfl (AF_ev rfl (up rfl tp))) (v := .int .i64 ((i : Nat) : Int)) (by exact E.move (AF_ev rfl (up rfl (up rfl (up rfl (up rfl (up rfl (up rfl hs7)))))))) ?_
        refine RW.soft (by exact Wd.yes (x := 35) rfl (AF_ev rfl (up rfl (up rfl tp)))) (v := .pointer (some ⟨b0, o0 + i * 1, none⟩)) (by exact E.indexAddr (b := b0) (o := o0) (l := zs.length) (c := c) (i := ((i : Nat) : Int)) Try.underlying58 sz3 (AF_ev rfl (up rfl tp)) (AF_ev rfl tp) (by omega) (by omega) (by simp)) ?_
        refine RW.soft (by exact Wd.yes (x := 35) rfl (AF_ev rfl (up rfl (up rfl (up rfl tp))))) (v := .int .i64 x) (by exact E.load (a := ⟨b0, o0 + i * 1, none⟩) Try.underlying3 rfl (AF_ev rfl tp) (by exact hcell0 (hst.take .here) _ _ (flat_get (j := 0) ienc_len hx (rfl)))) ?_
        refine RW.soft (by exact Wd.yes (x := 35) rfl (AF_ev rfl (up rfl (up rfl (up rfl (up rfl tp)))))) (v := .int .i64 id) (by exact E.move (AF_ev rfl (up rfl (up rfl (up rfl (up rfl (up rfl (up rfl (up rfl (up rfl (up rfl hs1))))))))))) ?_
        refine RW.soft (by exact Wd.yes (x := 35) rfl (AF_ev rfl (up rfl (up rfl (up rfl (up rfl (up rfl tp))))))) (v := .bool true) (by exact E.b (a := x == id) (E.eql (k := .i64) (a := x) (b := id) (AF_ev rfl (up rfl tp)) (AF_ev rfl tp)) hE) ?_
        refine RW.soft (by exact Wd.yes (x := 35) rfl (AF_ev rfl (up rfl (up rfl (up rfl (up rfl (up rfl (up rfl tp)))))))) (v := .bool true) (by exact E.move (AF_ev rfl tp)) ?_
        refine RW.pass (by exact Wd.no (x := 42) (b := true) rfl (AF_ev rfl tp) rfl) ?_
        refine RW.pass (by exact Wd.no (x := 42) (b := true) rfl (AF_ev rfl (up rfl tp)) rfl) ?_
        refine RW.pass (by exact Wd.no (x := 42) (b := true) rfl (AF_ev rfl (up rfl (up rfl tp))) rfl) ?_
        refine RW.pass (by exact Wd.no (x := 42) (b := true) rfl (AF_ev rfl (up rfl (up rfl (up rfl tp)))) rfl) ?_
        refine RW.pass (by exact Wd.no (x := 42) (b := true) rfl (AF_ev rfl (up rfl (up rfl (up rfl (up rfl tp))))) rfl) ?_
        refine RW.pass (by exact Wd.no (x := 42) (b := true) rfl (AF_ev rfl (up rfl (up rfl (up rfl (up rfl (up rfl tp)))))) rfl) ?_
        refine RW.pass (by exact Wd.u (x := 48) rfl (AF_ev rfl tp)) ?_
        refine RW.pass (by exact Wd.u (x := 48) rfl (AF_ev rfl (up rfl tp))) ?_
        refine RW.pass (by exact Wd.no (x := 42) (b := true) rfl (AF_ev rfl (up rfl (up rfl (up rfl (up rfl (up rfl (up rfl (up rfl (up rfl tp))))))))) rfl) ?_
        refine RW.soft (by exact Wd.yes (x := 35) rfl (AF_ev rfl (up rfl (up rfl (up rfl (up rfl (up rfl (up rfl (up rfl (up rfl (up rfl (up rfl (up rfl (up rfl (up rfl (up rfl (up rfl (up rfl tp)))))))))))))))))) (v := .bool true) (by exact E.pickT (AF_ev rfl (up rfl (up rfl (up rfl (up rfl (up rfl (up rfl (up rfl (up rfl (up rfl tp)))))))))) rfl) ?_
        refine RW.soft Wd.a (v := .bool true) (by exact E.pickT (AF_ev rfl (up rfl (up rfl (up rfl (up rfl (up rfl (up rfl (up rfl (up rfl (up rfl (up rfl (up rfl (up rfl (up rfl (up rfl (up rfl (up rfl (up rfl tp)))))))))))))))))) (AF_ev rfl tp)) ?_
        refine RW.soft Wd.a (v := .int .i64 ((i : Nat) : Int)) (by exact E.assign (AF_ev rfl (up rfl (up rfl (up rfl (up rfl (up rfl (up rfl (up rfl (up rfl (up rfl (up rfl (up rfl (up rfl (up rfl (up rfl (up rfl (up rfl (up rfl (up rfl (up rfl (up rfl (up rfl (up rfl tp)))))))))))))))))))))))) ?_
        refine RW.soft Wd.a (v := .bool true) (by exact E.assign (AF_ev rfl (up rfl tp))) ?_
        refine RW.fin (fun τ => τ 0 = .slice (some ⟨b0, o0, none⟩) zs.length c ∧ τ 1 = .int .i64 id ∧ τ 4 = .int .i64 ((i : Nat) : Int) ∧ τ 5 = .bool true ∧ τ 6 = .int .i64 ((zs.length : Nat) : Int) ∧ τ 7 = .int .i64 ((i : Nat) : Int) ∧ τ 8 = .int .i64 ((j : Nat) : Int) ∧ τ 15 = .bool false) ⟨up rfl (up rfl (up rfl (up rfl (up rfl (up rfl (up rfl (up rfl (up rfl (up rfl (up rfl (up rfl (up rfl (up rfl (up rfl (up rfl (up rfl (up rfl (up rfl (up rfl (up rfl (up rfl (up rfl (up rfl (up rfl hs0)))))))))))))))))))))))), up rfl (up rfl (up rfl (up rfl (up rfl (up rfl (up rfl (up rfl (up rfl (up rfl (up rfl (up rfl (up rfl (up rfl (up rfl (up rfl (up rfl (up rfl (up rfl (up rfl (up rfl (up rfl (up rfl (up rfl (up rfl hs1)))))))))))))))))))))))), up rfl tp, tp, up rfl (up rfl (up rfl (up rfl (up rfl (up rfl (up rfl (up rfl (up rfl (up rfl (up rfl (up rfl (up rfl (up rfl (up rfl (up rfl (up rfl (up rfl (up rfl (up rfl (up rfl (up rfl (up rfl (up rfl (up rfl hs6)))))))))))))))))))))))), up rfl (up rfl (up rfl (up rfl (up rfl (up rfl (up rfl (up rfl (up rfl (up rfl (up rfl (up rfl (up rfl (up rfl (up rfl (up rfl (up rfl (up rfl (up rfl (up rfl (up rfl (up rfl (up rfl (up rfl (up rfl hs7)))))))))))))))))))))))), up rfl (up rfl (up rfl (up rfl (up rfl (up rfl (up rfl (up rfl (up rfl (up rfl (up rfl (up rfl (up rfl (up rfl (up rfl (up rfl (up rfl (up rfl (up rfl (up rfl (up rfl (up rfl (up rfl (up rfl (up rfl hs8)))))))))))))))))))))))), up rfl (up rfl (up rfl (up rfl (up rfl (up rfl (up rfl (up rfl (up rfl (up rfl (up rfl (up rfl (up rfl (up rfl (up rfl (up rfl (up rfl (up rfl (up rfl (up rfl (up rfl (up rfl (up rfl (up rfl (up rfl (Eq.trans hs15 (congrArg Value.bool hc1))))))))))))))))))))))))))⟩ ?_
        rintro τ ⟨hs0, hs1, hs4, hs5, hs6, hs7, hs8, hs15⟩
        refine CW.ret ?_
        refine retN (rs := [.tmp 4, .tmp 5]) (vs := [.int .i64 ((i : Nat) : Int), .bool true]) rfl (by exact (.tmp (AF_ev rfl hs4) (.tmp (AF_ev rfl hs5) .nil))) (by simp) ?_
        
        have hij2 : i = j := by omega
        have hLB : LowB zs id i := ⟨by omega, hlo, by rw [hij2]; exact hhi⟩
        exact ⟨i, by rw [(low_eq hx (by simpa using hE))], hLB, hst⟩
      · skip
        refine CW.region ?_
        refine RW.soft Wd.a (v := .int .i64 ((i : Nat) : Int)) (by exact E.move (AF_ev rfl hs7)) ?_
        refine RW.soft Wd.a (v := .int .i64 ((i : Nat) : Int)) (by exact E.move (AF_ev rfl (up rfl hs7))) ?_
        refine RW.soft Wd.a (v := .int .i64 ((zs.length : Nat) : Int)) (by exact E.move (AF_ev rfl (up rfl (up rfl hs6)))) ?_
        refine RW.soft Wd.a (v := .bool true) (by exact E.b (a := decide (((i : Nat) : Int) < ((zs.length : Nat) : Int))) (E.lss (k := .i64) (a := ((i : Nat) : Int)) (b := ((zs.length : Nat) : Int)) (AF_ev rfl (up rfl tp)) (AF_ev rfl tp)) hD) ?_
        refine RW.soft Wd.a (v := .bool true) (by exact E.move (AF_ev rfl tp)) ?_
        refine RW.soft (by exact Wd.yes (x := 35) rfl (AF_ev rfl tp)) (v := .slice (some ⟨b0, o0, none⟩) zs.length c) (by exact E.move (AF_ev rfl (up rfl (up rfl (up rfl (up rfl (up rfl hs0))))))) ?_
        refine RW.soft (by exact Wd.yes (x := 35) rfl (AF_ev rfl (up rfl tp))) (v := .int .i64 ((i : Nat) : Int)) (by exact E.move (AF_ev rfl (up rfl (up rfl (up rfl (up rfl (up rfl (up rfl hs7)))))))) ?_
        refine RW.soft (by exact Wd.yes (x := 35) rfl (AF_ev rfl (up rfl (up rfl tp)))) (v := .pointer (some ⟨b0, o0 + i * 1, none⟩)) (by exact E.indexAddr (b := b0) (o := o0) (l := zs.length) (c := c) (i := ((i : Nat) : Int)) Try.underlying58 sz3 (AF_ev rfl (up rfl tp)) (AF_ev rfl tp) (by omega) (by omega) (by simp)) ?_
        refine RW.soft (by exact Wd.yes (x := 35) rfl (AF_ev rfl (up rfl (up rfl (up rfl tp))))) (v := .int .i64 x) (by exact E.load (a := ⟨b0, o0 + i * 1, none⟩) Try.underlying3 rfl (AF_ev rfl tp) (by exact hcell0 (hst.take .here) _ _ (flat_get (j := 0) ienc_len hx (rfl)))) ?_
        refine RW.soft (by exact Wd.yes (x := 35) rfl (AF_ev rfl (up rfl (up rfl (up rfl (up rfl tp)))))) (v := .int .i64 id) (by exact E.move (AF_ev rfl (up rfl (up rfl (up rfl (up rfl (up rfl (up rfl (up rfl (up rfl (up rfl hs1))))))))))) ?_
        refine RW.soft (by exact Wd.yes (x := 35) rfl (AF_ev rfl (up rfl (up rfl (up rfl (up rfl (up rfl tp))))))) (v := .bool false) (by exact E.b (a := x == id) (E.eql (k := .i64) (a := x) (b := id) (AF_ev rfl (up rfl tp)) (AF_ev rfl tp)) hE) ?_
        refine RW.soft (by exact Wd.yes (x := 35) rfl (AF_ev rfl (up rfl (up rfl (up rfl (up rfl (up rfl (up rfl tp)))))))) (v := .bool false) (by exact E.move (AF_ev rfl tp)) ?_
        refine RW.soft (by exact Wd.yes (x := 42) rfl (AF_ev rfl tp)) (v := .slice (some ⟨b0, o0, none⟩) zs.length c) (by exact E.move (AF_ev rfl (up rfl (up rfl (up rfl (up rfl (up rfl (up rfl (up rfl (up rfl (up rfl (up rfl (up rfl (up rfl hs0)))))))))))))) ?_
        refine RW.soft (by exact Wd.yes (x := 42) rfl (AF_ev rfl (up rfl tp))) (v := .int .i64 ((i : Nat) : Int)) (by exact E.move (AF_ev rfl (up rfl (up rfl (up rfl (up rfl (up rfl (up rfl (up rfl (up rfl (up rfl (up rfl (up rfl (up rfl (up rfl hs7))))))))))))))) ?_
        refine RW.soft (by exact Wd.yes (x := 42) rfl (AF_ev rfl (up rfl (up rfl tp)))) (v := .pointer (some ⟨b0, o0 + i * 1, none⟩)) (by exact E.indexAddr (b := b0) (o := o0) (l := zs.length) (c := c) (i := ((i : Nat) : Int)) Try.underlying58 sz3 (AF_ev rfl (up rfl tp)) (AF_ev rfl tp) (by omega) (by omega) (by simp)) ?_
        refine RW.soft (by exact Wd.yes (x := 42) rfl (AF_ev rfl (up rfl (up rfl (up rfl tp))))) (v := .int .i64 x) (by exact E.load (a := ⟨b0, o0 + i * 1, none⟩) Try.underlying3 rfl (AF_ev rfl tp) (by exact hcell0 (hst.take .here) _ _ (flat_get (j := 0) ienc_len hx (rfl)))) ?_
        refine RW.hard (by exact Wd.yes (x := 42) rfl (AF_ev rfl (up rfl (up rfl (up rfl (up rfl tp)))))) ?_
        refine H.call0 Try.func70 nm70 rfl (map1 (AF_ev rfl tp)) (Calls.mono (q_nan70 x hst) ?_)
        rintro _ w ⟨rfl, hst⟩
        refine ⟨_, rfl, ?_⟩
        show RW _ _ _ _ _ _ _
        refine RW.soft (by exact Wd.yes (x := 42) rfl (AF_ev rfl (up rfl (up rfl (up rfl (up rfl (up rfl tp))))))) (v := .bool false) (by exact E.move (AF_ev rfl tp)) ?_
        refine RW.pass (by exact Wd.no (x := 48) (b := false) rfl (AF_ev rfl tp) rfl) ?_
        refine RW.pass (by exact Wd.no (x := 48) (b := false) rfl (AF_ev rfl (up rfl tp)) rfl) ?_
        refine RW.soft (by exact Wd.yes (x := 42) rfl (AF_ev rfl (up rfl (up rfl (up rfl (up rfl (up rfl (up rfl (up rfl (up rfl tp)))))))))) (v := .bool false) (by exact E.pickF (AF_ev rfl (up rfl (up rfl tp))) rfl) ?_
        refine RW.soft (by exact Wd.yes (x := 35) rfl (AF_ev rfl (up rfl (up rfl (up rfl (up rfl (up rfl (up rfl (up rfl (up rfl (up rfl (up rfl (up rfl (up rfl (up rfl (up rfl (up rfl (up rfl tp)))))))))))))))))) (v := .bool false) (by exact E.pickF (AF_ev rfl (up rfl (up rfl (up rfl (up rfl (up rfl (up rfl (up rfl (up rfl (up rfl tp)))))))))) (AF_ev rfl tp)) ?_
        refine RW.soft Wd.a (v := .bool false) (by exact E.pickT (AF_ev rfl (up rfl (up rfl (up rfl (up rfl (up rfl (up rfl (up rfl (up rfl (up rfl (up rfl (up rfl (up rfl (up rfl (up rfl (up rfl (up rfl (up rfl tp)))))))))))))))))) (AF_ev rfl tp)) ?_
        refine RW.soft Wd.a (v := .int .i64 ((i : Nat) : Int)) (by exact E.assign (AF_ev rfl (up rfl (up rfl (up rfl (up rfl (up rfl (up rfl (up rfl (up rfl (up rfl (up rfl (up rfl (up rfl (up rfl (up rfl (up rfl (up rfl (up rfl (up rfl (up rfl (up rfl (up rfl (up rfl tp)))))))))))))))))))))))) ?_
        refine RW.soft Wd.a (v := .bool false) (by exact E.assign (AF_ev rfl (up rfl tp))) ?_
        refine RW.fin (fun τ => τ 0 = .slice (some ⟨b0, o0, none⟩) zs.length c ∧ τ 1 = .int .i64 id ∧ τ 4 = .int .i64 ((i : Nat) : Int) ∧ τ 5 = .bool false ∧ τ 6 = .int .i64 ((zs.length : Nat) : Int) ∧ τ 7 = .int .i64 ((i : Nat) : Int) ∧ τ 8 = .int .i64 ((j : Nat) : Int) ∧ τ 15 = .bool false) ⟨up rfl (up rfl (up rfl (up rfl (up rfl (up rfl (up rfl (up rfl (up rfl (up rfl (up rfl (up rfl (up rfl (up rfl (up rfl (up rfl (up rfl (up rfl (up rfl (up rfl (up rfl (up rfl (up rfl (up rfl (up rfl hs0)))))))))))))))))))))))), up rfl (up rfl (up rfl (up rfl (up rfl (up rfl (up rfl (up rfl (up rfl (up rfl (up rfl (up rfl (up rfl (up rfl (up rfl (up rfl (up rfl (up rfl (up rfl (up rfl (up rfl (up rfl (up rfl (up rfl (up rfl hs1)))))))))))))))))))))))), up rfl tp, tp, up rfl (up rfl (up rfl (up rfl (up rfl (up rfl (up rfl (up rfl (up rfl (up rfl (up rfl (up rfl (up rfl (up rfl (up rfl (up rfl (up rfl (up rfl (up rfl (up rfl (up rfl (up rfl (up rfl (up rfl (up rfl hs6)))))))))))))))))))))))), up rfl (up rfl (up rfl (up rfl (up rfl (up rfl (up rfl (up rfl (up rfl (up rfl (up rfl (up rfl (up rfl (up rfl (up rfl (up rfl (up rfl (up rfl (up rfl (up rfl (up rfl (up rfl (up rfl (up rfl (up rfl hs7)))))))))))))))))))))))), up rfl (up rfl (up rfl (up rfl (up rfl (up rfl (up rfl (up rfl (up rfl (up rfl (up rfl (up rfl (up rfl (up rfl (up rfl (up rfl (up rfl (up rfl (up rfl (up rfl (up rfl (up rfl (up rfl (up rfl (up rfl hs8)))))))))))))))))))))))), up rfl (up rfl (up rfl (up rfl (up rfl (up rfl (up rfl (up rfl (up rfl (up rfl (up rfl (up rfl (up rfl (up rfl (up rfl (up rfl (up rfl (up rfl (up rfl (up rfl (up rfl (up rfl (up rfl (up rfl (up rfl (Eq.trans hs15 (congrArg Value.bool hc1))))))))))))))))))))))))))⟩ ?_
        rintro τ ⟨hs0, hs1, hs4, hs5, hs6, hs7, hs8, hs15⟩
        refine CW.ret ?_
        refine retN (rs := [.tmp 4, .tmp 5]) (vs := [.int .i64 ((i : Nat) : Int), .bool false]) rfl (by exact (.tmp (AF_ev rfl hs4) (.tmp (AF_ev rfl hs5) .nil))) (by simp) ?_
        
        have hij2 : i = j := by omega
        have hLB : LowB zs id i := ⟨by omega, hlo, by rw [hij2]; exact hhi⟩
        exact ⟨i, by rw [(low_ne hs hLB hx (by simpa using hE))], hLB, hst⟩
    · skip
      refine CW.region ?_
      refine RW.soft Wd.a (v := .int .i64 ((i : Nat) : Int)) (by exact E.move (AF_ev rfl hs7)) ?_
      refine RW.soft Wd.a (v := .int .i64 ((i : Nat) : Int)) (by exact E.move (AF_ev rfl (up rfl hs7))) ?_
      refine RW.soft Wd.a (v := .int .i64 ((zs.length : Nat) : Int)) (by exact E.move (AF_ev rfl (up rfl (up rfl hs6)))) ?_
      refine RW.soft Wd.a (v := .bool false) (by exact E.b (a := decide (((i : Nat) : Int) < ((zs.length : Nat) : Int))) (E.lss (k := .i64) (a := ((i : Nat) : Int)) (b := ((zs.length : Nat) : Int)) (AF_ev rfl (up rfl tp)) (AF_ev rfl tp)) hD) ?_
      refine RW.soft Wd.a (v := .bool false) (by exact E.move (AF_ev rfl tp)) ?_
      refine RW.pass (by exact Wd.no (x := 35) (b := false) rfl (AF_ev rfl tp) rfl) ?_
      refine RW.pass (by exact Wd.no (x := 35) (b := false) rfl (AF_ev rfl (up rfl tp)) rfl) ?_
      refine RW.pass (by exact Wd.no (x := 35) (b := false) rfl (AF_ev rfl (up rfl (up rfl tp))) rfl) ?_
      refine RW.pass (by exact Wd.no (x := 35) (b := false) rfl (AF_ev rfl (up rfl (up rfl (up rfl tp)))) rfl) ?_
      refine RW.pass (by exact Wd.no (x := 35) (b := false) rfl (AF_ev rfl (up rfl (up rfl (up rfl (up rfl tp))))) rfl) ?_
      refine RW.pass (by exact Wd.no (x := 35) (b := false) rfl (AF_ev rfl (up rfl (up rfl (up rfl (up rfl (up rfl tp)))))) rfl) ?_
      refine RW.pass (by exact Wd.no (x := 35) (b := false) rfl (AF_ev rfl (up rfl (up rfl (up rfl (up rfl (up rfl (up rfl tp))))))) rfl) ?_
      refine RW.pass (by exact Wd.u (x := 42) rfl (AF_ev rfl tp)) ?_
      refine RW.pass (by exact Wd.u (x := 42) rfl (AF_ev rfl (up rfl tp))) ?_
      refine RW.pass (by exact Wd.u (x := 42) rfl (AF_ev rfl (up rfl (up rfl tp)))) ?_
      refine RW.pass (by exact Wd.u (x := 42) rfl (AF_ev rfl (up rfl (up rfl (up rfl tp))))) ?_
      refine RW.pass (by exact Wd.u (x := 42) rfl (AF_ev rfl (up rfl (up rfl (up rfl (up rfl tp)))))) ?_
      refine RW.pass (by exact Wd.u (x := 42) rfl (AF_ev rfl (up rfl (up rfl (up rfl (up rfl (up rfl tp))))))) ?_
      refine RW.pass (by exact Wd.u (x := 48) rfl (AF_ev rfl tp)) ?_
      refine RW.pass (by exact Wd.u (x := 48) rfl (AF_ev rfl (up rfl tp))) ?_
      refine RW.pass (by exact Wd.u (x := 42) rfl (AF_ev rfl (up rfl (up rfl (up rfl (up rfl (up rfl (up rfl (up rfl (up rfl tp)))))))))) ?_
      refine RW.pass (by exact Wd.no (x := 35) (b := false) rfl (AF_ev rfl (up rfl (up rfl (up rfl (up rfl (up rfl (up rfl (up rfl (up rfl (up rfl (up rfl (up rfl (up rfl (up rfl (up rfl (up rfl (up rfl tp))))))))))))))))) rfl) ?_
      refine RW.soft Wd.a (v := .bool false) (by exact E.pickF (AF_ev rfl (up rfl (up rfl (up rfl (up rfl (up rfl (up rfl (up rfl (up rfl (up rfl (up rfl (up rfl (up rfl (up rfl (up rfl (up rfl (up rfl (up rfl tp)))))))))))))))))) rfl) ?_
      refine RW.soft Wd.a (v := .int .i64 ((i : Nat) : Int)) (by exact E.assign (AF_ev rfl (up rfl (up rfl (up rfl (up rfl (up rfl (up rfl (up rfl (up rfl (up rfl (up rfl (up rfl (up rfl (up rfl (up rfl (up rfl (up rfl (up rfl (up rfl (up rfl (up rfl (up rfl (up rfl tp)))))))))))))))))))))))) ?_
      refine RW.soft Wd.a (v := .bool false) (by exact E.assign (AF_ev rfl (up rfl tp))) ?_
      refine RW.fin (fun τ => τ 0 = .slice X zs.length c ∧ τ 1 = .int .i64 id ∧ τ 4 = .int .i64 ((i : Nat) : Int) ∧ τ 5 = .bool false ∧ τ 6 = .int .i64 ((zs.length : Nat) : Int) ∧ τ 7 = .int .i64 ((i : Nat) : Int) ∧ τ 8 = .int .i64 ((j : Nat) : Int) ∧ τ 15 = .bool false) ⟨up rfl (up rfl (up rfl (up rfl (up rfl (up rfl (up rfl (up rfl (up rfl (up rfl (up rfl (up rfl (up rfl (up rfl (up rfl (up rfl (up rfl (up rfl (up rfl (up rfl (up rfl (up rfl (up rfl (up rfl (up rfl hs0)))))))))))))))))))))))), up rfl (up rfl (up rfl (up rfl (up rfl (up rfl (up rfl (up rfl (up rfl (up rfl (up rfl (up rfl (up rfl (up rfl (up rfl (up rfl (up rfl (up rfl (up rfl (up rfl (up rfl (up rfl (up rfl (up rfl (up rfl hs1)))))))))))))))))))))))), up rfl tp, tp, up rfl (up rfl (up rfl (up rfl (up rfl (up rfl (up rfl (up rfl (up rfl (up rfl (up rfl (up rfl (up rfl (up rfl (up rfl (up rfl (up rfl (up rfl (up rfl (up rfl (up rfl (up rfl (up rfl (up rfl (up rfl hs6)))))))))))))))))))))))), up rfl (up rfl (up rfl (up rfl (up rfl (up rfl (up rfl (up rfl (up rfl (up rfl (up rfl (up rfl (up rfl (up rfl (up rfl (up rfl (up rfl (up rfl (up rfl (up rfl (up rfl (up rfl (up rfl (up rfl (up rfl hs7)))))))))))))))))))))))), up rfl (up rfl (up rfl (up rfl (up rfl (up rfl (up rfl (up rfl (up rfl (up rfl (up rfl (up rfl (up rfl (up rfl (up rfl (up rfl (up rfl (up rfl (up rfl (up rfl (up rfl (up rfl (up rfl (up rfl (up rfl hs8)))))))))))))))))))))))), up rfl (up rfl (up rfl (up rfl (up rfl (up rfl (up rfl (up rfl (up rfl (up rfl (up rfl (up rfl (up rfl (up rfl (up rfl (up rfl (up rfl (up rfl (up rfl (up rfl (up rfl (up rfl (up rfl (up rfl (up rfl (Eq.trans hs15 (congrArg Value.bool hc1))))))))))))))))))))))))))⟩ ?_
      rintro τ ⟨hs0, hs1, hs4, hs5, hs6, hs7, hs8, hs15⟩
      refine CW.ret ?_
      refine retN (rs := [.tmp 4, .tmp 5]) (vs := [.int .i64 ((i : Nat) : Int), .bool false]) rfl (by exact (.tmp (AF_ev rfl hs4) (.tmp (AF_ev rfl hs5) .nil))) (by simp) ?_
      
      have hij2 : i = j := by omega
      have hLB : LowB zs id i := ⟨by omega, hlo, by rw [hij2]; exact hhi⟩
      exact ⟨i, by rw [(low_out hLB (by have := of_decide_eq_false hD; omega))], hLB, hst⟩

theorem q_Delete {p : Pers} {w : World} {R : List Assn} {g c i : Nat} {zs : List Int} (hl : zs.length ≤ 1000000) (hcz : zs.length ≤ c) (hcm : c ≤ maxLen) (hi : i < zs.length) (hst : St p w (Own 3 1 (.slice (some ⟨g, 0, none⟩) zs.length c) zs.length (zs.flatMap ienc) :: R)) :
    Calls Try.prog 54 #[.slice (some ⟨g, 0, none⟩) zs.length c, .int .i64 ((i : Nat) : Int), .int .i64 (((i : Nat) : Int) + 1)] w fun e w => ∃ n2, e = .returned (.slice (some ⟨g, 0, none⟩) n2 c) ∧ n2 + 1 = zs.length ∧ St p w (Own 3 1 (.slice (some ⟨g, 0, none⟩) n2 c) n2 ((putOut zs i).flatMap ienc) :: R) := by
  have hcm2 : c ≤ 9223372036854775807 := by simp only [maxLen] at hcm; omega
  refine enter Try.func54 rfl (by simp) (n := 33) rfl fun τ hτ => ?_
  have hs0 : τ 0 = .slice (some ⟨g, 0, none⟩) zs.length c := hτ 0 (by simp)
  have hs1 : τ 1 = .int .i64 ((i : Nat) : Int) := hτ 1 (by simp)
  have hs2 : τ 2 = .int .i64 (((i : Nat) : Int) + 1) := hτ 2 (by simp)
  clear hτ
  refine CW.seq ?_
  refine CW.region ?_
  refine RW.soft Wd.a (v := .slice none 0 0) (by exact E.assign rfl) ?_
  refine RW.fin (fun τ => τ 0 = .slice (some ⟨g, 0, none⟩) zs.length c ∧ τ 1 = .int .i64 ((i : Nat) : Int) ∧ τ 2 = .int .i64 (((i : Nat) : Int) + 1) ∧ τ 6 = .slice none 0 0) ⟨up rfl hs0, up rfl hs1, up rfl hs2, tp⟩ ?_
  rintro τ ⟨hs0, hs1, hs2, hs6⟩
  refine CW.seq ?_
  refine CW.region ?_
  refine RW.soft Wd.a (v := .slice (some ⟨g, 0, none⟩) zs.length c) (by exact E.move (AF_ev rfl hs0)) ?_
  refine RW.soft Wd.a (v := .int .i64 ((i : Nat) : Int)) (by exact E.move (AF_ev rfl (up rfl hs1))) ?_
  refine RW.soft Wd.a (v := .int .i64 (((i : Nat) : Int) + 1)) (by exact E.move (AF_ev rfl (up rfl (up rfl hs2)))) ?_
  refine RW.soft Wd.a (v := .slice (some ⟨g, 0, none⟩) zs.length c) (by exact E.move (AF_ev rfl (up rfl (up rfl (up rfl hs0))))) ?_
  refine RW.soft Wd.a (v := .int .i64 ((zs.length : Nat) : Int)) (by exact E.lenS (p := (some ⟨g, 0, none⟩)) (l := zs.length) (c := c) Try.underlying58 (AF_ev rfl tp)) ?_
  refine RW.soft Wd.a (v := .slice (some ⟨g, if i = zs.length then 0 else 0 + i * 1, none⟩) ((((i : Nat) : Int) + 1).toNat - i) (zs.length - i)) (by exact E.slice3 (i := i) (j := (((i : Nat) : Int) + 1).toNat) (k := zs.length) Try.underlying58 sz3 (AF_ev rfl (up rfl (up rfl (up rfl (up rfl tp))))) (Eq.trans (AF_ev rfl (up rfl (up rfl (up rfl tp)))) (by congr 1 <;> omega)) (Eq.trans (AF_ev rfl (up rfl (up rfl tp))) (by congr 1 <;> omega)) (Eq.trans (AF_ev rfl tp) (by congr 1 <;> omega)) (by omega) (by omega) (by omega)) ?_
  refine RW.fin (fun τ => τ 0 = .slice (some ⟨g, 0, none⟩) zs.length c ∧ τ 1 = .int .i64 ((i : Nat) : Int) ∧ τ 2 = .int .i64 (((i : Nat) : Int) + 1) ∧ τ 6 = .slice none 0 0) ⟨up rfl (up rfl (up rfl (up rfl (up rfl (up rfl hs0))))), up rfl (up rfl (up rfl (up rfl (up rfl (up rfl hs1))))), up rfl (up rfl (up rfl (up rfl (up rfl (up rfl hs2))))), up rfl (up rfl (up rfl (up rfl (up rfl (up rfl hs6)))))⟩ ?_
  rintro τ ⟨hs0, hs1, hs2, hs6⟩
  refine CW.seq ?_
  refine CW.seq ?_
  refine CW.region ?_
  refine RW.soft Wd.a (v := .int .i64 ((i : Nat) : Int)) (by exact E.move (AF_ev rfl hs1)) ?_
  refine RW.soft Wd.a (v := .int .i64 (((i : Nat) : Int) + 1)) (by exact E.move (AF_ev rfl (up rfl hs2))) ?_
  refine RW.soft Wd.a (v := .bool false) (by exact E.b (a := ((i : Nat) : Int) == (((i : Nat) : Int) + 1)) (E.eql (k := .i64) (a := ((i : Nat) : Int)) (b := ((i : Nat) : Int) + 1) (AF_ev rfl (up rfl tp)) (AF_ev rfl tp)) (by rw [beq_eq_false_iff_ne]; omega)) ?_
  refine RW.fin (fun τ => τ 0 = .slice (some ⟨g, 0, none⟩) zs.length c ∧ τ 1 = .int .i64 ((i : Nat) : Int) ∧ τ 2 = .int .i64 (((i : Nat) : Int) + 1) ∧ τ 6 = .slice none 0 0 ∧ τ 16 = .bool false) ⟨up rfl (up rfl (up rfl hs0)), up rfl (up rfl (up rfl hs1)), up rfl (up rfl (up rfl hs2)), up rfl (up rfl (up rfl hs6)), tp⟩ ?_
  rintro τ ⟨hs0, hs1, hs2, hs6, hs16⟩
  refine CW.condF (AF_ev rfl hs16) ?_
  refine CW.skip ?_
  refine Th.n ?_
  refine CW.seq ?_
  refine CW.region ?_
  refine RW.soft Wd.a (v := .slice (some ⟨g, 0, none⟩) zs.length c) (by exact E.move (AF_ev rfl hs0)) ?_
  refine RW.soft Wd.a (v := .int .i64 ((zs.length : Nat) : Int)) (by exact E.lenS (p := (some ⟨g, 0, none⟩)) (l := zs.length) (c := c) Try.underlying58 (AF_ev rfl tp)) ?_
  refine RW.soft Wd.a (v := .int .i64 ((zs.length : Nat) : Int)) (by exact E.assign (AF_ev rfl tp)) ?_
  refine RW.fin (fun τ => τ 0 = .slice (some ⟨g, 0, none⟩) zs.length c ∧ τ 1 = .int .i64 ((i : Nat) : Int) ∧ τ 2 = .int .i64 (((i : Nat) : Int) + 1) ∧ τ 6 = .slice none 0 0 ∧ τ 7 = .int .i64 ((zs.length : Nat) : Int) ∧ τ 16 = .bool false) ⟨up rfl (up rfl (up rfl hs0)), up rfl (up rfl (up rfl hs1)), up rfl (up rfl (up rfl hs2)), up rfl (up rfl (up rfl hs6)), tp, up rfl (up rfl (up rfl hs16))⟩ ?_
  rintro τ ⟨hs0, hs1, hs2, hs6, hs7, hs16⟩
  refine CW.seq ?_
  refine CW.regionD [0, 1, 2, 3, 4, 5] (fun w => True) mixed ?_
  have hst := hst.drew
  generalize w.drew = w at hst ⊢
  have hS : True := trivial
  refine RD.take 0 rfl (by kernel_rfl) Wd.a (v := .slice (some ⟨g, 0, none⟩) zs.length c) (fun w hS => by exact E.move (AF_ev rfl hs0)) hS ?_
  refine RD.take 1 rfl (by kernel_rfl) Wd.a (v := .int .i64 ((i : Nat) : Int)) (fun w hS => by exact E.move (AF_ev rfl (up rfl hs1))) hS ?_
  refine RD.take 2 rfl (by kernel_rfl) Wd.a (v := .slice (some ⟨g, 0, none⟩) i c) (fun w hS => by exact E.slice (i := 0) (j := i) Try.underlying58 sz3 (AF_ev rfl (up rfl tp)) rfl (AF_ev rfl tp) (by omega) (by omega) (by simp)) hS ?_
  refine RD.take 3 rfl (by kernel_rfl) Wd.a (v := .slice (some ⟨g, 0, none⟩) zs.length c) (fun w hS => by exact E.move (AF_ev rfl (up rfl (up rfl (up rfl hs0))))) hS ?_
  refine RD.take 4 rfl (by kernel_rfl) Wd.a (v := .int .i64 (((i : Nat) : Int) + 1)) (fun w hS => by exact E.move (AF_ev rfl (up rfl (up rfl (up rfl (up rfl hs2)))))) hS ?_
  obtain ⟨o1, ho1⟩ : ∃ z, z = if (i + 1) = c then 0 else 0 + (i + 1) * 1 := ⟨_, rfl⟩
  have ho1_ := ho1
  refine RD.take 5 rfl (by kernel_rfl) Wd.a (v := .slice (some ⟨g, o1, none⟩) (zs.length - (i + 1)) (c - (i + 1))) (fun w hS => by exact E.slice (i := (i + 1)) (j := zs.length) Try.underlying58 sz3 (AF_ev rfl (up rfl tp)) (int_eq (a := ((i : Nat) : Int) + 1) (AF_ev rfl tp) (by omega)) rfl (by omega) (by omega) (by rw [ho1])) hS ?_
  refine RD.only 6 rfl (by kernel_rfl) Wd.a ?_
  have hsrc := (Own.src (hst.take .here)).drop (k := (i + 1)) (by omega) ho1
  rw [Nat.mul_one, ienc_drop] at hsrc
  have hst := hst.ownCut (i := i) (by omega)
  rw [Nat.mul_one, ienc_take] at hst
  refine H.appendFits (b := g) (k := i) (m := zs.length - (i + 1)) (c := c) Try.underlying58 sz3 (AF_ev rfl (up rfl (up rfl (up rfl tp)))) (AF_ev rfl tp) hst .here hsrc (ienc_ones _) (by omega) fun w hst => ?_
  rw [← List.flatMap_append] at hst
  have hS : True := trivial
  refine ⟨fun _ => hS, ?_⟩
  refine RD.only 7 rfl (by kernel_rfl) Wd.a (Hd.value (v := .slice (some ⟨g, 0, none⟩) (i + (zs.length - (i + 1))) c) (by exact E.assign (AF_ev rfl tp)) ⟨fun h => Bool.noConfusion ((show needs _ _ _ = false by kernel_rfl).symm.trans h), ?_⟩)
  refine RD.fin (by kernel_rfl) (fun τ => τ 0 = .slice (some ⟨g, 0, none⟩) (i + (zs.length - (i + 1))) c ∧ τ 1 = .int .i64 ((i : Nat) : Int) ∧ τ 2 = .int .i64 (((i : Nat) : Int) + 1) ∧ τ 6 = .slice none 0 0 ∧ τ 7 = .int .i64 ((zs.length : Nat) : Int) ∧ τ 16 = .bool false) ⟨tp, up rfl (up rfl (up rfl (up rfl (up rfl (up rfl (up rfl (up rfl hs1))))))), up rfl (up rfl (up rfl (up rfl (up rfl (up rfl (up rfl (up rfl hs2))))))), up rfl (up rfl (up rfl (up rfl (up rfl (up rfl (up rfl (up rfl hs6))))))), up rfl (up rfl (up rfl (up rfl (up rfl (up rfl (up rfl (up rfl hs7))))))), up rfl (up rfl (up rfl (up rfl (up rfl (up rfl (up rfl (up rfl hs16)))))))⟩ ?_
  rintro τ ⟨hs0, hs1, hs2, hs6, hs7, hs16⟩
  refine CW.seq ?_
  refine CW.region ?_
  refine RW.soft Wd.a (v := .slice (some ⟨g, 0, none⟩) (i + (zs.length - (i + 1))) c) (by exact E.move (AF_ev rfl hs0)) ?_
  refine RW.soft Wd.a (v := .slice (some ⟨g, 0, none⟩) (i + (zs.length - (i + 1))) c) (by exact E.move (AF_ev rfl (up rfl hs0))) ?_
  refine RW.soft Wd.a (v := .int .i64 ((i + (zs.length - (i + 1)) : Nat) : Int)) (by exact E.lenS (p := (some ⟨g, 0, none⟩)) (l := i + (zs.length - (i + 1))) (c := c) Try.underlying58 (AF_ev rfl tp)) ?_
  refine RW.soft Wd.a (v := .int .i64 ((zs.length : Nat) : Int)) (by exact E.move (AF_ev rfl (up rfl (up rfl (up rfl hs7))))) ?_
  obtain ⟨o2, ho2⟩ : ∃ z, z = if (i + (zs.length - (i + 1))) = c then 0 else 0 + (i + (zs.length - (i + 1))) * 1 := ⟨_, rfl⟩
  have ho1_ := ho2
  refine RW.soft Wd.a (v := .slice (some ⟨g, o2, none⟩) (zs.length - (i + (zs.length - (i + 1)))) (c - (i + (zs.length - (i + 1))))) (by exact E.slice (i := (i + (zs.length - (i + 1)))) (j := zs.length) Try.underlying58 sz3 (AF_ev rfl (up rfl (up rfl (up rfl tp)))) (int_eq (a := ((i + (zs.length - (i + 1)) : Nat) : Int)) (AF_ev rfl (up rfl tp)) (by omega)) (int_eq (a := ((zs.length : Nat) : Int)) (AF_ev rfl tp) (by omega)) (by omega) (by omega) (by rw [ho2])) ?_
  refine RW.hard Wd.a ?_
  refine H.clearIn (b := g) (o := o2) (k := i + (zs.length - (i + 1))) (c := c) (m := zs.length - (i + (zs.length - (i + 1)))) (sz := 1) Try.underlying58 zr3 rfl (by omega) (zc_one _) (AF_ev rfl tp) hst .here (by right; rw [ho1_]; split <;> omega) (by right; rw [ho1_]; split <;> omega) fun w hst => ?_
  refine RW.fin (fun τ => τ 0 = .slice (some ⟨g, 0, none⟩) (i + (zs.length - (i + 1))) c ∧ τ 1 = .int .i64 ((i : Nat) : Int) ∧ τ 2 = .int .i64 (((i : Nat) : Int) + 1) ∧ τ 6 = .slice none 0 0 ∧ τ 7 = .int .i64 ((zs.length : Nat) : Int) ∧ τ 16 = .bool false) ⟨u0 (up rfl (up rfl (up rfl (up rfl (up rfl hs0))))), u0 (up rfl (up rfl (up rfl (up rfl (up rfl hs1))))), u0 (up rfl (up rfl (up rfl (up rfl (up rfl hs2))))), u0 (up rfl (up rfl (up rfl (up rfl (up rfl hs6))))), u0 (up rfl (up rfl (up rfl (up rfl (up rfl hs7))))), u0 (up rfl (up rfl (up rfl (up rfl (up rfl hs16)))))⟩ ?_
  rintro τ ⟨hs0, hs1, hs2, hs6, hs7, hs16⟩
  refine CW.seq ?_
  refine CW.region ?_
  refine RW.soft Wd.a (v := .slice (some ⟨g, 0, none⟩) (i + (zs.length - (i + 1))) c) (by exact E.move (AF_ev rfl hs0)) ?_
  refine RW.soft Wd.a (v := .slice (some ⟨g, 0, none⟩) (i + (zs.length - (i + 1))) c) (by exact E.assign (AF_ev rfl tp)) ?_
  refine RW.fin (fun τ => τ 0 = .slice (some ⟨g, 0, none⟩) (i + (zs.length - (i + 1))) c ∧ τ 1 = .int .i64 ((i : Nat) : Int) ∧ τ 2 = .int .i64 (((i : Nat) : Int) + 1) ∧ τ 6 = .slice (some ⟨g, 0, none⟩) (i + (zs.length - (i + 1))) c ∧ τ 7 = .int .i64 ((zs.length : Nat) : Int) ∧ τ 16 = .bool false) ⟨up rfl (up rfl hs0), up rfl (up rfl hs1), up rfl (up rfl hs2), tp, up rfl (up rfl hs7), up rfl (up rfl hs16)⟩ ?_
  rintro τ ⟨hs0, hs1, hs2, hs6, hs7, hs16⟩
  refine CW.ret ?_
  refine ret1 (v := .slice (some ⟨g, 0, none⟩) (i + (zs.length - (i + 1))) c) rfl (by exact (.tmp (AF_ev rfl hs6) .nil)) ?_
  
  exact ⟨_, rfl, by omega, hst⟩
end Go.Proofs.Ytjagffnbobnofaa
