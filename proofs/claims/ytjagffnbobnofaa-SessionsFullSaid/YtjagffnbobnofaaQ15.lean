/- The functions of the package quorum, walked through operation by operation. -/
import Derived.Test.YtjagffnbobnofaaQ13
import Derived.Test.YtjagffnbobnofaaQ14
import Derived.Test.YtjagffnbobnofaaQ11
import Derived.Test.YtjagffnbobnofaaQ12
import Derived.Test.YtjagffnbobnofaaQ9
import Derived.Test.YtjagffnbobnofaaQ10
import Derived.Test.YtjagffnbobnofaaQ8
import Derived.Test.YtjagffnbobnofaaSN
import Derived.Test.YtjagffnbobnofaaQ6
import Derived.Test.YtjagffnbobnofaaQ7
import Derived.Test.YtjagffnbobnofaaQ4
import Derived.Test.YtjagffnbobnofaaQ5
import Derived.Test.YtjagffnbobnofaaQ2
import Derived.Test.YtjagffnbobnofaaQ1
import Derived.Test.YtjagffnbobnofaaQ3
import Derived.Test.YtjagffnbobnofaaQ0
import Derived.Test.YtjagffnbobnofaaSM
namespace Go.Proofs.Ytjagffnbobnofaa
open Go.RowKit Go.SL Go.Q18
attribute [local irreducible] Go.SL.RW Go.SL.CW Go.SL.RD Go.SL.Hd Go.SL.St
set_option linter.unusedVariables false
set_option linter.unusedSimpArgs false

theorem nm59 : (Try.f59.name == "runtime.NumGoroutine") = false := by kernel_rfl
theorem nm75 : (Try.f75.name == "runtime.NumGoroutine") = false := by kernel_rfl
theorem nm76 : (Try.f76.name == "runtime.NumGoroutine") = false := by kernel_rfl
theorem nm82 : (Try.f82.name == "runtime.NumGoroutine") = false := by kernel_rfl

theorem q_pdq {p : Pers} {w : World} {R : List Assn} {g c : Nat} {zs : List Int} (h0 : 0 < zs.length) (h12 : zs.length ≤ 12) (hcz : zs.length ≤ c) (r : Int) (hst : St p w (Own 3 1 (.slice (some ⟨g, 0, none⟩) zs.length c) zs.length (zs.flatMap ienc) :: R)) :
    Calls Try.prog 75 #[.slice (some ⟨g, 0, none⟩) zs.length c, .int .i64 0, .int .i64 ((zs.length : Nat) : Int), .int .i64 r] w fun e w => ∃ L : List Int, e = .returned (.tuple #[]) ∧ L.Perm zs ∧ L.Pairwise (· ≤ ·) ∧ St p w (Own 3 1 (.slice (some ⟨g, 0, none⟩) zs.length c) zs.length (L.flatMap ienc) :: R) := by
  refine enter Try.func75 rfl (by simp) (n := 134) rfl fun τ hτ => ?_
  have hs0 : τ 0 = .slice (some ⟨g, 0, none⟩) zs.length c := hτ 0 (by simp)
  have hs1 : τ 1 = .int .i64 0 := hτ 1 (by simp)
  have hs2 : τ 2 = .int .i64 ((zs.length : Nat) : Int) := hτ 2 (by simp)
  have hs3 : τ 3 = .int .i64 r := hτ 3 (by simp)
  clear hτ
  refine CW.seq ?_
  refine CW.region ?_
  refine RW.soft Wd.a (v := .bool true) (by exact E.assign rfl) ?_
  refine RW.fin (fun τ => τ 0 = .slice (some ⟨g, 0, none⟩) zs.length c ∧ τ 1 = .int .i64 0 ∧ τ 2 = .int .i64 ((zs.length : Nat) : Int) ∧ τ 3 = .int .i64 r ∧ τ 8 = .bool true) ⟨up rfl hs0, up rfl hs1, up rfl hs2, up rfl hs3, tp⟩ ?_
  rintro τ ⟨hs0, hs1, hs2, hs3, hs8⟩
  refine CW.seq ?_
  refine CW.region ?_
  refine RW.soft Wd.a (v := .bool true) (by exact E.assign rfl) ?_
  refine RW.fin (fun τ => τ 0 = .slice (some ⟨g, 0, none⟩) zs.length c ∧ τ 1 = .int .i64 0 ∧ τ 2 = .int .i64 ((zs.length : Nat) : Int) ∧ τ 3 = .int .i64 r ∧ τ 8 = .bool true ∧ τ 9 = .bool true) ⟨up rfl hs0, up rfl hs1, up rfl hs2, up rfl hs3, up rfl hs8, tp⟩ ?_
  rintro τ ⟨hs0, hs1, hs2, hs3, hs8, hs9⟩
  refine CW.block ?_
  refine CW.loop (fun (k : Nat) (τ : Fr) (w : World) => ∃ (u_ : Unit), k = 0 ∧ τ 0 = .slice (some ⟨g, 0, none⟩) zs.length c ∧ τ 1 = .int .i64 0 ∧ τ 2 = .int .i64 ((zs.length : Nat) : Int) ∧ τ 3 = .int .i64 r ∧ τ 8 = .bool true ∧ τ 9 = .bool true ∧ St p w (Own 3 1 (.slice (some ⟨g, 0, none⟩) zs.length c) zs.length (zs.flatMap ienc) :: R)) (0) ⟨(), rfl, hs0, hs1, hs2, hs3, hs8, hs9, hst⟩ ?_
  clear hst
  rintro k τ w ⟨u_, hk0, hs0, hs1, hs2, hs3, hs8, hs9, hst⟩
  refine CW.block ?_
  refine CW.seq ?_
  refine CW.region ?_
  refine RW.soft Wd.a (v := .int .i64 ((zs.length : Nat) : Int)) (by exact E.move (AF_ev rfl hs2)) ?_
  refine RW.soft Wd.a (v := .int .i64 0) (by exact E.move (AF_ev rfl (up rfl hs1))) ?_
  refine RW.soft Wd.a (v := .int .i64 ((zs.length : Nat) : Int)) (by exact E.sub (k := .i64) (a := ((zs.length : Nat) : Int)) (b := 0) (AF_ev rfl (up rfl tp)) (AF_ev rfl tp) (show IntKind.i64.wrap (((zs.length : Nat) : Int) - 0) = ((zs.length : Nat) : Int) from (by rw [IntWalk.i64_in _ (by omega)] <;> omega))) ?_
  refine RW.soft Wd.a (v := .int .i64 ((zs.length : Nat) : Int)) (by exact E.assign (AF_ev rfl tp)) ?_
  refine RW.fin (fun τ => τ 0 = .slice (some ⟨g, 0, none⟩) zs.length c ∧ τ 1 = .int .i64 0 ∧ τ 2 = .int .i64 ((zs.length : Nat) : Int) ∧ τ 3 = .int .i64 r ∧ τ 8 = .bool true ∧ τ 9 = .bool true ∧ τ 10 = .int .i64 ((zs.length : Nat) : Int)) ⟨up rfl (up rfl (up rfl (up rfl hs0))), up rfl (up rfl (up rfl (up rfl hs1))), up rfl (up rfl (up rfl (up rfl hs2))), up rfl (up rfl (up rfl (up rfl hs3))), up rfl (up rfl (up rfl (up rfl hs8))), up rfl (up rfl (up rfl (up rfl hs9))), tp⟩ ?_
  rintro τ ⟨hs0, hs1, hs2, hs3, hs8, hs9, hs10⟩
  refine CW.seq ?_
  refine CW.seq ?_
  refine CW.region ?_
  refine RW.soft Wd.a (v := .int .i64 ((zs.length : Nat) : Int)) (by exact E.move (AF_ev rfl hs10)) ?_
  refine RW.soft Wd.a (v := .bool true) (by exact E.b (a := decide (((zs.length : Nat) : Int) ≤ 12)) (E.leq (k := .i64) (a := ((zs.length : Nat) : Int)) (b := 12) (AF_ev rfl tp) rfl) (decide_eq_true (by omega))) ?_
  refine RW.fin (fun τ => τ 0 = .slice (some ⟨g, 0, none⟩) zs.length c ∧ τ 1 = .int .i64 0 ∧ τ 2 = .int .i64 ((zs.length : Nat) : Int) ∧ τ 3 = .int .i64 r ∧ τ 8 = .bool true ∧ τ 9 = .bool true ∧ τ 10 = .int .i64 ((zs.length : Nat) : Int) ∧ τ 23 = .bool true) ⟨up rfl (up rfl hs0), up rfl (up rfl hs1), up rfl (up rfl hs2), up rfl (up rfl hs3), up rfl (up rfl hs8), up rfl (up rfl hs9), up rfl (up rfl hs10), tp⟩ ?_
  rintro τ ⟨hs0, hs1, hs2, hs3, hs8, hs9, hs10, hs23⟩
  refine CW.condT (AF_ev rfl hs23) ?_
  refine CW.seq ?_
  refine CW.region ?_
  refine RW.soft Wd.a (v := .slice (some ⟨g, 0, none⟩) zs.length c) (by exact E.move (AF_ev rfl hs0)) ?_
  refine RW.soft Wd.a (v := .int .i64 0) (by exact E.move (AF_ev rfl (up rfl hs1))) ?_
  refine RW.soft Wd.a (v := .int .i64 ((zs.length : Nat) : Int)) (by exact E.move (AF_ev rfl (up rfl (up rfl hs2)))) ?_
  refine RW.hard Wd.a ?_
  refine H.call0 Try.func82 nm82 rfl (map3 (AF_ev rfl (up rfl (up rfl tp))) (AF_ev rfl (up rfl tp)) (AF_ev rfl tp)) (Calls.mono (q_isort h0 h12 hcz hst) ?_)
  rintro _ w ⟨L, rfl, hP, hW, hst⟩
  refine ⟨_, rfl, ?_⟩
  show RW _ _ _ _ _ _ _
  refine RW.fin (fun τ => τ 0 = .slice (some ⟨g, 0, none⟩) zs.length c ∧ τ 1 = .int .i64 0 ∧ τ 2 = .int .i64 ((zs.length : Nat) : Int) ∧ τ 3 = .int .i64 r ∧ τ 8 = .bool true ∧ τ 9 = .bool true ∧ τ 10 = .int .i64 ((zs.length : Nat) : Int) ∧ τ 23 = .bool true) ⟨up rfl (up rfl (up rfl (up rfl hs0))), up rfl (up rfl (up rfl (up rfl hs1))), up rfl (up rfl (up rfl (up rfl hs2))), up rfl (up rfl (up rfl (up rfl hs3))), up rfl (up rfl (up rfl (up rfl hs8))), up rfl (up rfl (up rfl (up rfl hs9))), up rfl (up rfl (up rfl (up rfl hs10))), up rfl (up rfl (up rfl (up rfl hs23)))⟩ ?_
  rintro τ ⟨hs0, hs1, hs2, hs3, hs8, hs9, hs10, hs23⟩
  refine CW.ret ?_
  refine Th.r ?_
  refine Bl.r ?_
  refine Th.r ?_
  refine Bl.r ?_
  refine retN (rs := []) (vs := []) rfl (by exact .nil) (by simp) ?_
  
  exact ⟨L, rfl, hP, hW, hst⟩

theorem q_Sort {p : Pers} {w : World} {R : List Assn} {g c : Nat} {zs : List Int} (h0 : 0 < zs.length) (h12 : zs.length ≤ 12) (hcz : zs.length ≤ c) (hst : St p w (Own 3 1 (.slice (some ⟨g, 0, none⟩) zs.length c) zs.length (zs.flatMap ienc) :: R)) :
    Calls Try.prog 59 #[.slice (some ⟨g, 0, none⟩) zs.length c] w fun e w => ∃ L : List Int, e = .returned (.tuple #[]) ∧ L.Perm zs ∧ L.Pairwise (· ≤ ·) ∧ St p w (Own 3 1 (.slice (some ⟨g, 0, none⟩) zs.length c) zs.length (L.flatMap ienc) :: R) := by
  refine enter Try.func59 rfl (by simp) (n := 11) rfl fun τ hτ => ?_
  have hs0 : τ 0 = .slice (some ⟨g, 0, none⟩) zs.length c := hτ 0 (by simp)
  clear hτ
  refine CW.seq ?_
  refine CW.region ?_
  refine RW.soft Wd.a (v := .slice (some ⟨g, 0, none⟩) zs.length c) (by exact E.move (AF_ev rfl hs0)) ?_
  refine RW.soft Wd.a (v := .int .i64 ((zs.length : Nat) : Int)) (by exact E.lenS (p := (some ⟨g, 0, none⟩)) (l := zs.length) (c := c) Try.underlying58 (AF_ev rfl tp)) ?_
  refine RW.soft Wd.a (v := .int .i64 ((zs.length : Nat) : Int)) (by exact E.assign (AF_ev rfl tp)) ?_
  refine RW.fin (fun τ => τ 0 = .slice (some ⟨g, 0, none⟩) zs.length c ∧ τ 2 = .int .i64 ((zs.length : Nat) : Int)) ⟨up rfl (up rfl (up rfl hs0)), tp⟩ ?_
  rintro τ ⟨hs0, hs2⟩
  refine CW.region ?_
  refine RW.soft Wd.a (v := .slice (some ⟨g, 0, none⟩) zs.length c) (by exact E.move (AF_ev rfl hs0)) ?_
  refine RW.soft Wd.a (v := .int .i64 ((zs.length : Nat) : Int)) (by exact E.move (AF_ev rfl (up rfl hs2))) ?_
  refine RW.soft Wd.a (v := .int .i64 ((zs.length : Nat) : Int)) (by exact E.move (AF_ev rfl (up rfl (up rfl hs2)))) ?_
  refine RW.soft Wd.a (v := .int .u64 ((zs.length : Nat) : Int)) (by exact E.convInt (a := ((zs.length : Nat) : Int)) (by rw [Try.underlying3]; rfl) Try.underlying96 (AF_ev rfl tp) (show IntKind.u64.wrap (((zs.length : Nat) : Int)) = ((zs.length : Nat) : Int) from (by rw [IntWalk.u64_in _ (by omega)]))) ?_
  refine RW.hard Wd.a ?_
  refine H.call0 Try.func76 nm76 rfl (map1 (AF_ev rfl tp)) (Calls.mono (q_Len zs.length h12 hst) ?_)
  rintro _ w ⟨r, rfl, hst⟩
  refine ⟨_, rfl, ?_⟩
  show RW _ _ _ _ _ _ _
  refine RW.hard Wd.a ?_
  refine H.call0 Try.func75 nm75 rfl (map4 (AF_ev rfl (up rfl (up rfl (up rfl (up rfl tp))))) rfl (AF_ev rfl (up rfl (up rfl (up rfl tp)))) (AF_ev rfl tp)) (Calls.mono (q_pdq h0 h12 hcz r hst) ?_)
  rintro _ w ⟨L, rfl, hP, hW, hst⟩
  refine ⟨_, rfl, ?_⟩
  show RW _ _ _ _ _ _ _
  refine RW.nil ?_
  refine retE rfl ?_
  
  exact ⟨L, rfl, hP, hW, hst⟩

theorem q_Agreed {p : Pers} {w : World} {R : List Assn} {A : Assn} {X : Option Addr} {c : Nat} {zs : List Int} (hA : TI p A (.slice X zs.length c) zs) (hl : zs.length ≤ 1000000) {B : Assn} {Y : Option Addr} {d : Nat} {ys : List Int} (hB : TI p B (.slice Y ys.length d) ys) (hm : ys.length ≤ 1000000) (h0 : 0 < zs.length) (h12 : zs.length ≤ 12) (hpos : ∀ n ∈ zs, 0 ≤ n) (hf : Fit ys) (hst : St p w (A :: B :: R)) :
    Calls Try.prog 43 #[.slice X zs.length c, .slice Y ys.length d] w fun e w => e = .returned (.int .i64 (bestOf zs ys zs)) ∧ St p w (A :: B :: R) := by
  refine enter Try.func43 rfl (by simp) (n := 38) rfl fun τ hτ => ?_
  have hs0 : τ 0 = .slice X zs.length c := hτ 0 (by simp)
  have hs1 : τ 1 = .slice Y ys.length d := hτ 1 (by simp)
  clear hτ
  refine CW.seq ?_
  refine CW.region ?_
  refine RW.soft Wd.a (v := .int .i64 0) (by exact E.assign rfl) ?_
  refine RW.fin (fun τ => τ 0 = .slice X zs.length c ∧ τ 1 = .slice Y ys.length d ∧ τ 4 = .int .i64 0) ⟨up rfl hs0, up rfl hs1, tp⟩ ?_
  rintro τ ⟨hs0, hs1, hs4⟩
  refine CW.seq ?_
  refine CW.region ?_
  refine RW.soft Wd.a (v := .slice none 0 0) (by exact E.assign rfl) ?_
  refine RW.fin (fun τ => τ 0 = .slice X zs.length c ∧ τ 1 = .slice Y ys.length d ∧ τ 4 = .int .i64 0 ∧ τ 5 = .slice none 0 0) ⟨up rfl hs0, up rfl hs1, up rfl hs4, tp⟩ ?_
  rintro τ ⟨hs0, hs1, hs4, hs5⟩
  refine CW.seq ?_
  refine CW.seq ?_
  refine CW.region ?_
  refine RW.soft Wd.a (v := .slice X zs.length c) (by exact E.move (AF_ev rfl hs0)) ?_
  refine RW.soft Wd.a (v := .int .i64 ((zs.length : Nat) : Int)) (by exact E.lenS (p := X) (l := zs.length) (c := c) Try.underlying58 (AF_ev rfl tp)) ?_
  refine RW.soft Wd.a (v := .int .i64 0) (by exact E.move rfl) ?_
  refine RW.fin (fun τ => τ 0 = .slice X zs.length c ∧ τ 1 = .slice Y ys.length d ∧ τ 4 = .int .i64 0 ∧ τ 5 = .slice none 0 0 ∧ τ 8 = .slice X zs.length c ∧ τ 9 = .int .i64 ((zs.length : Nat) : Int) ∧ τ 10 = .int .i64 0) ⟨up rfl (up rfl (up rfl hs0)), up rfl (up rfl (up rfl hs1)), up rfl (up rfl (up rfl hs4)), up rfl (up rfl (up rfl hs5)), up rfl (up rfl tp), up rfl tp, tp⟩ ?_
  rintro τ ⟨hs0, hs1, hs4, hs5, hs8, hs9, hs10⟩
  refine CW.block ?_
  have hst := hst.ownNil (e := 3) (sz := 1) none
  have hst := hst.take (.there (.there .here))
  have hst := hst.take (.there (.there .here))
  have hst := hst.take (.there (.there .here))
  refine CW.loop (fun (k : Nat) (τ : Fr) (w : World) => ∃ (j : Nat) (X1 : Option Addr) (L : List Int) (c1 : Nat), L = (zs.take j).map (placeOf ys) ∧ j ≤ zs.length ∧ k = zs.length - j ∧ τ 8 = .slice X zs.length c ∧ τ 9 = .int .i64 ((zs.length : Nat) : Int) ∧ τ 10 = .int .i64 ((j : Nat) : Int) ∧ τ 1 = .slice Y ys.length d ∧ τ 5 = .slice X1 L.length c1 ∧ St p w (Own 3 1 (.slice X1 L.length c1) L.length (L.flatMap ienc) :: A :: B :: R)) (zs.length - 0) ⟨0, none, [], 0, rfl, by omega, rfl, hs8, hs9, (int_eq (a := 0) hs10 (by omega)), hs1, hs5, hst⟩ ?_
  clear hst
  rintro k τ w ⟨j, X1, L, c1, hL, hj, hkj, hs8, hs9, hs10, hs1, hs5, hst⟩
  refine CW.seq ?_
  refine CW.region ?_
  refine RW.soft Wd.a (v := .bool (decide (((j : Nat) : Int) < ((zs.length : Nat) : Int)))) (by exact E.lss (k := .i64) (a := ((j : Nat) : Int)) (b := ((zs.length : Nat) : Int)) (AF_ev rfl hs10) (AF_ev rfl hs9)) ?_
  refine RW.fin (fun τ => τ 1 = .slice Y ys.length d ∧ τ 5 = .slice X1 L.length c1 ∧ τ 8 = .slice X zs.length c ∧ τ 9 = .int .i64 ((zs.length : Nat) : Int) ∧ τ 10 = .int .i64 ((j : Nat) : Int) ∧ τ 11 = .bool (decide (((j : Nat) : Int) < ((zs.length : Nat) : Int)))) ⟨up rfl hs1, up rfl hs5, up rfl hs8, up rfl hs9, up rfl hs10, tp⟩ ?_
  rintro τ ⟨hs1, hs5, hs8, hs9, hs10, hs11⟩
  refine CW.seq ?_
  refine CW.cond (AF_ev rfl hs11) (fun hc1 => ?_) (fun hc1 => ?_)
  · have hc1_ := hc1
    try simp only [decide_eq_true_eq, decide_eq_false_iff_not, Bool.and_eq_true, Bool.or_eq_true, Bool.and_eq_false_iff, Bool.or_eq_false_iff, Bool.not_eq_true', Bool.not_eq_false', beq_iff_eq, beq_eq_false_iff_ne, bne_iff_ne, bne_eq_false_iff_eq, ne_eq, Int.not_lt, Int.not_le, gt_iff_lt, ge_iff_le] at hc1_
    refine CW.skip ?_
    refine Th.n ?_
    refine CW.seq ?_
    refine CW.block ?_
    refine CW.seq ?_
    have hLl : L.length = j := by rw [hL, List.length_map, List.length_take]; omega
    obtain ⟨b0, o0, rfl, hcell0⟩ := TI.place hA (hst.take (.there .here)) (by omega)
    obtain ⟨x, hx⟩ : ∃ z, zs[j]? = some z := ⟨zs[j]'(by omega), List.getElem?_eq_getElem (by omega)⟩
    have hx0 : 0 ≤ x := hpos x (List.mem_of_getElem? hx)
    refine CW.region ?_
    refine RW.soft Wd.a (v := .pointer (some ⟨b0, o0 + j * 1, none⟩)) (by exact E.indexAddr (b := b0) (o := o0) (l := zs.length) (c := c) (i := ((j : Nat) : Int)) Try.underlying58 sz3 (AF_ev rfl hs8) (AF_ev rfl hs10) (by omega) (by omega) (by simp)) ?_
    refine RW.soft Wd.a (v := .int .i64 x) (by exact E.load (a := ⟨b0, o0 + j * 1, none⟩) Try.underlying3 rfl (AF_ev rfl tp) (by exact hcell0 (hst.take (.there .here)) _ _ (flat_get (j := 0) ienc_len hx (rfl)))) ?_
    refine RW.soft Wd.a (v := .int .i64 x) (by exact E.assign (AF_ev rfl tp)) ?_
    refine RW.fin (fun τ => τ 1 = .slice Y ys.length d ∧ τ 5 = .slice X1 L.length c1 ∧ τ 7 = .int .i64 x ∧ τ 8 = .slice (some ⟨b0, o0, none⟩) zs.length c ∧ τ 9 = .int .i64 ((zs.length : Nat) : Int) ∧ τ 10 = .int .i64 ((j : Nat) : Int) ∧ τ 11 = .bool true) ⟨up rfl (up rfl (up rfl hs1)), up rfl (up rfl (up rfl hs5)), tp, up rfl (up rfl (up rfl hs8)), up rfl (up rfl (up rfl hs9)), up rfl (up rfl (up rfl hs10)), up rfl (up rfl (up rfl (Eq.trans hs11 (congrArg Value.bool hc1))))⟩ ?_
    rintro τ ⟨hs1, hs5, hs7, hs8, hs9, hs10, hs11⟩
    refine CW.seq ?_
    refine CW.region ?_
    refine RW.soft Wd.a (v := .int .i64 x) (by exact E.move (AF_ev rfl hs7)) ?_
    refine RW.soft Wd.a (v := .slice Y ys.length d) (by exact E.move (AF_ev rfl (up rfl hs1))) ?_
    refine RW.soft Wd.a (v := .int .i64 ((ys.length : Nat) : Int)) (by exact E.lenS (p := Y) (l := ys.length) (c := d) Try.underlying58 (AF_ev rfl tp)) ?_
    refine RW.soft Wd.a (v := .bool (decide (x < ((ys.length : Nat) : Int)))) (by exact E.lss (k := .i64) (a := x) (b := ((ys.length : Nat) : Int)) (AF_ev rfl (up rfl (up rfl tp))) (AF_ev rfl tp)) ?_
    refine RW.fin (fun τ => τ 1 = .slice Y ys.length d ∧ τ 5 = .slice X1 L.length c1 ∧ τ 7 = .int .i64 x ∧ τ 8 = .slice (some ⟨b0, o0, none⟩) zs.length c ∧ τ 9 = .int .i64 ((zs.length : Nat) : Int) ∧ τ 10 = .int .i64 ((j : Nat) : Int) ∧ τ 11 = .bool true ∧ τ 17 = .bool (decide (x < ((ys.length : Nat) : Int)))) ⟨up rfl (up rfl (up rfl (up rfl hs1))), up rfl (up rfl (up rfl (up rfl hs5))), up rfl (up rfl (up rfl (up rfl hs7))), up rfl (up rfl (up rfl (up rfl hs8))), up rfl (up rfl (up rfl (up rfl hs9))), up rfl (up rfl (up rfl (up rfl hs10))), up rfl (up rfl (up rfl (up rfl hs11))), tp⟩ ?_
    rintro τ ⟨hs1, hs5, hs7, hs8, hs9, hs10, hs11, hs17⟩
    refine CW.cond (AF_ev rfl hs17) (fun hc2 => ?_) (fun hc2 => ?_)
    · have hc2_ := hc2
      try simp only [decide_eq_true_eq, decide_eq_false_iff_not, Bool.and_eq_true, Bool.or_eq_true, Bool.and_eq_false_iff, Bool.or_eq_false_iff, Bool.not_eq_true', Bool.not_eq_false', beq_iff_eq, beq_eq_false_iff_ne, bne_iff_ne, bne_eq_false_iff_eq, ne_eq, Int.not_lt, Int.not_le, gt_iff_lt, ge_iff_le] at hc2_
      obtain ⟨b1, o1, rfl, hcell1⟩ := TI.place hB (hst.take (.there (.there .here))) (by omega)
      obtain ⟨y, hy⟩ : ∃ z, ys[x.toNat]? = some z := ⟨ys[x.toNat]'(by omega), List.getElem?_eq_getElem (by omega)⟩
      refine CW.region ?_
      refine RW.soft Wd.a (v := .slice X1 L.length c1) (by exact E.move (AF_ev rfl hs5)) ?_
      refine RW.soft Wd.a (v := .slice (some ⟨b1, o1, none⟩) ys.length d) (by exact E.move (AF_ev rfl (up rfl hs1))) ?_
      refine RW.soft Wd.a (v := .int .i64 x) (by exact E.move (AF_ev rfl (up rfl (up rfl hs7)))) ?_
      refine RW.soft Wd.a (v := .pointer (some ⟨b1, o1 + (x).toNat * 1, none⟩)) (by exact E.indexAddr (b := b1) (o := o1) (l := ys.length) (c := d) (i := x) Try.underlying58 sz3 (AF_ev rfl (up rfl tp)) (AF_ev rfl tp) (by omega) (by omega) rfl) ?_
      refine RW.soft Wd.a (v := .int .i64 y) (by exact E.load (a := ⟨b1, o1 + (x).toNat * 1, none⟩) Try.underlying3 rfl (AF_ev rfl tp) (by exact hcell1 (hst.take (.there (.there .here))) _ _ (flat_get (j := 0) ienc_len hy (rfl)))) ?_
      refine RW.hard Wd.a ?_
      refine H.buildSlice (e := 3) (cs := #[.int .i64 y]) (vs := #[(0, .int .i64 y)]) (bld1 (AF_ev rfl tp)) (fun _ => by kernel_rfl) hst fun b3 w hst => ?_
      refine RW.hard Wd.a ?_
      refine H.append2 (m := 1) (news := [.int .i64 y]) (n2 := (L ++ [y]).length) (xs2 := (L ++ [y]).flatMap ienc) (s0 := .slice X1 L.length c1) (x0 := .slice (some ⟨b3, 0, none⟩) 1 1) (by first | (simp; done) | (rw [List.length_append]; simp only [List.length_cons, List.length_nil]; omega)) (by simp [ienc]) Try.underlying58 inf3 rfl (AF_ev rfl (up rfl (up rfl (up rfl (up rfl (up rfl tp)))))) (AF_ev rfl tp) hst (.there .here) ⟨rfl, _, _, rfl, by omega, .inr ⟨_, 0, rfl, hst.cellsIn .here rfl⟩⟩ (by simp [Value.oneCell']) (by omega) (by simp only [maxLen]; omega) ?_
      intro vX4 w hnilX4 hst
      obtain ⟨X4, c5, rfl, hcX4, hmX4, hlX4, hbX4⟩ := hst.shape
      refine RW.soft Wd.a (v := .slice X4 ((L ++ [y]).length) c5) (by exact E.assign (AF_ev rfl tp)) ?_
      refine RW.nil ?_
      refine Bl.n ?_
      refine Th.n ?_
      refine CW.region ?_
      refine RW.soft Wd.a (v := .int .i64 (((j : Nat) : Int) + 1)) (by exact E.add (k := .i64) (a := ((j : Nat) : Int)) (b := 1) (AF_ev rfl (up rfl (up rfl (up rfl (up rfl (up rfl (up rfl (up rfl (up rfl hs10))))))))) rfl (show IntKind.i64.wrap (((j : Nat) : Int) + 1) = ((j : Nat) : Int) + 1 from (by rw [IntWalk.i64_in _ (by omega)]))) ?_
      refine RW.soft Wd.a (v := .int .i64 (((j : Nat) : Int) + 1)) (by exact E.move (AF_ev rfl tp)) ?_
      refine RW.nil ?_
      refine Th.n ?_
      have hL2 : (L ++ [y]) = (zs.take (j + 1)).map (placeOf ys) := by rw [List.take_add_one, hx, List.map_append, ← hL]; simp [place_in hx0 hy]
      have hst := hst.take (.there (.there (.there .here)))
      have hst := hst.take (.there (.there (.there .here)))
      have hst := hst.take (.there (.there .here))
      have hst := (hst.take (.there (.there (.there .here)))).drop
      exact ⟨zs.length - (j + 1), by omega, j + 1, X4, (L ++ [y]), c5, hL2, (by omega), rfl, up rfl (up rfl (up rfl (up rfl (up rfl (up rfl (up rfl (up rfl (up rfl (up rfl hs8))))))))), up rfl (up rfl (up rfl (up rfl (up rfl (up rfl (up rfl (up rfl (up rfl (up rfl hs9))))))))), (int_eq (a := ((j : Nat) : Int) + 1) tp (by omega)), up rfl (up rfl (up rfl (up rfl (up rfl (up rfl (up rfl (up rfl (up rfl (up rfl hs1))))))))), up rfl (up rfl tp), hst⟩
    · have hc2_ := hc2
      try simp only [decide_eq_true_eq, decide_eq_false_iff_not, Bool.and_eq_true, Bool.or_eq_true, Bool.and_eq_false_iff, Bool.or_eq_false_iff, Bool.not_eq_true', Bool.not_eq_false', beq_iff_eq, beq_eq_false_iff_ne, bne_iff_ne, bne_eq_false_iff_eq, ne_eq, Int.not_lt, Int.not_le, gt_iff_lt, ge_iff_le] at hc2_
      refine CW.region ?_
      refine RW.soft Wd.a (v := .slice X1 L.length c1) (by exact E.move (AF_ev rfl hs5)) ?_
      refine RW.hard Wd.a ?_
      refine H.buildSlice (e := 3) (cs := #[.int .i64 0]) (vs := #[(0, .int .i64 0)]) (bld1 rfl) (fun _ => by kernel_rfl) hst fun b6 w hst => ?_
      refine RW.hard Wd.a ?_
      refine H.append2 (m := 1) (news := [.int .i64 0]) (n2 := (L ++ [0]).length) (xs2 := (L ++ [0]).flatMap ienc) (s0 := .slice X1 L.length c1) (x0 := .slice (some ⟨b6, 0, none⟩) 1 1) (by first | (simp; done) | (rw [List.length_append]; simp only [List.length_cons, List.length_nil]; omega)) (by simp [ienc]) Try.underlying58 inf3 rfl (AF_ev rfl (up rfl tp)) (AF_ev rfl tp) hst (.there .here) ⟨rfl, _, _, rfl, by omega, .inr ⟨_, 0, rfl, hst.cellsIn .here rfl⟩⟩ (by simp [Value.oneCell']) (by omega) (by simp only [maxLen]; omega) ?_
      intro vX7 w hnilX7 hst
      obtain ⟨X7, c8, rfl, hcX7, hmX7, hlX7, hbX7⟩ := hst.shape
      refine RW.soft Wd.a (v := .slice X7 ((L ++ [0]).length) c8) (by exact E.assign (AF_ev rfl tp)) ?_
      refine RW.nil ?_
      refine Bl.n ?_
      refine Th.n ?_
      refine CW.region ?_
      refine RW.soft Wd.a (v := .int .i64 (((j : Nat) : Int) + 1)) (by exact E.add (k := .i64) (a := ((j : Nat) : Int)) (b := 1) (AF_ev rfl (up rfl (up rfl (up rfl (up rfl hs10))))) rfl (show IntKind.i64.wrap (((j : Nat) : Int) + 1) = ((j : Nat) : Int) + 1 from (by rw [IntWalk.i64_in _ (by omega)]))) ?_
      refine RW.soft Wd.a (v := .int .i64 (((j : Nat) : Int) + 1)) (by exact E.move (AF_ev rfl tp)) ?_
      refine RW.nil ?_
      refine Th.n ?_
      have hL2 : (L ++ [0]) = (zs.take (j + 1)).map (placeOf ys) := by rw [List.take_add_one, hx, List.map_append, ← hL]; simp [place_out (zs := ys) (i := x) (by omega)]
      have hst := hst.take (.there (.there (.there .here)))
      have hst := hst.take (.there (.there (.there .here)))
      have hst := hst.take (.there (.there .here))
      have hst := (hst.take (.there (.there (.there .here)))).drop
      exact ⟨zs.length - (j + 1), by omega, j + 1, X7, (L ++ [0]), c8, hL2, (by omega), rfl, up rfl (up rfl (up rfl (up rfl (up rfl (up rfl hs8))))), up rfl (up rfl (up rfl (up rfl (up rfl (up rfl hs9))))), (int_eq (a := ((j : Nat) : Int) + 1) tp (by omega)), up rfl (up rfl (up rfl (up rfl (up rfl (up rfl hs1))))), up rfl (up rfl tp), hst⟩
  · have hc1_ := hc1
    try simp only [decide_eq_true_eq, decide_eq_false_iff_not, Bool.and_eq_true, Bool.or_eq_true, Bool.and_eq_false_iff, Bool.or_eq_false_iff, Bool.not_eq_true', Bool.not_eq_false', beq_iff_eq, beq_eq_false_iff_ne, bne_iff_ne, bne_eq_false_iff_eq, ne_eq, Int.not_lt, Int.not_le, gt_iff_lt, ge_iff_le] at hc1_
    refine CW.exit ?_
    refine Th.x ?_
    refine Th.x ?_
    refine Bl.x ?_
    refine Th.n ?_
    refine CW.seq ?_
    have hLz : L = zs.map (placeOf ys) := by rw [hL, List.take_of_length_le (by omega)]
    have hLl : L.length = zs.length := by rw [hLz, List.length_map]
    obtain ⟨X8, c8, he8, hc8, hm8, hl8, hb8⟩ := hst.shape
    cases he8
    obtain ⟨g, hg⟩ := hb8 (by omega)
    subst hg
    refine CW.region ?_
    refine RW.soft Wd.a (v := .slice (some ⟨g, 0, none⟩) L.length c1) (by exact E.move (AF_ev rfl hs5)) ?_
    refine RW.hard Wd.a ?_
    refine H.call0 Try.func59 nm59 rfl (map1 (AF_ev rfl tp)) (Calls.mono (q_Sort (zs := L) (by omega) (by omega) hc8 hst) ?_)
    rintro _ w ⟨L2, rfl, hP, hW, hst⟩
    refine ⟨_, rfl, ?_⟩
    show RW _ _ _ _ _ _ _
    refine RW.fin (fun τ => τ 1 = .slice Y ys.length d ∧ τ 5 = .slice (some ⟨g, 0, none⟩) L.length c1 ∧ τ 8 = .slice X zs.length c ∧ τ 9 = .int .i64 ((zs.length : Nat) : Int) ∧ τ 10 = .int .i64 ((j : Nat) : Int) ∧ τ 11 = .bool false) ⟨up rfl (up rfl hs1), up rfl (up rfl hs5), up rfl (up rfl hs8), up rfl (up rfl hs9), up rfl (up rfl hs10), up rfl (up rfl (Eq.trans hs11 (congrArg Value.bool hc1)))⟩ ?_
    rintro τ ⟨hs1, hs5, hs8, hs9, hs10, hs11⟩
    refine CW.seq ?_
    have hL2l : L2.length = L.length := hP.length_eq
    obtain ⟨m, hm2⟩ : ∃ z, L2[((((L.length : Nat) : Int) - 1) / 2).toNat]? = some z := ⟨L2[((((L.length : Nat) : Int) - 1) / 2).toNat]'(by omega), List.getElem?_eq_getElem (by omega)⟩
    refine CW.region ?_
    refine RW.soft Wd.a (v := .slice (some ⟨g, 0, none⟩) L.length c1) (by exact E.move (AF_ev rfl hs5)) ?_
    refine RW.soft Wd.a (v := .slice (some ⟨g, 0, none⟩) L.length c1) (by exact E.move (AF_ev rfl (up rfl hs5))) ?_
    refine RW.soft Wd.a (v := .int .i64 ((L.length : Nat) : Int)) (by exact E.lenS (p := (some ⟨g, 0, none⟩)) (l := L.length) (c := c1) Try.underlying58 (AF_ev rfl tp)) ?_
    refine RW.soft Wd.a (v := .int .i64 (((L.length : Nat) : Int) - 1)) (by exact E.sub (k := .i64) (a := ((L.length : Nat) : Int)) (b := 1) (AF_ev rfl tp) rfl (show IntKind.i64.wrap (((L.length : Nat) : Int) - 1) = ((L.length : Nat) : Int) - 1 from (by rw [IntWalk.i64_in _ (by omega)]))) ?_
    refine RW.soft Wd.a (v := .int .i64 ((((L.length : Nat) : Int) - 1) / 2)) (by exact E.quo (k := .i64) (a := ((L.length : Nat) : Int) - 1) (b := 2) (AF_ev rfl tp) rfl (by omega) (by rw [Int.tdiv_eq_ediv_of_nonneg (by omega)]; exact (show IntKind.i64.wrap ((((L.length : Nat) : Int) - 1) / 2) = (((L.length : Nat) : Int) - 1) / 2 from (by rw [IntWalk.i64_in _ (by omega)])))) ?_
    refine RW.soft Wd.a (v := .pointer (some ⟨g, ((((L.length : Nat) : Int) - 1) / 2).toNat * 1, none⟩)) (by exact E.indexAddr (b := g) (o := 0) (l := L.length) (c := c1) (i := (((L.length : Nat) : Int) - 1) / 2) Try.underlying58 sz3 (AF_ev rfl (up rfl (up rfl (up rfl (up rfl tp))))) (AF_ev rfl tp) (by omega) (by omega) (by simp)) ?_
    refine RW.soft Wd.a (v := .int .i64 m) (by exact E.load (a := ⟨g, ((((L.length : Nat) : Int) - 1) / 2).toNat * 1, none⟩) Try.underlying3 rfl (AF_ev rfl tp) (hst.ocell .here (flat_get (j := 0) ienc_len hm2 (rfl)))) ?_
    refine RW.soft Wd.a (v := .int .i64 m) (by exact E.assign (AF_ev rfl tp)) ?_
    refine RW.fin (fun τ => τ 1 = .slice Y ys.length d ∧ τ 4 = .int .i64 m ∧ τ 5 = .slice (some ⟨g, 0, none⟩) L.length c1 ∧ τ 8 = .slice X zs.length c ∧ τ 9 = .int .i64 ((zs.length : Nat) : Int) ∧ τ 10 = .int .i64 ((j : Nat) : Int) ∧ τ 11 = .bool false) ⟨up rfl (up rfl (up rfl (up rfl (up rfl (up rfl (up rfl (up rfl hs1))))))), tp, up rfl (up rfl (up rfl (up rfl (up rfl (up rfl (up rfl (up rfl hs5))))))), up rfl (up rfl (up rfl (up rfl (up rfl (up rfl (up rfl (up rfl hs8))))))), up rfl (up rfl (up rfl (up rfl (up rfl (up rfl (up rfl (up rfl hs9))))))), up rfl (up rfl (up rfl (up rfl (up rfl (up rfl (up rfl (up rfl hs10))))))), up rfl (up rfl (up rfl (up rfl (up rfl (up rfl (up rfl (up rfl hs11)))))))⟩ ?_
    rintro τ ⟨hs1, hs4, hs5, hs8, hs9, hs10, hs11⟩
    refine CW.ret ?_
    refine ret1 (v := .int .i64 m) rfl (by exact (.tmp (AF_ev rfl hs4) .nil)) ?_
    have hst := hst.take (.there (.there .here))
    have hst := hst.take (.there (.there .here))
    have hst := (hst.take (.there (.there .here))).drop
    have hix : ((((L.length : Nat) : Int) - 1) / 2).toNat = (zs.length - 1) / 2 := by omega
    rw [hix] at hm2
    rw [hLz] at hP
    exact ⟨by rw [middle hf hP hW hm2 h0], hst⟩
end Go.Proofs.Ytjagffnbobnofaa
