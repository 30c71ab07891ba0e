/- The functions of the package quorum, walked through operation by operation. -/
import Derived.Test.YtjagffnbobnofaaQ26
import Derived.Test.YtjagffnbobnofaaQ23
import Derived.Test.YtjagffnbobnofaaQ25
import Derived.Test.YtjagffnbobnofaaQ18
import Derived.Test.YtjagffnbobnofaaQ22
import Derived.Test.YtjagffnbobnofaaQ17
import Derived.Test.YtjagffnbobnofaaQ15
import Derived.Test.YtjagffnbobnofaaQ16
import Derived.Test.YtjagffnbobnofaaQ13
import Derived.Test.YtjagffnbobnofaaQ14
import Derived.Test.YtjagffnbobnofaaQ11
import Derived.Test.YtjagffnbobnofaaQ12
import Derived.Test.YtjagffnbobnofaaQ9
import Derived.Test.YtjagffnbobnofaaQ10
import Derived.Test.YtjagffnbobnofaaQ8
import Derived.Test.YtjagffnbobnofaaSN
import Derived.Test.YtjagffnbobnofaaQ6
import Derived.Test.YtjagffnbobnofaaQ7
import Derived.Test.YtjagffnbobnofaaQ4
import Derived.Test.YtjagffnbobnofaaQ5
import Derived.Test.YtjagffnbobnofaaQ2
import Derived.Test.YtjagffnbobnofaaQ1
import Derived.Test.YtjagffnbobnofaaQ3
import Derived.Test.YtjagffnbobnofaaQ0
import Derived.Test.YtjagffnbobnofaaSM
namespace Go.Proofs.Ytjagffnbobnofaa
open Go.RowKit Go.SL Go.Q18
attribute [local irreducible] Go.SL.RW Go.SL.CW Go.SL.RD Go.SL.Hd Go.SL.St
set_option linter.unusedVariables false
set_option linter.unusedSimpArgs false



theorem part_more {m L : List Int} {j : Nat} {x : Int} {p : Int → Bool} (h : L = (m.take j).filter p) (hx : m[j]? = some x) (hp : p x = true) : L ++ [x] = (m.take (j + 1)).filter p := by
  rw [List.take_add_one, hx, List.filter_append, ← h]; simp [List.filter, hp]
theorem part_same {m L : List Int} {j : Nat} {x : Int} {p : Int → Bool} (h : L = (m.take j).filter p) (hx : m[j]? = some x) (hp : p x = false) : L = (m.take (j + 1)).filter p := by
  rw [List.take_add_one, hx, List.filter_append, ← h]; simp [List.filter, hp]


theorem all_walk {p : Pers} {w : World} {R : List Assn} (bits id : Int) (hst : St p w (R)) :
    Calls Try.prog 11 #[.int .i64 bits, .int .i64 id] w fun e w => ∃ q, p.le q ∧ e = .returned (.bool true) ∧ St q w R := by
  refine enter Try.func11 rfl (by simp) (n := 81) rfl fun τ hτ => ?_
  have hs0 : τ 0 = .int .i64 bits := hτ 0 (by simp)
  have hs1 : τ 1 = .int .i64 id := hτ 1 (by simp)
  clear hτ
  refine CW.seq ?_
  refine CW.region ?_
  refine RW.soft Wd.a (v := .bool false) (by exact E.assign rfl) ?_
  refine RW.fin (fun τ => τ 0 = .int .i64 bits ∧ τ 1 = .int .i64 id ∧ τ 4 = .bool false) ⟨up rfl hs0, up rfl hs1, tp⟩ ?_
  rintro τ ⟨hs0, hs1, hs4⟩
  refine CW.seq ?_
  refine CW.region ?_
  refine RW.hard Wd.a ?_
  refine H.call0 Try.func31 nm31 rfl map0 (Calls.mono (shown18 hst) ?_)
  rintro _ w ⟨rfl, hst⟩
  refine ⟨_, rfl, ?_⟩
  show RW _ _ _ _ _ _ _
  refine RW.soft Wd.a (v := .bool true) (by exact E.assign (AF_ev rfl tp)) ?_
  refine RW.fin (fun τ => τ 0 = .int .i64 bits ∧ τ 1 = .int .i64 id ∧ τ 4 = .bool false ∧ τ 5 = .bool true) ⟨up rfl (up rfl hs0), up rfl (up rfl hs1), up rfl (up rfl hs4), tp⟩ ?_
  rintro τ ⟨hs0, hs1, hs4, hs5⟩
  refine CW.seq ?_
  refine CW.region ?_
  refine RW.soft Wd.a (v := .int .i64 bits) (by exact E.move (AF_ev rfl hs0)) ?_
  refine RW.hard Wd.a ?_
  refine H.call0 Try.func40 nm40 rfl (map1 (AF_ev rfl tp)) (Calls.mono (q_made bits hst) ?_)
  rintro _ w ⟨vX1, rfl, hst⟩
  obtain ⟨X1, c2, heX1, hcX1, hmX1, hlX1, hbX1⟩ := hst.shape
  subst heX1
  have hst0_ := keepI rfl hst
  clear hst
  obtain ⟨p, hleX1, hLX1, hst⟩ := hst0_
  have hm7X1 := made_le bits
  have hmpX1 := made_pos bits
  refine ⟨_, rfl, ?_⟩
  show RW _ _ _ _ _ _ _
  refine RW.soft Wd.a (v := .slice X1 ((madeR bits).length) c2) (by exact E.assign (AF_ev rfl tp)) ?_
  refine RW.fin (fun τ => τ 0 = .int .i64 bits ∧ τ 1 = .int .i64 id ∧ τ 4 = .bool false ∧ τ 5 = .bool true ∧ τ 6 = .slice X1 ((madeR bits).length) c2) ⟨up rfl (up rfl (up rfl hs0)), up rfl (up rfl (up rfl hs1)), up rfl (up rfl (up rfl hs4)), up rfl (up rfl (up rfl hs5)), tp⟩ ?_
  rintro τ ⟨hs0, hs1, hs4, hs5, hs6⟩
  refine CW.seq ?_
  refine CW.region ?_
  refine RW.hard Wd.a ?_
  refine H.buildSlice (e := 3) (cs := #[]) (vs := #[]) (by simp) (fun _ => by kernel_rfl) hst fun b3 w hst => ?_
  refine RW.soft Wd.a (v := .slice (some ⟨b3, 0, none⟩) 0 0) (by exact E.assign (AF_ev rfl tp)) ?_
  refine RW.fin (fun τ => τ 0 = .int .i64 bits ∧ τ 1 = .int .i64 id ∧ τ 4 = .bool false ∧ τ 5 = .bool true ∧ τ 6 = .slice X1 ((madeR bits).length) c2 ∧ τ 7 = .slice (some ⟨b3, 0, none⟩) 0 0) ⟨up rfl (up rfl hs0), up rfl (up rfl hs1), up rfl (up rfl hs4), up rfl (up rfl hs5), up rfl (up rfl hs6), tp⟩ ?_
  rintro τ ⟨hs0, hs1, hs4, hs5, hs6, hs7⟩
  refine CW.seq ?_
  refine CW.region ?_
  refine RW.hard Wd.a ?_
  refine H.buildSlice (e := 3) (cs := #[]) (vs := #[]) (by simp) (fun _ => by kernel_rfl) hst fun b4 w hst => ?_
  refine RW.soft Wd.a (v := .slice (some ⟨b4, 0, none⟩) 0 0) (by exact E.assign (AF_ev rfl tp)) ?_
  refine RW.fin (fun τ => τ 0 = .int .i64 bits ∧ τ 1 = .int .i64 id ∧ τ 4 = .bool false ∧ τ 5 = .bool true ∧ τ 6 = .slice X1 ((madeR bits).length) c2 ∧ τ 7 = .slice (some ⟨b3, 0, none⟩) 0 0 ∧ τ 8 = .slice (some ⟨b4, 0, none⟩) 0 0) ⟨up rfl (up rfl hs0), up rfl (up rfl hs1), up rfl (up rfl hs4), up rfl (up rfl hs5), up rfl (up rfl hs6), up rfl (up rfl hs7), tp⟩ ?_
  rintro τ ⟨hs0, hs1, hs4, hs5, hs6, hs7, hs8⟩
  refine CW.seq ?_
  refine CW.seq ?_
  refine CW.region ?_
  refine RW.soft Wd.a (v := .int .i64 0) (by exact E.assign rfl) ?_
  refine RW.fin (fun τ => τ 0 = .int .i64 bits ∧ τ 1 = .int .i64 id ∧ τ 4 = .bool false ∧ τ 5 = .bool true ∧ τ 6 = .slice X1 ((madeR bits).length) c2 ∧ τ 7 = .slice (some ⟨b3, 0, none⟩) 0 0 ∧ τ 8 = .slice (some ⟨b4, 0, none⟩) 0 0 ∧ τ 9 = .int .i64 0) ⟨up rfl hs0, up rfl hs1, up rfl hs4, up rfl hs5, up rfl hs6, up rfl hs7, up rfl hs8, tp⟩ ?_
  rintro τ ⟨hs0, hs1, hs4, hs5, hs6, hs7, hs8, hs9⟩
  refine CW.block ?_
  have hst := hst.take (.there .here)
  have hst : St p w (Own 3 1 (.slice (some ⟨b3, 0, none⟩) 0 0) 0 (([] : List Int).flatMap ienc) :: _) := hst.ownNew (n := 0) (cap := 0) (sz := 1) (xs := ([] : List Int).flatMap ienc) (by omega) (by simp [maxLen]) rfl rfl
  have hst := hst.take (.there .here)
  have hst : St p w (Own 3 1 (.slice (some ⟨b4, 0, none⟩) 0 0) 0 (([] : List Int).flatMap ienc) :: _) := hst.ownNew (n := 0) (cap := 0) (sz := 1) (xs := ([] : List Int).flatMap ienc) (by omega) (by simp [maxLen]) rfl rfl
  have hst := hst.take (.there .here)
  refine CW.loop (fun (k : Nat) (τ : Fr) (w : World) => ∃ (j : Nat) (Xa : Option Addr) (L1 : List Int) (ca : Nat) (Xb : Option Addr) (L2 : List Int) (cb : Nat), L1 = ((madeR bits).take j).filter (bitB id) ∧ L2 = ((madeR bits).take j).filter (fun x => !(bitB id x)) ∧ j ≤ (madeR bits).length ∧ k = (madeR bits).length - j ∧ τ 1 = .int .i64 id ∧ τ 5 = .bool true ∧ τ 6 = .slice X1 ((madeR bits).length) c2 ∧ τ 7 = .slice Xa L1.length ca ∧ τ 8 = .slice Xb L2.length cb ∧ τ 9 = .int .i64 ((j : Nat) : Int) ∧ St p w (Own 3 1 (.slice Xa L1.length ca) L1.length (L1.flatMap ienc) :: Own 3 1 (.slice Xb L2.length cb) L2.length (L2.flatMap ienc) :: R)) ((madeR bits).length - 0) ⟨0, (some ⟨b3, 0, none⟩), [], 0, (some ⟨b4, 0, none⟩), [], 0, rfl, rfl, by omega, rfl, hs1, hs5, hs6, hs7, hs8, (int_eq (a := 0) hs9 (by omega)), hst⟩ ?_
  clear hst
  rintro k τ w ⟨j, Xa, L1, ca, Xb, L2, cb, hL1, hL2, hj, hkj, hs1, hs5, hs6, hs7, hs8, hs9, hst⟩
  refine CW.seq ?_
  refine CW.seq ?_
  refine CW.region ?_
  refine RW.soft Wd.a (v := .int .i64 ((j : Nat) : Int)) (by exact E.move (AF_ev rfl hs9)) ?_
  refine RW.soft Wd.a (v := .slice X1 ((madeR bits).length) c2) (by exact E.move (AF_ev rfl (up rfl hs6))) ?_
  refine RW.soft Wd.a (v := .int .i64 (((madeR bits).length : Nat) : Int)) (by exact E.lenS (p := X1) (l := (madeR bits).length) (c := c2) Try.underlying58 (AF_ev rfl tp)) ?_
  refine RW.soft Wd.a (v := .bool (decide (((j : Nat) : Int) < (((madeR bits).length : Nat) : Int)))) (by exact E.lss (k := .i64) (a := ((j : Nat) : Int)) (b := (((madeR bits).length : Nat) : Int)) (AF_ev rfl (up rfl (up rfl tp))) (AF_ev rfl tp)) ?_
  refine RW.fin (fun τ => τ 1 = .int .i64 id ∧ τ 5 = .bool true ∧ τ 6 = .slice X1 ((madeR bits).length) c2 ∧ τ 7 = .slice Xa L1.length ca ∧ τ 8 = .slice Xb L2.length cb ∧ τ 9 = .int .i64 ((j : Nat) : Int) ∧ τ 18 = .bool (decide (((j : Nat) : Int) < (((madeR bits).length : Nat) : Int)))) ⟨up rfl (up rfl (up rfl (up rfl hs1))), up rfl (up rfl (up rfl (up rfl hs5))), up rfl (up rfl (up rfl (up rfl hs6))), up rfl (up rfl (up rfl (up rfl hs7))), up rfl (up rfl (up rfl (up rfl hs8))), up rfl (up rfl (up rfl (up rfl hs9))), tp⟩ ?_
  rintro τ ⟨hs1, hs5, hs6, hs7, hs8, hs9, hs18⟩
  refine CW.cond (AF_ev rfl hs18) (fun hc5 => ?_) (fun hc5 => ?_)
  · have hc5_ := hc5
    try simp only [decide_eq_true_eq, decide_eq_false_iff_not, Bool.and_eq_true, Bool.or_eq_true, Bool.and_eq_false_iff, Bool.or_eq_false_iff, Bool.not_eq_true', Bool.not_eq_false', beq_iff_eq, beq_eq_false_iff_ne, bne_iff_ne, bne_eq_false_iff_eq, ne_eq, Int.not_lt, Int.not_le, gt_iff_lt, ge_iff_le] at hc5_
    refine CW.skip ?_
    refine Th.n ?_
    refine CW.seq ?_
    refine CW.block ?_
    refine CW.seq ?_
    obtain ⟨x, hx⟩ : ∃ z, (madeR bits)[j]? = some z := ⟨(madeR bits)[j]'(by omega), List.getElem?_eq_getElem (by omega)⟩
    have hm7 := made_le bits
    have hx1 := made_mem (List.mem_of_getElem? hx)
    have hl1 : L1.length ≤ j := by rw [hL1]; refine Nat.le_trans (List.length_filter_le _ _) ?_; rw [List.length_take]; omega
    have hl2 : L2.length ≤ j := by rw [hL2]; refine Nat.le_trans (List.length_filter_le _ _) ?_; rw [List.length_take]; omega
    obtain ⟨b9, o9, hp9, hcell9⟩ := Las.place hLX1 (by omega)
    subst hp9
    refine CW.region ?_
    refine RW.soft Wd.a (v := .int .i64 id) (by exact E.move (AF_ev rfl hs1)) ?_
    refine RW.soft Wd.a (v := .slice (some ⟨b9, o9, none⟩) ((madeR bits).length) c2) (by exact E.move (AF_ev rfl (up rfl hs6))) ?_
    refine RW.soft Wd.a (v := .int .i64 ((j : Nat) : Int)) (by exact E.move (AF_ev rfl (up rfl (up rfl hs9)))) ?_
    refine RW.soft Wd.a (v := .pointer (some ⟨b9, o9 + j * 1, none⟩)) (by exact E.indexAddr (b := b9) (o := o9) (l := (madeR bits).length) (c := c2) (i := ((j : Nat) : Int)) Try.underlying58 sz3 (AF_ev rfl (up rfl tp)) (AF_ev rfl tp) (by omega) (by omega) (by simp)) ?_
    refine RW.soft Wd.a (v := .int .i64 x) (by exact E.load (a := ⟨b9, o9 + j * 1, none⟩) Try.underlying3 rfl (AF_ev rfl tp) (by exact hcell9 hst _ _ (flat_get (j := 0) ienc_len hx (rfl)))) ?_
    refine RW.soft Wd.a (v := .int .i64 (shrI id x)) (by exact E.shr (a := id) (b := x) (AF_ev rfl (up rfl (up rfl (up rfl (up rfl tp))))) (AF_ev rfl tp) (by omega)) ?_
    refine RW.soft Wd.a (v := .int .i64 (andI (shrI id x) 1)) (by exact E.and (a := shrI id x) (b := 1) (AF_ev rfl tp) rfl) ?_
    refine RW.soft Wd.a (v := .bool ((andI (shrI id x) 1) == 1)) (by exact E.eql (k := .i64) (a := andI (shrI id x) 1) (b := 1) (AF_ev rfl tp) rfl) ?_
    refine RW.fin (fun τ => τ 1 = .int .i64 id ∧ τ 5 = .bool true ∧ τ 6 = .slice (some ⟨b9, o9, none⟩) ((madeR bits).length) c2 ∧ τ 7 = .slice Xa L1.length ca ∧ τ 8 = .slice Xb L2.length cb ∧ τ 9 = .int .i64 ((j : Nat) : Int) ∧ τ 18 = .bool true ∧ τ 28 = .bool ((andI (shrI id x) 1) == 1)) ⟨up rfl (up rfl (up rfl (up rfl (up rfl (up rfl (up rfl (up rfl hs1))))))), up rfl (up rfl (up rfl (up rfl (up rfl (up rfl (up rfl (up rfl hs5))))))), up rfl (up rfl (up rfl (up rfl (up rfl (up rfl (up rfl (up rfl hs6))))))), up rfl (up rfl (up rfl (up rfl (up rfl (up rfl (up rfl (up rfl hs7))))))), up rfl (up rfl (up rfl (up rfl (up rfl (up rfl (up rfl (up rfl hs8))))))), up rfl (up rfl (up rfl (up rfl (up rfl (up rfl (up rfl (up rfl hs9))))))), up rfl (up rfl (up rfl (up rfl (up rfl (up rfl (up rfl (up rfl (Eq.trans hs18 (congrArg Value.bool hc5))))))))), tp⟩ ?_
    rintro τ ⟨hs1, hs5, hs6, hs7, hs8, hs9, hs18, hs28⟩
    refine CW.cond (AF_ev rfl hs28) (fun hc6 => ?_) (fun hc6 => ?_)
    · have hc6_ := hc6
      try simp only [decide_eq_true_eq, decide_eq_false_iff_not, Bool.and_eq_true, Bool.or_eq_true, Bool.and_eq_false_iff, Bool.or_eq_false_iff, Bool.not_eq_true', Bool.not_eq_false', beq_iff_eq, beq_eq_false_iff_ne, bne_iff_ne, bne_eq_false_iff_eq, ne_eq, Int.not_lt, Int.not_le, gt_iff_lt, ge_iff_le] at hc6_
      refine CW.region ?_
      refine RW.soft Wd.a (v := .slice Xa L1.length ca) (by exact E.move (AF_ev rfl hs7)) ?_
      refine RW.soft Wd.a (v := .slice (some ⟨b9, o9, none⟩) ((madeR bits).length) c2) (by exact E.move (AF_ev rfl (up rfl hs6))) ?_
      refine RW.soft Wd.a (v := .int .i64 ((j : Nat) : Int)) (by exact E.move (AF_ev rfl (up rfl (up rfl hs9)))) ?_
      refine RW.soft Wd.a (v := .pointer (some ⟨b9, o9 + j * 1, none⟩)) (by exact E.indexAddr (b := b9) (o := o9) (l := (madeR bits).length) (c := c2) (i := ((j : Nat) : Int)) Try.underlying58 sz3 (AF_ev rfl (up rfl tp)) (AF_ev rfl tp) (by omega) (by omega) (by simp)) ?_
      refine RW.soft Wd.a (v := .int .i64 x) (by exact E.load (a := ⟨b9, o9 + j * 1, none⟩) Try.underlying3 rfl (AF_ev rfl tp) (by exact hcell9 hst _ _ (flat_get (j := 0) ienc_len hx (rfl)))) ?_
      refine RW.hard Wd.a ?_
      refine H.buildSlice (e := 3) (cs := #[.int .i64 x]) (vs := #[(0, .int .i64 x)]) (bld1 (AF_ev rfl tp)) (fun _ => by kernel_rfl) hst fun b7 w hst => ?_
      refine RW.hard Wd.a ?_
      refine H.append2 (m := 1) (news := [.int .i64 x]) (n2 := (L1 ++ [x]).length) (xs2 := (L1 ++ [x]).flatMap ienc) (s0 := .slice Xa L1.length ca) (x0 := .slice (some ⟨b7, 0, none⟩) 1 1) (by first | (simp; done) | (rw [List.length_append]; simp only [List.length_cons, List.length_nil]; omega)) (by simp [ienc]) Try.underlying58 inf3 rfl (AF_ev rfl (up rfl (up rfl (up rfl (up rfl (up rfl tp)))))) (AF_ev rfl tp) hst (.there .here) ⟨rfl, _, _, rfl, by omega, .inr ⟨_, 0, rfl, hst.cellsIn .here rfl⟩⟩ (by simp [Value.oneCell']) (by omega) (by simp only [maxLen]; omega) ?_
      intro vX8 w hnilX8 hst
      obtain ⟨X8, c9, rfl, hcX8, hmX8, hlX8, hbX8⟩ := hst.shape
      refine RW.soft Wd.a (v := .slice X8 ((L1 ++ [x]).length) c9) (by exact E.assign (AF_ev rfl tp)) ?_
      refine RW.nil ?_
      refine Bl.n ?_
      refine Th.n ?_
      refine CW.region ?_
      refine RW.soft Wd.a (v := .int .i64 ((j : Nat) : Int)) (by exact E.move (AF_ev rfl (up rfl (up rfl (up rfl (up rfl (up rfl (up rfl (up rfl (up rfl hs9)))))))))) ?_
      refine RW.soft Wd.a (v := .int .i64 (((j : Nat) : Int) + 1)) (by exact E.add (k := .i64) (a := ((j : Nat) : Int)) (b := 1) (AF_ev rfl tp) rfl (show IntKind.i64.wrap (((j : Nat) : Int) + 1) = ((j : Nat) : Int) + 1 from (by rw [IntWalk.i64_in _ (by omega)]))) ?_
      refine RW.soft Wd.a (v := .int .i64 (((j : Nat) : Int) + 1)) (by exact E.assign (AF_ev rfl tp)) ?_
      refine RW.nil ?_
      refine Th.n ?_
      have hb_ := (show bitB id x = true from hc6)
      have hn_ : (!(bitB id x)) = false := by rw [hb_]; rfl
      have hM1 := part_more hL1 hx hb_
      have hM2 := part_same (p := (fun x => !(bitB id x))) hL2 hx hn_
      have hst := hst.take (.there (.there .here))
      have hst := hst.take (.there .here)
      have hst := (hst.take (.there (.there .here))).drop
      exact ⟨(madeR bits).length - (j + 1), by omega, j + 1, X8, (L1 ++ [x]), c9, Xb, L2, cb, hM1, hM2, (by omega), rfl, up rfl (up rfl (up rfl (up rfl (up rfl (up rfl (up rfl (up rfl (up rfl (up rfl (up rfl hs1)))))))))), up rfl (up rfl (up rfl (up rfl (up rfl (up rfl (up rfl (up rfl (up rfl (up rfl (up rfl hs5)))))))))), up rfl (up rfl (up rfl (up rfl (up rfl (up rfl (up rfl (up rfl (up rfl (up rfl (up rfl hs6)))))))))), up rfl (up rfl (up rfl tp)), up rfl (up rfl (up rfl (up rfl (up rfl (up rfl (up rfl (up rfl (up rfl (up rfl (up rfl hs8)))))))))), (int_eq (a := ((j : Nat) : Int) + 1) tp (by omega)), hst⟩
    · have hc6_ := hc6
      try simp only [decide_eq_true_eq, decide_eq_false_iff_not, Bool.and_eq_true, Bool.or_eq_true, Bool.and_eq_false_iff, Bool.or_eq_false_iff, Bool.not_eq_true', Bool.not_eq_false', beq_iff_eq, beq_eq_false_iff_ne, bne_iff_ne, bne_eq_false_iff_eq, ne_eq, Int.not_lt, Int.not_le, gt_iff_lt, ge_iff_le] at hc6_
      refine CW.region ?_
      refine RW.soft Wd.a (v := .slice Xb L2.length cb) (by exact E.move (AF_ev rfl hs8)) ?_
      refine RW.soft Wd.a (v := .slice (some ⟨b9, o9, none⟩) ((madeR bits).length) c2) (by exact E.move (AF_ev rfl (up rfl hs6))) ?_
      refine RW.soft Wd.a (v := .int .i64 ((j : Nat) : Int)) (by exact E.move (AF_ev rfl (up rfl (up rfl hs9)))) ?_
      refine RW.soft Wd.a (v := .pointer (some ⟨b9, o9 + j * 1, none⟩)) (by exact E.indexAddr (b := b9) (o := o9) (l := (madeR bits).length) (c := c2) (i := ((j : Nat) : Int)) Try.underlying58 sz3 (AF_ev rfl (up rfl tp)) (AF_ev rfl tp) (by omega) (by omega) (by simp)) ?_
      refine RW.soft Wd.a (v := .int .i64 x) (by exact E.load (a := ⟨b9, o9 + j * 1, none⟩) Try.underlying3 rfl (AF_ev rfl tp) (by exact hcell9 hst _ _ (flat_get (j := 0) ienc_len hx (rfl)))) ?_
      refine RW.hard Wd.a ?_
      refine H.buildSlice (e := 3) (cs := #[.int .i64 x]) (vs := #[(0, .int .i64 x)]) (bld1 (AF_ev rfl tp)) (fun _ => by kernel_rfl) hst fun b10 w hst => ?_
      refine RW.hard Wd.a ?_
      refine H.append2 (m := 1) (news := [.int .i64 x]) (n2 := (L2 ++ [x]).length) (xs2 := (L2 ++ [x]).flatMap ienc) (s0 := .slice Xb L2.length cb) (x0 := .slice (some ⟨b10, 0, none⟩) 1 1) (by first | (simp; done) | (rw [List.length_append]; simp only [List.length_cons, List.length_nil]; omega)) (by simp [ienc]) Try.underlying58 inf3 rfl (AF_ev rfl (up rfl (up rfl (up rfl (up rfl (up rfl tp)))))) (AF_ev rfl tp) hst (.there (.there .here)) ⟨rfl, _, _, rfl, by omega, .inr ⟨_, 0, rfl, hst.cellsIn .here rfl⟩⟩ (by simp [Value.oneCell']) (by omega) (by simp only [maxLen]; omega) ?_
      intro vX11 w hnilX11 hst
      obtain ⟨X11, c12, rfl, hcX11, hmX11, hlX11, hbX11⟩ := hst.shape
      refine RW.soft Wd.a (v := .slice X11 ((L2 ++ [x]).length) c12) (by exact E.assign (AF_ev rfl tp)) ?_
      refine RW.nil ?_
      refine Bl.n ?_
      refine Th.n ?_
      refine CW.region ?_
      refine RW.soft Wd.a (v := .int .i64 ((j : Nat) : Int)) (by exact E.move (AF_ev rfl (up rfl (up rfl (up rfl (up rfl (up rfl (up rfl (up rfl (up rfl hs9)))))))))) ?_
      refine RW.soft Wd.a (v := .int .i64 (((j : Nat) : Int) + 1)) (by exact E.add (k := .i64) (a := ((j : Nat) : Int)) (b := 1) (AF_ev rfl tp) rfl (show IntKind.i64.wrap (((j : Nat) : Int) + 1) = ((j : Nat) : Int) + 1 from (by rw [IntWalk.i64_in _ (by omega)]))) ?_
      refine RW.soft Wd.a (v := .int .i64 (((j : Nat) : Int) + 1)) (by exact E.assign (AF_ev rfl tp)) ?_
      refine RW.nil ?_
      refine Th.n ?_
      have hb_ := (show bitB id x = false from hc6)
      have hn_ : (!(bitB id x)) = true := by rw [hb_]; rfl
      have hM1 := part_same hL1 hx hb_
      have hM2 := part_more (p := (fun x => !(bitB id x))) hL2 hx hn_
      have hst := hst.take (.there (.there .here))
      have hst := (hst.take (.there (.there .here))).drop
      exact ⟨(madeR bits).length - (j + 1), by omega, j + 1, Xa, L1, ca, X11, (L2 ++ [x]), c12, hM1, hM2, (by omega), rfl, up rfl (up rfl (up rfl (up rfl (up rfl (up rfl (up rfl (up rfl (up rfl (up rfl (up rfl hs1)))))))))), up rfl (up rfl (up rfl (up rfl (up rfl (up rfl (up rfl (up rfl (up rfl (up rfl (up rfl hs5)))))))))), up rfl (up rfl (up rfl (up rfl (up rfl (up rfl (up rfl (up rfl (up rfl (up rfl (up rfl hs6)))))))))), up rfl (up rfl (up rfl (up rfl (up rfl (up rfl (up rfl (up rfl (up rfl (up rfl (up rfl hs7)))))))))), up rfl (up rfl (up rfl tp)), (int_eq (a := ((j : Nat) : Int) + 1) tp (by omega)), hst⟩
  · have hc5_ := hc5
    try simp only [decide_eq_true_eq, decide_eq_false_iff_not, Bool.and_eq_true, Bool.or_eq_true, Bool.and_eq_false_iff, Bool.or_eq_false_iff, Bool.not_eq_true', Bool.not_eq_false', beq_iff_eq, beq_eq_false_iff_ne, bne_iff_ne, bne_eq_false_iff_eq, ne_eq, Int.not_lt, Int.not_le, gt_iff_lt, ge_iff_le] at hc5_
    refine CW.exit ?_
    refine Th.x ?_
    refine Th.x ?_
    refine Bl.x ?_
    refine Th.n ?_
    refine CW.seq ?_
    have hm7 := made_le bits
    rw [List.take_of_length_le (by omega)] at hL1 hL2
    have hA : cntOf (madeR bits) L1 = L1.length := by rw [hL1, cnt_part]
    have hB : cntOf (madeR bits) L2 = L2.length := by rw [hL2]; exact cnt_part _ _
    have hsum : L1.length + L2.length = (madeR bits).length := by rw [hL1, hL2]; exact part_sum _ _
    refine Or.elim (Bool.eq_false_or_eq_true (decide (((cntOf (madeR bits) L1 : Nat) : Int) > (((madeR bits).length : Nat) : Int) / 2))) (fun hMA => ?_) (fun hMA => ?_)
    · skip
      refine Or.elim (Bool.eq_false_or_eq_true (((((madeR bits).length : Nat) : Int) % 2) == 0)) (fun hpar => ?_) (fun hpar => ?_)
      · skip
        refine CW.region ?_
        refine RW.soft Wd.a (v := .bool true) (by exact E.move (AF_ev rfl hs5)) ?_
        refine RW.soft Wd.a (v := .bool true) (by exact E.move (AF_ev rfl tp)) ?_
        refine RW.soft (by exact Wd.yes (x := 44) rfl (AF_ev rfl tp)) (v := .slice X1 ((madeR bits).length) c2) (by exact E.move (AF_ev rfl (up rfl (up rfl hs6)))) ?_
        refine RW.soft (by exact Wd.yes (x := 44) rfl (AF_ev rfl (up rfl tp))) (v := .slice X1 ((madeR bits).length) c2) (by exact E.move (AF_ev rfl (up rfl (up rfl (up rfl hs6))))) ?_
        have hst := hst.emp
        have hst := hst.emp
        refine RW.hard (by exact Wd.yes (x := 44) rfl (AF_ev rfl (up rfl (up rfl tp)))) ?_
        refine H.call0 Try.func41 nm41 rfl (map2 (AF_ev rfl (up rfl tp)) (AF_ev rfl tp)) (Calls.mono ((show Calls Try.prog 41 #[.slice X1 ((madeR bits).length) c2, .slice X1 ((madeR bits).length) c2] w (fun e w => e = .returned (.bool true) ∧ St p w (Emp :: Emp :: Own 3 1 (.slice Xa L1.length ca) L1.length (L1.flatMap ienc) :: Own 3 1 (.slice Xb L2.length cb) L2.length (L2.flatMap ienc) :: R)) from (by
          have hq := q_Most (zs := (madeR bits)) (ys := (madeR bits)) hLX1.tells (Nat.le_trans (made_le _) (by decide)) hLX1.tells (Nat.le_trans (made_le _) (by decide)) (made_pos _) hst
          rw [(show (decide (((cntOf (madeR bits) (madeR bits) : Nat) : Int) > (((madeR bits).length : Nat) : Int) / 2)) = true from decide_eq_true (by have h1_ := made_pos bits; rw [cnt_self]; omega))] at hq; exact hq))) ?_)
        rintro _ w ⟨rfl, hst⟩
        have hst := (hst.take (.there .here)).drop
        have hst := hst.drop
        refine ⟨_, rfl, ?_⟩
        show RW _ _ _ _ _ _ _
        refine RW.soft Wd.a (v := .bool true) (by exact E.pickT (AF_ev rfl (up rfl (up rfl (up rfl tp)))) (AF_ev rfl tp)) ?_
        refine RW.soft Wd.a (v := .bool true) (by exact E.move (AF_ev rfl tp)) ?_
        refine RW.soft (by exact Wd.yes (x := 49) rfl (AF_ev rfl tp)) (v := .slice X1 ((madeR bits).length) c2) (by exact E.move (AF_ev rfl (up rfl (up rfl (up rfl (up rfl (up rfl (up rfl (up rfl hs6))))))))) ?_
        have hst := hst.ownNil (e := 3) (sz := 1) none
        have hst := hst.emp
        refine RW.hard (by exact Wd.yes (x := 49) rfl (AF_ev rfl (up rfl tp))) ?_
        refine H.call0 Try.func41 nm41 rfl (map2 (AF_ev rfl tp) rfl) (Calls.mono ((show Calls Try.prog 41 #[.slice X1 ((madeR bits).length) c2, .slice none 0 0] w (fun e w => e = .returned (.bool false) ∧ St p w (Emp :: Own 3 1 (.slice none 0 0) 0 (([]).flatMap ienc) :: Own 3 1 (.slice Xa L1.length ca) L1.length (L1.flatMap ienc) :: Own 3 1 (.slice Xb L2.length cb) L2.length (L2.flatMap ienc) :: R)) from (by
          have hq := q_Most (zs := (madeR bits)) (ys := ([] : List Int)) hLX1.tells (Nat.le_trans (made_le _) (by decide)) (own_TI (by first | rfl | omega | simp)) (by first | omega | decide) (made_pos _) hst
          rw [(show (decide (((cntOf (madeR bits) ([] : List Int) : Nat) : Int) > (((madeR bits).length : Nat) : Int) / 2)) = false from decide_eq_false (by rw [cnt_nil]; omega))] at hq; exact hq))) ?_)
        rintro _ w ⟨rfl, hst⟩
        have hst := hst.drop
        refine ⟨_, rfl, ?_⟩
        show RW _ _ _ _ _ _ _
        refine RW.soft (by exact Wd.yes (x := 49) rfl (AF_ev rfl (up rfl (up rfl tp)))) (v := .bool true) (by exact E.not (b := false) (AF_ev rfl tp)) ?_
        refine RW.soft Wd.a (v := .bool true) (by exact E.pickT (AF_ev rfl (up rfl (up rfl (up rfl tp)))) (AF_ev rfl tp)) ?_
        refine RW.soft Wd.a (v := .bool true) (by exact E.move (AF_ev rfl tp)) ?_
        refine RW.soft (by exact Wd.yes (x := 54) rfl (AF_ev rfl tp)) (v := .slice X1 ((madeR bits).length) c2) (by exact E.move (AF_ev rfl (up rfl (up rfl (up rfl (up rfl (up rfl (up rfl (up rfl (up rfl (up rfl (up rfl (up rfl (up rfl hs6)))))))))))))) ?_
        refine RW.soft (by exact Wd.yes (x := 54) rfl (AF_ev rfl (up rfl tp))) (v := .slice Xa L1.length ca) (by exact E.move (AF_ev rfl (up rfl (up rfl (up rfl (up rfl (up rfl (up rfl (up rfl (up rfl (up rfl (up rfl (up rfl (up rfl (up rfl hs7))))))))))))))) ?_
        have hst := hst.take (.there .here)
        have hst := hst.emp
        refine RW.hard (by exact Wd.yes (x := 54) rfl (AF_ev rfl (up rfl (up rfl tp)))) ?_
        refine H.call0 Try.func41 nm41 rfl (map2 (AF_ev rfl (up rfl tp)) (AF_ev rfl tp)) (Calls.mono ((show Calls Try.prog 41 #[.slice X1 ((madeR bits).length) c2, .slice Xa L1.length ca] w (fun e w => e = .returned (.bool true) ∧ St p w (Emp :: Own 3 1 (.slice Xa L1.length ca) L1.length (L1.flatMap ienc) :: Own 3 1 (.slice none 0 0) 0 (([]).flatMap ienc) :: Own 3 1 (.slice Xb L2.length cb) L2.length (L2.flatMap ienc) :: R)) from (by
          have hq := q_Most (zs := (madeR bits)) (ys := L1) hLX1.tells (Nat.le_trans (made_le _) (by decide)) (own_TI (by first | rfl | omega | simp)) (by omega) (made_pos _) hst
          rw [hMA] at hq; exact hq))) ?_)
        rintro _ w ⟨rfl, hst⟩
        have hst := hst.drop
        refine ⟨_, rfl, ?_⟩
        show RW _ _ _ _ _ _ _
        refine RW.soft (by exact Wd.yes (x := 54) rfl (AF_ev rfl (up rfl (up rfl (up rfl tp))))) (v := .bool true) (by exact E.move (AF_ev rfl tp)) ?_
        refine RW.soft (by exact Wd.yes (x := 58) rfl (AF_ev rfl tp)) (v := .slice X1 ((madeR bits).length) c2) (by exact E.move (AF_ev rfl (up rfl (up rfl (up rfl (up rfl (up rfl (up rfl (up rfl (up rfl (up rfl (up rfl (up rfl (up rfl (up rfl (up rfl (up rfl (up rfl hs6)))))))))))))))))) ?_
        refine RW.soft (by exact Wd.yes (x := 58) rfl (AF_ev rfl (up rfl tp))) (v := .slice Xb L2.length cb) (by exact E.move (AF_ev rfl (up rfl (up rfl (up rfl (up rfl (up rfl (up rfl (up rfl (up rfl (up rfl (up rfl (up rfl (up rfl (up rfl (up rfl (up rfl (up rfl (up rfl hs8))))))))))))))))))) ?_
        have hst := hst.take (.there (.there .here))
        have hst := hst.emp
        refine RW.hard (by exact Wd.yes (x := 58) rfl (AF_ev rfl (up rfl (up rfl tp)))) ?_
        refine H.call0 Try.func41 nm41 rfl (map2 (AF_ev rfl (up rfl tp)) (AF_ev rfl tp)) (Calls.mono ((show Calls Try.prog 41 #[.slice X1 ((madeR bits).length) c2, .slice Xb L2.length cb] w (fun e w => e = .returned (.bool false) ∧ St p w (Emp :: Own 3 1 (.slice Xb L2.length cb) L2.length (L2.flatMap ienc) :: Own 3 1 (.slice Xa L1.length ca) L1.length (L1.flatMap ienc) :: Own 3 1 (.slice none 0 0) 0 (([]).flatMap ienc) :: R)) from (by
          have hq := q_Most (zs := (madeR bits)) (ys := L2) hLX1.tells (Nat.le_trans (made_le _) (by decide)) (own_TI (by first | rfl | omega | simp)) (by omega) (made_pos _) hst
          rw [(show (decide (((cntOf (madeR bits) L2 : Nat) : Int) > (((madeR bits).length : Nat) : Int) / 2)) = false from decide_eq_false (by have h1_ := of_decide_eq_true hMA; omega))] at hq; exact hq))) ?_)
        rintro _ w ⟨rfl, hst⟩
        have hst := hst.drop
        refine ⟨_, rfl, ?_⟩
        show RW _ _ _ _ _ _ _
        refine RW.soft (by exact Wd.yes (x := 54) rfl (AF_ev rfl (up rfl (up rfl (up rfl (up rfl (up rfl (up rfl (up rfl tp))))))))) (v := .bool false) (by exact E.pickT (AF_ev rfl (up rfl (up rfl (up rfl tp)))) (AF_ev rfl tp)) ?_
        refine RW.soft (by exact Wd.yes (x := 54) rfl (AF_ev rfl (up rfl (up rfl (up rfl (up rfl (up rfl (up rfl (up rfl (up rfl tp)))))))))) (v := .bool true) (by exact E.not (b := false) (AF_ev rfl tp)) ?_
        refine RW.soft Wd.a (v := .bool true) (by exact E.pickT (AF_ev rfl (up rfl (up rfl (up rfl (up rfl (up rfl (up rfl (up rfl (up rfl (up rfl tp)))))))))) (AF_ev rfl tp)) ?_
        refine RW.soft Wd.a (v := .bool true) (by exact E.move (AF_ev rfl tp)) ?_
        refine RW.soft (by exact Wd.yes (x := 65) rfl (AF_ev rfl tp)) (v := .slice X1 ((madeR bits).length) c2) (by exact E.move (AF_ev rfl (up rfl (up rfl (up rfl (up rfl (up rfl (up rfl (up rfl (up rfl (up rfl (up rfl (up rfl (up rfl (up rfl (up rfl (up rfl (up rfl (up rfl (up rfl (up rfl (up rfl (up rfl (up rfl (up rfl hs6))))))))))))))))))))))))) ?_
        refine RW.soft (by exact Wd.yes (x := 65) rfl (AF_ev rfl (up rfl tp))) (v := .int .i64 (((madeR bits).length : Nat) : Int)) (by exact E.lenS (p := X1) (l := (madeR bits).length) (c := c2) Try.underlying58 (AF_ev rfl tp)) ?_
        refine RW.soft (by exact Wd.yes (x := 65) rfl (AF_ev rfl (up rfl (up rfl tp)))) (v := .int .i64 ((((madeR bits).length : Nat) : Int) % 2)) (by exact E.rem (k := .i64) (a := (((madeR bits).length : Nat) : Int)) (b := 2) (AF_ev rfl tp) rfl (by omega) (Int.tmod_eq_emod_of_nonneg (by omega))) ?_
        refine RW.soft (by exact Wd.yes (x := 65) rfl (AF_ev rfl (up rfl (up rfl (up rfl tp))))) (v := .bool true) (by exact E.b (a := ((((madeR bits).length : Nat) : Int) % 2) == 0) (E.eql (k := .i64) (a := (((madeR bits).length : Nat) : Int) % 2) (b := 0) (AF_ev rfl tp) rfl) hpar) ?_
        refine RW.soft (by exact Wd.yes (x := 65) rfl (AF_ev rfl (up rfl (up rfl (up rfl (up rfl tp)))))) (v := .bool true) (by exact E.move (AF_ev rfl tp)) ?_
        refine RW.pass (by exact Wd.no (x := 70) (b := true) rfl (AF_ev rfl tp) rfl) ?_
        refine RW.pass (by exact Wd.no (x := 70) (b := true) rfl (AF_ev rfl (up rfl tp)) rfl) ?_
        refine RW.pass (by exact Wd.no (x := 70) (b := true) rfl (AF_ev rfl (up rfl (up rfl tp))) rfl) ?_
        refine RW.soft (by exact Wd.yes (x := 65) rfl (AF_ev rfl (up rfl (up rfl (up rfl (up rfl (up rfl (up rfl (up rfl (up rfl tp)))))))))) (v := .bool true) (by exact E.pickT (AF_ev rfl (up rfl (up rfl (up rfl tp)))) rfl) ?_
        refine RW.soft (by exact Wd.yes (x := 65) rfl (AF_ev rfl (up rfl (up rfl (up rfl (up rfl (up rfl (up rfl (up rfl (up rfl (up rfl tp))))))))))) (v := .bool true) (by exact E.move (AF_ev rfl tp)) ?_
        refine RW.pass (by exact Wd.no (x := 75) (b := true) rfl (AF_ev rfl tp) rfl) ?_
        refine RW.pass (by exact Wd.no (x := 75) (b := true) rfl (AF_ev rfl (up rfl tp)) rfl) ?_
        refine RW.pass (by exact Wd.no (x := 75) (b := true) rfl (AF_ev rfl (up rfl (up rfl tp))) rfl) ?_
        refine RW.soft (by exact Wd.yes (x := 65) rfl (AF_ev rfl (up rfl (up rfl (up rfl (up rfl (up rfl (up rfl (up rfl (up rfl (up rfl (up rfl (up rfl (up rfl (up rfl tp))))))))))))))) (v := .bool true) (by exact E.pickT (AF_ev rfl (up rfl (up rfl (up rfl tp)))) rfl) ?_
        refine RW.soft Wd.a (v := .bool true) (by exact E.pickT (AF_ev rfl (up rfl (up rfl (up rfl (up rfl (up rfl (up rfl (up rfl (up rfl (up rfl (up rfl (up rfl (up rfl (up rfl (up rfl tp))))))))))))))) (AF_ev rfl tp)) ?_
        refine RW.soft Wd.a (v := .bool true) (by exact E.assign (AF_ev rfl tp)) ?_
        refine RW.fin (fun τ => τ 1 = .int .i64 id ∧ τ 4 = .bool true ∧ τ 5 = .bool true ∧ τ 6 = .slice X1 ((madeR bits).length) c2 ∧ τ 7 = .slice Xa L1.length ca ∧ τ 8 = .slice Xb L2.length cb ∧ τ 9 = .int .i64 ((j : Nat) : Int) ∧ τ 18 = .bool false) ⟨up rfl (up rfl (up rfl (up rfl (up rfl (up rfl (up rfl (up rfl (up rfl (up rfl (up rfl (up rfl (up rfl (up rfl (up rfl (up rfl (up rfl (up rfl (up rfl (up rfl (up rfl (up rfl (up rfl (up rfl (up rfl (up rfl (up rfl (up rfl (up rfl (up rfl (up rfl (up rfl (up rfl (up rfl (up rfl (up rfl (up rfl (up rfl (up rfl hs1)))))))))))))))))))))))))))))))))))))), tp, up rfl (up rfl (up rfl (up rfl (up rfl (up rfl (up rfl (up rfl (up rfl (up rfl (up rfl (up rfl (up rfl (up rfl (up rfl (up rfl (up rfl (up rfl (up rfl (up rfl (up rfl (up rfl (up rfl (up rfl (up rfl (up rfl (up rfl (up rfl (up rfl (up rfl (up rfl (up rfl (up rfl (up rfl (up rfl (up rfl (up rfl (up rfl (up rfl hs5)))))))))))))))))))))))))))))))))))))), up rfl (up rfl (up rfl (up rfl (up rfl (up rfl (up rfl (up rfl (up rfl (up rfl (up rfl (up rfl (up rfl (up rfl (up rfl (up rfl (up rfl (up rfl (up rfl (up rfl (up rfl (up rfl (up rfl (up rfl (up rfl (up rfl (up rfl (up rfl (up rfl (up rfl (up rfl (up rfl (up rfl (up rfl (up rfl (up rfl (up rfl (up rfl (up rfl hs6)))))))))))))))))))))))))))))))))))))), up rfl (up rfl (up rfl (up rfl (up rfl (up rfl (up rfl (up rfl (up rfl (up rfl (up rfl (up rfl (up rfl (up rfl (up rfl (up rfl (up rfl (up rfl (up rfl (up rfl (up rfl (up rfl (up rfl (up rfl (up rfl (up rfl (up rfl (up rfl (up rfl (up rfl (up rfl (up rfl (up rfl (up rfl (up rfl (up rfl (up rfl (up rfl (up rfl hs7)))))))))))))))))))))))))))))))))))))), up rfl (up rfl (up rfl (up rfl (up rfl (up rfl (up rfl (up rfl (up rfl (up rfl (up rfl (up rfl (up rfl (up rfl (up rfl (up rfl (up rfl (up rfl (up rfl (up rfl (up rfl (up rfl (up rfl (up rfl (up rfl (up rfl (up rfl (up rfl (up rfl (up rfl (up rfl (up rfl (up rfl (up rfl (up rfl (up rfl (up rfl (up rfl (up rfl hs8)))))))))))))))))))))))))))))))))))))), up rfl (up rfl (up rfl (up rfl (up rfl (up rfl (up rfl (up rfl (up rfl (up rfl (up rfl (up rfl (up rfl (up rfl (up rfl (up rfl (up rfl (up rfl (up rfl (up rfl (up rfl (up rfl (up rfl (up rfl (up rfl (up rfl (up rfl (up rfl (up rfl (up rfl (up rfl (up rfl (up rfl (up rfl (up rfl (up rfl (up rfl (up rfl (up rfl hs9)))))))))))))))))))))))))))))))))))))), up rfl (up rfl (up rfl (up rfl (up rfl (up rfl (up rfl (up rfl (up rfl (up rfl (up rfl (up rfl (up rfl (up rfl (up rfl (up rfl (up rfl (up rfl (up rfl (up rfl (up rfl (up rfl (up rfl (up rfl (up rfl (up rfl (up rfl (up rfl (up rfl (up rfl (up rfl (up rfl (up rfl (up rfl (up rfl (up rfl (up rfl (up rfl (up rfl (Eq.trans hs18 (congrArg Value.bool hc5))))))))))))))))))))))))))))))))))))))))⟩ ?_
        rintro τ ⟨hs1, hs4, hs5, hs6, hs7, hs8, hs9, hs18⟩
        refine CW.ret ?_
        refine ret1 (v := .bool true) rfl (by exact (.tmp (AF_ev rfl hs4) .nil)) ?_
        have hst := (hst.take .here).drop
        have hst := (hst.take .here).drop
        have hst := (hst.take .here).drop
        exact ⟨p, hleX1, rfl, hst⟩
      · skip
        refine CW.region ?_
        refine RW.soft Wd.a (v := .bool true) (by exact E.move (AF_ev rfl hs5)) ?_
        refine RW.soft Wd.a (v := .bool true) (by exact E.move (AF_ev rfl tp)) ?_
        refine RW.soft (by exact Wd.yes (x := 44) rfl (AF_ev rfl tp)) (v := .slice X1 ((madeR bits).length) c2) (by exact E.move (AF_ev rfl (up rfl (up rfl hs6)))) ?_
        refine RW.soft (by exact Wd.yes (x := 44) rfl (AF_ev rfl (up rfl tp))) (v := .slice X1 ((madeR bits).length) c2) (by exact E.move (AF_ev rfl (up rfl (up rfl (up rfl hs6))))) ?_
        have hst := hst.emp
        have hst := hst.emp
        refine RW.hard (by exact Wd.yes (x := 44) rfl (AF_ev rfl (up rfl (up rfl tp)))) ?_
        refine H.call0 Try.func41 nm41 rfl (map2 (AF_ev rfl (up rfl tp)) (AF_ev rfl tp)) (Calls.mono ((show Calls Try.prog 41 #[.slice X1 ((madeR bits).length) c2, .slice X1 ((madeR bits).length) c2] w (fun e w => e = .returned (.bool true) ∧ St p w (Emp :: Emp :: Own 3 1 (.slice Xa L1.length ca) L1.length (L1.flatMap ienc) :: Own 3 1 (.slice Xb L2.length cb) L2.length (L2.flatMap ienc) :: R)) from (by
          have hq := q_Most (zs := (madeR bits)) (ys := (madeR bits)) hLX1.tells (Nat.le_trans (made_le _) (by decide)) hLX1.tells (Nat.le_trans (made_le _) (by decide)) (made_pos _) hst
          rw [(show (decide (((cntOf (madeR bits) (madeR bits) : Nat) : Int) > (((madeR bits).length : Nat) : Int) / 2)) = true from decide_eq_true (by have h1_ := made_pos bits; rw [cnt_self]; omega))] at hq; exact hq))) ?_)
        rintro _ w ⟨rfl, hst⟩
        have hst := (hst.take (.there .here)).drop
        have hst := hst.drop
        refine ⟨_, rfl, ?_⟩
        show RW _ _ _ _ _ _ _
        refine RW.soft Wd.a (v := .bool true) (by exact E.pickT (AF_ev rfl (up rfl (up rfl (up rfl tp)))) (AF_ev rfl tp)) ?_
        refine RW.soft Wd.a (v := .bool true) (by exact E.move (AF_ev rfl tp)) ?_
        refine RW.soft (by exact Wd.yes (x := 49) rfl (AF_ev rfl tp)) (v := .slice X1 ((madeR bits).length) c2) (by exact E.move (AF_ev rfl (up rfl (up rfl (up rfl (up rfl (up rfl (up rfl (up rfl hs6))))))))) ?_
        have hst := hst.ownNil (e := 3) (sz := 1) none
        have hst := hst.emp
        refine RW.hard (by exact Wd.yes (x := 49) rfl (AF_ev rfl (up rfl tp))) ?_
        refine H.call0 Try.func41 nm41 rfl (map2 (AF_ev rfl tp) rfl) (Calls.mono ((show Calls Try.prog 41 #[.slice X1 ((madeR bits).length) c2, .slice none 0 0] w (fun e w => e = .returned (.bool false) ∧ St p w (Emp :: Own 3 1 (.slice none 0 0) 0 (([]).flatMap ienc) :: Own 3 1 (.slice Xa L1.length ca) L1.length (L1.flatMap ienc) :: Own 3 1 (.slice Xb L2.length cb) L2.length (L2.flatMap ienc) :: R)) from (by
          have hq := q_Most (zs := (madeR bits)) (ys := ([] : List Int)) hLX1.tells (Nat.le_trans (made_le _) (by decide)) (own_TI (by first | rfl | omega | simp)) (by first | omega | decide) (made_pos _) hst
          rw [(show (decide (((cntOf (madeR bits) ([] : List Int) : Nat) : Int) > (((madeR bits).length : Nat) : Int) / 2)) = false from decide_eq_false (by rw [cnt_nil]; omega))] at hq; exact hq))) ?_)
        rintro _ w ⟨rfl, hst⟩
        have hst := hst.drop
        refine ⟨_, rfl, ?_⟩
        show RW _ _ _ _ _ _ _
        refine RW.soft (by exact Wd.yes (x := 49) rfl (AF_ev rfl (up rfl (up rfl tp)))) (v := .bool true) (by exact E.not (b := false) (AF_ev rfl tp)) ?_
        refine RW.soft Wd.a (v := .bool true) (by exact E.pickT (AF_ev rfl (up rfl (up rfl (up rfl tp)))) (AF_ev rfl tp)) ?_
        refine RW.soft Wd.a (v := .bool true) (by exact E.move (AF_ev rfl tp)) ?_
        refine RW.soft (by exact Wd.yes (x := 54) rfl (AF_ev rfl tp)) (v := .slice X1 ((madeR bits).length) c2) (by exact E.move (AF_ev rfl (up rfl (up rfl (up rfl (up rfl (up rfl (up rfl (up rfl (up rfl (up rfl (up rfl (up rfl (up rfl hs6)))))))))))))) ?_
        refine RW.soft (by exact Wd.yes (x := 54) rfl (AF_ev rfl (up rfl tp))) (v := .slice Xa L1.length ca) (by exact E.move (AF_ev rfl (up rfl (up rfl (up rfl (up rfl (up rfl (up rfl (up rfl (up rfl (up rfl (up rfl (up rfl (up rfl (up rfl hs7))))))))))))))) ?_
        have hst := hst.take (.there .here)
        have hst := hst.emp
        refine RW.hard (by exact Wd.yes (x := 54) rfl (AF_ev rfl (up rfl (up rfl tp)))) ?_
        refine H.call0 Try.func41 nm41 rfl (map2 (AF_ev rfl (up rfl tp)) (AF_ev rfl tp)) (Calls.mono ((show Calls Try.prog 41 #[.slice X1 ((madeR bits).length) c2, .slice Xa L1.length ca] w (fun e w => e = .returned (.bool true) ∧ St p w (Emp :: Own 3 1 (.slice Xa L1.length ca) L1.length (L1.flatMap ienc) :: Own 3 1 (.slice none 0 0) 0 (([]).flatMap ienc) :: Own 3 1 (.slice Xb L2.length cb) L2.length (L2.flatMap ienc) :: R)) from (by
          have hq := q_Most (zs := (madeR bits)) (ys := L1) hLX1.tells (Nat.le_trans (made_le _) (by decide)) (own_TI (by first | rfl | omega | simp)) (by omega) (made_pos _) hst
          rw [hMA] at hq; exact hq))) ?_)
        rintro _ w ⟨rfl, hst⟩
        have hst := hst.drop
        refine ⟨_, rfl, ?_⟩
        show RW _ _ _ _ _ _ _
        refine RW.soft (by exact Wd.yes (x := 54) rfl (AF_ev rfl (up rfl (up rfl (up rfl tp))))) (v := .bool true) (by exact E.move (AF_ev rfl tp)) ?_
        refine RW.soft (by exact Wd.yes (x := 58) rfl (AF_ev rfl tp)) (v := .slice X1 ((madeR bits).length) c2) (by exact E.move (AF_ev rfl (up rfl (up rfl (up rfl (up rfl (up rfl (up rfl (up rfl (up rfl (up rfl (up rfl (up rfl (up rfl (up rfl (up rfl (up rfl (up rfl hs6)))))))))))))))))) ?_
        refine RW.soft (by exact Wd.yes (x := 58) rfl (AF_ev rfl (up rfl tp))) (v := .slice Xb L2.length cb) (by exact E.move (AF_ev rfl (up rfl (up rfl (up rfl (up rfl (up rfl (up rfl (up rfl (up rfl (up rfl (up rfl (up rfl (up rfl (up rfl (up rfl (up rfl (up rfl (up rfl hs8))))))))))))))))))) ?_
        have hst := hst.take (.there (.there .here))
        have hst := hst.emp
        refine RW.hard (by exact Wd.yes (x := 58) rfl (AF_ev rfl (up rfl (up rfl tp)))) ?_
        refine H.call0 Try.func41 nm41 rfl (map2 (AF_ev rfl (up rfl tp)) (AF_ev rfl tp)) (Calls.mono ((show Calls Try.prog 41 #[.slice X1 ((madeR bits).length) c2, .slice Xb L2.length cb] w (fun e w => e = .returned (.bool false) ∧ St p w (Emp :: Own 3 1 (.slice Xb L2.length cb) L2.length (L2.flatMap ienc) :: Own 3 1 (.slice Xa L1.length ca) L1.length (L1.flatMap ienc) :: Own 3 1 (.slice none 0 0) 0 (([]).flatMap ienc) :: R)) from (by
          have hq := q_Most (zs := (madeR bits)) (ys := L2) hLX1.tells (Nat.le_trans (made_le _) (by decide)) (own_TI (by first | rfl | omega | simp)) (by omega) (made_pos _) hst
          rw [(show (decide (((cntOf (madeR bits) L2 : Nat) : Int) > (((madeR bits).length : Nat) : Int) / 2)) = false from decide_eq_false (by have h1_ := of_decide_eq_true hMA; omega))] at hq; exact hq))) ?_)
        rintro _ w ⟨rfl, hst⟩
        have hst := hst.drop
        refine ⟨_, rfl, ?_⟩
        show RW _ _ _ _ _ _ _
        refine RW.soft (by exact Wd.yes (x := 54) rfl (AF_ev rfl (up rfl (up rfl (up rfl (up rfl (up rfl (up rfl (up rfl tp))))))))) (v := .bool false) (by exact E.pickT (AF_ev rfl (up rfl (up rfl (up rfl tp)))) (AF_ev rfl tp)) ?_
        refine RW.soft (by exact Wd.yes (x := 54) rfl (AF_ev rfl (up rfl (up rfl (up rfl (up rfl (up rfl (up rfl (up rfl (up rfl tp)))))))))) (v := .bool true) (by exact E.not (b := false) (AF_ev rfl tp)) ?_
        refine RW.soft Wd.a (v := .bool true) (by exact E.pickT (AF_ev rfl (up rfl (up rfl (up rfl (up rfl (up rfl (up rfl (up rfl (up rfl (up rfl tp)))))))))) (AF_ev rfl tp)) ?_
        refine RW.soft Wd.a (v := .bool true) (by exact E.move (AF_ev rfl tp)) ?_
        refine RW.soft (by exact Wd.yes (x := 65) rfl (AF_ev rfl tp)) (v := .slice X1 ((madeR bits).length) c2) (by exact E.move (AF_ev rfl (up rfl (up rfl (up rfl (up rfl (up rfl (up rfl (up rfl (up rfl (up rfl (up rfl (up rfl (up rfl (up rfl (up rfl (up rfl (up rfl (up rfl (up rfl (up rfl (up rfl (up rfl (up rfl (up rfl hs6))))))))))))))))))))))))) ?_
        refine RW.soft (by exact Wd.yes (x := 65) rfl (AF_ev rfl (up rfl tp))) (v := .int .i64 (((madeR bits).length : Nat) : Int)) (by exact E.lenS (p := X1) (l := (madeR bits).length) (c := c2) Try.underlying58 (AF_ev rfl tp)) ?_
        refine RW.soft (by exact Wd.yes (x := 65) rfl (AF_ev rfl (up rfl (up rfl tp)))) (v := .int .i64 ((((madeR bits).length : Nat) : Int) % 2)) (by exact E.rem (k := .i64) (a := (((madeR bits).length : Nat) : Int)) (b := 2) (AF_ev rfl tp) rfl (by omega) (Int.tmod_eq_emod_of_nonneg (by omega))) ?_
        refine RW.soft (by exact Wd.yes (x := 65) rfl (AF_ev rfl (up rfl (up rfl (up rfl tp))))) (v := .bool false) (by exact E.b (a := ((((madeR bits).length : Nat) : Int) % 2) == 0) (E.eql (k := .i64) (a := (((madeR bits).length : Nat) : Int) % 2) (b := 0) (AF_ev rfl tp) rfl) hpar) ?_
        refine RW.soft (by exact Wd.yes (x := 65) rfl (AF_ev rfl (up rfl (up rfl (up rfl (up rfl tp)))))) (v := .bool false) (by exact E.move (AF_ev rfl tp)) ?_
        refine RW.soft (by exact Wd.yes (x := 70) rfl (AF_ev rfl tp)) (v := .slice X1 ((madeR bits).length) c2) (by exact E.move (AF_ev rfl (up rfl (up rfl (up rfl (up rfl (up rfl (up rfl (up rfl (up rfl (up rfl (up rfl (up rfl (up rfl (up rfl (up rfl (up rfl (up rfl (up rfl (up rfl (up rfl (up rfl (up rfl (up rfl (up rfl (up rfl (up rfl (up rfl (up rfl (up rfl hs6)))))))))))))))))))))))))))))) ?_
        refine RW.soft (by exact Wd.yes (x := 70) rfl (AF_ev rfl (up rfl tp))) (v := .slice Xa L1.length ca) (by exact E.move (AF_ev rfl (up rfl (up rfl (up rfl (up rfl (up rfl (up rfl (up rfl (up rfl (up rfl (up rfl (up rfl (up rfl (up rfl (up rfl (up rfl (up rfl (up rfl (up rfl (up rfl (up rfl (up rfl (up rfl (up rfl (up rfl (up rfl (up rfl (up rfl (up rfl (up rfl hs7))))))))))))))))))))))))))))))) ?_
        have hst := hst.take (.there .here)
        have hst := hst.emp
        refine RW.hard (by exact Wd.yes (x := 70) rfl (AF_ev rfl (up rfl (up rfl tp)))) ?_
        refine H.call0 Try.func41 nm41 rfl (map2 (AF_ev rfl (up rfl tp)) (AF_ev rfl tp)) (Calls.mono ((show Calls Try.prog 41 #[.slice X1 ((madeR bits).length) c2, .slice Xa L1.length ca] w (fun e w => e = .returned (.bool true) ∧ St p w (Emp :: Own 3 1 (.slice Xa L1.length ca) L1.length (L1.flatMap ienc) :: Own 3 1 (.slice Xb L2.length cb) L2.length (L2.flatMap ienc) :: Own 3 1 (.slice none 0 0) 0 (([]).flatMap ienc) :: R)) from (by
          have hq := q_Most (zs := (madeR bits)) (ys := L1) hLX1.tells (Nat.le_trans (made_le _) (by decide)) (own_TI (by first | rfl | omega | simp)) (by omega) (made_pos _) hst
          rw [hMA] at hq; exact hq))) ?_)
        rintro _ w ⟨rfl, hst⟩
        have hst := hst.drop
        refine ⟨_, rfl, ?_⟩
        show RW _ _ _ _ _ _ _
        refine RW.soft (by exact Wd.yes (x := 65) rfl (AF_ev rfl (up rfl (up rfl (up rfl (up rfl (up rfl (up rfl (up rfl (up rfl tp)))))))))) (v := .bool true) (by exact E.pickF (AF_ev rfl (up rfl (up rfl (up rfl tp)))) (AF_ev rfl tp)) ?_
        refine RW.soft (by exact Wd.yes (x := 65) rfl (AF_ev rfl (up rfl (up rfl (up rfl (up rfl (up rfl (up rfl (up rfl (up rfl (up rfl tp))))))))))) (v := .bool true) (by exact E.move (AF_ev rfl tp)) ?_
        refine RW.pass (by exact Wd.no (x := 75) (b := true) rfl (AF_ev rfl tp) rfl) ?_
        refine RW.pass (by exact Wd.no (x := 75) (b := true) rfl (AF_ev rfl (up rfl tp)) rfl) ?_
        refine RW.pass (by exact Wd.no (x := 75) (b := true) rfl (AF_ev rfl (up rfl (up rfl tp))) rfl) ?_
        refine RW.soft (by exact Wd.yes (x := 65) rfl (AF_ev rfl (up rfl (up rfl (up rfl (up rfl (up rfl (up rfl (up rfl (up rfl (up rfl (up rfl (up rfl (up rfl (up rfl tp))))))))))))))) (v := .bool true) (by exact E.pickT (AF_ev rfl (up rfl (up rfl (up rfl tp)))) rfl) ?_
        refine RW.soft Wd.a (v := .bool true) (by exact E.pickT (AF_ev rfl (up rfl (up rfl (up rfl (up rfl (up rfl (up rfl (up rfl (up rfl (up rfl (up rfl (up rfl (up rfl (up rfl (up rfl tp))))))))))))))) (AF_ev rfl tp)) ?_
        refine RW.soft Wd.a (v := .bool true) (by exact E.assign (AF_ev rfl tp)) ?_
        refine RW.fin (fun τ => τ 1 = .int .i64 id ∧ τ 4 = .bool true ∧ τ 5 = .bool true ∧ τ 6 = .slice X1 ((madeR bits).length) c2 ∧ τ 7 = .slice Xa L1.length ca ∧ τ 8 = .slice Xb L2.length cb ∧ τ 9 = .int .i64 ((j : Nat) : Int) ∧ τ 18 = .bool false) ⟨up rfl (up rfl (up rfl (up rfl (up rfl (up rfl (up rfl (up rfl (up rfl (up rfl (up rfl (up rfl (up rfl (up rfl (up rfl (up rfl (up rfl (up rfl (up rfl (up rfl (up rfl (up rfl (up rfl (up rfl (up rfl (up rfl (up rfl (up rfl (up rfl (up rfl (up rfl (up rfl (up rfl (up rfl (up rfl (up rfl (up rfl (up rfl (up rfl hs1)))))))))))))))))))))))))))))))))))))), tp, up rfl (up rfl (up rfl (up rfl (up rfl (up rfl (up rfl (up rfl (up rfl (up rfl (up rfl (up rfl (up rfl (up rfl (up rfl (up rfl (up rfl (up rfl (up rfl (up rfl (up rfl (up rfl (up rfl (up rfl (up rfl (up rfl (up rfl (up rfl (up rfl (up rfl (up rfl (up rfl (up rfl (up rfl (up rfl (up rfl (up rfl (up rfl (up rfl hs5)))))))))))))))))))))))))))))))))))))), up rfl (up rfl (up rfl (up rfl (up rfl (up rfl (up rfl (up rfl (up rfl (up rfl (up rfl (up rfl (up rfl (up rfl (up rfl (up rfl (up rfl (up rfl (up rfl (up rfl (up rfl (up rfl (up rfl (up rfl (up rfl (up rfl (up rfl (up rfl (up rfl (up rfl (up rfl (up rfl (up rfl (up rfl (up rfl (up rfl (up rfl (up rfl (up rfl hs6)))))))))))))))))))))))))))))))))))))), up rfl (up rfl (up rfl (up rfl (up rfl (up rfl (up rfl (up rfl (up rfl (up rfl (up rfl (up rfl (up rfl (up rfl (up rfl (up rfl (up rfl (up rfl (up rfl (up rfl (up rfl (up rfl (up rfl (up rfl (up rfl (up rfl (up rfl (up rfl (up rfl (up rfl (up rfl (up rfl (up rfl (up rfl (up rfl (up rfl (up rfl (up rfl (up rfl hs7)))))))))))))))))))))))))))))))))))))), up rfl (up rfl (up rfl (up rfl (up rfl (up rfl (up rfl (up rfl (up rfl (up rfl (up rfl (up rfl (up rfl (up rfl (up rfl (up rfl (up rfl (up rfl (up rfl (up rfl (up rfl (up rfl (up rfl (up rfl (up rfl (up rfl (up rfl (up rfl (up rfl (up rfl (up rfl (up rfl (up rfl (up rfl (up rfl (up rfl (up rfl (up rfl (up rfl hs8)))))))))))))))))))))))))))))))))))))), up rfl (up rfl (up rfl (up rfl (up rfl (up rfl (up rfl (up rfl (up rfl (up rfl (up rfl (up rfl (up rfl (up rfl (up rfl (up rfl (up rfl (up rfl (up rfl (up rfl (up rfl (up rfl (up rfl (up rfl (up rfl (up rfl (up rfl (up rfl (up rfl (up rfl (up rfl (up rfl (up rfl (up rfl (up rfl (up rfl (up rfl (up rfl (up rfl hs9)))))))))))))))))))))))))))))))))))))), up rfl (up rfl (up rfl (up rfl (up rfl (up rfl (up rfl (up rfl (up rfl (up rfl (up rfl (up rfl (up rfl (up rfl (up rfl (up rfl (up rfl (up rfl (up rfl (up rfl (up rfl (up rfl (up rfl (up rfl (up rfl (up rfl (up rfl (up rfl (up rfl (up rfl (up rfl (up rfl (up rfl (up rfl (up rfl (up rfl (up rfl (up rfl (up rfl (Eq.trans hs18 (congrArg Value.bool hc5))))))))))))))))))))))))))))))))))))))))⟩ ?_
        rintro τ ⟨hs1, hs4, hs5, hs6, hs7, hs8, hs9, hs18⟩
        refine CW.ret ?_
        refine ret1 (v := .bool true) rfl (by exact (.tmp (AF_ev rfl hs4) .nil)) ?_
        have hst := (hst.take .here).drop
        have hst := (hst.take .here).drop
        have hst := (hst.take .here).drop
        exact ⟨p, hleX1, rfl, hst⟩
    · skip
      refine Or.elim (Bool.eq_false_or_eq_true (((((madeR bits).length : Nat) : Int) % 2) == 0)) (fun hpar => ?_) (fun hpar => ?_)
      · skip
        refine CW.region ?_
        refine RW.soft Wd.a (v := .bool true) (by exact E.move (AF_ev rfl hs5)) ?_
        refine RW.soft Wd.a (v := .bool true) (by exact E.move (AF_ev rfl tp)) ?_
        refine RW.soft (by exact Wd.yes (x := 44) rfl (AF_ev rfl tp)) (v := .slice X1 ((madeR bits).length) c2) (by exact E.move (AF_ev rfl (up rfl (up rfl hs6)))) ?_
        refine RW.soft (by exact Wd.yes (x := 44) rfl (AF_ev rfl (up rfl tp))) (v := .slice X1 ((madeR bits).length) c2) (by exact E.move (AF_ev rfl (up rfl (up rfl (up rfl hs6))))) ?_
        have hst := hst.emp
        have hst := hst.emp
        refine RW.hard (by exact Wd.yes (x := 44) rfl (AF_ev rfl (up rfl (up rfl tp)))) ?_
        refine H.call0 Try.func41 nm41 rfl (map2 (AF_ev rfl (up rfl tp)) (AF_ev rfl tp)) (Calls.mono ((show Calls Try.prog 41 #[.slice X1 ((madeR bits).length) c2, .slice X1 ((madeR bits).length) c2] w (fun e w => e = .returned (.bool true) ∧ St p w (Emp :: Emp :: Own 3 1 (.slice Xa L1.length ca) L1.length (L1.flatMap ienc) :: Own 3 1 (.slice Xb L2.length cb) L2.length (L2.flatMap ienc) :: R)) from (by
          have hq := q_Most (zs := (madeR bits)) (ys := (madeR bits)) hLX1.tells (Nat.le_trans (made_le _) (by decide)) hLX1.tells (Nat.le_trans (made_le _) (by decide)) (made_pos _) hst
          rw [(show (decide (((cntOf (madeR bits) (madeR bits) : Nat) : Int) > (((madeR bits).length : Nat) : Int) / 2)) = true from decide_eq_true (by have h1_ := made_pos bits; rw [cnt_self]; omega))] at hq; exact hq))) ?_)
        rintro _ w ⟨rfl, hst⟩
        have hst := (hst.take (.there .here)).drop
        have hst := hst.drop
        refine ⟨_, rfl, ?_⟩
        show RW _ _ _ _ _ _ _
        refine RW.soft Wd.a (v := .bool true) (by exact E.pickT (AF_ev rfl (up rfl (up rfl (up rfl tp)))) (AF_ev rfl tp)) ?_
        refine RW.soft Wd.a (v := .bool true) (by exact E.move (AF_ev rfl tp)) ?_
        refine RW.soft (by exact Wd.yes (x := 49) rfl (AF_ev rfl tp)) (v := .slice X1 ((madeR bits).length) c2) (by exact E.move (AF_ev rfl (up rfl (up rfl (up rfl (up rfl (up rfl (up rfl (up rfl hs6))))))))) ?_
        have hst := hst.ownNil (e := 3) (sz := 1) none
        have hst := hst.emp
        refine RW.hard (by exact Wd.yes (x := 49) rfl (AF_ev rfl (up rfl tp))) ?_
        refine H.call0 Try.func41 nm41 rfl (map2 (AF_ev rfl tp) rfl) (Calls.mono ((show Calls Try.prog 41 #[.slice X1 ((madeR bits).length) c2, .slice none 0 0] w (fun e w => e = .returned (.bool false) ∧ St p w (Emp :: Own 3 1 (.slice none 0 0) 0 (([]).flatMap ienc) :: Own 3 1 (.slice Xa L1.length ca) L1.length (L1.flatMap ienc) :: Own 3 1 (.slice Xb L2.length cb) L2.length (L2.flatMap ienc) :: R)) from (by
          have hq := q_Most (zs := (madeR bits)) (ys := ([] : List Int)) hLX1.tells (Nat.le_trans (made_le _) (by decide)) (own_TI (by first | rfl | omega | simp)) (by first | omega | decide) (made_pos _) hst
          rw [(show (decide (((cntOf (madeR bits) ([] : List Int) : Nat) : Int) > (((madeR bits).length : Nat) : Int) / 2)) = false from decide_eq_false (by rw [cnt_nil]; omega))] at hq; exact hq))) ?_)
        rintro _ w ⟨rfl, hst⟩
        have hst := hst.drop
        refine ⟨_, rfl, ?_⟩
        show RW _ _ _ _ _ _ _
        refine RW.soft (by exact Wd.yes (x := 49) rfl (AF_ev rfl (up rfl (up rfl tp)))) (v := .bool true) (by exact E.not (b := false) (AF_ev rfl tp)) ?_
        refine RW.soft Wd.a (v := .bool true) (by exact E.pickT (AF_ev rfl (up rfl (up rfl (up rfl tp)))) (AF_ev rfl tp)) ?_
        refine RW.soft Wd.a (v := .bool true) (by exact E.move (AF_ev rfl tp)) ?_
        refine RW.soft (by exact Wd.yes (x := 54) rfl (AF_ev rfl tp)) (v := .slice X1 ((madeR bits).length) c2) (by exact E.move (AF_ev rfl (up rfl (up rfl (up rfl (up rfl (up rfl (up rfl (up rfl (up rfl (up rfl (up rfl (up rfl (up rfl hs6)))))))))))))) ?_
        refine RW.soft (by exact Wd.yes (x := 54) rfl (AF_ev rfl (up rfl tp))) (v := .slice Xa L1.length ca) (by exact E.move (AF_ev rfl (up rfl (up rfl (up rfl (up rfl (up rfl (up rfl (up rfl (up rfl (up rfl (up rfl (up rfl (up rfl (up rfl hs7))))))))))))))) ?_
        have hst := hst.take (.there .here)
        have hst := hst.emp
        refine RW.hard (by exact Wd.yes (x := 54) rfl (AF_ev rfl (up rfl (up rfl tp)))) ?_
        refine H.call0 Try.func41 nm41 rfl (map2 (AF_ev rfl (up rfl tp)) (AF_ev rfl tp)) (Calls.mono ((show Calls Try.prog 41 #[.slice X1 ((madeR bits).length) c2, .slice Xa L1.length ca] w (fun e w => e = .returned (.bool false) ∧ St p w (Emp :: Own 3 1 (.slice Xa L1.length ca) L1.length (L1.flatMap ienc) :: Own 3 1 (.slice none 0 0) 0 (([]).flatMap ienc) :: Own 3 1 (.slice Xb L2.length cb) L2.length (L2.flatMap ienc) :: R)) from (by
          have hq := q_Most (zs := (madeR bits)) (ys := L1) hLX1.tells (Nat.le_trans (made_le _) (by decide)) (own_TI (by first | rfl | omega | simp)) (by omega) (made_pos _) hst
          rw [hMA] at hq; exact hq))) ?_)
        rintro _ w ⟨rfl, hst⟩
        have hst := hst.drop
        refine ⟨_, rfl, ?_⟩
        show RW _ _ _ _ _ _ _
        refine RW.soft (by exact Wd.yes (x := 54) rfl (AF_ev rfl (up rfl (up rfl (up rfl tp))))) (v := .bool false) (by exact E.move (AF_ev rfl tp)) ?_
        refine RW.pass (by exact Wd.no (x := 58) (b := false) rfl (AF_ev rfl tp) rfl) ?_
        refine RW.pass (by exact Wd.no (x := 58) (b := false) rfl (AF_ev rfl (up rfl tp)) rfl) ?_
        refine RW.pass (by exact Wd.no (x := 58) (b := false) rfl (AF_ev rfl (up rfl (up rfl tp))) rfl) ?_
        refine RW.soft (by exact Wd.yes (x := 54) rfl (AF_ev rfl (up rfl (up rfl (up rfl (up rfl (up rfl (up rfl (up rfl tp))))))))) (v := .bool false) (by exact E.pickF (AF_ev rfl (up rfl (up rfl (up rfl tp)))) rfl) ?_
        refine RW.soft (by exact Wd.yes (x := 54) rfl (AF_ev rfl (up rfl (up rfl (up rfl (up rfl (up rfl (up rfl (up rfl (up rfl tp)))))))))) (v := .bool true) (by exact E.not (b := false) (AF_ev rfl tp)) ?_
        refine RW.soft Wd.a (v := .bool true) (by exact E.pickT (AF_ev rfl (up rfl (up rfl (up rfl (up rfl (up rfl (up rfl (up rfl (up rfl (up rfl tp)))))))))) (AF_ev rfl tp)) ?_
        refine RW.soft Wd.a (v := .bool true) (by exact E.move (AF_ev rfl tp)) ?_
        refine RW.soft (by exact Wd.yes (x := 65) rfl (AF_ev rfl tp)) (v := .slice X1 ((madeR bits).length) c2) (by exact E.move (AF_ev rfl (up rfl (up rfl (up rfl (up rfl (up rfl (up rfl (up rfl (up rfl (up rfl (up rfl (up rfl (up rfl (up rfl (up rfl (up rfl (up rfl (up rfl (up rfl (up rfl (up rfl (up rfl (up rfl (up rfl hs6))))))))))))))))))))))))) ?_
        refine RW.soft (by exact Wd.yes (x := 65) rfl (AF_ev rfl (up rfl tp))) (v := .int .i64 (((madeR bits).length : Nat) : Int)) (by exact E.lenS (p := X1) (l := (madeR bits).length) (c := c2) Try.underlying58 (AF_ev rfl tp)) ?_
        refine RW.soft (by exact Wd.yes (x := 65) rfl (AF_ev rfl (up rfl (up rfl tp)))) (v := .int .i64 ((((madeR bits).length : Nat) : Int) % 2)) (by exact E.rem (k := .i64) (a := (((madeR bits).length : Nat) : Int)) (b := 2) (AF_ev rfl tp) rfl (by omega) (Int.tmod_eq_emod_of_nonneg (by omega))) ?_
        refine RW.soft (by exact Wd.yes (x := 65) rfl (AF_ev rfl (up rfl (up rfl (up rfl tp))))) (v := .bool true) (by exact E.b (a := ((((madeR bits).length : Nat) : Int) % 2) == 0) (E.eql (k := .i64) (a := (((madeR bits).length : Nat) : Int) % 2) (b := 0) (AF_ev rfl tp) rfl) hpar) ?_
        refine RW.soft (by exact Wd.yes (x := 65) rfl (AF_ev rfl (up rfl (up rfl (up rfl (up rfl tp)))))) (v := .bool true) (by exact E.move (AF_ev rfl tp)) ?_
        refine RW.pass (by exact Wd.no (x := 70) (b := true) rfl (AF_ev rfl tp) rfl) ?_
        refine RW.pass (by exact Wd.no (x := 70) (b := true) rfl (AF_ev rfl (up rfl tp)) rfl) ?_
        refine RW.pass (by exact Wd.no (x := 70) (b := true) rfl (AF_ev rfl (up rfl (up rfl tp))) rfl) ?_
        refine RW.soft (by exact Wd.yes (x := 65) rfl (AF_ev rfl (up rfl (up rfl (up rfl (up rfl (up rfl (up rfl (up rfl (up rfl tp)))))))))) (v := .bool true) (by exact E.pickT (AF_ev rfl (up rfl (up rfl (up rfl tp)))) rfl) ?_
        refine RW.soft (by exact Wd.yes (x := 65) rfl (AF_ev rfl (up rfl (up rfl (up rfl (up rfl (up rfl (up rfl (up rfl (up rfl (up rfl tp))))))))))) (v := .bool true) (by exact E.move (AF_ev rfl tp)) ?_
        refine RW.pass (by exact Wd.no (x := 75) (b := true) rfl (AF_ev rfl tp) rfl) ?_
        refine RW.pass (by exact Wd.no (x := 75) (b := true) rfl (AF_ev rfl (up rfl tp)) rfl) ?_
        refine RW.pass (by exact Wd.no (x := 75) (b := true) rfl (AF_ev rfl (up rfl (up rfl tp))) rfl) ?_
        refine RW.soft (by exact Wd.yes (x := 65) rfl (AF_ev rfl (up rfl (up rfl (up rfl (up rfl (up rfl (up rfl (up rfl (up rfl (up rfl (up rfl (up rfl (up rfl (up rfl tp))))))))))))))) (v := .bool true) (by exact E.pickT (AF_ev rfl (up rfl (up rfl (up rfl tp)))) rfl) ?_
        refine RW.soft Wd.a (v := .bool true) (by exact E.pickT (AF_ev rfl (up rfl (up rfl (up rfl (up rfl (up rfl (up rfl (up rfl (up rfl (up rfl (up rfl (up rfl (up rfl (up rfl (up rfl tp))))))))))))))) (AF_ev rfl tp)) ?_
        refine RW.soft Wd.a (v := .bool true) (by exact E.assign (AF_ev rfl tp)) ?_
        refine RW.fin (fun τ => τ 1 = .int .i64 id ∧ τ 4 = .bool true ∧ τ 5 = .bool true ∧ τ 6 = .slice X1 ((madeR bits).length) c2 ∧ τ 7 = .slice Xa L1.length ca ∧ τ 8 = .slice Xb L2.length cb ∧ τ 9 = .int .i64 ((j : Nat) : Int) ∧ τ 18 = .bool false) ⟨up rfl (up rfl (up rfl (up rfl (up rfl (up rfl (up rfl (up rfl (up rfl (up rfl (up rfl (up rfl (up rfl (up rfl (up rfl (up rfl (up rfl (up rfl (up rfl (up rfl (up rfl (up rfl (up rfl (up rfl (up rfl (up rfl (up rfl (up rfl (up rfl (up rfl (up rfl (up rfl (up rfl (up rfl (up rfl (up rfl (up rfl (up rfl (up rfl hs1)))))))))))))))))))))))))))))))))))))), tp, up rfl (up rfl (up rfl (up rfl (up rfl (up rfl (up rfl (up rfl (up rfl (up rfl (up rfl (up rfl (up rfl (up rfl (up rfl (up rfl (up rfl (up rfl (up rfl (up rfl (up rfl (up rfl (up rfl (up rfl (up rfl (up rfl (up rfl (up rfl (up rfl (up rfl (up rfl (up rfl (up rfl (up rfl (up rfl (up rfl (up rfl (up rfl (up rfl hs5)))))))))))))))))))))))))))))))))))))), up rfl (up rfl (up rfl (up rfl (up rfl (up rfl (up rfl (up rfl (up rfl (up rfl (up rfl (up rfl (up rfl (up rfl (up rfl (up rfl (up rfl (up rfl (up rfl (up rfl (up rfl (up rfl (up rfl (up rfl (up rfl (up rfl (up rfl (up rfl (up rfl (up rfl (up rfl (up rfl (up rfl (up rfl (up rfl (up rfl (up rfl (up rfl (up rfl hs6)))))))))))))))))))))))))))))))))))))), up rfl (up rfl (up rfl (up rfl (up rfl (up rfl (up rfl (up rfl (up rfl (up rfl (up rfl (up rfl (up rfl (up rfl (up rfl (up rfl (up rfl (up rfl (up rfl (up rfl (up rfl (up rfl (up rfl (up rfl (up rfl (up rfl (up rfl (up rfl (up rfl (up rfl (up rfl (up rfl (up rfl (up rfl (up rfl (up rfl (up rfl (up rfl (up rfl hs7)))))))))))))))))))))))))))))))))))))), up rfl (up rfl (up rfl (up rfl (up rfl (up rfl (up rfl (up rfl (up rfl (up rfl (up rfl (up rfl (up rfl (up rfl (up rfl (up rfl (up rfl (up rfl (up rfl (up rfl (up rfl (up rfl (up rfl (up rfl (up rfl (up rfl (up rfl (up rfl (up rfl (up rfl (up rfl (up rfl (up rfl (up rfl (up rfl (up rfl (up rfl (up rfl (up rfl hs8)))))))))))))))))))))))))))))))))))))), up rfl (up rfl (up rfl (up rfl (up rfl (up rfl (up rfl (up rfl (up rfl (up rfl (up rfl (up rfl (up rfl (up rfl (up rfl (up rfl (up rfl (up rfl (up rfl (up rfl (up rfl (up rfl (up rfl (up rfl (up rfl (up rfl (up rfl (up rfl (up rfl (up rfl (up rfl (up rfl (up rfl (up rfl (up rfl (up rfl (up rfl (up rfl (up rfl hs9)))))))))))))))))))))))))))))))))))))), up rfl (up rfl (up rfl (up rfl (up rfl (up rfl (up rfl (up rfl (up rfl (up rfl (up rfl (up rfl (up rfl (up rfl (up rfl (up rfl (up rfl (up rfl (up rfl (up rfl (up rfl (up rfl (up rfl (up rfl (up rfl (up rfl (up rfl (up rfl (up rfl (up rfl (up rfl (up rfl (up rfl (up rfl (up rfl (up rfl (up rfl (up rfl (up rfl (Eq.trans hs18 (congrArg Value.bool hc5))))))))))))))))))))))))))))))))))))))))⟩ ?_
        rintro τ ⟨hs1, hs4, hs5, hs6, hs7, hs8, hs9, hs18⟩
        refine CW.ret ?_
        refine ret1 (v := .bool true) rfl (by exact (.tmp (AF_ev rfl hs4) .nil)) ?_
        have hst := (hst.take .here).drop
        have hst := (hst.take .here).drop
        have hst := (hst.take .here).drop
        exact ⟨p, hleX1, rfl, hst⟩
      · skip
        refine CW.region ?_
        refine RW.soft Wd.a (v := .bool true) (by exact E.move (AF_ev rfl hs5)) ?_
        refine RW.soft Wd.a (v := .bool true) (by exact E.move (AF_ev rfl tp)) ?_
        refine RW.soft (by exact Wd.yes (x := 44) rfl (AF_ev rfl tp)) (v := .slice X1 ((madeR bits).length) c2) (by exact E.move (AF_ev rfl (up rfl (up rfl hs6)))) ?_
        refine RW.soft (by exact Wd.yes (x := 44) rfl (AF_ev rfl (up rfl tp))) (v := .slice X1 ((madeR bits).length) c2) (by exact E.move (AF_ev rfl (up rfl (up rfl (up rfl hs6))))) ?_
        have hst := hst.emp
        have hst := hst.emp
        refine RW.hard (by exact Wd.yes (x := 44) rfl (AF_ev rfl (up rfl (up rfl tp)))) ?_
        refine H.call0 Try.func41 nm41 rfl (map2 (AF_ev rfl (up rfl tp)) (AF_ev rfl tp)) (Calls.mono ((show Calls Try.prog 41 #[.slice X1 ((madeR bits).length) c2, .slice X1 ((madeR bits).length) c2] w (fun e w => e = .returned (.bool true) ∧ St p w (Emp :: Emp :: Own 3 1 (.slice Xa L1.length ca) L1.length (L1.flatMap ienc) :: Own 3 1 (.slice Xb L2.length cb) L2.length (L2.flatMap ienc) :: R)) from (by
          have hq := q_Most (zs := (madeR bits)) (ys := (madeR bits)) hLX1.tells (Nat.le_trans (made_le _) (by decide)) hLX1.tells (Nat.le_trans (made_le _) (by decide)) (made_pos _) hst
          rw [(show (decide (((cntOf (madeR bits) (madeR bits) : Nat) : Int) > (((madeR bits).length : Nat) : Int) / 2)) = true from decide_eq_true (by have h1_ := made_pos bits; rw [cnt_self]; omega))] at hq; exact hq))) ?_)
        rintro _ w ⟨rfl, hst⟩
        have hst := (hst.take (.there .here)).drop
        have hst := hst.drop
        refine ⟨_, rfl, ?_⟩
        show RW _ _ _ _ _ _ _
        refine RW.soft Wd.a (v := .bool true) (by exact E.pickT (AF_ev rfl (up rfl (up rfl (up rfl tp)))) (AF_ev rfl tp)) ?_
        refine RW.soft Wd.a (v := .bool true) (by exact E.move (AF_ev rfl tp)) ?_
        refine RW.soft (by exact Wd.yes (x := 49) rfl (AF_ev rfl tp)) (v := .slice X1 ((madeR bits).length) c2) (by exact E.move (AF_ev rfl (up rfl (up rfl (up rfl (up rfl (up rfl (up rfl (up rfl hs6))))))))) ?_
        have hst := hst.ownNil (e := 3) (sz := 1) none
        have hst := hst.emp
        refine RW.hard (by exact Wd.yes (x := 49) rfl (AF_ev rfl (up rfl tp))) ?_
        refine H.call0 Try.func41 nm41 rfl (map2 (AF_ev rfl tp) rfl) (Calls.mono ((show Calls Try.prog 41 #[.slice X1 ((madeR bits).length) c2, .slice none 0 0] w (fun e w => e = .returned (.bool false) ∧ St p w (Emp :: Own 3 1 (.slice none 0 0) 0 (([]).flatMap ienc) :: Own 3 1 (.slice Xa L1.length ca) L1.length (L1.flatMap ienc) :: Own 3 1 (.slice Xb L2.length cb) L2.length (L2.flatMap ienc) :: R)) from (by
          have hq := q_Most (zs := (madeR bits)) (ys := ([] : List Int)) hLX1.tells (Nat.le_trans (made_le _) (by decide)) (own_TI (by first | rfl | omega | simp)) (by first | omega | decide) (made_pos _) hst
          rw [(show (decide (((cntOf (madeR bits) ([] : List Int) : Nat) : Int) > (((madeR bits).length : Nat) : Int) / 2)) = false from decide_eq_false (by rw [cnt_nil]; omega))] at hq; exact hq))) ?_)
        rintro _ w ⟨rfl, hst⟩
        have hst := hst.drop
        refine ⟨_, rfl, ?_⟩
        show RW _ _ _ _ _ _ _
        refine RW.soft (by exact Wd.yes (x := 49) rfl (AF_ev rfl (up rfl (up rfl tp)))) (v := .bool true) (by exact E.not (b := false) (AF_ev rfl tp)) ?_
        refine RW.soft Wd.a (v := .bool true) (by exact E.pickT (AF_ev rfl (up rfl (up rfl (up rfl tp)))) (AF_ev rfl tp)) ?_
        refine RW.soft Wd.a (v := .bool true) (by exact E.move (AF_ev rfl tp)) ?_
        refine RW.soft (by exact Wd.yes (x := 54) rfl (AF_ev rfl tp)) (v := .slice X1 ((madeR bits).length) c2) (by exact E.move (AF_ev rfl (up rfl (up rfl (up rfl (up rfl (up rfl (up rfl (up rfl (up rfl (up rfl (up rfl (up rfl (up rfl hs6)))))))))))))) ?_
        refine RW.soft (by exact Wd.yes (x := 54) rfl (AF_ev rfl (up rfl tp))) (v := .slice Xa L1.length ca) (by exact E.move (AF_ev rfl (up rfl (up rfl (up rfl (up rfl (up rfl (up rfl (up rfl (up rfl (up rfl (up rfl (up rfl (up rfl (up rfl hs7))))))))))))))) ?_
        have hst := hst.take (.there .here)
        have hst := hst.emp
        refine RW.hard (by exact Wd.yes (x := 54) rfl (AF_ev rfl (up rfl (up rfl tp)))) ?_
        refine H.call0 Try.func41 nm41 rfl (map2 (AF_ev rfl (up rfl tp)) (AF_ev rfl tp)) (Calls.mono ((show Calls Try.prog 41 #[.slice X1 ((madeR bits).length) c2, .slice Xa L1.length ca] w (fun e w => e = .returned (.bool false) ∧ St p w (Emp :: Own 3 1 (.slice Xa L1.length ca) L1.length (L1.flatMap ienc) :: Own 3 1 (.slice none 0 0) 0 (([]).flatMap ienc) :: Own 3 1 (.slice Xb L2.length cb) L2.length (L2.flatMap ienc) :: R)) from (by
          have hq := q_Most (zs := (madeR bits)) (ys := L1) hLX1.tells (Nat.le_trans (made_le _) (by decide)) (own_TI (by first | rfl | omega | simp)) (by omega) (made_pos _) hst
          rw [hMA] at hq; exact hq))) ?_)
        rintro _ w ⟨rfl, hst⟩
        have hst := hst.drop
        refine ⟨_, rfl, ?_⟩
        show RW _ _ _ _ _ _ _
        refine RW.soft (by exact Wd.yes (x := 54) rfl (AF_ev rfl (up rfl (up rfl (up rfl tp))))) (v := .bool false) (by exact E.move (AF_ev rfl tp)) ?_
        refine RW.pass (by exact Wd.no (x := 58) (b := false) rfl (AF_ev rfl tp) rfl) ?_
        refine RW.pass (by exact Wd.no (x := 58) (b := false) rfl (AF_ev rfl (up rfl tp)) rfl) ?_
        refine RW.pass (by exact Wd.no (x := 58) (b := false) rfl (AF_ev rfl (up rfl (up rfl tp))) rfl) ?_
        refine RW.soft (by exact Wd.yes (x := 54) rfl (AF_ev rfl (up rfl (up rfl (up rfl (up rfl (up rfl (up rfl (up rfl tp))))))))) (v := .bool false) (by exact E.pickF (AF_ev rfl (up rfl (up rfl (up rfl tp)))) rfl) ?_
        refine RW.soft (by exact Wd.yes (x := 54) rfl (AF_ev rfl (up rfl (up rfl (up rfl (up rfl (up rfl (up rfl (up rfl (up rfl tp)))))))))) (v := .bool true) (by exact E.not (b := false) (AF_ev rfl tp)) ?_
        refine RW.soft Wd.a (v := .bool true) (by exact E.pickT (AF_ev rfl (up rfl (up rfl (up rfl (up rfl (up rfl (up rfl (up rfl (up rfl (up rfl tp)))))))))) (AF_ev rfl tp)) ?_
        refine RW.soft Wd.a (v := .bool true) (by exact E.move (AF_ev rfl tp)) ?_
        refine RW.soft (by exact Wd.yes (x := 65) rfl (AF_ev rfl tp)) (v := .slice X1 ((madeR bits).length) c2) (by exact E.move (AF_ev rfl (up rfl (up rfl (up rfl (up rfl (up rfl (up rfl (up rfl (up rfl (up rfl (up rfl (up rfl (up rfl (up rfl (up rfl (up rfl (up rfl (up rfl (up rfl (up rfl (up rfl (up rfl (up rfl (up rfl hs6))))))))))))))))))))))))) ?_
        refine RW.soft (by exact Wd.yes (x := 65) rfl (AF_ev rfl (up rfl tp))) (v := .int .i64 (((madeR bits).length : Nat) : Int)) (by exact E.lenS (p := X1) (l := (madeR bits).length) (c := c2) Try.underlying58 (AF_ev rfl tp)) ?_
        refine RW.soft (by exact Wd.yes (x := 65) rfl (AF_ev rfl (up rfl (up rfl tp)))) (v := .int .i64 ((((madeR bits).length : Nat) : Int) % 2)) (by exact E.rem (k := .i64) (a := (((madeR bits).length : Nat) : Int)) (b := 2) (AF_ev rfl tp) rfl (by omega) (Int.tmod_eq_emod_of_nonneg (by omega))) ?_
        refine RW.soft (by exact Wd.yes (x := 65) rfl (AF_ev rfl (up rfl (up rfl (up rfl tp))))) (v := .bool false) (by exact E.b (a := ((((madeR bits).length : Nat) : Int) % 2) == 0) (E.eql (k := .i64) (a := (((madeR bits).length : Nat) : Int) % 2) (b := 0) (AF_ev rfl tp) rfl) hpar) ?_
        refine RW.soft (by exact Wd.yes (x := 65) rfl (AF_ev rfl (up rfl (up rfl (up rfl (up rfl tp)))))) (v := .bool false) (by exact E.move (AF_ev rfl tp)) ?_
        refine RW.soft (by exact Wd.yes (x := 70) rfl (AF_ev rfl tp)) (v := .slice X1 ((madeR bits).length) c2) (by exact E.move (AF_ev rfl (up rfl (up rfl (up rfl (up rfl (up rfl (up rfl (up rfl (up rfl (up rfl (up rfl (up rfl (up rfl (up rfl (up rfl (up rfl (up rfl (up rfl (up rfl (up rfl (up rfl (up rfl (up rfl (up rfl (up rfl (up rfl (up rfl (up rfl (up rfl hs6)))))))))))))))))))))))))))))) ?_
        refine RW.soft (by exact Wd.yes (x := 70) rfl (AF_ev rfl (up rfl tp))) (v := .slice Xa L1.length ca) (by exact E.move (AF_ev rfl (up rfl (up rfl (up rfl (up rfl (up rfl (up rfl (up rfl (up rfl (up rfl (up rfl (up rfl (up rfl (up rfl (up rfl (up rfl (up rfl (up rfl (up rfl (up rfl (up rfl (up rfl (up rfl (up rfl (up rfl (up rfl (up rfl (up rfl (up rfl (up rfl hs7))))))))))))))))))))))))))))))) ?_
        have hst := hst.emp
        refine RW.hard (by exact Wd.yes (x := 70) rfl (AF_ev rfl (up rfl (up rfl tp)))) ?_
        refine H.call0 Try.func41 nm41 rfl (map2 (AF_ev rfl (up rfl tp)) (AF_ev rfl tp)) (Calls.mono ((show Calls Try.prog 41 #[.slice X1 ((madeR bits).length) c2, .slice Xa L1.length ca] w (fun e w => e = .returned (.bool false) ∧ St p w (Emp :: Own 3 1 (.slice Xa L1.length ca) L1.length (L1.flatMap ienc) :: Own 3 1 (.slice none 0 0) 0 (([]).flatMap ienc) :: Own 3 1 (.slice Xb L2.length cb) L2.length (L2.flatMap ienc) :: R)) from (by
          have hq := q_Most (zs := (madeR bits)) (ys := L1) hLX1.tells (Nat.le_trans (made_le _) (by decide)) (own_TI (by first | rfl | omega | simp)) (by omega) (made_pos _) hst
          rw [hMA] at hq; exact hq))) ?_)
        rintro _ w ⟨rfl, hst⟩
        have hst := hst.drop
        refine ⟨_, rfl, ?_⟩
        show RW _ _ _ _ _ _ _
        refine RW.soft (by exact Wd.yes (x := 65) rfl (AF_ev rfl (up rfl (up rfl (up rfl (up rfl (up rfl (up rfl (up rfl (up rfl tp)))))))))) (v := .bool false) (by exact E.pickF (AF_ev rfl (up rfl (up rfl (up rfl tp)))) (AF_ev rfl tp)) ?_
        refine RW.soft (by exact Wd.yes (x := 65) rfl (AF_ev rfl (up rfl (up rfl (up rfl (up rfl (up rfl (up rfl (up rfl (up rfl (up rfl tp))))))))))) (v := .bool false) (by exact E.move (AF_ev rfl tp)) ?_
        refine RW.soft (by exact Wd.yes (x := 75) rfl (AF_ev rfl tp)) (v := .slice X1 ((madeR bits).length) c2) (by exact E.move (AF_ev rfl (up rfl (up rfl (up rfl (up rfl (up rfl (up rfl (up rfl (up rfl (up rfl (up rfl (up rfl (up rfl (up rfl (up rfl (up rfl (up rfl (up rfl (up rfl (up rfl (up rfl (up rfl (up rfl (up rfl (up rfl (up rfl (up rfl (up rfl (up rfl (up rfl (up rfl (up rfl (up rfl (up rfl hs6))))))))))))))))))))))))))))))))))) ?_
        refine RW.soft (by exact Wd.yes (x := 75) rfl (AF_ev rfl (up rfl tp))) (v := .slice Xb L2.length cb) (by exact E.move (AF_ev rfl (up rfl (up rfl (up rfl (up rfl (up rfl (up rfl (up rfl (up rfl (up rfl (up rfl (up rfl (up rfl (up rfl (up rfl (up rfl (up rfl (up rfl (up rfl (up rfl (up rfl (up rfl (up rfl (up rfl (up rfl (up rfl (up rfl (up rfl (up rfl (up rfl (up rfl (up rfl (up rfl (up rfl (up rfl hs8)))))))))))))))))))))))))))))))))))) ?_
        have hst := hst.take (.there (.there .here))
        have hst := hst.emp
        refine RW.hard (by exact Wd.yes (x := 75) rfl (AF_ev rfl (up rfl (up rfl tp)))) ?_
        refine H.call0 Try.func41 nm41 rfl (map2 (AF_ev rfl (up rfl tp)) (AF_ev rfl tp)) (Calls.mono ((show Calls Try.prog 41 #[.slice X1 ((madeR bits).length) c2, .slice Xb L2.length cb] w (fun e w => e = .returned (.bool true) ∧ St p w (Emp :: Own 3 1 (.slice Xb L2.length cb) L2.length (L2.flatMap ienc) :: Own 3 1 (.slice Xa L1.length ca) L1.length (L1.flatMap ienc) :: Own 3 1 (.slice none 0 0) 0 (([]).flatMap ienc) :: R)) from (by
          have hq := q_Most (zs := (madeR bits)) (ys := L2) hLX1.tells (Nat.le_trans (made_le _) (by decide)) (own_TI (by first | rfl | omega | simp)) (by omega) (made_pos _) hst
          rw [(show (decide (((cntOf (madeR bits) L2 : Nat) : Int) > (((madeR bits).length : Nat) : Int) / 2)) = true from decide_eq_true (by have h1_ := hpar; rw [beq_eq_false_iff_ne] at h1_; have h2_ := of_decide_eq_false hMA; omega))] at hq; exact hq))) ?_)
        rintro _ w ⟨rfl, hst⟩
        have hst := hst.drop
        refine ⟨_, rfl, ?_⟩
        show RW _ _ _ _ _ _ _
        refine RW.soft (by exact Wd.yes (x := 65) rfl (AF_ev rfl (up rfl (up rfl (up rfl (up rfl (up rfl (up rfl (up rfl (up rfl (up rfl (up rfl (up rfl (up rfl (up rfl tp))))))))))))))) (v := .bool true) (by exact E.pickF (AF_ev rfl (up rfl (up rfl (up rfl tp)))) (AF_ev rfl tp)) ?_
        refine RW.soft Wd.a (v := .bool true) (by exact E.pickT (AF_ev rfl (up rfl (up rfl (up rfl (up rfl (up rfl (up rfl (up rfl (up rfl (up rfl (up rfl (up rfl (up rfl (up rfl (up rfl tp))))))))))))))) (AF_ev rfl tp)) ?_
        refine RW.soft Wd.a (v := .bool true) (by exact E.assign (AF_ev rfl tp)) ?_
        refine RW.fin (fun τ => τ 1 = .int .i64 id ∧ τ 4 = .bool true ∧ τ 5 = .bool true ∧ τ 6 = .slice X1 ((madeR bits).length) c2 ∧ τ 7 = .slice Xa L1.length ca ∧ τ 8 = .slice Xb L2.length cb ∧ τ 9 = .int .i64 ((j : Nat) : Int) ∧ τ 18 = .bool false) ⟨up rfl (up rfl (up rfl (up rfl (up rfl (up rfl (up rfl (up rfl (up rfl (up rfl (up rfl (up rfl (up rfl (up rfl (up rfl (up rfl (up rfl (up rfl (up rfl (up rfl (up rfl (up rfl (up rfl (up rfl (up rfl (up rfl (up rfl (up rfl (up rfl (up rfl (up rfl (up rfl (up rfl (up rfl (up rfl (up rfl (up rfl (up rfl (up rfl hs1)))))))))))))))))))))))))))))))))))))), tp, up rfl (up rfl (up rfl (up rfl (up rfl (up rfl (up rfl (up rfl (up rfl (up rfl (up rfl (up rfl (up rfl (up rfl (up rfl (up rfl (up rfl (up rfl (up rfl (up rfl (up rfl (up rfl (up rfl (up rfl (up rfl (up rfl (up rfl (up rfl (up rfl (up rfl (up rfl (up rfl (up rfl (up rfl (up rfl (up rfl (up rfl (up rfl (up rfl hs5)))))))))))))))))))))))))))))))))))))), up rfl (up rfl (up rfl (up rfl (up rfl (up rfl (up rfl (up rfl (up rfl (up rfl (up rfl (up rfl (up rfl (up rfl (up rfl (up rfl (up rfl (up rfl (up rfl (up rfl (up rfl (up rfl (up rfl (up rfl (up rfl (up rfl (up rfl (up rfl (up rfl (up rfl (up rfl (up rfl (up rfl (up rfl (up rfl (up rfl (up rfl (up rfl (up rfl hs6)))))))))))))))))))))))))))))))))))))), up rfl (up rfl (up rfl (up rfl (up rfl (up rfl (up rfl (up rfl (up rfl (up rfl (up rfl (up rfl (up rfl (up rfl (up rfl (up rfl (up rfl (up rfl (up rfl (up rfl (up rfl (up rfl (up rfl (up rfl (up rfl (up rfl (up rfl (up rfl (up rfl (up rfl (up rfl (up rfl (up rfl (up rfl (up rfl (up rfl (up rfl (up rfl (up rfl hs7)))))))))))))))))))))))))))))))))))))), up rfl (up rfl (up rfl (up rfl (up rfl (up rfl (up rfl (up rfl (up rfl (up rfl (up rfl (up rfl (up rfl (up rfl (up rfl (up rfl (up rfl (up rfl (up rfl (up rfl (up rfl (up rfl (up rfl (up rfl (up rfl (up rfl (up rfl (up rfl (up rfl (up rfl (up rfl (up rfl (up rfl (up rfl (up rfl (up rfl (up rfl (up rfl (up rfl hs8)))))))))))))))))))))))))))))))))))))), up rfl (up rfl (up rfl (up rfl (up rfl (up rfl (up rfl (up rfl (up rfl (up rfl (up rfl (up rfl (up rfl (up rfl (up rfl (up rfl (up rfl (up rfl (up rfl (up rfl (up rfl (up rfl (up rfl (up rfl (up rfl (up rfl (up rfl (up rfl (up rfl (up rfl (up rfl (up rfl (up rfl (up rfl (up rfl (up rfl (up rfl (up rfl (up rfl hs9)))))))))))))))))))))))))))))))))))))), up rfl (up rfl (up rfl (up rfl (up rfl (up rfl (up rfl (up rfl (up rfl (up rfl (up rfl (up rfl (up rfl (up rfl (up rfl (up rfl (up rfl (up rfl (up rfl (up rfl (up rfl (up rfl (up rfl (up rfl (up rfl (up rfl (up rfl (up rfl (up rfl (up rfl (up rfl (up rfl (up rfl (up rfl (up rfl (up rfl (up rfl (up rfl (up rfl (Eq.trans hs18 (congrArg Value.bool hc5))))))))))))))))))))))))))))))))))))))))⟩ ?_
        rintro τ ⟨hs1, hs4, hs5, hs6, hs7, hs8, hs9, hs18⟩
        refine CW.ret ?_
        refine ret1 (v := .bool true) rfl (by exact (.tmp (AF_ev rfl hs4) .nil)) ?_
        have hst := (hst.take .here).drop
        have hst := (hst.take .here).drop
        have hst := (hst.take .here).drop
        exact ⟨p, hleX1, rfl, hst⟩
end Go.Proofs.Ytjagffnbobnofaa
