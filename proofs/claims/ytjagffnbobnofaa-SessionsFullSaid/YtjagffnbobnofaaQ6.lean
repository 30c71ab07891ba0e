/- The functions of the package quorum, walked through operation by operation. -/
import Derived.Test.YtjagffnbobnofaaQ4
import Derived.Test.YtjagffnbobnofaaQ5
import Derived.Test.YtjagffnbobnofaaQ2
import Derived.Test.YtjagffnbobnofaaQ1
import Derived.Test.YtjagffnbobnofaaQ3
import Derived.Test.YtjagffnbobnofaaQ0
import Derived.Test.YtjagffnbobnofaaSM
namespace Go.Proofs.Ytjagffnbobnofaa
open Go.RowKit Go.SL Go.Q18
attribute [local irreducible] Go.SL.RW Go.SL.CW Go.SL.RD Go.SL.Hd Go.SL.St
set_option linter.unusedVariables false
set_option linter.unusedSimpArgs false

theorem nm38 : (Try.f38.name == "runtime.NumGoroutine") = false := by kernel_rfl
theorem nm53 : (Try.f53.name == "runtime.NumGoroutine") = false := by kernel_rfl
theorem nm57 : (Try.f57.name == "runtime.NumGoroutine") = false := by kernel_rfl
theorem nm58 : (Try.f58.name == "runtime.NumGoroutine") = false := by kernel_rfl
theorem nm74 : (Try.f74.name == "runtime.NumGoroutine") = false := by kernel_rfl
theorem zr3 : (Try.prog.info? 3).bind (·.zero) = some (.int .i64 0) := by kernel_rfl

theorem clone_ints {p : Pers} {w : World} {R : List Assn} {A : Assn} {X : Option Addr} {m c : Nat} {xs : List Value} (hA : ∀ w H, St p w (A :: H) → SL.Src w 1 (.slice X m c) m xs) (h1 : ∀ u ∈ xs, u.oneCell' = true) (hm : m * 8 ≤ 140737488355328) (hst : St p w (A :: R)) :
    Calls Try.prog 53 #[.slice X m c] w fun e w => ∃ v, e = .returned v ∧ (isNil v = true ↔ X.isNone = true) ∧ St p w (Own 3 1 v m xs :: A :: R) := by
  refine enter Try.func53 rfl (by simp) (n := 8) rfl fun τ hτ => ?_
  have hs0 : τ 0 = .slice X m c := hτ 0 (by simp)
  clear hτ
  refine CW.seq ?_
  refine CW.region ?_
  refine RW.soft Wd.a (v := .slice none 0 0) (by exact E.assign rfl) ?_
  refine RW.fin (fun τ => τ 0 = .slice X m c ∧ τ 2 = .slice none 0 0) ⟨up rfl hs0, tp⟩ ?_
  rintro τ ⟨hs0, hs2⟩
  refine CW.seq ?_
  refine CW.seq ?_
  refine CW.region ?_
  refine RW.soft Wd.a (v := .slice X m c) (by exact E.move (AF_ev rfl hs0)) ?_
  refine RW.soft Wd.a (v := .bool X.isNone) (by exact E.eqlS (p := X) (l := m) (c := c) Try.underlying58 (AF_ev rfl tp) rfl) ?_
  refine RW.fin (fun τ => τ 0 = .slice X m c ∧ τ 2 = .slice none 0 0 ∧ τ 4 = .bool X.isNone) ⟨up rfl (up rfl hs0), up rfl (up rfl hs2), tp⟩ ?_
  rintro τ ⟨hs0, hs2, hs4⟩
  refine CW.cond (AF_ev rfl hs4) (fun hc1 => ?_) (fun hc1 => ?_)
  · have hc1_ := hc1
    try simp only [decide_eq_true_eq, decide_eq_false_iff_not, Bool.and_eq_true, Bool.or_eq_true, Bool.and_eq_false_iff, Bool.or_eq_false_iff, Bool.not_eq_true', Bool.not_eq_false', beq_iff_eq, beq_eq_false_iff_ne, bne_iff_ne, bne_eq_false_iff_eq, ne_eq, Int.not_lt, Int.not_le, gt_iff_lt, ge_iff_le] at hc1_
    refine CW.seq ?_
    refine CW.region ?_
    refine RW.soft Wd.a (v := .slice none 0 0) (by exact E.assign rfl) ?_
    refine RW.fin (fun τ => τ 0 = .slice X m c ∧ τ 2 = .slice none 0 0 ∧ τ 4 = .bool true) ⟨up rfl hs0, tp, up rfl (Eq.trans hs4 (congrArg Value.bool hc1))⟩ ?_
    rintro τ ⟨hs0, hs2, hs4⟩
    refine CW.ret ?_
    refine Th.r ?_
    refine ret1 (v := .slice none 0 0) rfl (by exact (.tmp (AF_ev rfl hs2) .nil)) ?_
    obtain rfl := Option.isNone_iff_eq_none.1 hc1
    obtain ⟨rfl, -, rfl⟩ := (hA _ _ hst).nil0
    exact ⟨_, rfl, by simp [isNil], hst.ownNil none⟩
  · have hc1_ := hc1
    try simp only [decide_eq_true_eq, decide_eq_false_iff_not, Bool.and_eq_true, Bool.or_eq_true, Bool.and_eq_false_iff, Bool.or_eq_false_iff, Bool.not_eq_true', Bool.not_eq_false', beq_iff_eq, beq_eq_false_iff_ne, bne_iff_ne, bne_eq_false_iff_eq, ne_eq, Int.not_lt, Int.not_le, gt_iff_lt, ge_iff_le] at hc1_
    refine CW.skip ?_
    refine Th.n ?_
    refine CW.seq ?_
    have hmx : m ≤ 140737488355328 := Nat.le_trans (Nat.le_mul_of_pos_right m (by omega)) hm
    refine CW.region ?_
    refine RW.hard Wd.a ?_
    refine H.buildSlice (e := 3) (cs := #[]) (vs := #[]) (by simp) (fun _ => by kernel_rfl) hst fun b2 w hst => ?_
    refine RW.soft Wd.a (v := .slice X m c) (by exact E.move (AF_ev rfl (up rfl hs0))) ?_
    have hst := hst.ownNew (n := 0) (cap := 0) (sz := 1) (xs := []) (by omega) (by simp [maxLen]) rfl rfl
    refine RW.hard Wd.a ?_
    refine H.append2 (n2 := m) (xs2 := xs) (by first | rfl | simp) (by first | rfl | simp) (m := m) (news := xs) (s0 := .slice (some ⟨b2, 0, none⟩) 0 0) (x0 := .slice X m c) Try.underlying58 inf3 rfl (AF_ev rfl (up rfl tp)) (AF_ev rfl tp) hst .here (hA _ _ (hst.take (.there .here))) h1 (by omega) (by simp only [maxLen]; omega) ?_
    intro vX3 w hnilX3 hst
    obtain ⟨X3, c4, rfl, hcX3, hmX3, hlX3, hbX3⟩ := hst.shape
    refine RW.soft Wd.a (v := .slice X3 m c4) (by exact E.assign (AF_ev rfl tp)) ?_
    refine RW.fin (fun τ => τ 0 = .slice X m c ∧ τ 2 = .slice X3 m c4 ∧ τ 4 = .bool false) ⟨up rfl (up rfl (up rfl (up rfl hs0))), tp, up rfl (up rfl (up rfl (up rfl (Eq.trans hs4 (congrArg Value.bool hc1)))))⟩ ?_
    rintro τ ⟨hs0, hs2, hs4⟩
    refine CW.ret ?_
    refine ret1 (v := .slice X3 m c4) rfl (by exact (.tmp (AF_ev rfl hs2) .nil)) ?_
    have hst := hst.take (.there .here)
    have hst := hst.take (.there .here)
    exact ⟨_, rfl, ⟨fun h => by have q := (hnilX3.1 h).1; simp [isNil] at q, fun h => by rw [hc1] at h; cases h⟩, hst⟩

theorem most_odd {p : Pers} {w : World} {R : List Assn} {fb : Nat} {B : Assn} {Y : Option Addr} {d : Nat} {ys : List Int} (hB : TI p B (.slice Y ys.length d) ys) (hm : ys.length ≤ 1000000) (n : Int) (hst : St p w (pt fb (.cells #[.slice Y ys.length d] 58) :: B :: R)) :
    Calls Try.prog 58 #[.int .i64 n, .pointer (some ⟨fb, 0, none⟩)] w fun e w => e = .returned (.bool (!(ys.contains n))) ∧ St p w (pt fb (.cells #[.slice Y ys.length d] 58) :: B :: R) := by
  refine enter Try.func58 rfl (by simp) (n := 8) rfl fun τ hτ => ?_
  have hs0 : τ 0 = .int .i64 n := hτ 0 (by simp)
  have hs1 : τ 1 = .pointer (some ⟨fb, 0, none⟩) := hτ 1 (by simp)
  clear hτ
  refine CW.seq ?_
  refine CW.region ?_
  refine RW.soft Wd.a (v := .bool false) (by exact E.assign rfl) ?_
  refine RW.fin (fun τ => τ 0 = .int .i64 n ∧ τ 1 = .pointer (some ⟨fb, 0, none⟩) ∧ τ 3 = .bool false) ⟨up rfl hs0, up rfl hs1, tp⟩ ?_
  rintro τ ⟨hs0, hs1, hs3⟩
  refine CW.seq ?_
  refine CW.region ?_
  refine RW.soft Wd.a (v := .slice Y ys.length d) (by exact E.load (a := ⟨fb, 0, none⟩) Try.underlying58 rfl (AF_ev rfl hs1) (hst.cell .here rfl)) ?_
  refine RW.soft Wd.a (v := .int .i64 n) (by exact E.move (AF_ev rfl (up rfl hs0))) ?_
  have hst := hst.take (.there .here)
  refine RW.hard Wd.a ?_
  refine H.call0 Try.func38 nm38 rfl (map2 (AF_ev rfl (up rfl tp)) (AF_ev rfl tp)) (Calls.mono (q_Has hB hm n hst) ?_)
  rintro _ w ⟨rfl, hst⟩
  refine ⟨_, rfl, ?_⟩
  show RW _ _ _ _ _ _ _
  refine RW.soft Wd.a (v := .bool (!(ys.contains n))) (by exact E.not (b := ys.contains n) (AF_ev rfl tp)) ?_
  refine RW.soft Wd.a (v := .bool (!(ys.contains n))) (by exact E.assign (AF_ev rfl tp)) ?_
  refine RW.fin (fun τ => τ 0 = .int .i64 n ∧ τ 1 = .pointer (some ⟨fb, 0, none⟩) ∧ τ 3 = .bool (!(ys.contains n))) ⟨up rfl (up rfl (up rfl (up rfl (up rfl hs0)))), up rfl (up rfl (up rfl (up rfl (up rfl hs1)))), tp⟩ ?_
  rintro τ ⟨hs0, hs1, hs3⟩
  refine CW.ret ?_
  refine ret1 (v := .bool (!(ys.contains n))) rfl (by exact (.tmp (AF_ev rfl hs3) .nil)) ?_
  have hst := hst.take (.there .here)
  exact ⟨rfl, hst⟩

theorem most_index {p : Pers} {w : World} {R : List Assn} {fb : Nat} {A : Assn} {X : Option Addr} {c : Nat} {zs : List Int} (hA : TI p A (.slice X zs.length c) zs) (hl : zs.length ≤ 1000000) {B : Assn} {Y : Option Addr} {d : Nat} {ys : List Int} (hB : TI p B (.slice Y ys.length d) ys) (hm : ys.length ≤ 1000000) (hst : St p w (pt fb (.cells #[.slice Y ys.length d] 58) :: A :: B :: R)) :
    Calls Try.prog 74 #[.slice X zs.length c, .func (.func 58) #[] #[.pointer (some ⟨fb, 0, none⟩)]] w fun e w => ∃ i : Int, e = .returned (.int .i64 i) ∧ ((i = -1 ∧ zs.any (fun n => !ys.contains n) = false) ∨ ∃ (j : Nat) (x : Int), i = j ∧ (zs.take j).any (fun n => !ys.contains n) = false ∧ zs[j]? = some x ∧ (!ys.contains x) = true) ∧ St p w (pt fb (.cells #[.slice Y ys.length d] 58) :: A :: B :: R) := by
  refine enter Try.func74 rfl (by simp) (n := 19) rfl fun τ hτ => ?_
  have hs0 : τ 0 = .slice X zs.length c := hτ 0 (by simp)
  have hs1 : τ 1 = .func (.func 58) #[] #[.pointer (some ⟨fb, 0, none⟩)] := hτ 1 (by simp)
  clear hτ
  refine CW.seq ?_
  refine CW.region ?_
  refine RW.soft Wd.a (v := .int .i64 0) (by exact E.assign rfl) ?_
  refine RW.fin (fun τ => τ 0 = .slice X zs.length c ∧ τ 1 = .func (.func 58) #[] #[.pointer (some ⟨fb, 0, none⟩)] ∧ τ 4 = .int .i64 0) ⟨up rfl hs0, up rfl hs1, tp⟩ ?_
  rintro τ ⟨hs0, hs1, hs4⟩
  refine CW.seq ?_
  refine CW.seq ?_
  refine CW.region ?_
  refine RW.soft Wd.a (v := .slice X zs.length c) (by exact E.move (AF_ev rfl hs0)) ?_
  refine RW.soft Wd.a (v := .int .i64 ((zs.length : Nat) : Int)) (by exact E.lenS (p := X) (l := zs.length) (c := c) Try.underlying58 (AF_ev rfl tp)) ?_
  refine RW.soft Wd.a (v := .int .i64 0) (by exact E.move rfl) ?_
  refine RW.fin (fun τ => τ 0 = .slice X zs.length c ∧ τ 1 = .func (.func 58) #[] #[.pointer (some ⟨fb, 0, none⟩)] ∧ τ 4 = .int .i64 0 ∧ τ 7 = .int .i64 ((zs.length : Nat) : Int) ∧ τ 8 = .int .i64 0) ⟨up rfl (up rfl (up rfl hs0)), up rfl (up rfl (up rfl hs1)), up rfl (up rfl (up rfl hs4)), up rfl tp, tp⟩ ?_
  rintro τ ⟨hs0, hs1, hs4, hs7, hs8⟩
  refine CW.block ?_
  have hst := hst.take (.there (.there .here))
  have hst := hst.take (.there (.there .here))
  have hst := hst.take (.there (.there .here))
  refine CW.loop (fun (k : Nat) (τ : Fr) (w : World) => ∃ (j : Nat), (zs.take j).any (fun n => !ys.contains n) = false ∧ j ≤ zs.length ∧ k = zs.length - j ∧ τ 0 = .slice X zs.length c ∧ τ 1 = .func (.func 58) #[] #[.pointer (some ⟨fb, 0, none⟩)] ∧ τ 7 = .int .i64 ((zs.length : Nat) : Int) ∧ τ 8 = .int .i64 ((j : Nat) : Int) ∧ St p w (pt fb (.cells #[.slice Y ys.length d] 58) :: A :: B :: R)) (zs.length - 0) ⟨0, rfl, by omega, rfl, hs0, hs1, hs7, (int_eq (a := 0) hs8 (by omega)), hst⟩ ?_
  clear hst
  rintro k τ w ⟨j, hf, hj, hkj, hs0, hs1, hs7, hs8, hst⟩
  refine CW.seq ?_
  refine CW.region ?_
  refine RW.soft Wd.a (v := .bool (decide (((j : Nat) : Int) < ((zs.length : Nat) : Int)))) (by exact E.lss (k := .i64) (a := ((j : Nat) : Int)) (b := ((zs.length : Nat) : Int)) (AF_ev rfl hs8) (AF_ev rfl hs7)) ?_
  refine RW.fin (fun τ => τ 0 = .slice X zs.length c ∧ τ 1 = .func (.func 58) #[] #[.pointer (some ⟨fb, 0, none⟩)] ∧ τ 7 = .int .i64 ((zs.length : Nat) : Int) ∧ τ 8 = .int .i64 ((j : Nat) : Int) ∧ τ 9 = .bool (decide (((j : Nat) : Int) < ((zs.length : Nat) : Int)))) ⟨up rfl hs0, up rfl hs1, up rfl hs7, up rfl hs8, tp⟩ ?_
  rintro τ ⟨hs0, hs1, hs7, hs8, hs9⟩
  refine CW.seq ?_
  refine CW.cond (AF_ev rfl hs9) (fun hc1 => ?_) (fun hc1 => ?_)
  · have hc1_ := hc1
    try simp only [decide_eq_true_eq, decide_eq_false_iff_not, Bool.and_eq_true, Bool.or_eq_true, Bool.and_eq_false_iff, Bool.or_eq_false_iff, Bool.not_eq_true', Bool.not_eq_false', beq_iff_eq, beq_eq_false_iff_ne, bne_iff_ne, bne_eq_false_iff_eq, ne_eq, Int.not_lt, Int.not_le, gt_iff_lt, ge_iff_le] at hc1_
    refine CW.skip ?_
    refine Th.n ?_
    refine CW.seq ?_
    refine CW.block ?_
    refine CW.seq ?_
    obtain ⟨b0, o0, rfl, hcell0⟩ := TI.place hA (hst.take (.there .here)) (by omega)
    obtain ⟨x, hx⟩ : ∃ z, zs[j]? = some z := ⟨zs[j]'(by omega), List.getElem?_eq_getElem (by omega)⟩
    refine CW.region ?_
    refine RW.soft Wd.a (v := .int .i64 ((j : Nat) : Int)) (by exact E.move (AF_ev rfl hs8)) ?_
    refine RW.soft Wd.a (v := .int .i64 ((j : Nat) : Int)) (by exact E.assign (AF_ev rfl tp)) ?_
    refine RW.fin (fun τ => τ 0 = .slice (some ⟨b0, o0, none⟩) zs.length c ∧ τ 1 = .func (.func 58) #[] #[.pointer (some ⟨fb, 0, none⟩)] ∧ τ 5 = .int .i64 ((j : Nat) : Int) ∧ τ 7 = .int .i64 ((zs.length : Nat) : Int) ∧ τ 8 = .int .i64 ((j : Nat) : Int) ∧ τ 9 = .bool true) ⟨up rfl (up rfl hs0), up rfl (up rfl hs1), tp, up rfl (up rfl hs7), up rfl (up rfl hs8), up rfl (up rfl (Eq.trans hs9 (congrArg Value.bool hc1)))⟩ ?_
    rintro τ ⟨hs0, hs1, hs5, hs7, hs8, hs9⟩
    refine CW.seq ?_
    refine CW.region ?_
    refine RW.soft Wd.a (v := .func (.func 58) #[] #[.pointer (some ⟨fb, 0, none⟩)]) (by exact E.move (AF_ev rfl hs1)) ?_
    refine RW.soft Wd.a (v := .slice (some ⟨b0, o0, none⟩) zs.length c) (by exact E.move (AF_ev rfl (up rfl hs0))) ?_
    refine RW.soft Wd.a (v := .int .i64 ((j : Nat) : Int)) (by exact E.move (AF_ev rfl (up rfl (up rfl hs5)))) ?_
    refine RW.soft Wd.a (v := .pointer (some ⟨b0, o0 + j * 1, none⟩)) (by exact E.indexAddr (b := b0) (o := o0) (l := zs.length) (c := c) (i := ((j : Nat) : Int)) Try.underlying58 sz3 (AF_ev rfl (up rfl tp)) (AF_ev rfl tp) (by omega) (by omega) (by simp)) ?_
    refine RW.soft Wd.a (v := .int .i64 x) (by exact E.load (a := ⟨b0, o0 + j * 1, none⟩) Try.underlying3 rfl (AF_ev rfl tp) (by exact hcell0 (hst.take (.there .here)) _ _ (flat_get (j := 0) ienc_len hx (rfl)))) ?_
    have hst := hst.take (.there (.there .here))
    have hst := hst.take (.there .here)
    refine RW.hard Wd.a ?_
    refine H.call (AF_ev rfl (up rfl (up rfl (up rfl (up rfl tp))))) Try.func58 nm58 rfl (map1 (AF_ev rfl tp)) (Calls.mono (most_odd hB hm x hst) ?_)
    rintro _ w ⟨rfl, hst⟩
    refine ⟨_, rfl, ?_⟩
    show RW _ _ _ _ _ _ _
    refine RW.fin (fun τ => τ 0 = .slice (some ⟨b0, o0, none⟩) zs.length c ∧ τ 1 = .func (.func 58) #[] #[.pointer (some ⟨fb, 0, none⟩)] ∧ τ 5 = .int .i64 ((j : Nat) : Int) ∧ τ 7 = .int .i64 ((zs.length : Nat) : Int) ∧ τ 8 = .int .i64 ((j : Nat) : Int) ∧ τ 9 = .bool true ∧ τ 16 = .bool (!(ys.contains x))) ⟨up rfl (up rfl (up rfl (up rfl (up rfl (up rfl hs0))))), up rfl (up rfl (up rfl (up rfl (up rfl (up rfl hs1))))), up rfl (up rfl (up rfl (up rfl (up rfl (up rfl hs5))))), up rfl (up rfl (up rfl (up rfl (up rfl (up rfl hs7))))), up rfl (up rfl (up rfl (up rfl (up rfl (up rfl hs8))))), up rfl (up rfl (up rfl (up rfl (up rfl (up rfl hs9))))), tp⟩ ?_
    rintro τ ⟨hs0, hs1, hs5, hs7, hs8, hs9, hs16⟩
    refine CW.cond (AF_ev rfl hs16) (fun hc2 => ?_) (fun hc2 => ?_)
    · have hc2_ := hc2
      try simp only [decide_eq_true_eq, decide_eq_false_iff_not, Bool.and_eq_true, Bool.or_eq_true, Bool.and_eq_false_iff, Bool.or_eq_false_iff, Bool.not_eq_true', Bool.not_eq_false', beq_iff_eq, beq_eq_false_iff_ne, bne_iff_ne, bne_eq_false_iff_eq, ne_eq, Int.not_lt, Int.not_le, gt_iff_lt, ge_iff_le] at hc2_
      refine CW.seq ?_
      refine CW.region ?_
      refine RW.soft Wd.a (v := .int .i64 ((j : Nat) : Int)) (by exact E.move (AF_ev rfl hs5)) ?_
      refine RW.soft Wd.a (v := .int .i64 ((j : Nat) : Int)) (by exact E.assign (AF_ev rfl tp)) ?_
      refine RW.fin (fun τ => τ 0 = .slice (some ⟨b0, o0, none⟩) zs.length c ∧ τ 1 = .func (.func 58) #[] #[.pointer (some ⟨fb, 0, none⟩)] ∧ τ 4 = .int .i64 ((j : Nat) : Int) ∧ τ 5 = .int .i64 ((j : Nat) : Int) ∧ τ 7 = .int .i64 ((zs.length : Nat) : Int) ∧ τ 8 = .int .i64 ((j : Nat) : Int) ∧ τ 9 = .bool true ∧ τ 16 = .bool true) ⟨up rfl (up rfl hs0), up rfl (up rfl hs1), tp, up rfl (up rfl hs5), up rfl (up rfl hs7), up rfl (up rfl hs8), up rfl (up rfl hs9), up rfl (up rfl (Eq.trans hs16 (congrArg Value.bool hc2)))⟩ ?_
      rintro τ ⟨hs0, hs1, hs4, hs5, hs7, hs8, hs9, hs16⟩
      refine CW.ret ?_
      refine Bl.r ?_
      refine Th.r ?_
      refine Th.r ?_
      refine Bl.r ?_
      refine Th.r ?_
      refine ret1 (v := .int .i64 ((j : Nat) : Int)) rfl (by exact (.tmp (AF_ev rfl hs4) .nil)) ?_
      have hst := hst.take (.there .here)
      have hst := hst.take (.there (.there .here))
      have hst := hst.take (.there (.there .here))
      exact ⟨_, rfl, .inr ⟨j, x, rfl, hf, hx, hc2⟩, hst⟩
    · have hc2_ := hc2
      try simp only [decide_eq_true_eq, decide_eq_false_iff_not, Bool.and_eq_true, Bool.or_eq_true, Bool.and_eq_false_iff, Bool.or_eq_false_iff, Bool.not_eq_true', Bool.not_eq_false', beq_iff_eq, beq_eq_false_iff_ne, bne_iff_ne, bne_eq_false_iff_eq, ne_eq, Int.not_lt, Int.not_le, gt_iff_lt, ge_iff_le] at hc2_
      refine CW.skip ?_
      refine Bl.n ?_
      refine Th.n ?_
      refine CW.region ?_
      refine RW.soft Wd.a (v := .int .i64 (((j : Nat) : Int) + 1)) (by exact E.add (k := .i64) (a := ((j : Nat) : Int)) (b := 1) (AF_ev rfl hs8) rfl (show IntKind.i64.wrap (((j : Nat) : Int) + 1) = ((j : Nat) : Int) + 1 from (by rw [IntWalk.i64_in _ (by omega)]))) ?_
      refine RW.soft Wd.a (v := .int .i64 (((j : Nat) : Int) + 1)) (by exact E.move (AF_ev rfl tp)) ?_
      refine RW.nil ?_
      refine Th.n ?_
      have hf2 := any_more hf hx (show (!ys.contains x) = false from hc2)
      have hst := hst.take (.there .here)
      have hst := hst.take (.there (.there .here))
      have hst := hst.take (.there (.there .here))
      exact ⟨zs.length - (j + 1), by omega, j + 1, hf2, (by omega), rfl, up rfl (up rfl hs0), up rfl (up rfl hs1), up rfl (up rfl hs7), (int_eq (a := ((j : Nat) : Int) + 1) tp (by omega)), hst⟩
  · have hc1_ := hc1
    try simp only [decide_eq_true_eq, decide_eq_false_iff_not, Bool.and_eq_true, Bool.or_eq_true, Bool.and_eq_false_iff, Bool.or_eq_false_iff, Bool.not_eq_true', Bool.not_eq_false', beq_iff_eq, beq_eq_false_iff_ne, bne_iff_ne, bne_eq_false_iff_eq, ne_eq, Int.not_lt, Int.not_le, gt_iff_lt, ge_iff_le] at hc1_
    refine CW.exit ?_
    refine Th.x ?_
    refine Th.x ?_
    refine Bl.x ?_
    refine Th.n ?_
    refine CW.seq ?_
    refine CW.region ?_
    refine RW.soft Wd.a (v := .int .i64 (-1)) (by exact E.assign rfl) ?_
    refine RW.fin (fun τ => τ 0 = .slice X zs.length c ∧ τ 1 = .func (.func 58) #[] #[.pointer (some ⟨fb, 0, none⟩)] ∧ τ 4 = .int .i64 (-1) ∧ τ 7 = .int .i64 ((zs.length : Nat) : Int) ∧ τ 8 = .int .i64 ((j : Nat) : Int) ∧ τ 9 = .bool false) ⟨up rfl hs0, up rfl hs1, tp, up rfl hs7, up rfl hs8, up rfl (Eq.trans hs9 (congrArg Value.bool hc1))⟩ ?_
    rintro τ ⟨hs0, hs1, hs4, hs7, hs8, hs9⟩
    refine CW.ret ?_
    refine ret1 (v := .int .i64 (-1)) rfl (by exact (.tmp (AF_ev rfl hs4) .nil)) ?_
    have hst := hst.take (.there (.there .here))
    have hst := hst.take (.there (.there .here))
    have hst := hst.take (.there (.there .here))
    exact ⟨-1, rfl, .inl ⟨rfl, any_all hf (by omega)⟩, hst⟩

theorem most_index_no {p : Pers} {w : World} {R : List Assn} {fb : Nat} {A : Assn} {X : Option Addr} {c : Nat} {zs : List Int} (hA : TI p A (.slice X zs.length c) zs) (hl : zs.length ≤ 1000000) {B : Assn} {Y : Option Addr} {d : Nat} {ys : List Int} (hB : TI p B (.slice Y ys.length d) ys) (hm : ys.length ≤ 1000000) (hno : zs.any (fun n => !ys.contains n) = false) (hst : St p w (pt fb (.cells #[.slice Y ys.length d] 58) :: A :: B :: R)) :
    Calls Try.prog 74 #[.slice X zs.length c, .func (.func 58) #[] #[.pointer (some ⟨fb, 0, none⟩)]] w fun e w => e = .returned (.int .i64 (-1)) ∧ St p w (pt fb (.cells #[.slice Y ys.length d] 58) :: A :: B :: R) := by
  refine Calls.mono (most_index hA hl hB hm hst) ?_
  rintro _ w ⟨i, rfl, h | ⟨j, x, rfl, _, hx, hp⟩, s⟩
  · exact ⟨by rw [h.1], s⟩
  · rw [any_found hx hp] at hno; cases hno
theorem most_index_yes {p : Pers} {w : World} {R : List Assn} {fb : Nat} {A : Assn} {X : Option Addr} {c : Nat} {zs : List Int} (hA : TI p A (.slice X zs.length c) zs) (hl : zs.length ≤ 1000000) {B : Assn} {Y : Option Addr} {d : Nat} {ys : List Int} (hB : TI p B (.slice Y ys.length d) ys) (hm : ys.length ≤ 1000000) (hyes : zs.any (fun n => !ys.contains n) = true) (hst : St p w (pt fb (.cells #[.slice Y ys.length d] 58) :: A :: B :: R)) :
    Calls Try.prog 74 #[.slice X zs.length c, .func (.func 58) #[] #[.pointer (some ⟨fb, 0, none⟩)]] w fun e w => ∃ (j : Nat) (x : Int), e = .returned (.int .i64 ((j : Nat) : Int)) ∧ ((zs.take j).any (fun n => !ys.contains n) = false ∧ zs[j]? = some x ∧ (!ys.contains x) = true) ∧ St p w (pt fb (.cells #[.slice Y ys.length d] 58) :: A :: B :: R) := by
  refine Calls.mono (most_index hA hl hB hm hst) ?_
  rintro _ w ⟨i, rfl, h | ⟨j, x, rfl, h1, hx, hp⟩, s⟩
  · rw [h.2] at hyes; cases hyes
  · exact ⟨j, x, rfl, ⟨h1, hx, hp⟩, s⟩

theorem most_delete {p : Pers} {w : World} {R : List Assn} {fb g c : Nat} {zs : List Int} (hl : zs.length ≤ 1000000) (hcz : zs.length ≤ c) {B : Assn} {Y : Option Addr} {d : Nat} {ys : List Int} (hB : TI p B (.slice Y ys.length d) ys) (hm : ys.length ≤ 1000000) (hst : St p w (Own 3 1 (.slice (some ⟨g, 0, none⟩) zs.length c) zs.length (zs.flatMap ienc) :: pt fb (.cells #[.slice Y ys.length d] 58) :: B :: R)) :
    Calls Try.prog 57 #[.slice (some ⟨g, 0, none⟩) zs.length c, .func (.func 58) #[] #[.pointer (some ⟨fb, 0, none⟩)]] w fun e w => ∃ n2, e = .returned (.slice (some ⟨g, 0, none⟩) n2 c) ∧ n2 = (zs.filter (fun n => ys.contains n)).length ∧ St p w (Own 3 1 (.slice (some ⟨g, 0, none⟩) n2 c) n2 ((zs.filter (fun n => ys.contains n)).flatMap ienc) :: pt fb (.cells #[.slice Y ys.length d] 58) :: B :: R) := by
  refine enter Try.func57 rfl (by simp) (n := 42) rfl fun τ hτ => ?_
  have hs0 : τ 0 = .slice (some ⟨g, 0, none⟩) zs.length c := hτ 0 (by simp)
  have hs1 : τ 1 = .func (.func 58) #[] #[.pointer (some ⟨fb, 0, none⟩)] := hτ 1 (by simp)
  clear hτ
  refine CW.seq ?_
  refine CW.region ?_
  refine RW.soft Wd.a (v := .slice none 0 0) (by exact E.assign rfl) ?_
  refine RW.fin (fun τ => τ 0 = .slice (some ⟨g, 0, none⟩) zs.length c ∧ τ 1 = .func (.func 58) #[] #[.pointer (some ⟨fb, 0, none⟩)] ∧ τ 4 = .slice none 0 0) ⟨up rfl hs0, up rfl hs1, tp⟩ ?_
  rintro τ ⟨hs0, hs1, hs4⟩
  refine CW.seq ?_
  refine Or.elim (Bool.eq_false_or_eq_true (zs.any (fun n => !ys.contains n))) (fun hany => ?_) (fun hany => ?_)
  · skip
    refine CW.region ?_
    refine RW.soft Wd.a (v := .slice (some ⟨g, 0, none⟩) zs.length c) (by exact E.move (AF_ev rfl hs0)) ?_
    refine RW.soft Wd.a (v := .func (.func 58) #[] #[.pointer (some ⟨fb, 0, none⟩)]) (by exact E.move (AF_ev rfl (up rfl hs1))) ?_
    have hst := hst.take (.there (.there .here))
    have hst := hst.take (.there .here)
    have hst := hst.take (.there (.there .here))
    refine RW.hard Wd.a ?_
    refine H.call0 Try.func74 nm74 rfl (map2 (AF_ev rfl (up rfl tp)) (AF_ev rfl tp)) (Calls.mono (most_index_yes (own_TI (by first | rfl | omega | simp)) hl hB hm hany hst) ?_)
    rintro _ w ⟨j0, x0, rfl, ⟨hb0, hx0, hp0⟩, hst⟩
    have hj0 := (List.getElem?_eq_some_iff.1 hx0).1
    refine ⟨_, rfl, ?_⟩
    show RW _ _ _ _ _ _ _
    refine RW.soft Wd.a (v := .int .i64 ((j0 : Nat) : Int)) (by exact E.assign (AF_ev rfl tp)) ?_
    refine RW.fin (fun τ => τ 0 = .slice (some ⟨g, 0, none⟩) zs.length c ∧ τ 1 = .func (.func 58) #[] #[.pointer (some ⟨fb, 0, none⟩)] ∧ τ 4 = .slice none 0 0 ∧ τ 5 = .int .i64 ((j0 : Nat) : Int)) ⟨up rfl (up rfl (up rfl (up rfl hs0))), up rfl (up rfl (up rfl (up rfl hs1))), up rfl (up rfl (up rfl (up rfl hs4))), tp⟩ ?_
    rintro τ ⟨hs0, hs1, hs4, hs5⟩
    refine CW.seq ?_
    refine CW.seq ?_
    refine CW.region ?_
    refine RW.soft Wd.a (v := .int .i64 ((j0 : Nat) : Int)) (by exact E.move (AF_ev rfl hs5)) ?_
    refine RW.soft Wd.a (v := .bool false) (by exact E.b (a := ((j0 : Nat) : Int) == (-1)) (E.eql (k := .i64) (a := ((j0 : Nat) : Int)) (b := -1) (AF_ev rfl tp) rfl) (by rw [beq_eq_false_iff_ne]; omega)) ?_
    refine RW.fin (fun τ => τ 0 = .slice (some ⟨g, 0, none⟩) zs.length c ∧ τ 1 = .func (.func 58) #[] #[.pointer (some ⟨fb, 0, none⟩)] ∧ τ 4 = .slice none 0 0 ∧ τ 5 = .int .i64 ((j0 : Nat) : Int) ∧ τ 12 = .bool false) ⟨up rfl (up rfl hs0), up rfl (up rfl hs1), up rfl (up rfl hs4), up rfl (up rfl hs5), tp⟩ ?_
    rintro τ ⟨hs0, hs1, hs4, hs5, hs12⟩
    refine CW.condF (AF_ev rfl hs12) ?_
    refine CW.skip ?_
    refine Th.n ?_
    refine CW.seq ?_
    refine CW.seq ?_
    refine CW.region ?_
    refine RW.soft Wd.a (v := .int .i64 ((j0 : Nat) : Int)) (by exact E.move (AF_ev rfl hs5)) ?_
    refine RW.soft Wd.a (v := .int .i64 (((j0 : Nat) : Int) + 1)) (by exact E.add (k := .i64) (a := ((j0 : Nat) : Int)) (b := 1) (AF_ev rfl tp) rfl (show IntKind.i64.wrap (((j0 : Nat) : Int) + 1) = ((j0 : Nat) : Int) + 1 from (by rw [IntWalk.i64_in _ (by omega)]))) ?_
    refine RW.soft Wd.a (v := .int .i64 (((j0 : Nat) : Int) + 1)) (by exact E.assign (AF_ev rfl tp)) ?_
    refine RW.fin (fun τ => τ 0 = .slice (some ⟨g, 0, none⟩) zs.length c ∧ τ 1 = .func (.func 58) #[] #[.pointer (some ⟨fb, 0, none⟩)] ∧ τ 4 = .slice none 0 0 ∧ τ 5 = .int .i64 ((j0 : Nat) : Int) ∧ τ 6 = .int .i64 (((j0 : Nat) : Int) + 1) ∧ τ 12 = .bool false) ⟨up rfl (up rfl (up rfl hs0)), up rfl (up rfl (up rfl hs1)), up rfl (up rfl (up rfl hs4)), up rfl (up rfl (up rfl hs5)), tp, up rfl (up rfl (up rfl hs12))⟩ ?_
    rintro τ ⟨hs0, hs1, hs4, hs5, hs6, hs12⟩
    refine CW.block ?_
    have hst := hst.take (.there (.there .here))
    have hst := hst.take (.there .here)
    have hst := hst.take (.there (.there .here))
    refine CW.loop (fun (k : Nat) (τ : Fr) (w : World) => ∃ (j i0 : Nat) (L : List Int), Comp zs (fun n => ys.contains n) j i0 L ∧ k = zs.length - j ∧ τ 0 = .slice (some ⟨g, 0, none⟩) zs.length c ∧ τ 1 = .func (.func 58) #[] #[.pointer (some ⟨fb, 0, none⟩)] ∧ τ 5 = .int .i64 ((i0 : Nat) : Int) ∧ τ 6 = .int .i64 ((j : Nat) : Int) ∧ St p w (Own 3 1 (.slice (some ⟨g, 0, none⟩) zs.length c) zs.length (L.flatMap ienc) :: pt fb (.cells #[.slice Y ys.length d] 58) :: B :: R)) (zs.length - (j0 + 1)) ⟨j0 + 1, j0, zs, ⟨rfl, filter_start (fun _ => rfl) hb0 hx0 hp0, rfl, by omega, by omega⟩, rfl, hs0, hs1, hs5, (int_eq (a := ((j0 : Nat) : Int) + 1) hs6 (by omega)), hst⟩ ?_
    clear hst
    rintro k τ w ⟨j, i0, L, hC, hkj, hs0, hs1, hs5, hs6, hst⟩
    refine CW.seq ?_
    refine CW.seq ?_
    refine CW.region ?_
    refine RW.soft Wd.a (v := .int .i64 ((j : Nat) : Int)) (by exact E.move (AF_ev rfl hs6)) ?_
    refine RW.soft Wd.a (v := .slice (some ⟨g, 0, none⟩) zs.length c) (by exact E.move (AF_ev rfl (up rfl hs0))) ?_
    refine RW.soft Wd.a (v := .int .i64 ((zs.length : Nat) : Int)) (by exact E.lenS (p := (some ⟨g, 0, none⟩)) (l := zs.length) (c := c) Try.underlying58 (AF_ev rfl tp)) ?_
    refine RW.soft Wd.a (v := .bool (decide (((j : Nat) : Int) < ((zs.length : Nat) : Int)))) (by exact E.lss (k := .i64) (a := ((j : Nat) : Int)) (b := ((zs.length : Nat) : Int)) (AF_ev rfl (up rfl (up rfl tp))) (AF_ev rfl tp)) ?_
    refine RW.fin (fun τ => τ 0 = .slice (some ⟨g, 0, none⟩) zs.length c ∧ τ 1 = .func (.func 58) #[] #[.pointer (some ⟨fb, 0, none⟩)] ∧ τ 5 = .int .i64 ((i0 : Nat) : Int) ∧ τ 6 = .int .i64 ((j : Nat) : Int) ∧ τ 19 = .bool (decide (((j : Nat) : Int) < ((zs.length : Nat) : Int)))) ⟨up rfl (up rfl (up rfl (up rfl hs0))), up rfl (up rfl (up rfl (up rfl hs1))), up rfl (up rfl (up rfl (up rfl hs5))), up rfl (up rfl (up rfl (up rfl hs6))), tp⟩ ?_
    rintro τ ⟨hs0, hs1, hs5, hs6, hs19⟩
    refine CW.cond (AF_ev rfl hs19) (fun hc1 => ?_) (fun hc1 => ?_)
    · have hc1_ := hc1
      try simp only [decide_eq_true_eq, decide_eq_false_iff_not, Bool.and_eq_true, Bool.or_eq_true, Bool.and_eq_false_iff, Bool.or_eq_false_iff, Bool.not_eq_true', Bool.not_eq_false', beq_iff_eq, beq_eq_false_iff_ne, bne_iff_ne, bne_eq_false_iff_eq, ne_eq, Int.not_lt, Int.not_le, gt_iff_lt, ge_iff_le] at hc1_
      refine CW.skip ?_
      refine Th.n ?_
      refine CW.seq ?_
      refine CW.block ?_
      refine CW.seq ?_
      have hCl := hC.len
      have hClt := hC.lt
      have hCle := hC.le
      obtain ⟨x, hLx⟩ : ∃ z, L[j]? = some z := ⟨L[j]'(by omega), List.getElem?_eq_getElem (by omega)⟩
      obtain ⟨y, hLy⟩ : ∃ z, L[i0]? = some z := ⟨L[i0]'(by omega), List.getElem?_eq_getElem (by omega)⟩
      refine CW.region ?_
      refine RW.soft Wd.a (v := .slice (some ⟨g, 0, none⟩) zs.length c) (by exact E.move (AF_ev rfl hs0)) ?_
      refine RW.soft Wd.a (v := .int .i64 ((j : Nat) : Int)) (by exact E.move (AF_ev rfl (up rfl hs6))) ?_
      refine RW.soft Wd.a (v := .pointer (some ⟨g, j * 1, none⟩)) (by exact E.indexAddr (b := g) (o := 0) (l := zs.length) (c := c) (i := ((j : Nat) : Int)) Try.underlying58 sz3 (AF_ev rfl (up rfl tp)) (AF_ev rfl tp) (by omega) (by omega) (by simp)) ?_
      refine RW.soft Wd.a (v := .int .i64 x) (by exact E.load (a := ⟨g, j * 1, none⟩) Try.underlying3 rfl (AF_ev rfl tp) (hst.ocell .here (flat_get (j := 0) ienc_len hLx (rfl)))) ?_
      refine RW.soft Wd.a (v := .int .i64 x) (by exact E.assign (AF_ev rfl tp)) ?_
      refine RW.fin (fun τ => τ 0 = .slice (some ⟨g, 0, none⟩) zs.length c ∧ τ 1 = .func (.func 58) #[] #[.pointer (some ⟨fb, 0, none⟩)] ∧ τ 5 = .int .i64 ((i0 : Nat) : Int) ∧ τ 6 = .int .i64 ((j : Nat) : Int) ∧ τ 7 = .int .i64 x ∧ τ 19 = .bool true) ⟨up rfl (up rfl (up rfl (up rfl (up rfl hs0)))), up rfl (up rfl (up rfl (up rfl (up rfl hs1)))), up rfl (up rfl (up rfl (up rfl (up rfl hs5)))), up rfl (up rfl (up rfl (up rfl (up rfl hs6)))), tp, up rfl (up rfl (up rfl (up rfl (up rfl (Eq.trans hs19 (congrArg Value.bool hc1))))))⟩ ?_
      rintro τ ⟨hs0, hs1, hs5, hs6, hs7, hs19⟩
      refine CW.seq ?_
      refine CW.region ?_
      refine RW.soft Wd.a (v := .func (.func 58) #[] #[.pointer (some ⟨fb, 0, none⟩)]) (by exact E.move (AF_ev rfl hs1)) ?_
      refine RW.soft Wd.a (v := .int .i64 x) (by exact E.move (AF_ev rfl (up rfl hs7))) ?_
      have hst := hst.take (.there (.there .here))
      have hst := hst.take (.there (.there .here))
      refine RW.hard Wd.a ?_
      refine H.call (AF_ev rfl (up rfl tp)) Try.func58 nm58 rfl (map1 (AF_ev rfl tp)) (Calls.mono (most_odd hB hm x hst) ?_)
      rintro _ w ⟨rfl, hst⟩
      refine ⟨_, rfl, ?_⟩
      show RW _ _ _ _ _ _ _
      refine RW.soft Wd.a (v := .bool (!(!(ys.contains x)))) (by exact E.not (b := !(ys.contains x)) (AF_ev rfl tp)) ?_
      refine RW.fin (fun τ => τ 0 = .slice (some ⟨g, 0, none⟩) zs.length c ∧ τ 1 = .func (.func 58) #[] #[.pointer (some ⟨fb, 0, none⟩)] ∧ τ 5 = .int .i64 ((i0 : Nat) : Int) ∧ τ 6 = .int .i64 ((j : Nat) : Int) ∧ τ 7 = .int .i64 x ∧ τ 19 = .bool true ∧ τ 29 = .bool (!(!(ys.contains x)))) ⟨up rfl (up rfl (up rfl (up rfl hs0))), up rfl (up rfl (up rfl (up rfl hs1))), up rfl (up rfl (up rfl (up rfl hs5))), up rfl (up rfl (up rfl (up rfl hs6))), up rfl (up rfl (up rfl (up rfl hs7))), up rfl (up rfl (up rfl (up rfl hs19))), tp⟩ ?_
      rintro τ ⟨hs0, hs1, hs5, hs6, hs7, hs19, hs29⟩
      refine CW.cond (AF_ev rfl hs29) (fun hc2 => ?_) (fun hc2 => ?_)
      · have hc2_ := hc2
        try simp only [decide_eq_true_eq, decide_eq_false_iff_not, Bool.and_eq_true, Bool.or_eq_true, Bool.and_eq_false_iff, Bool.or_eq_false_iff, Bool.not_eq_true', Bool.not_eq_false', beq_iff_eq, beq_eq_false_iff_ne, bne_iff_ne, bne_eq_false_iff_eq, ne_eq, Int.not_lt, Int.not_le, gt_iff_lt, ge_iff_le] at hc2_
        refine CW.seq ?_
        refine CW.region ?_
        refine RW.soft Wd.a (v := .slice (some ⟨g, 0, none⟩) zs.length c) (by exact E.move (AF_ev rfl hs0)) ?_
        refine RW.soft Wd.a (v := .int .i64 ((i0 : Nat) : Int)) (by exact E.move (AF_ev rfl (up rfl hs5))) ?_
        refine RW.soft Wd.a (v := .int .i64 x) (by exact E.move (AF_ev rfl (up rfl (up rfl hs7)))) ?_
        refine RW.soft Wd.a (v := .pointer (some ⟨g, i0 * 1, none⟩)) (by exact E.indexAddr (b := g) (o := 0) (l := zs.length) (c := c) (i := ((i0 : Nat) : Int)) Try.underlying58 sz3 (AF_ev rfl (up rfl (up rfl tp))) (AF_ev rfl (up rfl tp)) (by omega) (by omega) (by simp)) ?_
        refine RW.hard Wd.a ?_
        refine H.storeInn (f := ienc) (i := i0) (d := 0) (m := 1) (v := .int .i64 x) (news := [.int .i64 x]) (a' := x) ienc_len (AF_ev rfl tp) (AF_ev rfl (up rfl tp)) hst (.there (.there .here)) hLy (by omega) rfl rfl rfl sz3 (by omega) (rfl) (by simp [Value.oneCell']) fun w hst => ?_
        refine RW.fin (fun τ => τ 0 = .slice (some ⟨g, 0, none⟩) zs.length c ∧ τ 1 = .func (.func 58) #[] #[.pointer (some ⟨fb, 0, none⟩)] ∧ τ 5 = .int .i64 ((i0 : Nat) : Int) ∧ τ 6 = .int .i64 ((j : Nat) : Int) ∧ τ 7 = .int .i64 x ∧ τ 19 = .bool true ∧ τ 29 = .bool true) ⟨u0 (up rfl (up rfl (up rfl (up rfl hs0)))), u0 (up rfl (up rfl (up rfl (up rfl hs1)))), u0 (up rfl (up rfl (up rfl (up rfl hs5)))), u0 (up rfl (up rfl (up rfl (up rfl hs6)))), u0 (up rfl (up rfl (up rfl (up rfl hs7)))), u0 (up rfl (up rfl (up rfl (up rfl hs19)))), u0 (up rfl (up rfl (up rfl (up rfl (Eq.trans hs29 (congrArg Value.bool hc2))))))⟩ ?_
        rintro τ ⟨hs0, hs1, hs5, hs6, hs7, hs19, hs29⟩
        refine CW.region ?_
        refine RW.soft Wd.a (v := .int .i64 ((i0 : Nat) : Int)) (by exact E.move (AF_ev rfl hs5)) ?_
        refine RW.soft Wd.a (v := .int .i64 (((i0 : Nat) : Int) + 1)) (by exact E.add (k := .i64) (a := ((i0 : Nat) : Int)) (b := 1) (AF_ev rfl tp) rfl (show IntKind.i64.wrap (((i0 : Nat) : Int) + 1) = ((i0 : Nat) : Int) + 1 from (by rw [IntWalk.i64_in _ (by omega)]))) ?_
        refine RW.soft Wd.a (v := .int .i64 (((i0 : Nat) : Int) + 1)) (by exact E.assign (AF_ev rfl tp)) ?_
        refine RW.nil ?_
        refine Bl.n ?_
        refine Th.n ?_
        refine CW.region ?_
        refine RW.soft Wd.a (v := .int .i64 ((j : Nat) : Int)) (by exact E.move (AF_ev rfl (up rfl (up rfl (up rfl hs6))))) ?_
        refine RW.soft Wd.a (v := .int .i64 (((j : Nat) : Int) + 1)) (by exact E.add (k := .i64) (a := ((j : Nat) : Int)) (b := 1) (AF_ev rfl tp) rfl (show IntKind.i64.wrap (((j : Nat) : Int) + 1) = ((j : Nat) : Int) + 1 from (by rw [IntWalk.i64_in _ (by omega)]))) ?_
        refine RW.soft Wd.a (v := .int .i64 (((j : Nat) : Int) + 1)) (by exact E.assign (AF_ev rfl tp)) ?_
        refine RW.nil ?_
        refine Th.n ?_
        have hC2 := hC.keep hLx (show ys.contains x = true from by have hq := hc2; cases hz : ys.contains x <;> rw [hz] at hq <;> first | rfl | exact absurd hq (by decide))
        have hst := hst.take (.there (.there .here))
        have hst := hst.take (.there (.there .here))
        have hst := hst.take (.there (.there .here))
        exact ⟨zs.length - (j + 1), by omega, j + 1, i0 + 1, (L.set i0 x), hC2, rfl, up rfl (up rfl (up rfl (up rfl (up rfl (up rfl hs0))))), up rfl (up rfl (up rfl (up rfl (up rfl (up rfl hs1))))), (int_eq (a := ((i0 : Nat) : Int) + 1) (up rfl (up rfl (up rfl tp))) (by omega)), (int_eq (a := ((j : Nat) : Int) + 1) tp (by omega)), hst⟩
      · have hc2_ := hc2
        try simp only [decide_eq_true_eq, decide_eq_false_iff_not, Bool.and_eq_true, Bool.or_eq_true, Bool.and_eq_false_iff, Bool.or_eq_false_iff, Bool.not_eq_true', Bool.not_eq_false', beq_iff_eq, beq_eq_false_iff_ne, bne_iff_ne, bne_eq_false_iff_eq, ne_eq, Int.not_lt, Int.not_le, gt_iff_lt, ge_iff_le] at hc2_
        refine CW.skip ?_
        refine Bl.n ?_
        refine Th.n ?_
        refine CW.region ?_
        refine RW.soft Wd.a (v := .int .i64 ((j : Nat) : Int)) (by exact E.move (AF_ev rfl hs6)) ?_
        refine RW.soft Wd.a (v := .int .i64 (((j : Nat) : Int) + 1)) (by exact E.add (k := .i64) (a := ((j : Nat) : Int)) (b := 1) (AF_ev rfl tp) rfl (show IntKind.i64.wrap (((j : Nat) : Int) + 1) = ((j : Nat) : Int) + 1 from (by rw [IntWalk.i64_in _ (by omega)]))) ?_
        refine RW.soft Wd.a (v := .int .i64 (((j : Nat) : Int) + 1)) (by exact E.assign (AF_ev rfl tp)) ?_
        refine RW.nil ?_
        refine Th.n ?_
        have hC2 := hC.skip hLx (show ys.contains x = false from by have hq := hc2; cases hz : ys.contains x <;> rw [hz] at hq <;> first | rfl | exact absurd hq (by decide))
        have hst := hst.take (.there .here)
        have hst := hst.take (.there .here)
        have hst := hst.take (.there (.there .here))
        exact ⟨zs.length - (j + 1), by omega, j + 1, i0, L, hC2, rfl, up rfl (up rfl (up rfl hs0)), up rfl (up rfl (up rfl hs1)), up rfl (up rfl (up rfl hs5)), (int_eq (a := ((j : Nat) : Int) + 1) tp (by omega)), hst⟩
    · have hc1_ := hc1
      try simp only [decide_eq_true_eq, decide_eq_false_iff_not, Bool.and_eq_true, Bool.or_eq_true, Bool.and_eq_false_iff, Bool.or_eq_false_iff, Bool.not_eq_true', Bool.not_eq_false', beq_iff_eq, beq_eq_false_iff_ne, bne_iff_ne, bne_eq_false_iff_eq, ne_eq, Int.not_lt, Int.not_le, gt_iff_lt, ge_iff_le] at hc1_
      refine CW.exit ?_
      refine Th.x ?_
      refine Th.x ?_
      refine Bl.x ?_
      refine Th.n ?_
      refine CW.seq ?_
      have hCl := hC.len
      have hClt := hC.lt
      have hCle := hC.le
      have hdn := hC.done (by omega)
      have hdl : (zs.filter (fun n => ys.contains n)).length = i0 := by rw [← hdn, List.length_take]; omega
      have hst := hst.ownCut (i := i0) (by omega)
      rw [Nat.mul_one, ienc_take, hdn] at hst
      refine CW.region ?_
      refine RW.soft Wd.a (v := .slice (some ⟨g, 0, none⟩) zs.length c) (by exact E.move (AF_ev rfl hs0)) ?_
      refine RW.soft Wd.a (v := .int .i64 ((i0 : Nat) : Int)) (by exact E.move (AF_ev rfl (up rfl hs5))) ?_
      obtain ⟨o3, ho3⟩ : ∃ z, z = if i0 = c then 0 else 0 + i0 * 1 := ⟨_, rfl⟩
      have ho1_ := ho3
      refine RW.soft Wd.a (v := .slice (some ⟨g, o3, none⟩) (zs.length - i0) (c - i0)) (by exact E.slice (i := i0) (j := zs.length) Try.underlying58 sz3 (AF_ev rfl (up rfl tp)) (AF_ev rfl tp) rfl (by omega) (by omega) (by rw [ho3])) ?_
      refine RW.hard Wd.a ?_
      refine H.clearIn (b := g) (o := o3) (k := i0) (c := c) (m := zs.length - i0) (sz := 1) Try.underlying58 zr3 rfl (by omega) (zc_one _) (AF_ev rfl tp) hst .here (by right; rw [ho1_]; split <;> omega) (by right; rw [ho1_]; split <;> omega) fun w hst => ?_
      refine RW.fin (fun τ => τ 0 = .slice (some ⟨g, 0, none⟩) zs.length c ∧ τ 1 = .func (.func 58) #[] #[.pointer (some ⟨fb, 0, none⟩)] ∧ τ 5 = .int .i64 ((i0 : Nat) : Int) ∧ τ 6 = .int .i64 ((j : Nat) : Int) ∧ τ 19 = .bool false) ⟨u0 (up rfl (up rfl (up rfl hs0))), u0 (up rfl (up rfl (up rfl hs1))), u0 (up rfl (up rfl (up rfl hs5))), u0 (up rfl (up rfl (up rfl hs6))), u0 (up rfl (up rfl (up rfl (Eq.trans hs19 (congrArg Value.bool hc1)))))⟩ ?_
      rintro τ ⟨hs0, hs1, hs5, hs6, hs19⟩
      refine CW.seq ?_
      refine CW.region ?_
      refine RW.soft Wd.a (v := .slice (some ⟨g, 0, none⟩) zs.length c) (by exact E.move (AF_ev rfl hs0)) ?_
      refine RW.soft Wd.a (v := .int .i64 ((i0 : Nat) : Int)) (by exact E.move (AF_ev rfl (up rfl hs5))) ?_
      refine RW.soft Wd.a (v := .slice (some ⟨g, 0, none⟩) i0 c) (by exact E.slice (i := 0) (j := i0) Try.underlying58 sz3 (AF_ev rfl (up rfl tp)) rfl (AF_ev rfl tp) (by omega) (by omega) (by simp)) ?_
      refine RW.soft Wd.a (v := .slice (some ⟨g, 0, none⟩) i0 c) (by exact E.assign (AF_ev rfl tp)) ?_
      refine RW.fin (fun τ => τ 0 = .slice (some ⟨g, 0, none⟩) zs.length c ∧ τ 1 = .func (.func 58) #[] #[.pointer (some ⟨fb, 0, none⟩)] ∧ τ 4 = .slice (some ⟨g, 0, none⟩) i0 c ∧ τ 5 = .int .i64 ((i0 : Nat) : Int) ∧ τ 6 = .int .i64 ((j : Nat) : Int) ∧ τ 19 = .bool false) ⟨up rfl (up rfl (up rfl (up rfl hs0))), up rfl (up rfl (up rfl (up rfl hs1))), tp, up rfl (up rfl (up rfl (up rfl hs5))), up rfl (up rfl (up rfl (up rfl hs6))), up rfl (up rfl (up rfl (up rfl hs19)))⟩ ?_
      rintro τ ⟨hs0, hs1, hs4, hs5, hs6, hs19⟩
      refine CW.ret ?_
      refine ret1 (v := .slice (some ⟨g, 0, none⟩) i0 c) rfl (by exact (.tmp (AF_ev rfl hs4) .nil)) ?_
      have hst := hst.take (.there (.there .here))
      have hst := hst.take (.there (.there .here))
      have hst := hst.take (.there (.there .here))
      exact ⟨_, rfl, hdl.symm, hst⟩
  · skip
    refine CW.region ?_
    refine RW.soft Wd.a (v := .slice (some ⟨g, 0, none⟩) zs.length c) (by exact E.move (AF_ev rfl hs0)) ?_
    refine RW.soft Wd.a (v := .func (.func 58) #[] #[.pointer (some ⟨fb, 0, none⟩)]) (by exact E.move (AF_ev rfl (up rfl hs1))) ?_
    have hst := hst.take (.there (.there .here))
    have hst := hst.take (.there .here)
    have hst := hst.take (.there (.there .here))
    refine RW.hard Wd.a ?_
    refine H.call0 Try.func74 nm74 rfl (map2 (AF_ev rfl (up rfl tp)) (AF_ev rfl tp)) (Calls.mono (most_index_no (own_TI (by first | rfl | omega | simp)) hl hB hm hany hst) ?_)
    rintro _ w ⟨rfl, hst⟩
    refine ⟨_, rfl, ?_⟩
    show RW _ _ _ _ _ _ _
    refine RW.soft Wd.a (v := .int .i64 (-1)) (by exact E.assign (AF_ev rfl tp)) ?_
    refine RW.fin (fun τ => τ 0 = .slice (some ⟨g, 0, none⟩) zs.length c ∧ τ 1 = .func (.func 58) #[] #[.pointer (some ⟨fb, 0, none⟩)] ∧ τ 4 = .slice none 0 0 ∧ τ 5 = .int .i64 (-1)) ⟨up rfl (up rfl (up rfl (up rfl hs0))), up rfl (up rfl (up rfl (up rfl hs1))), up rfl (up rfl (up rfl (up rfl hs4))), tp⟩ ?_
    rintro τ ⟨hs0, hs1, hs4, hs5⟩
    refine CW.seq ?_
    refine CW.seq ?_
    refine CW.region ?_
    refine RW.soft Wd.a (v := .int .i64 (-1)) (by exact E.move (AF_ev rfl hs5)) ?_
    refine RW.soft Wd.a (v := .bool true) (by exact E.b (a := (-1) == (-1)) (E.eql (k := .i64) (a := -1) (b := -1) (AF_ev rfl tp) rfl) (by decide)) ?_
    refine RW.fin (fun τ => τ 0 = .slice (some ⟨g, 0, none⟩) zs.length c ∧ τ 1 = .func (.func 58) #[] #[.pointer (some ⟨fb, 0, none⟩)] ∧ τ 4 = .slice none 0 0 ∧ τ 5 = .int .i64 (-1) ∧ τ 12 = .bool true) ⟨up rfl (up rfl hs0), up rfl (up rfl hs1), up rfl (up rfl hs4), up rfl (up rfl hs5), tp⟩ ?_
    rintro τ ⟨hs0, hs1, hs4, hs5, hs12⟩
    refine CW.condT (AF_ev rfl hs12) ?_
    refine CW.seq ?_
    refine CW.region ?_
    refine RW.soft Wd.a (v := .slice (some ⟨g, 0, none⟩) zs.length c) (by exact E.move (AF_ev rfl hs0)) ?_
    refine RW.soft Wd.a (v := .slice (some ⟨g, 0, none⟩) zs.length c) (by exact E.assign (AF_ev rfl tp)) ?_
    refine RW.fin (fun τ => τ 0 = .slice (some ⟨g, 0, none⟩) zs.length c ∧ τ 1 = .func (.func 58) #[] #[.pointer (some ⟨fb, 0, none⟩)] ∧ τ 4 = .slice (some ⟨g, 0, none⟩) zs.length c ∧ τ 5 = .int .i64 (-1) ∧ τ 12 = .bool true) ⟨up rfl (up rfl hs0), up rfl (up rfl hs1), tp, up rfl (up rfl hs5), up rfl (up rfl hs12)⟩ ?_
    rintro τ ⟨hs0, hs1, hs4, hs5, hs12⟩
    refine CW.ret ?_
    refine Th.r ?_
    refine ret1 (v := .slice (some ⟨g, 0, none⟩) zs.length c) rfl (by exact (.tmp (AF_ev rfl hs4) .nil)) ?_
    have hst := hst.take (.there (.there .here))
    have hst := hst.take (.there .here)
    have hst := hst.take (.there (.there .here))
    have hz : zs.filter (fun n => ys.contains n) = zs := filter_all (fun _ => rfl) hany
    exact ⟨_, rfl, by rw [hz], by rw [hz]; exact hst⟩

theorem q_Most {p : Pers} {w : World} {R : List Assn} {A : Assn} {X : Option Addr} {c : Nat} {zs : List Int} (hA : TI p A (.slice X zs.length c) zs) (hl : zs.length ≤ 1000000) {B : Assn} {Y : Option Addr} {d : Nat} {ys : List Int} (hB : TI p B (.slice Y ys.length d) ys) (hm : ys.length ≤ 1000000) (h0 : 0 < zs.length) (hst : St p w (A :: B :: R)) :
    Calls Try.prog 41 #[.slice X zs.length c, .slice Y ys.length d] w fun e w => e = .returned (.bool (decide (((cntOf zs ys : Nat) : Int) > ((zs.length : Nat) : Int) / 2))) ∧ St p w (A :: B :: R) := by
  refine enter Try.func41 rfl (by simp) (n := 16) rfl fun τ hτ => ?_
  have hs0 : τ 0 = .slice X zs.length c := hτ 0 (by simp)
  have hs1 : τ 1 = .slice Y ys.length d := hτ 1 (by simp)
  clear hτ
  refine CW.seq ?_
  refine CW.region ?_
  refine RW.hard Wd.a ?_
  refine H.box (v := .slice Y ys.length d) (AF_ev rfl hs1) hst fun b1 w hst => ?_
  refine RW.soft Wd.a (v := .bool false) (by exact E.assign rfl) ?_
  refine RW.fin (fun τ => τ 0 = .slice X zs.length c ∧ τ 1 = .slice Y ys.length d ∧ τ 3 = .pointer (some ⟨b1, 0, none⟩) ∧ τ 4 = .bool false) ⟨up rfl (up rfl hs0), up rfl (up rfl hs1), up rfl tp, tp⟩ ?_
  rintro τ ⟨hs0, hs1, hs3, hs4⟩
  refine CW.seq ?_
  refine CW.region ?_
  refine RW.soft Wd.a (v := .slice X zs.length c) (by exact E.move (AF_ev rfl hs0)) ?_
  have hst := hst.take (.there .here)
  refine RW.hard Wd.a ?_
  refine H.call0 Try.func53 nm53 rfl (map1 (AF_ev rfl tp)) (Calls.mono (clone_ints hA (ienc_ones _) (by omega) hst) ?_)
  rintro _ w ⟨vX2, rfl, hnX2, hst⟩
  obtain ⟨X2, c3, rfl, hcX2, hmX2, hlX2, hbX2⟩ := hst.shape
  refine ⟨_, rfl, ?_⟩
  show RW _ _ _ _ _ _ _
  refine RW.soft Wd.a (v := .func (.func 58) #[] #[.pointer (some ⟨b1, 0, none⟩)]) (by exact E.makeFunc map0 (map1 (AF_ev rfl (up rfl (up rfl hs3))))) ?_
  have hst := hst.take (.there (.there (.there .here)))
  have hst := hst.take (.there (.there (.there .here)))
  have hst := hst.take (.there (.there .here))
  obtain ⟨g, hg⟩ := hbX2 (by omega)
  subst hg
  refine RW.hard Wd.a ?_
  refine H.call0 Try.func57 nm57 rfl (map2 (AF_ev rfl (up rfl tp)) (AF_ev rfl tp)) (Calls.mono (most_delete hl hcX2 hB hm hst) ?_)
  rintro _ w ⟨n2, rfl, hn2, hst⟩
  refine ⟨_, rfl, ?_⟩
  show RW _ _ _ _ _ _ _
  refine RW.soft Wd.a (v := .slice (some ⟨g, 0, none⟩) n2 c3) (by exact E.assign (AF_ev rfl tp)) ?_
  refine RW.fin (fun τ => τ 0 = .slice X zs.length c ∧ τ 1 = .slice Y ys.length d ∧ τ 3 = .pointer (some ⟨b1, 0, none⟩) ∧ τ 4 = .bool false ∧ τ 5 = .slice (some ⟨g, 0, none⟩) n2 c3) ⟨up rfl (up rfl (up rfl (up rfl (up rfl hs0)))), up rfl (up rfl (up rfl (up rfl (up rfl hs1)))), up rfl (up rfl (up rfl (up rfl (up rfl hs3)))), up rfl (up rfl (up rfl (up rfl (up rfl hs4)))), tp⟩ ?_
  rintro τ ⟨hs0, hs1, hs3, hs4, hs5⟩
  refine CW.seq ?_
  refine CW.region ?_
  refine RW.soft Wd.a (v := .slice (some ⟨g, 0, none⟩) n2 c3) (by exact E.move (AF_ev rfl hs5)) ?_
  refine RW.soft Wd.a (v := .int .i64 ((n2 : Nat) : Int)) (by exact E.lenS (p := (some ⟨g, 0, none⟩)) (l := n2) (c := c3) Try.underlying58 (AF_ev rfl tp)) ?_
  refine RW.soft Wd.a (v := .slice X zs.length c) (by exact E.move (AF_ev rfl (up rfl (up rfl hs0)))) ?_
  refine RW.soft Wd.a (v := .int .i64 ((zs.length : Nat) : Int)) (by exact E.lenS (p := X) (l := zs.length) (c := c) Try.underlying58 (AF_ev rfl tp)) ?_
  refine RW.soft Wd.a (v := .int .i64 (((zs.length : Nat) : Int) / 2)) (by exact E.quo (k := .i64) (a := ((zs.length : Nat) : Int)) (b := 2) (AF_ev rfl tp) rfl (by omega) (by rw [Int.tdiv_eq_ediv_of_nonneg (by omega)]; exact (show IntKind.i64.wrap (((zs.length : Nat) : Int) / 2) = ((zs.length : Nat) : Int) / 2 from (by rw [IntWalk.i64_in _ (by omega)])))) ?_
  refine RW.soft Wd.a (v := .bool (decide (((n2 : Nat) : Int) > (((zs.length : Nat) : Int) / 2)))) (by exact E.gtr (k := .i64) (a := ((n2 : Nat) : Int)) (b := ((zs.length : Nat) : Int) / 2) (AF_ev rfl (up rfl (up rfl (up rfl tp)))) (AF_ev rfl tp)) ?_
  refine RW.soft Wd.a (v := .bool (decide (((n2 : Nat) : Int) > (((zs.length : Nat) : Int) / 2)))) (by exact E.assign (AF_ev rfl tp)) ?_
  refine RW.fin (fun τ => τ 0 = .slice X zs.length c ∧ τ 1 = .slice Y ys.length d ∧ τ 3 = .pointer (some ⟨b1, 0, none⟩) ∧ τ 4 = .bool (decide (((n2 : Nat) : Int) > (((zs.length : Nat) : Int) / 2))) ∧ τ 5 = .slice (some ⟨g, 0, none⟩) n2 c3) ⟨up rfl (up rfl (up rfl (up rfl (up rfl (up rfl (up rfl hs0)))))), up rfl (up rfl (up rfl (up rfl (up rfl (up rfl (up rfl hs1)))))), up rfl (up rfl (up rfl (up rfl (up rfl (up rfl (up rfl hs3)))))), tp, up rfl (up rfl (up rfl (up rfl (up rfl (up rfl (up rfl hs5))))))⟩ ?_
  rintro τ ⟨hs0, hs1, hs3, hs4, hs5⟩
  refine CW.ret ?_
  refine ret1 (v := .bool (decide (((n2 : Nat) : Int) > (((zs.length : Nat) : Int) / 2)))) rfl (by exact (.tmp (AF_ev rfl hs4) .nil)) ?_
  have hst := hst.take (.there (.there .here))
  have hst := hst.take (.there (.there (.there .here)))
  have hst := (hst.take (.there (.there .here))).drop
  have hst := (hst.take (.there (.there .here))).drop
  exact ⟨by rw [hn2]; rfl, hst⟩
end Go.Proofs.Ytjagffnbobnofaa
