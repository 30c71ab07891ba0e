/- The calls of the package keyring, walked through operation by operation. -/
import Derived.Test.YtdlcjoonhojpfaaK27
import Derived.Test.YtdlcjoonhojpfaaK26
import Derived.Test.YtdlcjoonhojpfaaK18
import Derived.Test.YtdlcjoonhojpfaaK14
import Derived.Test.YtdlcjoonhojpfaaK13
import Derived.Test.YtdlcjoonhojpfaaK12
import Derived.Test.YtdlcjoonhojpfaaK11
import Derived.Test.YtdlcjoonhojpfaaK10
import Derived.Test.YtdlcjoonhojpfaaK9
import Derived.Test.YtdlcjoonhojpfaaK8
import Derived.Test.YtdlcjoonhojpfaaK7
import Derived.Test.YtdlcjoonhojpfaaK6
import Derived.Test.YtdlcjoonhojpfaaK5
import Derived.Test.YtdlcjoonhojpfaaK4
import Derived.Test.YtdlcjoonhojpfaaK3
import Derived.Test.YtdlcjoonhojpfaaK22
import Derived.Test.YtdlcjoonhojpfaaK25
namespace Go.Proofs.Ytdlcjoonhojpfaa
open Go.RowKit Go.SL Go.K13
attribute [local irreducible] Go.SL.RW Go.SL.CW Go.SL.RD Go.SL.Hd Go.SL.St
set_option linter.unusedVariables false
set_option linter.unusedSimpArgs false

theorem nm62 : (Try.f62.name == "runtime.NumGoroutine") = false := by kernel_rfl
theorem nm63 : (Try.f63.name == "runtime.NumGoroutine") = false := by kernel_rfl

theorem prog_OfV_good {p : Pers} {w : World} {R : List Assn} {v : Value} {ks : RK} (hs : Small ks) (hb : badK ks = false) (hst : St p w (RowsV v ks :: R)) :
    Calls Try.prog 62 #[v] w fun e w => ∃ b, e = .returned (.tuple #[.pointer (some ⟨b, 0, none⟩), .int .i64 0]) ∧ St p w (KeysV 127 b ks :: RowsV v ks :: R) := by
  obtain ⟨rs, hv, s⟩ := rowsR hst
  subst hv
  obtain ⟨X, c, rfl, _⟩ := (rowsR_tells (p := p)).shape s
  refine Calls.mono (prog_Of_good rowsR_tells (small_view hs).1 (small_view hs).2 hb s) ?_
  rintro _ w ⟨b, rfl, s2⟩
  exact ⟨b, rfl, (rowsB rfl (s2.take (.there .here))).take (.there .here)⟩
theorem prog_OfV_bad {p : Pers} {w : World} {R : List Assn} {v : Value} {ks : RK} (hs : Small ks) (hb : badK ks = true) (hst : St p w (RowsV v ks :: R)) :
    Calls Try.prog 62 #[v] w fun e w => e = .returned (.tuple #[.pointer none, .int .i64 1]) ∧ St p w (RowsV v ks :: R) := by
  obtain ⟨rs, hv, s⟩ := rowsR hst
  subst hv
  obtain ⟨X, c, rfl, _⟩ := (rowsR_tells (p := p)).shape s
  refine Calls.mono (prog_Of_bad rowsR_tells (small_view hs).1 (small_view hs).2 hb s) ?_
  rintro _ w ⟨rfl, s2⟩
  exact ⟨rfl, rowsB rfl s2⟩
theorem ref_SameE {p : Pers} {w : World} {R : List Assn} {A : Assn} {v u : Value} {rs : List RingM} (hA : Tells13 p A u rs) (hs : Small (rs.map RingM.view)) (hst : St p w (RowsV v (rs.map RingM.view) :: A :: R)) :
    Calls Try.prog 48 #[v, u] w fun e w => e = .returned (.bool true) ∧ St p w (A :: R) := by
  obtain ⟨ra, hv, s⟩ := rowsR hst
  refine Calls.mono (ref_SameT rowsR_tells hA hv (by rw [hv]; exact hs) s) ?_
  rintro _ w ⟨rfl, s2⟩
  exact ⟨rfl, s2.drop⟩

theorem of_walk {p : Pers} {w : World} {R : List Assn} {X : Option Addr} {c : Nat} {ls : List RingM} (hlm : ls.length ≤ c) (hcm : c ≤ maxLen) (hL : Las p 2 (.slice X ls.length c) ls.length (ls.flatMap RingM.enc)) (hR : ∀ r ∈ ls, Las p 34 (.slice r.X r.vers.length r.c) r.vers.length (r.vers.flatMap Ver.enc)) (hRl : ∀ r ∈ ls, r.vers.length ≤ 9223372036854775807) (hst : St p w (R)) :
    Calls Try.prog 14 #[.slice X ls.length c] w fun e w => e = .returned (.bool true) ∧ St p w R := by
  have hlb : ls.length ≤ 9223372036854775807 := by simp only [maxLen] at hcm; omega
  refine enter Try.func14 rfl (by simp) (n := 100) rfl fun τ hτ => ?_
  have hs0 : τ 0 = .slice X ls.length c := hτ 0 (by simp)
  clear hτ
  refine CW.seq ?_
  refine CW.region ?_
  refine RW.soft Wd.a (v := .bool false) (by exact E.assign rfl) ?_
  refine RW.fin (fun τ => τ 0 = .slice X ls.length c ∧ τ 2 = .bool false) ⟨up rfl hs0, tp⟩ ?_
  rintro τ ⟨hs0, hs2⟩
  refine CW.seq ?_
  refine CW.region ?_
  refine RW.hard Wd.a ?_
  refine H.call0 Try.func38 nm38 rfl map0 (Calls.mono (shown13 hst) ?_)
  rintro _ w ⟨rfl, hst⟩
  refine ⟨_, rfl, ?_⟩
  show RW _ _ _ _ _ _ _
  refine RW.soft Wd.a (v := .bool true) (by exact E.assign (AF_ev rfl tp)) ?_
  refine RW.fin (fun τ => τ 0 = .slice X ls.length c ∧ τ 2 = .bool false ∧ τ 3 = .bool true) ⟨up rfl (up rfl hs0), up rfl (up rfl hs2), tp⟩ ?_
  rintro τ ⟨hs0, hs2, hs3⟩
  refine CW.seq ?_
  refine CW.seq ?_
  refine CW.region ?_
  refine RW.soft Wd.a (v := .slice X ls.length c) (by exact E.move (AF_ev rfl hs0)) ?_
  refine RW.soft Wd.a (v := .int .i64 ((ls.length : Nat) : Int)) (by exact E.lenS (p := X) (l := ls.length) (c := c) Try.underlying71 (AF_ev rfl tp)) ?_
  refine RW.soft Wd.a (v := .bool (decide (((ls.length : Nat) : Int) > 12))) (by exact E.gtr (k := .i64) (a := ((ls.length : Nat) : Int)) (b := 12) (AF_ev rfl tp) rfl) ?_
  refine RW.fin (fun τ => τ 0 = .slice X ls.length c ∧ τ 2 = .bool false ∧ τ 3 = .bool true ∧ τ 15 = .bool (decide (((ls.length : Nat) : Int) > 12))) ⟨up rfl (up rfl (up rfl hs0)), up rfl (up rfl (up rfl hs2)), up rfl (up rfl (up rfl hs3)), tp⟩ ?_
  rintro τ ⟨hs0, hs2, hs3, hs15⟩
  have hst := hst.emp
  have hT := las_tells13 hL hR
  refine CW.cutW (fun τ w => ∃ (rs : List RingM) (Y : Option Addr) (n : Nat) (d0 : Nat), n = rs.length ∧ rs.length ≤ 12 ∧ Tells13 p Emp (.slice Y n d0) rs ∧ τ 0 = .slice Y n d0 ∧ τ 3 = .bool true ∧ St p w (Emp :: R)) ?_ ?_
  · skip
    refine CW.cond (AF_ev rfl hs15) (fun hc1 => ?_) (fun hc1 => ?_)
    · have hc1_ := hc1
      try simp only [decide_eq_true_eq, decide_eq_false_iff_not, Bool.and_eq_true, Bool.or_eq_true, Bool.and_eq_false_iff, Bool.or_eq_false_iff, Bool.not_eq_true', Bool.not_eq_false', beq_iff_eq, beq_eq_false_iff_ne, bne_iff_ne, bne_eq_false_iff_eq, ne_eq, Int.not_lt, Int.not_le, gt_iff_lt, ge_iff_le] at hc1_
      obtain ⟨bl, ol, rfl, hcl⟩ := hT.place (hst.take .here) (by omega)
      refine CW.region ?_
      refine RW.soft Wd.a (v := .slice (some ⟨bl, ol, none⟩) ls.length c) (by exact E.move (AF_ev rfl hs0)) ?_
      refine RW.soft Wd.a (v := .slice (some ⟨bl, ol, none⟩) 12 c) (by exact E.slice (i := 0) (j := 12) Try.underlying71 sz84 (AF_ev rfl tp) rfl rfl (by omega) (by omega) (by simp)) ?_
      refine RW.soft Wd.a (v := .slice (some ⟨bl, ol, none⟩) 12 c) (by exact E.assign (AF_ev rfl tp)) ?_
      refine RW.nil ?_
      have h12l : 12 ≤ ls.length := by omega
      have hln : (ls.take 12).length = 12 := by rw [List.length_take]; omega
      have hT2 := tells_take 12 hT h12l
      exact ⟨rfl, (ls.take 12), (some ⟨bl, ol, none⟩), 12, c, hln.symm, (by omega), hT2, tp, up rfl (up rfl (up rfl hs3)), hst⟩
    · have hc1_ := hc1
      try simp only [decide_eq_true_eq, decide_eq_false_iff_not, Bool.and_eq_true, Bool.or_eq_true, Bool.and_eq_false_iff, Bool.or_eq_false_iff, Bool.not_eq_true', Bool.not_eq_false', beq_iff_eq, beq_eq_false_iff_ne, bne_iff_ne, bne_eq_false_iff_eq, ne_eq, Int.not_lt, Int.not_le, gt_iff_lt, ge_iff_le] at hc1_
      refine CW.skip ?_
      exact ⟨rfl, ls, X, ls.length, c, rfl, (by omega), hT, hs0, hs3, hst⟩
  rintro τ w ⟨rs, Y, n, d0, hn12, h12, hA, hs0, hs3, hst⟩
  subst hn12
  refine CW.seq ?_
  refine CW.seq ?_
  refine CW.region ?_
  refine RW.soft Wd.a (v := .int .i64 0) (by exact E.assign rfl) ?_
  refine RW.fin (fun τ => τ 0 = .slice Y rs.length d0 ∧ τ 3 = .bool true ∧ τ 4 = .int .i64 0) ⟨up rfl hs0, up rfl hs3, tp⟩ ?_
  rintro τ ⟨hs0, hs3, hs4⟩
  refine CW.block ?_
  refine CW.loop (fun (k : Nat) (τ : Fr) (w : World) => ∃ (j : Nat), (∀ r ∈ rs.take j, r.vers.length ≤ 8) ∧ j ≤ rs.length ∧ k = rs.length - j ∧ τ 0 = .slice Y rs.length d0 ∧ τ 3 = .bool true ∧ τ 4 = .int .i64 ((j : Nat) : Int) ∧ St p w (Emp :: R)) (rs.length - 0) ⟨0, (by simp), by omega, rfl, hs0, hs3, (int_eq (a := 0) hs4 (by omega)), hst⟩ ?_
  clear hst
  rintro k τ w ⟨j, h8a, hj, hkj, hs0, hs3, hs4, hst⟩
  refine CW.seq ?_
  refine CW.seq ?_
  refine CW.region ?_
  refine RW.soft Wd.a (v := .int .i64 ((j : Nat) : Int)) (by exact E.move (AF_ev rfl hs4)) ?_
  refine RW.soft Wd.a (v := .slice Y rs.length d0) (by exact E.move (AF_ev rfl (up rfl hs0))) ?_
  refine RW.soft Wd.a (v := .int .i64 ((rs.length : Nat) : Int)) (by exact E.lenS (p := Y) (l := rs.length) (c := d0) Try.underlying71 (AF_ev rfl tp)) ?_
  refine RW.soft Wd.a (v := .bool (decide (((j : Nat) : Int) < ((rs.length : Nat) : Int)))) (by exact E.lss (k := .i64) (a := ((j : Nat) : Int)) (b := ((rs.length : Nat) : Int)) (AF_ev rfl (up rfl (up rfl tp))) (AF_ev rfl tp)) ?_
  refine RW.fin (fun τ => τ 0 = .slice Y rs.length d0 ∧ τ 3 = .bool true ∧ τ 4 = .int .i64 ((j : Nat) : Int) ∧ τ 21 = .bool (decide (((j : Nat) : Int) < ((rs.length : Nat) : Int)))) ⟨up rfl (up rfl (up rfl (up rfl hs0))), up rfl (up rfl (up rfl (up rfl hs3))), up rfl (up rfl (up rfl (up rfl hs4))), tp⟩ ?_
  rintro τ ⟨hs0, hs3, hs4, hs21⟩
  refine CW.cond (AF_ev rfl hs21) (fun hc2 => ?_) (fun hc2 => ?_)
  · have hc2_ := hc2
    try simp only [decide_eq_true_eq, decide_eq_false_iff_not, Bool.and_eq_true, Bool.or_eq_true, Bool.and_eq_false_iff, Bool.or_eq_false_iff, Bool.not_eq_true', Bool.not_eq_false', beq_iff_eq, beq_eq_false_iff_ne, bne_iff_ne, bne_eq_false_iff_eq, ne_eq, Int.not_lt, Int.not_le, gt_iff_lt, ge_iff_le] at hc2_
    refine CW.skip ?_
    refine Th.n ?_
    refine CW.seq ?_
    refine CW.block ?_
    refine CW.seq ?_
    have hjl : j < rs.length := by omega
    obtain ⟨b0, o0, rfl, hcell0⟩ := hA.place (hst.take .here) (by omega)
    obtain ⟨⟨o, Z, d, vs⟩, hr⟩ : ∃ z, rs[j]? = some z := ⟨rs[j], List.getElem?_eq_getElem hjl⟩
    refine CW.region ?_
    refine RW.soft Wd.a (v := .slice (some ⟨b0, o0, none⟩) rs.length d0) (by exact E.move (AF_ev rfl hs0)) ?_
    refine RW.soft Wd.a (v := .int .i64 ((j : Nat) : Int)) (by exact E.move (AF_ev rfl (up rfl hs4))) ?_
    refine RW.soft Wd.a (v := .pointer (some ⟨b0, o0 + j * 2, none⟩)) (by exact E.indexAddr (b := b0) (o := o0) (l := rs.length) (c := d0) (i := ((j : Nat) : Int)) Try.underlying71 sz84 (AF_ev rfl (up rfl tp)) (AF_ev rfl tp) (by omega) (by omega) (by simp)) ?_
    refine RW.soft Wd.a (v := .pointer (some ⟨b0, o0 + j * 2 + 1, none⟩)) (by exact E.fieldAddr (b := b0) (o := o0 + j * 2) (f := { name := "L", type := 82, offset := 1, embedded := false, tag := "", pkgPath := "", byteOffset := 8 }) (AF_ev rfl tp) Try.underlying84 rfl sz82 rfl) ?_
    refine RW.soft Wd.a (v := .slice Z vs.length d) (by exact E.load (a := ⟨b0, o0 + j * 2 + 1, none⟩) Try.underlying82 rfl (AF_ev rfl tp) (by rw [Nat.add_assoc]; exact hcell0 (hst.take .here) _ _ (flat_get (j := 1) RingM.enc_len hr (rfl)))) ?_
    refine RW.soft Wd.a (v := .int .i64 ((vs.length : Nat) : Int)) (by exact E.lenS (p := Z) (l := vs.length) (c := d) Try.underlying82 (AF_ev rfl tp)) ?_
    refine RW.soft Wd.a (v := .bool (decide (((vs.length : Nat) : Int) > 8))) (by exact E.gtr (k := .i64) (a := ((vs.length : Nat) : Int)) (b := 8) (AF_ev rfl tp) rfl) ?_
    refine RW.fin (fun τ => τ 0 = .slice (some ⟨b0, o0, none⟩) rs.length d0 ∧ τ 3 = .bool true ∧ τ 4 = .int .i64 ((j : Nat) : Int) ∧ τ 21 = .bool true ∧ τ 30 = .bool (decide (((vs.length : Nat) : Int) > 8))) ⟨up rfl (up rfl (up rfl (up rfl (up rfl (up rfl (up rfl hs0)))))), up rfl (up rfl (up rfl (up rfl (up rfl (up rfl (up rfl hs3)))))), up rfl (up rfl (up rfl (up rfl (up rfl (up rfl (up rfl hs4)))))), up rfl (up rfl (up rfl (up rfl (up rfl (up rfl (up rfl (Eq.trans hs21 (congrArg Value.bool hc2)))))))), tp⟩ ?_
    rintro τ ⟨hs0, hs3, hs4, hs21, hs30⟩
    refine CW.cond (AF_ev rfl hs30) (fun hc3 => ?_) (fun hc3 => ?_)
    · have hc3_ := hc3
      try simp only [decide_eq_true_eq, decide_eq_false_iff_not, Bool.and_eq_true, Bool.or_eq_true, Bool.and_eq_false_iff, Bool.or_eq_false_iff, Bool.not_eq_true', Bool.not_eq_false', beq_iff_eq, beq_eq_false_iff_ne, bne_iff_ne, bne_eq_false_iff_eq, ne_eq, Int.not_lt, Int.not_le, gt_iff_lt, ge_iff_le] at hc3_
      refine CW.seq ?_
      refine CW.region ?_
      refine RW.soft Wd.a (v := .bool true) (by exact E.move (AF_ev rfl hs3)) ?_
      refine RW.soft Wd.a (v := .bool true) (by exact E.assign (AF_ev rfl tp)) ?_
      refine RW.fin (fun τ => τ 0 = .slice (some ⟨b0, o0, none⟩) rs.length d0 ∧ τ 2 = .bool true ∧ τ 3 = .bool true ∧ τ 4 = .int .i64 ((j : Nat) : Int) ∧ τ 21 = .bool true ∧ τ 30 = .bool true) ⟨up rfl (up rfl hs0), tp, up rfl (up rfl hs3), up rfl (up rfl hs4), up rfl (up rfl hs21), up rfl (up rfl (Eq.trans hs30 (congrArg Value.bool hc3)))⟩ ?_
      rintro τ ⟨hs0, hs2, hs3, hs4, hs21, hs30⟩
      refine CW.ret ?_
      refine Bl.r ?_
      refine Th.r ?_
      refine Th.r ?_
      refine Bl.r ?_
      refine Th.r ?_
      refine ret1 (v := .bool true) rfl (by exact (.tmp (AF_ev rfl hs2) .nil)) ?_
      have hst := (hst.take .here).drop
      exact ⟨rfl, hst⟩
    · have hc3_ := hc3
      try simp only [decide_eq_true_eq, decide_eq_false_iff_not, Bool.and_eq_true, Bool.or_eq_true, Bool.and_eq_false_iff, Bool.or_eq_false_iff, Bool.not_eq_true', Bool.not_eq_false', beq_iff_eq, beq_eq_false_iff_ne, bne_iff_ne, bne_eq_false_iff_eq, ne_eq, Int.not_lt, Int.not_le, gt_iff_lt, ge_iff_le] at hc3_
      refine CW.skip ?_
      refine Bl.n ?_
      refine Th.n ?_
      refine CW.region ?_
      refine RW.soft Wd.a (v := .int .i64 ((j : Nat) : Int)) (by exact E.move (AF_ev rfl hs4)) ?_
      refine RW.soft Wd.a (v := .int .i64 (((j : Nat) : Int) + 1)) (by exact E.add (k := .i64) (a := ((j : Nat) : Int)) (b := 1) (AF_ev rfl tp) rfl (show IntKind.i64.wrap (((j : Nat) : Int) + 1) = ((j : Nat) : Int) + 1 from (by rw [IntWalk.i64_in _ (by omega)]))) ?_
      refine RW.soft Wd.a (v := .int .i64 (((j : Nat) : Int) + 1)) (by exact E.assign (AF_ev rfl tp)) ?_
      refine RW.nil ?_
      refine Th.n ?_
      have h8b : ∀ r ∈ rs.take (j + 1), r.vers.length ≤ 8 := fun r hr2 => by
        rw [List.take_add_one, hr, Option.toList_some, List.mem_append] at hr2
        rcases hr2 with h1 | h1
        · exact h8a r h1
        · rw [List.mem_singleton.1 h1]; show vs.length ≤ 8; omega
      exact ⟨rs.length - (j + 1), by omega, j + 1, h8b, (by omega), rfl, up rfl (up rfl (up rfl hs0)), up rfl (up rfl (up rfl hs3)), (int_eq (a := ((j : Nat) : Int) + 1) tp (by omega)), hst⟩
  · have hc2_ := hc2
    try simp only [decide_eq_true_eq, decide_eq_false_iff_not, Bool.and_eq_true, Bool.or_eq_true, Bool.and_eq_false_iff, Bool.or_eq_false_iff, Bool.not_eq_true', Bool.not_eq_false', beq_iff_eq, beq_eq_false_iff_ne, bne_iff_ne, bne_eq_false_iff_eq, ne_eq, Int.not_lt, Int.not_le, gt_iff_lt, ge_iff_le] at hc2_
    refine CW.exit ?_
    refine Th.x ?_
    refine Th.x ?_
    refine Bl.x ?_
    refine Th.n ?_
    refine CW.seq ?_
    have h8 : ∀ r ∈ rs, r.vers.length ≤ 8 := by rw [List.take_of_length_le (by omega)] at h8a; exact h8a
    have hsm : Small (rs.map RingM.view) := ⟨by rw [List.length_map]; exact h12, fun r hr => by obtain ⟨z, hz, rfl⟩ := List.mem_map.1 hr; exact h8 z hz⟩
    refine CW.region ?_
    refine RW.soft Wd.a (v := .slice Y rs.length d0) (by exact E.move (AF_ev rfl hs0)) ?_
    refine RW.hard Wd.a ?_
    refine H.call0 Try.func61 nm61 rfl (map1 (AF_ev rfl tp)) (Calls.mono (ref_Copy hA h12 h8 hst) ?_)
    rintro _ w ⟨vX4, rfl, hst⟩
    obtain ⟨X4, c5, rfl, hcX4⟩ := rowsShape hst
    refine ⟨_, rfl, ?_⟩
    show RW _ _ _ _ _ _ _
    refine RW.soft Wd.a (v := .slice X4 ((rs.map RingM.view).length) c5) (by exact E.assign (AF_ev rfl tp)) ?_
    refine RW.fin (fun τ => τ 0 = .slice Y rs.length d0 ∧ τ 3 = .bool true ∧ τ 4 = .int .i64 ((j : Nat) : Int) ∧ τ 5 = .slice X4 ((rs.map RingM.view).length) c5 ∧ τ 21 = .bool false) ⟨up rfl (up rfl (up rfl hs0)), up rfl (up rfl (up rfl hs3)), up rfl (up rfl (up rfl hs4)), tp, up rfl (up rfl (up rfl (Eq.trans hs21 (congrArg Value.bool hc2))))⟩ ?_
    rintro τ ⟨hs0, hs3, hs4, hs5, hs21⟩
    refine CW.seq ?_
    refine Or.elim (Bool.eq_false_or_eq_true (badK (rs.map RingM.view))) (fun hbad => ?_) (fun hbad => ?_)
    · skip
      refine CW.region ?_
      refine RW.soft Wd.a (v := .slice X4 ((rs.map RingM.view).length) c5) (by exact E.move (AF_ev rfl hs5)) ?_
      refine RW.hard Wd.a ?_
      refine H.call0 Try.func62 nm62 rfl (map1 (AF_ev rfl tp)) (Calls.mono (prog_OfV_bad hsm hbad hst) ?_)
      rintro _ w ⟨rfl, hst⟩
      refine ⟨_, rfl, ?_⟩
      show RW _ _ _ _ _ _ _
      refine RW.soft Wd.a (v := .tuple #[.pointer none, .int .i64 1]) (by exact E.move (AF_ev rfl tp)) ?_
      refine RW.soft Wd.a (v := .pointer none) (by exact E.extract (vs := #[.pointer none, .int .i64 1]) (AF_ev rfl tp) rfl) ?_
      refine RW.soft Wd.a (v := .int .i64 1) (by exact E.extract (vs := #[.pointer none, .int .i64 1]) (AF_ev rfl (up rfl tp)) rfl) ?_
      refine RW.soft Wd.a (v := .pointer none) (by exact E.assign (AF_ev rfl (up rfl tp))) ?_
      refine RW.soft Wd.a (v := .int .i64 1) (by exact E.assign (AF_ev rfl (up rfl tp))) ?_
      refine RW.fin (fun τ => τ 0 = .slice Y rs.length d0 ∧ τ 3 = .bool true ∧ τ 4 = .int .i64 ((j : Nat) : Int) ∧ τ 5 = .slice X4 ((rs.map RingM.view).length) c5 ∧ τ 6 = .pointer none ∧ τ 7 = .int .i64 1 ∧ τ 21 = .bool false) ⟨up rfl (up rfl (up rfl (up rfl (up rfl (up rfl (up rfl hs0)))))), up rfl (up rfl (up rfl (up rfl (up rfl (up rfl (up rfl hs3)))))), up rfl (up rfl (up rfl (up rfl (up rfl (up rfl (up rfl hs4)))))), up rfl (up rfl (up rfl (up rfl (up rfl (up rfl (up rfl hs5)))))), up rfl tp, tp, up rfl (up rfl (up rfl (up rfl (up rfl (up rfl (up rfl hs21))))))⟩ ?_
      rintro τ ⟨hs0, hs3, hs4, hs5, hs6, hs7, hs21⟩
      refine CW.seq ?_
      refine CW.region ?_
      refine RW.soft Wd.a (v := .slice Y rs.length d0) (by exact E.move (AF_ev rfl hs0)) ?_
      have hst := hst.take (.there .here)
      refine RW.hard Wd.a ?_
      refine H.call0 Try.func63 nm63 rfl (map1 (AF_ev rfl tp)) (Calls.mono ((show Calls Try.prog 63 #[.slice Y rs.length d0] w (fun e w => ∃ v, e = .returned (.tuple #[v, .int .i64 1]) ∧ St p w (Emp :: RowsV (.slice X4 ((rs.map RingM.view).length) c5) (rs.map RingM.view) :: R)) from (by
        have hq := ref_Of hA h12 h8 hst
        rw [if_pos hbad] at hq; exact hq))) ?_)
      rintro _ w ⟨v6, rfl, hst⟩
      refine ⟨_, rfl, ?_⟩
      show RW _ _ _ _ _ _ _
      refine RW.soft Wd.a (v := .tuple #[v6, .int .i64 1]) (by exact E.move (AF_ev rfl tp)) ?_
      refine RW.soft Wd.a (v := v6) (by exact E.extract (vs := #[v6, .int .i64 1]) (AF_ev rfl tp) rfl) ?_
      refine RW.soft Wd.a (v := .int .i64 1) (by exact E.extract (vs := #[v6, .int .i64 1]) (AF_ev rfl (up rfl tp)) rfl) ?_
      refine RW.soft Wd.a (v := v6) (by exact E.assign (AF_ev rfl (up rfl tp))) ?_
      refine RW.soft Wd.a (v := .int .i64 1) (by exact E.assign (AF_ev rfl (up rfl tp))) ?_
      refine RW.fin (fun τ => τ 0 = .slice Y rs.length d0 ∧ τ 3 = .bool true ∧ τ 4 = .int .i64 ((j : Nat) : Int) ∧ τ 5 = .slice X4 ((rs.map RingM.view).length) c5 ∧ τ 6 = .pointer none ∧ τ 7 = .int .i64 1 ∧ τ 9 = .int .i64 1 ∧ τ 21 = .bool false) ⟨up rfl (up rfl (up rfl (up rfl (up rfl (up rfl (up rfl hs0)))))), up rfl (up rfl (up rfl (up rfl (up rfl (up rfl (up rfl hs3)))))), up rfl (up rfl (up rfl (up rfl (up rfl (up rfl (up rfl hs4)))))), up rfl (up rfl (up rfl (up rfl (up rfl (up rfl (up rfl hs5)))))), up rfl (up rfl (up rfl (up rfl (up rfl (up rfl (up rfl hs6)))))), up rfl (up rfl (up rfl (up rfl (up rfl (up rfl (up rfl hs7)))))), tp, up rfl (up rfl (up rfl (up rfl (up rfl (up rfl (up rfl hs21))))))⟩ ?_
      rintro τ ⟨hs0, hs3, hs4, hs5, hs6, hs7, hs9, hs21⟩
      refine CW.seq ?_
      refine CW.seq ?_
      refine CW.region ?_
      refine RW.soft Wd.a (v := .int .i64 0) (by exact E.assign rfl) ?_
      refine RW.fin (fun τ => τ 0 = .slice Y rs.length d0 ∧ τ 3 = .bool true ∧ τ 4 = .int .i64 ((j : Nat) : Int) ∧ τ 5 = .slice X4 ((rs.map RingM.view).length) c5 ∧ τ 6 = .pointer none ∧ τ 7 = .int .i64 1 ∧ τ 9 = .int .i64 1 ∧ τ 10 = .int .i64 0 ∧ τ 21 = .bool false) ⟨up rfl hs0, up rfl hs3, up rfl hs4, up rfl hs5, up rfl hs6, up rfl hs7, up rfl hs9, tp, up rfl hs21⟩ ?_
      rintro τ ⟨hs0, hs3, hs4, hs5, hs6, hs7, hs9, hs10, hs21⟩
      refine CW.block ?_
      have hst := hst.take (.there .here)
      refine CW.loop (fun (k : Nat) (τ : Fr) (w : World) => ∃ (n : Nat) (kr : RK), n ≤ (rs.map RingM.view).length ∧ kr.length = (rs.map RingM.view).length ∧ (∀ r ∈ kr, r.2.length ≤ 8) ∧ k = (rs.map RingM.view).length - n ∧ τ 0 = .slice Y rs.length d0 ∧ τ 3 = .bool true ∧ τ 5 = .slice X4 ((rs.map RingM.view).length) c5 ∧ τ 6 = .pointer none ∧ τ 7 = .int .i64 1 ∧ τ 9 = .int .i64 1 ∧ τ 10 = .int .i64 ((n : Nat) : Int) ∧ St p w (RowsV (.slice X4 ((rs.map RingM.view).length) c5) kr :: Emp :: R)) ((rs.map RingM.view).length - 0) ⟨0, (rs.map RingM.view), by omega, rfl, hsm.2, rfl, hs0, hs3, hs5, hs6, hs7, hs9, (int_eq (a := 0) hs10 (by omega)), hst⟩ ?_
      clear hst
      rintro k τ w ⟨n, kr, hn, hkrl, hsk, hkn, hs0, hs3, hs5, hs6, hs7, hs9, hs10, hst⟩
      refine CW.seq ?_
      refine CW.seq ?_
      refine CW.region ?_
      refine RW.soft Wd.a (v := .int .i64 ((n : Nat) : Int)) (by exact E.move (AF_ev rfl hs10)) ?_
      refine RW.soft Wd.a (v := .slice X4 ((rs.map RingM.view).length) c5) (by exact E.move (AF_ev rfl (up rfl hs5))) ?_
      refine RW.soft Wd.a (v := .int .i64 (((rs.map RingM.view).length : Nat) : Int)) (by exact E.lenS (p := X4) (l := (rs.map RingM.view).length) (c := c5) Try.underlying71 (AF_ev rfl tp)) ?_
      refine RW.soft Wd.a (v := .bool (decide (((n : Nat) : Int) < (((rs.map RingM.view).length : Nat) : Int)))) (by exact E.lss (k := .i64) (a := ((n : Nat) : Int)) (b := (((rs.map RingM.view).length : Nat) : Int)) (AF_ev rfl (up rfl (up rfl tp))) (AF_ev rfl tp)) ?_
      refine RW.fin (fun τ => τ 0 = .slice Y rs.length d0 ∧ τ 3 = .bool true ∧ τ 5 = .slice X4 ((rs.map RingM.view).length) c5 ∧ τ 6 = .pointer none ∧ τ 7 = .int .i64 1 ∧ τ 9 = .int .i64 1 ∧ τ 10 = .int .i64 ((n : Nat) : Int) ∧ τ 47 = .bool (decide (((n : Nat) : Int) < (((rs.map RingM.view).length : Nat) : Int)))) ⟨up rfl (up rfl (up rfl (up rfl hs0))), up rfl (up rfl (up rfl (up rfl hs3))), up rfl (up rfl (up rfl (up rfl hs5))), up rfl (up rfl (up rfl (up rfl hs6))), up rfl (up rfl (up rfl (up rfl hs7))), up rfl (up rfl (up rfl (up rfl hs9))), up rfl (up rfl (up rfl (up rfl hs10))), tp⟩ ?_
      rintro τ ⟨hs0, hs3, hs5, hs6, hs7, hs9, hs10, hs47⟩
      refine CW.cond (AF_ev rfl hs47) (fun hc7 => ?_) (fun hc7 => ?_)
      · have hc7_ := hc7
        try simp only [decide_eq_true_eq, decide_eq_false_iff_not, Bool.and_eq_true, Bool.or_eq_true, Bool.and_eq_false_iff, Bool.or_eq_false_iff, Bool.not_eq_true', Bool.not_eq_false', beq_iff_eq, beq_eq_false_iff_ne, bne_iff_ne, bne_eq_false_iff_eq, ne_eq, Int.not_lt, Int.not_le, gt_iff_lt, ge_iff_le] at hc7_
        refine CW.skip ?_
        refine Th.n ?_
        refine CW.seq ?_
        refine CW.block ?_
        refine CW.seq ?_
        have hrl12 : (rs.map RingM.view).length ≤ 12 := hsm.1
        have hnl : n < kr.length := by omega
        obtain ⟨⟨o1, vs⟩, hkn1⟩ : ∃ z, kr[n]? = some z := ⟨kr[n], List.getElem?_eq_getElem hnl⟩
        have hv8 : vs.length ≤ 8 := hsk _ (List.mem_of_getElem? hkn1)
        obtain ⟨rz, g, Z, d, F, rfl, hcr, hmr, hY, hr, hst, turn⟩ := ringOpenF hkrl hst hkn1
        refine CW.region ?_
        refine RW.soft Wd.a (v := .slice (some ⟨g, 0, none⟩) ((rs.map RingM.view).length) c5) (by exact E.move (AF_ev rfl hs5)) ?_
        refine RW.soft Wd.a (v := .int .i64 ((n : Nat) : Int)) (by exact E.move (AF_ev rfl (up rfl hs10))) ?_
        refine RW.soft Wd.a (v := .slice (some ⟨g, 0, none⟩) ((rs.map RingM.view).length) c5) (by exact E.move (AF_ev rfl (up rfl (up rfl hs5)))) ?_
        refine RW.soft Wd.a (v := .int .i64 ((n : Nat) : Int)) (by exact E.move (AF_ev rfl (up rfl (up rfl (up rfl hs10))))) ?_
        refine RW.soft Wd.a (v := .pointer (some ⟨g, n * 2, none⟩)) (by exact E.indexAddr (b := g) (o := 0) (l := (rs.map RingM.view).length) (c := c5) (i := ((n : Nat) : Int)) Try.underlying71 sz84 (AF_ev rfl (up rfl tp)) (AF_ev rfl tp) (by omega) (by omega) (by simp)) ?_
        refine RW.soft Wd.a (v := .pointer (some ⟨g, n * 2, none⟩)) (by exact E.fieldAddr (b := g) (o := n * 2) (f := { name := "Off", type := 4, offset := 0, embedded := false, tag := "", pkgPath := "", byteOffset := 0 }) (AF_ev rfl tp) Try.underlying84 rfl sz4 rfl) ?_
        refine RW.soft Wd.a (v := .bool o1) (by exact E.load (a := ⟨g, n * 2, none⟩) Try.underlying4 rfl (AF_ev rfl tp) (hst.ocell .here (flat_get (j := 0) RingM.enc_len hr (rfl)))) ?_
        refine RW.soft Wd.a (v := .bool (!o1)) (by exact E.not (b := o1) (AF_ev rfl tp)) ?_
        refine RW.soft Wd.a (v := .pointer (some ⟨g, n * 2, none⟩)) (by exact E.indexAddr (b := g) (o := 0) (l := (rs.map RingM.view).length) (c := c5) (i := ((n : Nat) : Int)) Try.underlying71 sz84 (AF_ev rfl (up rfl (up rfl (up rfl (up rfl (up rfl (up rfl (up rfl tp)))))))) (AF_ev rfl (up rfl (up rfl (up rfl (up rfl (up rfl (up rfl tp))))))) (by omega) (by omega) (by simp)) ?_
        refine RW.soft Wd.a (v := .pointer (some ⟨g, n * 2, none⟩)) (by exact E.fieldAddr (b := g) (o := n * 2) (f := { name := "Off", type := 4, offset := 0, embedded := false, tag := "", pkgPath := "", byteOffset := 0 }) (AF_ev rfl tp) Try.underlying84 rfl sz4 rfl) ?_
        refine RW.hard Wd.a ?_
        refine H.storeInn (f := RingM.enc) (i := n) (d := 0) (m := 1) (v := .bool (!o1)) (news := [.bool (!o1)]) (a' := (RingM.mk (!o1) Z d vs)) RingM.enc_len (AF_ev rfl tp) (AF_ev rfl (up rfl (up rfl tp))) hst .here hr (by omega) rfl rfl rfl sz4 (by omega) (rfl) (by simp [Value.oneCell']) fun w hst => ?_
        refine RW.fin (fun τ => τ 0 = .slice Y rs.length d0 ∧ τ 3 = .bool true ∧ τ 5 = .slice (some ⟨g, 0, none⟩) ((rs.map RingM.view).length) c5 ∧ τ 6 = .pointer none ∧ τ 7 = .int .i64 1 ∧ τ 9 = .int .i64 1 ∧ τ 10 = .int .i64 ((n : Nat) : Int) ∧ τ 47 = .bool true) ⟨u0 (up rfl (up rfl (up rfl (up rfl (up rfl (up rfl (up rfl (up rfl (up rfl (up rfl hs0)))))))))), u0 (up rfl (up rfl (up rfl (up rfl (up rfl (up rfl (up rfl (up rfl (up rfl (up rfl hs3)))))))))), u0 (up rfl (up rfl (up rfl (up rfl (up rfl (up rfl (up rfl (up rfl (up rfl (up rfl hs5)))))))))), u0 (up rfl (up rfl (up rfl (up rfl (up rfl (up rfl (up rfl (up rfl (up rfl (up rfl hs6)))))))))), u0 (up rfl (up rfl (up rfl (up rfl (up rfl (up rfl (up rfl (up rfl (up rfl (up rfl hs7)))))))))), u0 (up rfl (up rfl (up rfl (up rfl (up rfl (up rfl (up rfl (up rfl (up rfl (up rfl hs9)))))))))), u0 (up rfl (up rfl (up rfl (up rfl (up rfl (up rfl (up rfl (up rfl (up rfl (up rfl hs10)))))))))), u0 (up rfl (up rfl (up rfl (up rfl (up rfl (up rfl (up rfl (up rfl (up rfl (up rfl (Eq.trans hs47 (congrArg Value.bool hc7))))))))))))⟩ ?_
        rintro τ ⟨hs0, hs3, hs5, hs6, hs7, hs9, hs10, hs47⟩
        refine CW.seq ?_
        refine CW.region ?_
        refine RW.soft Wd.a (v := .int .i64 0) (by exact E.assign rfl) ?_
        refine RW.fin (fun τ => τ 0 = .slice Y rs.length d0 ∧ τ 3 = .bool true ∧ τ 5 = .slice (some ⟨g, 0, none⟩) ((rs.map RingM.view).length) c5 ∧ τ 6 = .pointer none ∧ τ 7 = .int .i64 1 ∧ τ 9 = .int .i64 1 ∧ τ 10 = .int .i64 ((n : Nat) : Int) ∧ τ 11 = .int .i64 0 ∧ τ 47 = .bool true) ⟨up rfl hs0, up rfl hs3, up rfl hs5, up rfl hs6, up rfl hs7, up rfl hs9, up rfl hs10, tp, up rfl hs47⟩ ?_
        rintro τ ⟨hs0, hs3, hs5, hs6, hs7, hs9, hs10, hs11, hs47⟩
        refine CW.block ?_
        have hst := hst.take (.there .here)
        have hst := hst.take (.there .here)
        refine CW.loop (fun (k : Nat) (τ : Fr) (w : World) => ∃ (q : Nat) (vz : List Ver), q ≤ vs.length ∧ vz.length = vs.length ∧ k = vs.length - q ∧ τ 0 = .slice Y rs.length d0 ∧ τ 3 = .bool true ∧ τ 5 = .slice (some ⟨g, 0, none⟩) ((rs.map RingM.view).length) c5 ∧ τ 6 = .pointer none ∧ τ 7 = .int .i64 1 ∧ τ 9 = .int .i64 1 ∧ τ 10 = .int .i64 ((n : Nat) : Int) ∧ τ 11 = .int .i64 ((q : Nat) : Int) ∧ St p w (Own 84 2 (.slice (some ⟨g, 0, none⟩) ((rs.map RingM.view).length) c5) ((rs.map RingM.view).length) ((rz.set n (RingM.mk (!o1) Z d vs)).flatMap RingM.enc) :: Own 86 34 (.slice Z vs.length d) vs.length (vz.flatMap Ver.enc) :: F)) (vs.length - 0) ⟨0, vs, by omega, rfl, rfl, hs0, hs3, hs5, hs6, hs7, hs9, hs10, (int_eq (a := 0) hs11 (by omega)), hst⟩ ?_
        clear hst
        rintro k τ w ⟨q, vz, hq, hvsl, hkq, hs0, hs3, hs5, hs6, hs7, hs9, hs10, hs11, hst⟩
        refine CW.seq ?_
        refine CW.seq ?_
        refine CW.region ?_
        refine RW.soft Wd.a (v := .int .i64 ((q : Nat) : Int)) (by exact E.move (AF_ev rfl hs11)) ?_
        refine RW.soft Wd.a (v := .slice (some ⟨g, 0, none⟩) ((rs.map RingM.view).length) c5) (by exact E.move (AF_ev rfl (up rfl hs5))) ?_
        refine RW.soft Wd.a (v := .int .i64 ((n : Nat) : Int)) (by exact E.move (AF_ev rfl (up rfl (up rfl hs10)))) ?_
        refine RW.soft Wd.a (v := .pointer (some ⟨g, n * 2, none⟩)) (by exact E.indexAddr (b := g) (o := 0) (l := (rs.map RingM.view).length) (c := c5) (i := ((n : Nat) : Int)) Try.underlying71 sz84 (AF_ev rfl (up rfl tp)) (AF_ev rfl tp) (by omega) (by omega) (by simp)) ?_
        refine RW.soft Wd.a (v := .pointer (some ⟨g, n * 2 + 1, none⟩)) (by exact E.fieldAddr (b := g) (o := n * 2) (f := { name := "L", type := 82, offset := 1, embedded := false, tag := "", pkgPath := "", byteOffset := 8 }) (AF_ev rfl tp) Try.underlying84 rfl sz82 rfl) ?_
        refine RW.soft Wd.a (v := .slice Z vs.length d) (by exact E.load (a := ⟨g, n * 2 + 1, none⟩) Try.underlying82 rfl (AF_ev rfl tp) (hst.ocell .here (flat_get (j := 1) RingM.enc_len (set_at hr) (rfl)))) ?_
        refine RW.soft Wd.a (v := .int .i64 ((vs.length : Nat) : Int)) (by exact E.lenS (p := Z) (l := vs.length) (c := d) Try.underlying82 (AF_ev rfl tp)) ?_
        refine RW.soft Wd.a (v := .bool (decide (((q : Nat) : Int) < ((vs.length : Nat) : Int)))) (by exact E.lss (k := .i64) (a := ((q : Nat) : Int)) (b := ((vs.length : Nat) : Int)) (AF_ev rfl (up rfl (up rfl (up rfl (up rfl (up rfl (up rfl tp))))))) (AF_ev rfl tp)) ?_
        refine RW.fin (fun τ => τ 0 = .slice Y rs.length d0 ∧ τ 3 = .bool true ∧ τ 5 = .slice (some ⟨g, 0, none⟩) ((rs.map RingM.view).length) c5 ∧ τ 6 = .pointer none ∧ τ 7 = .int .i64 1 ∧ τ 9 = .int .i64 1 ∧ τ 10 = .int .i64 ((n : Nat) : Int) ∧ τ 11 = .int .i64 ((q : Nat) : Int) ∧ τ 67 = .bool (decide (((q : Nat) : Int) < ((vs.length : Nat) : Int)))) ⟨up rfl (up rfl (up rfl (up rfl (up rfl (up rfl (up rfl (up rfl hs0))))))), up rfl (up rfl (up rfl (up rfl (up rfl (up rfl (up rfl (up rfl hs3))))))), up rfl (up rfl (up rfl (up rfl (up rfl (up rfl (up rfl (up rfl hs5))))))), up rfl (up rfl (up rfl (up rfl (up rfl (up rfl (up rfl (up rfl hs6))))))), up rfl (up rfl (up rfl (up rfl (up rfl (up rfl (up rfl (up rfl hs7))))))), up rfl (up rfl (up rfl (up rfl (up rfl (up rfl (up rfl (up rfl hs9))))))), up rfl (up rfl (up rfl (up rfl (up rfl (up rfl (up rfl (up rfl hs10))))))), up rfl (up rfl (up rfl (up rfl (up rfl (up rfl (up rfl (up rfl hs11))))))), tp⟩ ?_
        rintro τ ⟨hs0, hs3, hs5, hs6, hs7, hs9, hs10, hs11, hs67⟩
        refine CW.cond (AF_ev rfl hs67) (fun hc8 => ?_) (fun hc8 => ?_)
        · have hc8_ := hc8
          try simp only [decide_eq_true_eq, decide_eq_false_iff_not, Bool.and_eq_true, Bool.or_eq_true, Bool.and_eq_false_iff, Bool.or_eq_false_iff, Bool.not_eq_true', Bool.not_eq_false', beq_iff_eq, beq_eq_false_iff_ne, bne_iff_ne, bne_eq_false_iff_eq, ne_eq, Int.not_lt, Int.not_le, gt_iff_lt, ge_iff_le] at hc8_
          refine CW.skip ?_
          refine Th.n ?_
          refine CW.seq ?_
          refine CW.block ?_
          obtain ⟨gr, rfl⟩ := hY (by omega)
          obtain ⟨x, hx⟩ : ∃ z, vz[q]? = some z := ⟨vz[q]'(by omega), List.getElem?_eq_getElem (by omega)⟩
          refine CW.region ?_
          refine RW.soft Wd.a (v := .slice (some ⟨g, 0, none⟩) ((rs.map RingM.view).length) c5) (by exact E.move (AF_ev rfl hs5)) ?_
          refine RW.soft Wd.a (v := .int .i64 ((n : Nat) : Int)) (by exact E.move (AF_ev rfl (up rfl hs10))) ?_
          refine RW.soft Wd.a (v := .pointer (some ⟨g, n * 2, none⟩)) (by exact E.indexAddr (b := g) (o := 0) (l := (rs.map RingM.view).length) (c := c5) (i := ((n : Nat) : Int)) Try.underlying71 sz84 (AF_ev rfl (up rfl tp)) (AF_ev rfl tp) (by omega) (by omega) (by simp)) ?_
          refine RW.soft Wd.a (v := .pointer (some ⟨g, n * 2 + 1, none⟩)) (by exact E.fieldAddr (b := g) (o := n * 2) (f := { name := "L", type := 82, offset := 1, embedded := false, tag := "", pkgPath := "", byteOffset := 8 }) (AF_ev rfl tp) Try.underlying84 rfl sz82 rfl) ?_
          refine RW.soft Wd.a (v := .slice (some ⟨gr, 0, none⟩) vs.length d) (by exact E.load (a := ⟨g, n * 2 + 1, none⟩) Try.underlying82 rfl (AF_ev rfl tp) (hst.ocell .here (flat_get (j := 1) RingM.enc_len (set_at hr) (rfl)))) ?_
          refine RW.soft Wd.a (v := .int .i64 ((q : Nat) : Int)) (by exact E.move (AF_ev rfl (up rfl (up rfl (up rfl (up rfl (up rfl hs11))))))) ?_
          refine RW.soft Wd.a (v := .pointer (some ⟨gr, q * 34, none⟩)) (by exact E.indexAddr (b := gr) (o := 0) (l := vs.length) (c := d) (i := ((q : Nat) : Int)) Try.underlying82 sz86 (AF_ev rfl (up rfl tp)) (AF_ev rfl tp) (by omega) (by omega) (by simp)) ?_
          refine RW.soft Wd.a (v := .pointer (some ⟨gr, q * 34 + 32, none⟩)) (by exact E.fieldAddr (b := gr) (o := q * 34) (f := { name := "Uses", type := 3, offset := 32, embedded := false, tag := "", pkgPath := "", byteOffset := 32 }) (AF_ev rfl tp) Try.underlying86 rfl sz3 rfl) ?_
          refine RW.hard Wd.a ?_
          refine H.storeInn (f := Ver.enc) (i := q) (d := 32) (m := 1) (v := .int .i64 99) (news := [.int .i64 99]) (a' := (Ver.mk x.mat 99 x.gone)) Ver.enc_len (AF_ev rfl tp) rfl hst (.there .here) hx (by omega) rfl rfl rfl sz3 (by omega) (Ver.set_uses x _) (by simp [Value.oneCell']) fun w hst => ?_
          refine RW.nil ?_
          refine Bl.n ?_
          refine Th.n ?_
          refine CW.region ?_
          refine RW.soft Wd.a (v := .int .i64 ((q : Nat) : Int)) (by exact E.move (AF_ev rfl (u0 (up rfl (up rfl (up rfl (up rfl (up rfl (up rfl (up rfl (up rfl hs11))))))))))) ?_
          refine RW.soft Wd.a (v := .int .i64 (((q : Nat) : Int) + 1)) (by exact E.add (k := .i64) (a := ((q : Nat) : Int)) (b := 1) (AF_ev rfl tp) rfl (show IntKind.i64.wrap (((q : Nat) : Int) + 1) = ((q : Nat) : Int) + 1 from (by rw [IntWalk.i64_in _ (by omega)]))) ?_
          refine RW.soft Wd.a (v := .int .i64 (((q : Nat) : Int) + 1)) (by exact E.assign (AF_ev rfl tp)) ?_
          refine RW.nil ?_
          refine Th.n ?_
          have hst := hst.take (.there .here)
          exact ⟨vs.length - (q + 1), by omega, q + 1, (vz.set q (Ver.mk x.mat 99 x.gone)), (by omega), (by rw [List.length_set]; exact hvsl), rfl, up rfl (up rfl (up rfl (u0 (up rfl (up rfl (up rfl (up rfl (up rfl (up rfl (up rfl (up rfl hs0))))))))))), up rfl (up rfl (up rfl (u0 (up rfl (up rfl (up rfl (up rfl (up rfl (up rfl (up rfl (up rfl hs3))))))))))), up rfl (up rfl (up rfl (u0 (up rfl (up rfl (up rfl (up rfl (up rfl (up rfl (up rfl (up rfl hs5))))))))))), up rfl (up rfl (up rfl (u0 (up rfl (up rfl (up rfl (up rfl (up rfl (up rfl (up rfl (up rfl hs6))))))))))), up rfl (up rfl (up rfl (u0 (up rfl (up rfl (up rfl (up rfl (up rfl (up rfl (up rfl (up rfl hs7))))))))))), up rfl (up rfl (up rfl (u0 (up rfl (up rfl (up rfl (up rfl (up rfl (up rfl (up rfl (up rfl hs9))))))))))), up rfl (up rfl (up rfl (u0 (up rfl (up rfl (up rfl (up rfl (up rfl (up rfl (up rfl (up rfl hs10))))))))))), (int_eq (a := ((q : Nat) : Int) + 1) tp (by omega)), hst⟩
        · have hc8_ := hc8
          try simp only [decide_eq_true_eq, decide_eq_false_iff_not, Bool.and_eq_true, Bool.or_eq_true, Bool.and_eq_false_iff, Bool.or_eq_false_iff, Bool.not_eq_true', Bool.not_eq_false', beq_iff_eq, beq_eq_false_iff_ne, bne_iff_ne, bne_eq_false_iff_eq, ne_eq, Int.not_lt, Int.not_le, gt_iff_lt, ge_iff_le] at hc8_
          refine CW.exit ?_
          refine Th.x ?_
          refine Th.x ?_
          refine Bl.x ?_
          refine Bl.n ?_
          refine Th.n ?_
          have hst := hst.take (.there .here)
          have hst := hst.take (.there .here)
          have hst := turn hvsl hst
          have hsm2 : ∀ r ∈ kr.set n (!o1, vz), r.2.length ≤ 8 := fun r hr2 => by
            rcases List.mem_or_eq_of_mem_set hr2 with h1 | rfl
            · exact hsk r h1
            · show vz.length ≤ 8; omega
          refine CW.region ?_
          refine RW.soft Wd.a (v := .int .i64 ((n : Nat) : Int)) (by exact E.move (AF_ev rfl hs10)) ?_
          refine RW.soft Wd.a (v := .int .i64 (((n : Nat) : Int) + 1)) (by exact E.add (k := .i64) (a := ((n : Nat) : Int)) (b := 1) (AF_ev rfl tp) rfl (show IntKind.i64.wrap (((n : Nat) : Int) + 1) = ((n : Nat) : Int) + 1 from (by rw [IntWalk.i64_in _ (by omega)]))) ?_
          refine RW.soft Wd.a (v := .int .i64 (((n : Nat) : Int) + 1)) (by exact E.assign (AF_ev rfl tp)) ?_
          refine RW.nil ?_
          refine Th.n ?_
          have hst := hst.take (.there .here)
          have hst := hst.take (.there .here)
          exact ⟨(rs.map RingM.view).length - (n + 1), by omega, n + 1, (kr.set n (!o1, vz)), (by omega), (by rw [List.length_set]; exact hkrl), hsm2, rfl, up rfl (up rfl (up rfl hs0)), up rfl (up rfl (up rfl hs3)), up rfl (up rfl (up rfl hs5)), up rfl (up rfl (up rfl hs6)), up rfl (up rfl (up rfl hs7)), up rfl (up rfl (up rfl hs9)), (int_eq (a := ((n : Nat) : Int) + 1) tp (by omega)), hst⟩
      · have hc7_ := hc7
        try simp only [decide_eq_true_eq, decide_eq_false_iff_not, Bool.and_eq_true, Bool.or_eq_true, Bool.and_eq_false_iff, Bool.or_eq_false_iff, Bool.not_eq_true', Bool.not_eq_false', beq_iff_eq, beq_eq_false_iff_ne, bne_iff_ne, bne_eq_false_iff_eq, ne_eq, Int.not_lt, Int.not_le, gt_iff_lt, ge_iff_le] at hc7_
        refine CW.exit ?_
        refine Th.x ?_
        refine Th.x ?_
        refine Bl.x ?_
        refine Th.n ?_
        refine CW.seq ?_
        refine CW.seq ?_
        refine CW.region ?_
        refine RW.soft Wd.a (v := .bool true) (by exact E.move (AF_ev rfl hs3)) ?_
        refine RW.soft Wd.a (v := .bool false) (by exact E.not (b := true) (AF_ev rfl tp)) ?_
        refine RW.soft Wd.a (v := .bool false) (by exact E.move (AF_ev rfl tp)) ?_
        refine RW.soft (by exact Wd.yes (x := 80) rfl (AF_ev rfl tp)) (v := .int .i64 1) (by exact E.move (AF_ev rfl (up rfl (up rfl (up rfl hs7))))) ?_
        refine RW.soft (by exact Wd.yes (x := 80) rfl (AF_ev rfl (up rfl tp))) (v := .int .i64 1) (by exact E.move (AF_ev rfl (up rfl (up rfl (up rfl (up rfl hs9)))))) ?_
        refine RW.soft (by exact Wd.yes (x := 80) rfl (AF_ev rfl (up rfl (up rfl tp)))) (v := .bool false) (by exact E.neq (k := .i64) (a := 1) (b := 1) (AF_ev rfl (up rfl tp)) (AF_ev rfl tp)) ?_
        refine RW.soft Wd.a (v := .bool false) (by exact E.pickF (AF_ev rfl (up rfl (up rfl (up rfl tp)))) (AF_ev rfl tp)) ?_
        refine RW.soft Wd.a (v := .bool false) (by exact E.move (AF_ev rfl tp)) ?_
        refine RW.soft (by exact Wd.yes (x := 85) rfl (AF_ev rfl tp)) (v := .pointer none) (by exact E.move (AF_ev rfl (up rfl (up rfl (up rfl (up rfl (up rfl (up rfl (up rfl (up rfl hs6)))))))))) ?_
        refine RW.soft (by exact Wd.yes (x := 85) rfl (AF_ev rfl (up rfl tp))) (v := .bool true) (by exact E.eqlP (p := none) Try.underlying69 (AF_ev rfl tp) rfl) ?_
        refine RW.soft (by exact Wd.yes (x := 85) rfl (AF_ev rfl (up rfl (up rfl tp)))) (v := .int .i64 1) (by exact E.move (AF_ev rfl (up rfl (up rfl (up rfl (up rfl (up rfl (up rfl (up rfl (up rfl (up rfl (up rfl hs7)))))))))))) ?_
        refine RW.soft (by exact Wd.yes (x := 85) rfl (AF_ev rfl (up rfl (up rfl (up rfl tp))))) (v := .bool true) (by exact E.neq (k := .i64) (a := 1) (b := 0) (AF_ev rfl tp) rfl) ?_
        refine RW.soft (by exact Wd.yes (x := 85) rfl (AF_ev rfl (up rfl (up rfl (up rfl (up rfl tp)))))) (v := .bool false) (by exact E.neqB (a := true) (b := true) Try.underlying4 (AF_ev rfl (up rfl (up rfl tp))) (AF_ev rfl tp)) ?_
        refine RW.soft Wd.a (v := .bool false) (by exact E.pickF (AF_ev rfl (up rfl (up rfl (up rfl (up rfl (up rfl tp)))))) (AF_ev rfl tp)) ?_
        refine RW.fin (fun τ => τ 0 = .slice Y rs.length d0 ∧ τ 3 = .bool true ∧ τ 5 = .slice X4 ((rs.map RingM.view).length) c5 ∧ τ 6 = .pointer none ∧ τ 7 = .int .i64 1 ∧ τ 9 = .int .i64 1 ∧ τ 10 = .int .i64 ((n : Nat) : Int) ∧ τ 47 = .bool false ∧ τ 91 = .bool false) ⟨up rfl (up rfl (up rfl (up rfl (up rfl (up rfl (up rfl (up rfl (up rfl (up rfl (up rfl (up rfl (up rfl (up rfl hs0))))))))))))), up rfl (up rfl (up rfl (up rfl (up rfl (up rfl (up rfl (up rfl (up rfl (up rfl (up rfl (up rfl (up rfl (up rfl hs3))))))))))))), up rfl (up rfl (up rfl (up rfl (up rfl (up rfl (up rfl (up rfl (up rfl (up rfl (up rfl (up rfl (up rfl (up rfl hs5))))))))))))), up rfl (up rfl (up rfl (up rfl (up rfl (up rfl (up rfl (up rfl (up rfl (up rfl (up rfl (up rfl (up rfl (up rfl hs6))))))))))))), up rfl (up rfl (up rfl (up rfl (up rfl (up rfl (up rfl (up rfl (up rfl (up rfl (up rfl (up rfl (up rfl (up rfl hs7))))))))))))), up rfl (up rfl (up rfl (up rfl (up rfl (up rfl (up rfl (up rfl (up rfl (up rfl (up rfl (up rfl (up rfl (up rfl hs9))))))))))))), up rfl (up rfl (up rfl (up rfl (up rfl (up rfl (up rfl (up rfl (up rfl (up rfl (up rfl (up rfl (up rfl (up rfl hs10))))))))))))), up rfl (up rfl (up rfl (up rfl (up rfl (up rfl (up rfl (up rfl (up rfl (up rfl (up rfl (up rfl (up rfl (up rfl (Eq.trans hs47 (congrArg Value.bool hc7))))))))))))))), tp⟩ ?_
        rintro τ ⟨hs0, hs3, hs5, hs6, hs7, hs9, hs10, hs47, hs91⟩
        refine CW.condF (AF_ev rfl hs91) ?_
        refine CW.skip ?_
        refine Th.n ?_
        refine CW.seq ?_
        refine CW.region ?_
        refine RW.soft Wd.a (v := .pointer none) (by exact E.move (AF_ev rfl hs6)) ?_
        refine RW.soft Wd.a (v := .bool true) (by exact E.eqlP (p := none) Try.underlying69 (AF_ev rfl tp) rfl) ?_
        refine RW.soft Wd.a (v := .bool true) (by exact E.move (AF_ev rfl tp)) ?_
        refine RW.pass (by exact Wd.no (x := 94) (b := true) rfl (AF_ev rfl tp) rfl) ?_
        refine RW.pass (by exact Wd.no (x := 94) (b := true) rfl (AF_ev rfl (up rfl tp)) rfl) ?_
        refine RW.pass (by exact Wd.no (x := 94) (b := true) rfl (AF_ev rfl (up rfl (up rfl tp))) rfl) ?_
        refine RW.pass (by exact Wd.no (x := 94) (b := true) rfl (AF_ev rfl (up rfl (up rfl (up rfl tp)))) rfl) ?_
        refine RW.soft Wd.a (v := .bool true) (by exact E.pickT (AF_ev rfl (up rfl (up rfl (up rfl (up rfl tp))))) rfl) ?_
        refine RW.soft Wd.a (v := .bool true) (by exact E.assign (AF_ev rfl tp)) ?_
        refine RW.fin (fun τ => τ 0 = .slice Y rs.length d0 ∧ τ 2 = .bool true ∧ τ 3 = .bool true ∧ τ 5 = .slice X4 ((rs.map RingM.view).length) c5 ∧ τ 6 = .pointer none ∧ τ 7 = .int .i64 1 ∧ τ 9 = .int .i64 1 ∧ τ 10 = .int .i64 ((n : Nat) : Int) ∧ τ 47 = .bool false ∧ τ 91 = .bool false) ⟨up rfl (up rfl (up rfl (up rfl (up rfl (up rfl (up rfl (up rfl (up rfl hs0)))))))), tp, up rfl (up rfl (up rfl (up rfl (up rfl (up rfl (up rfl (up rfl (up rfl hs3)))))))), up rfl (up rfl (up rfl (up rfl (up rfl (up rfl (up rfl (up rfl (up rfl hs5)))))))), up rfl (up rfl (up rfl (up rfl (up rfl (up rfl (up rfl (up rfl (up rfl hs6)))))))), up rfl (up rfl (up rfl (up rfl (up rfl (up rfl (up rfl (up rfl (up rfl hs7)))))))), up rfl (up rfl (up rfl (up rfl (up rfl (up rfl (up rfl (up rfl (up rfl hs9)))))))), up rfl (up rfl (up rfl (up rfl (up rfl (up rfl (up rfl (up rfl (up rfl hs10)))))))), up rfl (up rfl (up rfl (up rfl (up rfl (up rfl (up rfl (up rfl (up rfl hs47)))))))), up rfl (up rfl (up rfl (up rfl (up rfl (up rfl (up rfl (up rfl (up rfl hs91))))))))⟩ ?_
        rintro τ ⟨hs0, hs2, hs3, hs5, hs6, hs7, hs9, hs10, hs47, hs91⟩
        refine CW.ret ?_
        refine ret1 (v := .bool true) rfl (by exact (.tmp (AF_ev rfl hs2) .nil)) ?_
        have hst := (hst.take .here).drop
        have hst := (hst.take .here).drop
        exact ⟨rfl, hst⟩
    · skip
      refine CW.region ?_
      refine RW.soft Wd.a (v := .slice X4 ((rs.map RingM.view).length) c5) (by exact E.move (AF_ev rfl hs5)) ?_
      refine RW.hard Wd.a ?_
      refine H.call0 Try.func62 nm62 rfl (map1 (AF_ev rfl tp)) (Calls.mono (prog_OfV_good hsm hbad hst) ?_)
      rintro _ w ⟨kb9, rfl, hst⟩
      refine ⟨_, rfl, ?_⟩
      show RW _ _ _ _ _ _ _
      refine RW.soft Wd.a (v := .tuple #[.pointer (some ⟨kb9, 0, none⟩), .int .i64 0]) (by exact E.move (AF_ev rfl tp)) ?_
      refine RW.soft Wd.a (v := .pointer (some ⟨kb9, 0, none⟩)) (by exact E.extract (vs := #[.pointer (some ⟨kb9, 0, none⟩), .int .i64 0]) (AF_ev rfl tp) rfl) ?_
      refine RW.soft Wd.a (v := .int .i64 0) (by exact E.extract (vs := #[.pointer (some ⟨kb9, 0, none⟩), .int .i64 0]) (AF_ev rfl (up rfl tp)) rfl) ?_
      refine RW.soft Wd.a (v := .pointer (some ⟨kb9, 0, none⟩)) (by exact E.assign (AF_ev rfl (up rfl tp))) ?_
      refine RW.soft Wd.a (v := .int .i64 0) (by exact E.assign (AF_ev rfl (up rfl tp))) ?_
      refine RW.fin (fun τ => τ 0 = .slice Y rs.length d0 ∧ τ 3 = .bool true ∧ τ 4 = .int .i64 ((j : Nat) : Int) ∧ τ 5 = .slice X4 ((rs.map RingM.view).length) c5 ∧ τ 6 = .pointer (some ⟨kb9, 0, none⟩) ∧ τ 7 = .int .i64 0 ∧ τ 21 = .bool false) ⟨up rfl (up rfl (up rfl (up rfl (up rfl (up rfl (up rfl hs0)))))), up rfl (up rfl (up rfl (up rfl (up rfl (up rfl (up rfl hs3)))))), up rfl (up rfl (up rfl (up rfl (up rfl (up rfl (up rfl hs4)))))), up rfl (up rfl (up rfl (up rfl (up rfl (up rfl (up rfl hs5)))))), up rfl tp, tp, up rfl (up rfl (up rfl (up rfl (up rfl (up rfl (up rfl hs21))))))⟩ ?_
      rintro τ ⟨hs0, hs3, hs4, hs5, hs6, hs7, hs21⟩
      refine CW.seq ?_
      refine CW.region ?_
      refine RW.soft Wd.a (v := .slice Y rs.length d0) (by exact E.move (AF_ev rfl hs0)) ?_
      have hst := hst.take (.there (.there .here))
      refine RW.hard Wd.a ?_
      refine H.call0 Try.func63 nm63 rfl (map1 (AF_ev rfl tp)) (Calls.mono ((show Calls Try.prog 63 #[.slice Y rs.length d0] w (fun e w => ∃ v, e = .returned (.tuple #[v, .int .i64 0]) ∧ St p w (Emp :: KeysV 127 kb9 (rs.map RingM.view) :: RowsV (.slice X4 ((rs.map RingM.view).length) c5) (rs.map RingM.view) :: R)) from (by
        have hq := ref_Of hA h12 h8 hst
        rw [if_neg (by rw [hbad]; decide)] at hq; exact hq))) ?_)
      rintro _ w ⟨v10, rfl, hst⟩
      refine ⟨_, rfl, ?_⟩
      show RW _ _ _ _ _ _ _
      refine RW.soft Wd.a (v := .tuple #[v10, .int .i64 0]) (by exact E.move (AF_ev rfl tp)) ?_
      refine RW.soft Wd.a (v := v10) (by exact E.extract (vs := #[v10, .int .i64 0]) (AF_ev rfl tp) rfl) ?_
      refine RW.soft Wd.a (v := .int .i64 0) (by exact E.extract (vs := #[v10, .int .i64 0]) (AF_ev rfl (up rfl tp)) rfl) ?_
      refine RW.soft Wd.a (v := v10) (by exact E.assign (AF_ev rfl (up rfl tp))) ?_
      refine RW.soft Wd.a (v := .int .i64 0) (by exact E.assign (AF_ev rfl (up rfl tp))) ?_
      refine RW.fin (fun τ => τ 0 = .slice Y rs.length d0 ∧ τ 3 = .bool true ∧ τ 4 = .int .i64 ((j : Nat) : Int) ∧ τ 5 = .slice X4 ((rs.map RingM.view).length) c5 ∧ τ 6 = .pointer (some ⟨kb9, 0, none⟩) ∧ τ 7 = .int .i64 0 ∧ τ 9 = .int .i64 0 ∧ τ 21 = .bool false) ⟨up rfl (up rfl (up rfl (up rfl (up rfl (up rfl (up rfl hs0)))))), up rfl (up rfl (up rfl (up rfl (up rfl (up rfl (up rfl hs3)))))), up rfl (up rfl (up rfl (up rfl (up rfl (up rfl (up rfl hs4)))))), up rfl (up rfl (up rfl (up rfl (up rfl (up rfl (up rfl hs5)))))), up rfl (up rfl (up rfl (up rfl (up rfl (up rfl (up rfl hs6)))))), up rfl (up rfl (up rfl (up rfl (up rfl (up rfl (up rfl hs7)))))), tp, up rfl (up rfl (up rfl (up rfl (up rfl (up rfl (up rfl hs21))))))⟩ ?_
      rintro τ ⟨hs0, hs3, hs4, hs5, hs6, hs7, hs9, hs21⟩
      refine CW.seq ?_
      refine CW.seq ?_
      refine CW.region ?_
      refine RW.soft Wd.a (v := .int .i64 0) (by exact E.assign rfl) ?_
      refine RW.fin (fun τ => τ 0 = .slice Y rs.length d0 ∧ τ 3 = .bool true ∧ τ 4 = .int .i64 ((j : Nat) : Int) ∧ τ 5 = .slice X4 ((rs.map RingM.view).length) c5 ∧ τ 6 = .pointer (some ⟨kb9, 0, none⟩) ∧ τ 7 = .int .i64 0 ∧ τ 9 = .int .i64 0 ∧ τ 10 = .int .i64 0 ∧ τ 21 = .bool false) ⟨up rfl hs0, up rfl hs3, up rfl hs4, up rfl hs5, up rfl hs6, up rfl hs7, up rfl hs9, tp, up rfl hs21⟩ ?_
      rintro τ ⟨hs0, hs3, hs4, hs5, hs6, hs7, hs9, hs10, hs21⟩
      refine CW.block ?_
      have hst := hst.take (.there .here)
      have hst := hst.take (.there .here)
      have hst := hst.take (.there (.there .here))
      refine CW.loop (fun (k : Nat) (τ : Fr) (w : World) => ∃ (n : Nat) (kr : RK), n ≤ (rs.map RingM.view).length ∧ kr.length = (rs.map RingM.view).length ∧ (∀ r ∈ kr, r.2.length ≤ 8) ∧ k = (rs.map RingM.view).length - n ∧ τ 0 = .slice Y rs.length d0 ∧ τ 3 = .bool true ∧ τ 5 = .slice X4 ((rs.map RingM.view).length) c5 ∧ τ 6 = .pointer (some ⟨kb9, 0, none⟩) ∧ τ 7 = .int .i64 0 ∧ τ 9 = .int .i64 0 ∧ τ 10 = .int .i64 ((n : Nat) : Int) ∧ St p w (RowsV (.slice X4 ((rs.map RingM.view).length) c5) kr :: Emp :: KeysV 127 kb9 (rs.map RingM.view) :: R)) ((rs.map RingM.view).length - 0) ⟨0, (rs.map RingM.view), by omega, rfl, hsm.2, rfl, hs0, hs3, hs5, hs6, hs7, hs9, (int_eq (a := 0) hs10 (by omega)), hst⟩ ?_
      clear hst
      rintro k τ w ⟨n, kr, hn, hkrl, hsk, hkn, hs0, hs3, hs5, hs6, hs7, hs9, hs10, hst⟩
      refine CW.seq ?_
      refine CW.seq ?_
      refine CW.region ?_
      refine RW.soft Wd.a (v := .int .i64 ((n : Nat) : Int)) (by exact E.move (AF_ev rfl hs10)) ?_
      refine RW.soft Wd.a (v := .slice X4 ((rs.map RingM.view).length) c5) (by exact E.move (AF_ev rfl (up rfl hs5))) ?_
      refine RW.soft Wd.a (v := .int .i64 (((rs.map RingM.view).length : Nat) : Int)) (by exact E.lenS (p := X4) (l := (rs.map RingM.view).length) (c := c5) Try.underlying71 (AF_ev rfl tp)) ?_
      refine RW.soft Wd.a (v := .bool (decide (((n : Nat) : Int) < (((rs.map RingM.view).length : Nat) : Int)))) (by exact E.lss (k := .i64) (a := ((n : Nat) : Int)) (b := (((rs.map RingM.view).length : Nat) : Int)) (AF_ev rfl (up rfl (up rfl tp))) (AF_ev rfl tp)) ?_
      refine RW.fin (fun τ => τ 0 = .slice Y rs.length d0 ∧ τ 3 = .bool true ∧ τ 5 = .slice X4 ((rs.map RingM.view).length) c5 ∧ τ 6 = .pointer (some ⟨kb9, 0, none⟩) ∧ τ 7 = .int .i64 0 ∧ τ 9 = .int .i64 0 ∧ τ 10 = .int .i64 ((n : Nat) : Int) ∧ τ 47 = .bool (decide (((n : Nat) : Int) < (((rs.map RingM.view).length : Nat) : Int)))) ⟨up rfl (up rfl (up rfl (up rfl hs0))), up rfl (up rfl (up rfl (up rfl hs3))), up rfl (up rfl (up rfl (up rfl hs5))), up rfl (up rfl (up rfl (up rfl hs6))), up rfl (up rfl (up rfl (up rfl hs7))), up rfl (up rfl (up rfl (up rfl hs9))), up rfl (up rfl (up rfl (up rfl hs10))), tp⟩ ?_
      rintro τ ⟨hs0, hs3, hs5, hs6, hs7, hs9, hs10, hs47⟩
      refine CW.cond (AF_ev rfl hs47) (fun hc11 => ?_) (fun hc11 => ?_)
      · have hc11_ := hc11
        try simp only [decide_eq_true_eq, decide_eq_false_iff_not, Bool.and_eq_true, Bool.or_eq_true, Bool.and_eq_false_iff, Bool.or_eq_false_iff, Bool.not_eq_true', Bool.not_eq_false', beq_iff_eq, beq_eq_false_iff_ne, bne_iff_ne, bne_eq_false_iff_eq, ne_eq, Int.not_lt, Int.not_le, gt_iff_lt, ge_iff_le] at hc11_
        refine CW.skip ?_
        refine Th.n ?_
        refine CW.seq ?_
        refine CW.block ?_
        refine CW.seq ?_
        have hrl12 : (rs.map RingM.view).length ≤ 12 := hsm.1
        have hnl : n < kr.length := by omega
        obtain ⟨⟨o1, vs⟩, hkn1⟩ : ∃ z, kr[n]? = some z := ⟨kr[n], List.getElem?_eq_getElem hnl⟩
        have hv8 : vs.length ≤ 8 := hsk _ (List.mem_of_getElem? hkn1)
        obtain ⟨rz, g, Z, d, F, rfl, hcr, hmr, hY, hr, hst, turn⟩ := ringOpenF hkrl hst hkn1
        refine CW.region ?_
        refine RW.soft Wd.a (v := .slice (some ⟨g, 0, none⟩) ((rs.map RingM.view).length) c5) (by exact E.move (AF_ev rfl hs5)) ?_
        refine RW.soft Wd.a (v := .int .i64 ((n : Nat) : Int)) (by exact E.move (AF_ev rfl (up rfl hs10))) ?_
        refine RW.soft Wd.a (v := .slice (some ⟨g, 0, none⟩) ((rs.map RingM.view).length) c5) (by exact E.move (AF_ev rfl (up rfl (up rfl hs5)))) ?_
        refine RW.soft Wd.a (v := .int .i64 ((n : Nat) : Int)) (by exact E.move (AF_ev rfl (up rfl (up rfl (up rfl hs10))))) ?_
        refine RW.soft Wd.a (v := .pointer (some ⟨g, n * 2, none⟩)) (by exact E.indexAddr (b := g) (o := 0) (l := (rs.map RingM.view).length) (c := c5) (i := ((n : Nat) : Int)) Try.underlying71 sz84 (AF_ev rfl (up rfl tp)) (AF_ev rfl tp) (by omega) (by omega) (by simp)) ?_
        refine RW.soft Wd.a (v := .pointer (some ⟨g, n * 2, none⟩)) (by exact E.fieldAddr (b := g) (o := n * 2) (f := { name := "Off", type := 4, offset := 0, embedded := false, tag := "", pkgPath := "", byteOffset := 0 }) (AF_ev rfl tp) Try.underlying84 rfl sz4 rfl) ?_
        refine RW.soft Wd.a (v := .bool o1) (by exact E.load (a := ⟨g, n * 2, none⟩) Try.underlying4 rfl (AF_ev rfl tp) (hst.ocell .here (flat_get (j := 0) RingM.enc_len hr (rfl)))) ?_
        refine RW.soft Wd.a (v := .bool (!o1)) (by exact E.not (b := o1) (AF_ev rfl tp)) ?_
        refine RW.soft Wd.a (v := .pointer (some ⟨g, n * 2, none⟩)) (by exact E.indexAddr (b := g) (o := 0) (l := (rs.map RingM.view).length) (c := c5) (i := ((n : Nat) : Int)) Try.underlying71 sz84 (AF_ev rfl (up rfl (up rfl (up rfl (up rfl (up rfl (up rfl (up rfl tp)))))))) (AF_ev rfl (up rfl (up rfl (up rfl (up rfl (up rfl (up rfl tp))))))) (by omega) (by omega) (by simp)) ?_
        refine RW.soft Wd.a (v := .pointer (some ⟨g, n * 2, none⟩)) (by exact E.fieldAddr (b := g) (o := n * 2) (f := { name := "Off", type := 4, offset := 0, embedded := false, tag := "", pkgPath := "", byteOffset := 0 }) (AF_ev rfl tp) Try.underlying84 rfl sz4 rfl) ?_
        refine RW.hard Wd.a ?_
        refine H.storeInn (f := RingM.enc) (i := n) (d := 0) (m := 1) (v := .bool (!o1)) (news := [.bool (!o1)]) (a' := (RingM.mk (!o1) Z d vs)) RingM.enc_len (AF_ev rfl tp) (AF_ev rfl (up rfl (up rfl tp))) hst .here hr (by omega) rfl rfl rfl sz4 (by omega) (rfl) (by simp [Value.oneCell']) fun w hst => ?_
        refine RW.fin (fun τ => τ 0 = .slice Y rs.length d0 ∧ τ 3 = .bool true ∧ τ 5 = .slice (some ⟨g, 0, none⟩) ((rs.map RingM.view).length) c5 ∧ τ 6 = .pointer (some ⟨kb9, 0, none⟩) ∧ τ 7 = .int .i64 0 ∧ τ 9 = .int .i64 0 ∧ τ 10 = .int .i64 ((n : Nat) : Int) ∧ τ 47 = .bool true) ⟨u0 (up rfl (up rfl (up rfl (up rfl (up rfl (up rfl (up rfl (up rfl (up rfl (up rfl hs0)))))))))), u0 (up rfl (up rfl (up rfl (up rfl (up rfl (up rfl (up rfl (up rfl (up rfl (up rfl hs3)))))))))), u0 (up rfl (up rfl (up rfl (up rfl (up rfl (up rfl (up rfl (up rfl (up rfl (up rfl hs5)))))))))), u0 (up rfl (up rfl (up rfl (up rfl (up rfl (up rfl (up rfl (up rfl (up rfl (up rfl hs6)))))))))), u0 (up rfl (up rfl (up rfl (up rfl (up rfl (up rfl (up rfl (up rfl (up rfl (up rfl hs7)))))))))), u0 (up rfl (up rfl (up rfl (up rfl (up rfl (up rfl (up rfl (up rfl (up rfl (up rfl hs9)))))))))), u0 (up rfl (up rfl (up rfl (up rfl (up rfl (up rfl (up rfl (up rfl (up rfl (up rfl hs10)))))))))), u0 (up rfl (up rfl (up rfl (up rfl (up rfl (up rfl (up rfl (up rfl (up rfl (up rfl (Eq.trans hs47 (congrArg Value.bool hc11))))))))))))⟩ ?_
        rintro τ ⟨hs0, hs3, hs5, hs6, hs7, hs9, hs10, hs47⟩
        refine CW.seq ?_
        refine CW.region ?_
        refine RW.soft Wd.a (v := .int .i64 0) (by exact E.assign rfl) ?_
        refine RW.fin (fun τ => τ 0 = .slice Y rs.length d0 ∧ τ 3 = .bool true ∧ τ 5 = .slice (some ⟨g, 0, none⟩) ((rs.map RingM.view).length) c5 ∧ τ 6 = .pointer (some ⟨kb9, 0, none⟩) ∧ τ 7 = .int .i64 0 ∧ τ 9 = .int .i64 0 ∧ τ 10 = .int .i64 ((n : Nat) : Int) ∧ τ 11 = .int .i64 0 ∧ τ 47 = .bool true) ⟨up rfl hs0, up rfl hs3, up rfl hs5, up rfl hs6, up rfl hs7, up rfl hs9, up rfl hs10, tp, up rfl hs47⟩ ?_
        rintro τ ⟨hs0, hs3, hs5, hs6, hs7, hs9, hs10, hs11, hs47⟩
        refine CW.block ?_
        have hst := hst.take (.there .here)
        have hst := hst.take (.there .here)
        refine CW.loop (fun (k : Nat) (τ : Fr) (w : World) => ∃ (q : Nat) (vz : List Ver), q ≤ vs.length ∧ vz.length = vs.length ∧ k = vs.length - q ∧ τ 0 = .slice Y rs.length d0 ∧ τ 3 = .bool true ∧ τ 5 = .slice (some ⟨g, 0, none⟩) ((rs.map RingM.view).length) c5 ∧ τ 6 = .pointer (some ⟨kb9, 0, none⟩) ∧ τ 7 = .int .i64 0 ∧ τ 9 = .int .i64 0 ∧ τ 10 = .int .i64 ((n : Nat) : Int) ∧ τ 11 = .int .i64 ((q : Nat) : Int) ∧ St p w (Own 84 2 (.slice (some ⟨g, 0, none⟩) ((rs.map RingM.view).length) c5) ((rs.map RingM.view).length) ((rz.set n (RingM.mk (!o1) Z d vs)).flatMap RingM.enc) :: Own 86 34 (.slice Z vs.length d) vs.length (vz.flatMap Ver.enc) :: F)) (vs.length - 0) ⟨0, vs, by omega, rfl, rfl, hs0, hs3, hs5, hs6, hs7, hs9, hs10, (int_eq (a := 0) hs11 (by omega)), hst⟩ ?_
        clear hst
        rintro k τ w ⟨q, vz, hq, hvsl, hkq, hs0, hs3, hs5, hs6, hs7, hs9, hs10, hs11, hst⟩
        refine CW.seq ?_
        refine CW.seq ?_
        refine CW.region ?_
        refine RW.soft Wd.a (v := .int .i64 ((q : Nat) : Int)) (by exact E.move (AF_ev rfl hs11)) ?_
        refine RW.soft Wd.a (v := .slice (some ⟨g, 0, none⟩) ((rs.map RingM.view).length) c5) (by exact E.move (AF_ev rfl (up rfl hs5))) ?_
        refine RW.soft Wd.a (v := .int .i64 ((n : Nat) : Int)) (by exact E.move (AF_ev rfl (up rfl (up rfl hs10)))) ?_
        refine RW.soft Wd.a (v := .pointer (some ⟨g, n * 2, none⟩)) (by exact E.indexAddr (b := g) (o := 0) (l := (rs.map RingM.view).length) (c := c5) (i := ((n : Nat) : Int)) Try.underlying71 sz84 (AF_ev rfl (up rfl tp)) (AF_ev rfl tp) (by omega) (by omega) (by simp)) ?_
        refine RW.soft Wd.a (v := .pointer (some ⟨g, n * 2 + 1, none⟩)) (by exact E.fieldAddr (b := g) (o := n * 2) (f := { name := "L", type := 82, offset := 1, embedded := false, tag := "", pkgPath := "", byteOffset := 8 }) (AF_ev rfl tp) Try.underlying84 rfl sz82 rfl) ?_
        refine RW.soft Wd.a (v := .slice Z vs.length d) (by exact E.load (a := ⟨g, n * 2 + 1, none⟩) Try.underlying82 rfl (AF_ev rfl tp) (hst.ocell .here (flat_get (j := 1) RingM.enc_len (set_at hr) (rfl)))) ?_
        refine RW.soft Wd.a (v := .int .i64 ((vs.length : Nat) : Int)) (by exact E.lenS (p := Z) (l := vs.length) (c := d) Try.underlying82 (AF_ev rfl tp)) ?_
        refine RW.soft Wd.a (v := .bool (decide (((q : Nat) : Int) < ((vs.length : Nat) : Int)))) (by exact E.lss (k := .i64) (a := ((q : Nat) : Int)) (b := ((vs.length : Nat) : Int)) (AF_ev rfl (up rfl (up rfl (up rfl (up rfl (up rfl (up rfl tp))))))) (AF_ev rfl tp)) ?_
        refine RW.fin (fun τ => τ 0 = .slice Y rs.length d0 ∧ τ 3 = .bool true ∧ τ 5 = .slice (some ⟨g, 0, none⟩) ((rs.map RingM.view).length) c5 ∧ τ 6 = .pointer (some ⟨kb9, 0, none⟩) ∧ τ 7 = .int .i64 0 ∧ τ 9 = .int .i64 0 ∧ τ 10 = .int .i64 ((n : Nat) : Int) ∧ τ 11 = .int .i64 ((q : Nat) : Int) ∧ τ 67 = .bool (decide (((q : Nat) : Int) < ((vs.length : Nat) : Int)))) ⟨up rfl (up rfl (up rfl (up rfl (up rfl (up rfl (up rfl (up rfl hs0))))))), up rfl (up rfl (up rfl (up rfl (up rfl (up rfl (up rfl (up rfl hs3))))))), up rfl (up rfl (up rfl (up rfl (up rfl (up rfl (up rfl (up rfl hs5))))))), up rfl (up rfl (up rfl (up rfl (up rfl (up rfl (up rfl (up rfl hs6))))))), up rfl (up rfl (up rfl (up rfl (up rfl (up rfl (up rfl (up rfl hs7))))))), up rfl (up rfl (up rfl (up rfl (up rfl (up rfl (up rfl (up rfl hs9))))))), up rfl (up rfl (up rfl (up rfl (up rfl (up rfl (up rfl (up rfl hs10))))))), up rfl (up rfl (up rfl (up rfl (up rfl (up rfl (up rfl (up rfl hs11))))))), tp⟩ ?_
        rintro τ ⟨hs0, hs3, hs5, hs6, hs7, hs9, hs10, hs11, hs67⟩
        refine CW.cond (AF_ev rfl hs67) (fun hc12 => ?_) (fun hc12 => ?_)
        · have hc12_ := hc12
          try simp only [decide_eq_true_eq, decide_eq_false_iff_not, Bool.and_eq_true, Bool.or_eq_true, Bool.and_eq_false_iff, Bool.or_eq_false_iff, Bool.not_eq_true', Bool.not_eq_false', beq_iff_eq, beq_eq_false_iff_ne, bne_iff_ne, bne_eq_false_iff_eq, ne_eq, Int.not_lt, Int.not_le, gt_iff_lt, ge_iff_le] at hc12_
          refine CW.skip ?_
          refine Th.n ?_
          refine CW.seq ?_
          refine CW.block ?_
          obtain ⟨gr, rfl⟩ := hY (by omega)
          obtain ⟨x, hx⟩ : ∃ z, vz[q]? = some z := ⟨vz[q]'(by omega), List.getElem?_eq_getElem (by omega)⟩
          refine CW.region ?_
          refine RW.soft Wd.a (v := .slice (some ⟨g, 0, none⟩) ((rs.map RingM.view).length) c5) (by exact E.move (AF_ev rfl hs5)) ?_
          refine RW.soft Wd.a (v := .int .i64 ((n : Nat) : Int)) (by exact E.move (AF_ev rfl (up rfl hs10))) ?_
          refine RW.soft Wd.a (v := .pointer (some ⟨g, n * 2, none⟩)) (by exact E.indexAddr (b := g) (o := 0) (l := (rs.map RingM.view).length) (c := c5) (i := ((n : Nat) : Int)) Try.underlying71 sz84 (AF_ev rfl (up rfl tp)) (AF_ev rfl tp) (by omega) (by omega) (by simp)) ?_
          refine RW.soft Wd.a (v := .pointer (some ⟨g, n * 2 + 1, none⟩)) (by exact E.fieldAddr (b := g) (o := n * 2) (f := { name := "L", type := 82, offset := 1, embedded := false, tag := "", pkgPath := "", byteOffset := 8 }) (AF_ev rfl tp) Try.underlying84 rfl sz82 rfl) ?_
          refine RW.soft Wd.a (v := .slice (some ⟨gr, 0, none⟩) vs.length d) (by exact E.load (a := ⟨g, n * 2 + 1, none⟩) Try.underlying82 rfl (AF_ev rfl tp) (hst.ocell .here (flat_get (j := 1) RingM.enc_len (set_at hr) (rfl)))) ?_
          refine RW.soft Wd.a (v := .int .i64 ((q : Nat) : Int)) (by exact E.move (AF_ev rfl (up rfl (up rfl (up rfl (up rfl (up rfl hs11))))))) ?_
          refine RW.soft Wd.a (v := .pointer (some ⟨gr, q * 34, none⟩)) (by exact E.indexAddr (b := gr) (o := 0) (l := vs.length) (c := d) (i := ((q : Nat) : Int)) Try.underlying82 sz86 (AF_ev rfl (up rfl tp)) (AF_ev rfl tp) (by omega) (by omega) (by simp)) ?_
          refine RW.soft Wd.a (v := .pointer (some ⟨gr, q * 34 + 32, none⟩)) (by exact E.fieldAddr (b := gr) (o := q * 34) (f := { name := "Uses", type := 3, offset := 32, embedded := false, tag := "", pkgPath := "", byteOffset := 32 }) (AF_ev rfl tp) Try.underlying86 rfl sz3 rfl) ?_
          refine RW.hard Wd.a ?_
          refine H.storeInn (f := Ver.enc) (i := q) (d := 32) (m := 1) (v := .int .i64 99) (news := [.int .i64 99]) (a' := (Ver.mk x.mat 99 x.gone)) Ver.enc_len (AF_ev rfl tp) rfl hst (.there .here) hx (by omega) rfl rfl rfl sz3 (by omega) (Ver.set_uses x _) (by simp [Value.oneCell']) fun w hst => ?_
          refine RW.nil ?_
          refine Bl.n ?_
          refine Th.n ?_
          refine CW.region ?_
          refine RW.soft Wd.a (v := .int .i64 ((q : Nat) : Int)) (by exact E.move (AF_ev rfl (u0 (up rfl (up rfl (up rfl (up rfl (up rfl (up rfl (up rfl (up rfl hs11))))))))))) ?_
          refine RW.soft Wd.a (v := .int .i64 (((q : Nat) : Int) + 1)) (by exact E.add (k := .i64) (a := ((q : Nat) : Int)) (b := 1) (AF_ev rfl tp) rfl (show IntKind.i64.wrap (((q : Nat) : Int) + 1) = ((q : Nat) : Int) + 1 from (by rw [IntWalk.i64_in _ (by omega)]))) ?_
          refine RW.soft Wd.a (v := .int .i64 (((q : Nat) : Int) + 1)) (by exact E.assign (AF_ev rfl tp)) ?_
          refine RW.nil ?_
          refine Th.n ?_
          have hst := hst.take (.there .here)
          exact ⟨vs.length - (q + 1), by omega, q + 1, (vz.set q (Ver.mk x.mat 99 x.gone)), (by omega), (by rw [List.length_set]; exact hvsl), rfl, up rfl (up rfl (up rfl (u0 (up rfl (up rfl (up rfl (up rfl (up rfl (up rfl (up rfl (up rfl hs0))))))))))), up rfl (up rfl (up rfl (u0 (up rfl (up rfl (up rfl (up rfl (up rfl (up rfl (up rfl (up rfl hs3))))))))))), up rfl (up rfl (up rfl (u0 (up rfl (up rfl (up rfl (up rfl (up rfl (up rfl (up rfl (up rfl hs5))))))))))), up rfl (up rfl (up rfl (u0 (up rfl (up rfl (up rfl (up rfl (up rfl (up rfl (up rfl (up rfl hs6))))))))))), up rfl (up rfl (up rfl (u0 (up rfl (up rfl (up rfl (up rfl (up rfl (up rfl (up rfl (up rfl hs7))))))))))), up rfl (up rfl (up rfl (u0 (up rfl (up rfl (up rfl (up rfl (up rfl (up rfl (up rfl (up rfl hs9))))))))))), up rfl (up rfl (up rfl (u0 (up rfl (up rfl (up rfl (up rfl (up rfl (up rfl (up rfl (up rfl hs10))))))))))), (int_eq (a := ((q : Nat) : Int) + 1) tp (by omega)), hst⟩
        · have hc12_ := hc12
          try simp only [decide_eq_true_eq, decide_eq_false_iff_not, Bool.and_eq_true, Bool.or_eq_true, Bool.and_eq_false_iff, Bool.or_eq_false_iff, Bool.not_eq_true', Bool.not_eq_false', beq_iff_eq, beq_eq_false_iff_ne, bne_iff_ne, bne_eq_false_iff_eq, ne_eq, Int.not_lt, Int.not_le, gt_iff_lt, ge_iff_le] at hc12_
          refine CW.exit ?_
          refine Th.x ?_
          refine Th.x ?_
          refine Bl.x ?_
          refine Bl.n ?_
          refine Th.n ?_
          have hst := hst.take (.there .here)
          have hst := hst.take (.there .here)
          have hst := turn hvsl hst
          have hsm2 : ∀ r ∈ kr.set n (!o1, vz), r.2.length ≤ 8 := fun r hr2 => by
            rcases List.mem_or_eq_of_mem_set hr2 with h1 | rfl
            · exact hsk r h1
            · show vz.length ≤ 8; omega
          refine CW.region ?_
          refine RW.soft Wd.a (v := .int .i64 ((n : Nat) : Int)) (by exact E.move (AF_ev rfl hs10)) ?_
          refine RW.soft Wd.a (v := .int .i64 (((n : Nat) : Int) + 1)) (by exact E.add (k := .i64) (a := ((n : Nat) : Int)) (b := 1) (AF_ev rfl tp) rfl (show IntKind.i64.wrap (((n : Nat) : Int) + 1) = ((n : Nat) : Int) + 1 from (by rw [IntWalk.i64_in _ (by omega)]))) ?_
          refine RW.soft Wd.a (v := .int .i64 (((n : Nat) : Int) + 1)) (by exact E.assign (AF_ev rfl tp)) ?_
          refine RW.nil ?_
          refine Th.n ?_
          have hst := hst.take (.there (.there .here))
          have hst := hst.take (.there (.there .here))
          have hst := hst.take (.there (.there .here))
          exact ⟨(rs.map RingM.view).length - (n + 1), by omega, n + 1, (kr.set n (!o1, vz)), (by omega), (by rw [List.length_set]; exact hkrl), hsm2, rfl, up rfl (up rfl (up rfl hs0)), up rfl (up rfl (up rfl hs3)), up rfl (up rfl (up rfl hs5)), up rfl (up rfl (up rfl hs6)), up rfl (up rfl (up rfl hs7)), up rfl (up rfl (up rfl hs9)), (int_eq (a := ((n : Nat) : Int) + 1) tp (by omega)), hst⟩
      · have hc11_ := hc11
        try simp only [decide_eq_true_eq, decide_eq_false_iff_not, Bool.and_eq_true, Bool.or_eq_true, Bool.and_eq_false_iff, Bool.or_eq_false_iff, Bool.not_eq_true', Bool.not_eq_false', beq_iff_eq, beq_eq_false_iff_ne, bne_iff_ne, bne_eq_false_iff_eq, ne_eq, Int.not_lt, Int.not_le, gt_iff_lt, ge_iff_le] at hc11_
        refine CW.exit ?_
        refine Th.x ?_
        refine Th.x ?_
        refine Bl.x ?_
        refine Th.n ?_
        refine CW.seq ?_
        refine CW.seq ?_
        refine CW.region ?_
        refine RW.soft Wd.a (v := .bool true) (by exact E.move (AF_ev rfl hs3)) ?_
        refine RW.soft Wd.a (v := .bool false) (by exact E.not (b := true) (AF_ev rfl tp)) ?_
        refine RW.soft Wd.a (v := .bool false) (by exact E.move (AF_ev rfl tp)) ?_
        refine RW.soft (by exact Wd.yes (x := 80) rfl (AF_ev rfl tp)) (v := .int .i64 0) (by exact E.move (AF_ev rfl (up rfl (up rfl (up rfl hs7))))) ?_
        refine RW.soft (by exact Wd.yes (x := 80) rfl (AF_ev rfl (up rfl tp))) (v := .int .i64 0) (by exact E.move (AF_ev rfl (up rfl (up rfl (up rfl (up rfl hs9)))))) ?_
        refine RW.soft (by exact Wd.yes (x := 80) rfl (AF_ev rfl (up rfl (up rfl tp)))) (v := .bool false) (by exact E.neq (k := .i64) (a := 0) (b := 0) (AF_ev rfl (up rfl tp)) (AF_ev rfl tp)) ?_
        refine RW.soft Wd.a (v := .bool false) (by exact E.pickF (AF_ev rfl (up rfl (up rfl (up rfl tp)))) (AF_ev rfl tp)) ?_
        refine RW.soft Wd.a (v := .bool false) (by exact E.move (AF_ev rfl tp)) ?_
        refine RW.soft (by exact Wd.yes (x := 85) rfl (AF_ev rfl tp)) (v := .pointer (some ⟨kb9, 0, none⟩)) (by exact E.move (AF_ev rfl (up rfl (up rfl (up rfl (up rfl (up rfl (up rfl (up rfl (up rfl hs6)))))))))) ?_
        refine RW.soft (by exact Wd.yes (x := 85) rfl (AF_ev rfl (up rfl tp))) (v := .bool false) (by exact E.eqlP (p := (some ⟨kb9, 0, none⟩)) Try.underlying69 (AF_ev rfl tp) rfl) ?_
        refine RW.soft (by exact Wd.yes (x := 85) rfl (AF_ev rfl (up rfl (up rfl tp)))) (v := .int .i64 0) (by exact E.move (AF_ev rfl (up rfl (up rfl (up rfl (up rfl (up rfl (up rfl (up rfl (up rfl (up rfl (up rfl hs7)))))))))))) ?_
        refine RW.soft (by exact Wd.yes (x := 85) rfl (AF_ev rfl (up rfl (up rfl (up rfl tp))))) (v := .bool false) (by exact E.neq (k := .i64) (a := 0) (b := 0) (AF_ev rfl tp) rfl) ?_
        refine RW.soft (by exact Wd.yes (x := 85) rfl (AF_ev rfl (up rfl (up rfl (up rfl (up rfl tp)))))) (v := .bool false) (by exact E.neqB (a := false) (b := false) Try.underlying4 (AF_ev rfl (up rfl (up rfl tp))) (AF_ev rfl tp)) ?_
        refine RW.soft Wd.a (v := .bool false) (by exact E.pickF (AF_ev rfl (up rfl (up rfl (up rfl (up rfl (up rfl tp)))))) (AF_ev rfl tp)) ?_
        refine RW.fin (fun τ => τ 0 = .slice Y rs.length d0 ∧ τ 3 = .bool true ∧ τ 5 = .slice X4 ((rs.map RingM.view).length) c5 ∧ τ 6 = .pointer (some ⟨kb9, 0, none⟩) ∧ τ 7 = .int .i64 0 ∧ τ 9 = .int .i64 0 ∧ τ 10 = .int .i64 ((n : Nat) : Int) ∧ τ 47 = .bool false ∧ τ 91 = .bool false) ⟨up rfl (up rfl (up rfl (up rfl (up rfl (up rfl (up rfl (up rfl (up rfl (up rfl (up rfl (up rfl (up rfl (up rfl hs0))))))))))))), up rfl (up rfl (up rfl (up rfl (up rfl (up rfl (up rfl (up rfl (up rfl (up rfl (up rfl (up rfl (up rfl (up rfl hs3))))))))))))), up rfl (up rfl (up rfl (up rfl (up rfl (up rfl (up rfl (up rfl (up rfl (up rfl (up rfl (up rfl (up rfl (up rfl hs5))))))))))))), up rfl (up rfl (up rfl (up rfl (up rfl (up rfl (up rfl (up rfl (up rfl (up rfl (up rfl (up rfl (up rfl (up rfl hs6))))))))))))), up rfl (up rfl (up rfl (up rfl (up rfl (up rfl (up rfl (up rfl (up rfl (up rfl (up rfl (up rfl (up rfl (up rfl hs7))))))))))))), up rfl (up rfl (up rfl (up rfl (up rfl (up rfl (up rfl (up rfl (up rfl (up rfl (up rfl (up rfl (up rfl (up rfl hs9))))))))))))), up rfl (up rfl (up rfl (up rfl (up rfl (up rfl (up rfl (up rfl (up rfl (up rfl (up rfl (up rfl (up rfl (up rfl hs10))))))))))))), up rfl (up rfl (up rfl (up rfl (up rfl (up rfl (up rfl (up rfl (up rfl (up rfl (up rfl (up rfl (up rfl (up rfl (Eq.trans hs47 (congrArg Value.bool hc11))))))))))))))), tp⟩ ?_
        rintro τ ⟨hs0, hs3, hs5, hs6, hs7, hs9, hs10, hs47, hs91⟩
        refine CW.condF (AF_ev rfl hs91) ?_
        refine CW.skip ?_
        refine Th.n ?_
        refine CW.seq ?_
        refine CW.region ?_
        refine RW.soft Wd.a (v := .pointer (some ⟨kb9, 0, none⟩)) (by exact E.move (AF_ev rfl hs6)) ?_
        refine RW.soft Wd.a (v := .bool false) (by exact E.eqlP (p := (some ⟨kb9, 0, none⟩)) Try.underlying69 (AF_ev rfl tp) rfl) ?_
        refine RW.soft Wd.a (v := .bool false) (by exact E.move (AF_ev rfl tp)) ?_
        refine RW.soft (by exact Wd.yes (x := 94) rfl (AF_ev rfl tp)) (v := .pointer (some ⟨kb9, 0, none⟩)) (by exact E.move (AF_ev rfl (up rfl (up rfl (up rfl hs6))))) ?_
        have hst := hst.take (.there (.there .here))
        refine RW.hard (by exact Wd.yes (x := 94) rfl (AF_ev rfl (up rfl tp))) ?_
        refine H.call0 Try.func40 nm40 rfl (map1 (AF_ev rfl tp)) (Calls.mono (prog_Rings hst) ?_)
        rintro _ w ⟨vX13, rfl, hst⟩
        obtain ⟨X13, c14, rfl, hcX13⟩ := rowsShape hst
        refine ⟨_, rfl, ?_⟩
        show RW _ _ _ _ _ _ _
        refine RW.soft (by exact Wd.yes (x := 94) rfl (AF_ev rfl (up rfl (up rfl tp)))) (v := .slice Y rs.length d0) (by exact E.move (AF_ev rfl (up rfl (up rfl (up rfl (up rfl (up rfl hs0))))))) ?_
        have hst := hst.take (.there (.there (.there .here)))
        have hst := hst.take (.there .here)
        refine RW.hard (by exact Wd.yes (x := 94) rfl (AF_ev rfl (up rfl (up rfl (up rfl tp))))) ?_
        refine H.call0 Try.func48 nm48 rfl (map2 (AF_ev rfl (up rfl tp)) (AF_ev rfl tp)) (Calls.mono (ref_SameE hA hsm hst) ?_)
        rintro _ w ⟨rfl, hst⟩
        refine ⟨_, rfl, ?_⟩
        show RW _ _ _ _ _ _ _
        refine RW.soft Wd.a (v := .bool true) (by exact E.pickF (AF_ev rfl (up rfl (up rfl (up rfl (up rfl tp))))) (AF_ev rfl tp)) ?_
        refine RW.soft Wd.a (v := .bool true) (by exact E.assign (AF_ev rfl tp)) ?_
        refine RW.fin (fun τ => τ 0 = .slice Y rs.length d0 ∧ τ 2 = .bool true ∧ τ 3 = .bool true ∧ τ 5 = .slice X4 ((rs.map RingM.view).length) c5 ∧ τ 6 = .pointer (some ⟨kb9, 0, none⟩) ∧ τ 7 = .int .i64 0 ∧ τ 9 = .int .i64 0 ∧ τ 10 = .int .i64 ((n : Nat) : Int) ∧ τ 47 = .bool false ∧ τ 91 = .bool false) ⟨up rfl (up rfl (up rfl (up rfl (up rfl (up rfl (up rfl (up rfl (up rfl hs0)))))))), tp, up rfl (up rfl (up rfl (up rfl (up rfl (up rfl (up rfl (up rfl (up rfl hs3)))))))), up rfl (up rfl (up rfl (up rfl (up rfl (up rfl (up rfl (up rfl (up rfl hs5)))))))), up rfl (up rfl (up rfl (up rfl (up rfl (up rfl (up rfl (up rfl (up rfl hs6)))))))), up rfl (up rfl (up rfl (up rfl (up rfl (up rfl (up rfl (up rfl (up rfl hs7)))))))), up rfl (up rfl (up rfl (up rfl (up rfl (up rfl (up rfl (up rfl (up rfl hs9)))))))), up rfl (up rfl (up rfl (up rfl (up rfl (up rfl (up rfl (up rfl (up rfl hs10)))))))), up rfl (up rfl (up rfl (up rfl (up rfl (up rfl (up rfl (up rfl (up rfl hs47)))))))), up rfl (up rfl (up rfl (up rfl (up rfl (up rfl (up rfl (up rfl (up rfl hs91))))))))⟩ ?_
        rintro τ ⟨hs0, hs2, hs3, hs5, hs6, hs7, hs9, hs10, hs47, hs91⟩
        refine CW.ret ?_
        refine ret1 (v := .bool true) rfl (by exact (.tmp (AF_ev rfl hs2) .nil)) ?_
        have hst := (hst.take .here).drop
        have hst := (hst.take .here).drop
        have hst := (hst.take .here).drop
        exact ⟨rfl, hst⟩
end Go.Proofs.Ytdlcjoonhojpfaa
