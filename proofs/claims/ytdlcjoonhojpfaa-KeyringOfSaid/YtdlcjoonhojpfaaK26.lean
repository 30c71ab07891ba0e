/- The calls of the package keyring, walked through operation by operation. -/
import Derived.Test.YtdlcjoonhojpfaaK14
import Derived.Test.YtdlcjoonhojpfaaK13
import Derived.Test.YtdlcjoonhojpfaaK12
import Derived.Test.YtdlcjoonhojpfaaK11
import Derived.Test.YtdlcjoonhojpfaaK10
import Derived.Test.YtdlcjoonhojpfaaK9
import Derived.Test.YtdlcjoonhojpfaaK8
import Derived.Test.YtdlcjoonhojpfaaK7
import Derived.Test.YtdlcjoonhojpfaaK6
import Derived.Test.YtdlcjoonhojpfaaK5
import Derived.Test.YtdlcjoonhojpfaaK4
import Derived.Test.YtdlcjoonhojpfaaK3
import Derived.Test.YtdlcjoonhojpfaaK22
import Derived.Test.YtdlcjoonhojpfaaK25
namespace Go.Proofs.Ytdlcjoonhojpfaa
open Go.RowKit Go.SL Go.K13
attribute [local irreducible] Go.SL.RW Go.SL.CW Go.SL.RD Go.SL.Hd Go.SL.St
set_option linter.unusedVariables false
set_option linter.unusedSimpArgs false

theorem nm84 : (Try.f84.name == "runtime.NumGoroutine") = false := by kernel_rfl
theorem nm85 : (Try.f85.name == "runtime.NumGoroutine") = false := by kernel_rfl
theorem nm86 : (Try.f86.name == "runtime.NumGoroutine") = false := by kernel_rfl
theorem nm87 : (Try.f87.name == "runtime.NumGoroutine") = false := by kernel_rfl
theorem nm92 : (Try.f92.name == "runtime.NumGoroutine") = false := by kernel_rfl
theorem nm93 : (Try.f93.name == "runtime.NumGoroutine") = false := by kernel_rfl
theorem sz132 : (Try.prog.info? 132).map (·.size) = some 1 := by kernel_rfl
theorem zr132 : (Try.prog.info? 132).bind (·.zero) = some (.nilFunc) := by kernel_rfl

theorem ref_Copy {p : Pers} {w : World} {R : List Assn} {A : Assn} {X : Option Addr} {c : Nat} {rs : List RingM} (hA : Tells13 p A (.slice X rs.length c) rs) (h12 : rs.length ≤ 12) (h8 : ∀ r ∈ rs, r.vers.length ≤ 8) (hst : St p w (A :: R)) :
    Calls Try.prog 61 #[.slice X rs.length c] w fun e w => ∃ v, e = .returned v ∧ St p w (RowsV v (rs.map RingM.view) :: A :: R) := by
  refine enter Try.func61 rfl (by simp) (n := 28) rfl fun τ hτ => ?_
  have hs0 : τ 0 = .slice X rs.length c := hτ 0 (by simp)
  clear hτ
  refine CW.seq ?_
  refine CW.region ?_
  refine RW.soft Wd.a (v := .slice none 0 0) (by exact E.assign rfl) ?_
  refine RW.fin (fun τ => τ 0 = .slice X rs.length c ∧ τ 2 = .slice none 0 0) ⟨up rfl hs0, tp⟩ ?_
  rintro τ ⟨hs0, hs2⟩
  refine CW.seq ?_
  refine CW.region ?_
  refine RW.soft Wd.a (v := .slice none 0 0) (by exact E.assign rfl) ?_
  refine RW.fin (fun τ => τ 0 = .slice X rs.length c ∧ τ 2 = .slice none 0 0 ∧ τ 3 = .slice none 0 0) ⟨up rfl hs0, up rfl hs2, tp⟩ ?_
  rintro τ ⟨hs0, hs2, hs3⟩
  refine CW.seq ?_
  refine CW.seq ?_
  have hst : St p w (RowsV (.slice none 0 0) [] :: A :: R) := rowsClose (ks := []) (rs := []) rfl (hst.ownNil (e := 84) (sz := 2) none)
  refine CW.region ?_
  refine RW.soft Wd.a (v := .int .i64 0) (by exact E.assign rfl) ?_
  refine RW.fin (fun τ => τ 0 = .slice X rs.length c ∧ τ 2 = .slice none 0 0 ∧ τ 3 = .slice none 0 0 ∧ τ 4 = .int .i64 0) ⟨up rfl hs0, up rfl hs2, up rfl hs3, tp⟩ ?_
  rintro τ ⟨hs0, hs2, hs3, hs4⟩
  refine CW.block ?_
  have hst := hst.take (.there .here)
  have hst := hst.take (.there .here)
  refine CW.loop (fun (k : Nat) (τ : Fr) (w : World) => ∃ (j : Nat) (X1 : Option Addr) (c1 : Nat), j ≤ rs.length ∧ k = rs.length - j ∧ τ 0 = .slice X rs.length c ∧ τ 4 = .int .i64 ((j : Nat) : Int) ∧ τ 3 = .slice X1 j c1 ∧ St p w (RowsV (.slice X1 j c1) ((rs.take j).map RingM.view) :: A :: R)) (rs.length - 0) ⟨0, none, 0, by omega, rfl, hs0, (int_eq (a := 0) hs4 (by omega)), hs3, hst⟩ ?_
  clear hst
  rintro k τ w ⟨j, X1, c1, hj, hkj, hs0, hs4, hs3, hst⟩
  refine CW.seq ?_
  refine CW.seq ?_
  refine CW.region ?_
  refine RW.soft Wd.a (v := .int .i64 ((j : Nat) : Int)) (by exact E.move (AF_ev rfl hs4)) ?_
  refine RW.soft Wd.a (v := .slice X rs.length c) (by exact E.move (AF_ev rfl (up rfl hs0))) ?_
  refine RW.soft Wd.a (v := .int .i64 ((rs.length : Nat) : Int)) (by exact E.lenS (p := X) (l := rs.length) (c := c) Try.underlying71 (AF_ev rfl tp)) ?_
  refine RW.soft Wd.a (v := .bool (decide (((j : Nat) : Int) < ((rs.length : Nat) : Int)))) (by exact E.lss (k := .i64) (a := ((j : Nat) : Int)) (b := ((rs.length : Nat) : Int)) (AF_ev rfl (up rfl (up rfl tp))) (AF_ev rfl tp)) ?_
  refine RW.fin (fun τ => τ 0 = .slice X rs.length c ∧ τ 3 = .slice X1 j c1 ∧ τ 4 = .int .i64 ((j : Nat) : Int) ∧ τ 8 = .bool (decide (((j : Nat) : Int) < ((rs.length : Nat) : Int)))) ⟨up rfl (up rfl (up rfl (up rfl hs0))), up rfl (up rfl (up rfl (up rfl hs3))), up rfl (up rfl (up rfl (up rfl hs4))), tp⟩ ?_
  rintro τ ⟨hs0, hs3, hs4, hs8⟩
  refine CW.cond (AF_ev rfl hs8) (fun hc1 => ?_) (fun hc1 => ?_)
  · have hc1_ := hc1
    try simp only [decide_eq_true_eq, decide_eq_false_iff_not, Bool.and_eq_true, Bool.or_eq_true, Bool.and_eq_false_iff, Bool.or_eq_false_iff, Bool.not_eq_true', Bool.not_eq_false', beq_iff_eq, beq_eq_false_iff_ne, bne_iff_ne, bne_eq_false_iff_eq, ne_eq, Int.not_lt, Int.not_le, gt_iff_lt, ge_iff_le] at hc1_
    refine CW.skip ?_
    refine Th.n ?_
    refine CW.seq ?_
    refine CW.block ?_
    have hjl : j < rs.length := by omega
    have htl : ((rs.take j).map RingM.view).length = j := by rw [List.length_map, List.length_take]; omega
    have hst := hst.take (.there .here)
    have hst := hst.take (.there .here)
    obtain ⟨rs2, R2, hc2, hm2, hst, more⟩ := rowsGrow htl hst
    obtain ⟨ba, oa, rfl, hca⟩ := hA.place (hst.take (.there .here)) (by omega)
    obtain ⟨⟨o, Y, d, vs⟩, hr⟩ : ∃ z, rs[j]? = some z := ⟨rs[j], List.getElem?_eq_getElem hjl⟩
    have hv8 : vs.length ≤ 8 := h8 _ (List.mem_of_getElem? hr)
    refine CW.regionD [0, 1, 2, 3, 4, 5, 7, 8, 9, 10, 11] (fun w => w.cell? ⟨ba, oa + j * 2, none⟩ = some (.bool o) ∧ w.cell? ⟨ba, oa + j * 2 + 1, none⟩ = some (.slice Y vs.length d)) mixed ?_
    have hst := hst.drew
    generalize w.drew = w at hst ⊢
    have hS : w.cell? ⟨ba, oa + j * 2, none⟩ = some (.bool o) ∧ w.cell? ⟨ba, oa + j * 2 + 1, none⟩ = some (.slice Y vs.length d) := ⟨(by exact hca (hst.take (.there .here)) _ _ (flat_get (j := 0) RingM.enc_len hr (rfl))), (by rw [Nat.add_assoc]; exact hca (hst.take (.there .here)) _ _ (flat_get (j := 1) RingM.enc_len hr (rfl)))⟩
    refine RD.take 0 rfl (by kernel_rfl) Wd.a (v := .slice X1 j c1) (fun w hS => by exact E.move (AF_ev rfl hs3)) hS ?_
    refine RD.take 1 rfl (by kernel_rfl) Wd.a (v := .slice (some ⟨ba, oa, none⟩) rs.length c) (fun w hS => by exact E.move (AF_ev rfl (up rfl hs0))) hS ?_
    refine RD.take 2 rfl (by kernel_rfl) Wd.a (v := .int .i64 ((j : Nat) : Int)) (fun w hS => by exact E.move (AF_ev rfl (up rfl (up rfl hs4)))) hS ?_
    refine RD.take 3 rfl (by kernel_rfl) Wd.a (v := .pointer (some ⟨ba, oa + j * 2, none⟩)) (fun w hS => by exact E.indexAddr (b := ba) (o := oa) (l := rs.length) (c := c) (i := ((j : Nat) : Int)) Try.underlying71 sz84 (AF_ev rfl (up rfl tp)) (AF_ev rfl tp) (by omega) (by omega) (by simp)) hS ?_
    refine RD.take 4 rfl (by kernel_rfl) Wd.a (v := .pointer (some ⟨ba, oa + j * 2, none⟩)) (fun w hS => by exact E.fieldAddr (b := ba) (o := oa + j * 2) (f := { name := "Off", type := 4, offset := 0, embedded := false, tag := "", pkgPath := "", byteOffset := 0 }) (AF_ev rfl tp) Try.underlying84 rfl sz4 rfl) hS ?_
    refine RD.take 5 rfl (by kernel_rfl) Wd.a (v := .bool o) (fun w hS => by exact E.load (a := ⟨ba, oa + j * 2, none⟩) Try.underlying4 rfl (AF_ev rfl tp) hS.1) hS ?_
    refine RD.take 7 rfl (by kernel_rfl) Wd.a (v := .slice (some ⟨ba, oa, none⟩) rs.length c) (fun w hS => by exact E.move (AF_ev rfl (up rfl (up rfl (up rfl (up rfl (up rfl (up rfl hs0)))))))) hS ?_
    refine RD.take 8 rfl (by kernel_rfl) Wd.a (v := .int .i64 ((j : Nat) : Int)) (fun w hS => by exact E.move (AF_ev rfl (up rfl (up rfl (up rfl (up rfl (up rfl (up rfl (up rfl hs4))))))))) hS ?_
    refine RD.take 9 rfl (by kernel_rfl) Wd.a (v := .pointer (some ⟨ba, oa + j * 2, none⟩)) (fun w hS => by exact E.indexAddr (b := ba) (o := oa) (l := rs.length) (c := c) (i := ((j : Nat) : Int)) Try.underlying71 sz84 (AF_ev rfl (up rfl tp)) (AF_ev rfl tp) (by omega) (by omega) (by simp)) hS ?_
    refine RD.take 10 rfl (by kernel_rfl) Wd.a (v := .pointer (some ⟨ba, oa + j * 2 + 1, none⟩)) (fun w hS => by exact E.fieldAddr (b := ba) (o := oa + j * 2) (f := { name := "L", type := 82, offset := 1, embedded := false, tag := "", pkgPath := "", byteOffset := 8 }) (AF_ev rfl tp) Try.underlying84 rfl sz82 rfl) hS ?_
    refine RD.take 11 rfl (by kernel_rfl) Wd.a (v := .slice Y vs.length d) (fun w hS => by exact E.load (a := ⟨ba, oa + j * 2 + 1, none⟩) Try.underlying82 rfl (AF_ev rfl tp) hS.2) hS ?_
    refine RD.only 6 rfl (by kernel_rfl) Wd.a ?_
    refine H.buildSlice (e := 86) (cs := #[]) (vs := #[]) (by simp) (fun _ => by kernel_rfl) hst fun b2 w hst => ?_
    have hS : w.cell? ⟨ba, oa + j * 2, none⟩ = some (.bool o) ∧ w.cell? ⟨ba, oa + j * 2 + 1, none⟩ = some (.slice Y vs.length d) := ⟨(by exact hca (hst.take (.there (.there .here))) _ _ (flat_get (j := 0) RingM.enc_len hr (rfl))), (by rw [Nat.add_assoc]; exact hca (hst.take (.there (.there .here))) _ _ (flat_get (j := 1) RingM.enc_len hr (rfl)))⟩
    refine ⟨fun _ => hS, ?_⟩
    refine RD.only 12 rfl (by kernel_rfl) Wd.a ?_
    have hst := hst.ownNew (n := 0) (cap := 0) (sz := 34) (xs := []) (by omega) (by simp [maxLen]) rfl rfl
    refine H.append2 (n2 := vs.length) (xs2 := vs.flatMap Ver.enc) (by first | rfl | simp) (by first | rfl | simp) (m := vs.length) (news := vs.flatMap Ver.enc) (s0 := .slice (some ⟨b2, 0, none⟩) 0 0) (x0 := .slice Y vs.length d) Try.underlying82 inf86 rfl (AF_ev rfl tp) (AF_ev rfl (up rfl tp)) hst .here ((hA.row hr) _ _ (hst.take (.there (.there .here)))) (Ver.ones _) (by omega) (by simp only [maxLen]; omega) ?_
    intro vX3 w hnilX3 hst
    obtain ⟨X3, c4, rfl, hcX3, hmX3, hlX3, hbX3⟩ := hst.shape
    have hS : w.cell? ⟨ba, oa + j * 2, none⟩ = some (.bool o) ∧ w.cell? ⟨ba, oa + j * 2 + 1, none⟩ = some (.slice Y vs.length d) := ⟨(by exact hca (hst.take (.there (.there .here))) _ _ (flat_get (j := 0) RingM.enc_len hr (rfl))), (by rw [Nat.add_assoc]; exact hca (hst.take (.there (.there .here))) _ _ (flat_get (j := 1) RingM.enc_len hr (rfl)))⟩
    refine ⟨fun _ => hS, ?_⟩
    refine RD.only 13 rfl (by kernel_rfl) Wd.a (Hd.value (v := .agg #[.bool o, .slice X3 vs.length c4]) (by exact E.build (vs := #[(0, .bool o), (1, .slice X3 vs.length c4)]) (bld2 (AF_ev rfl (up rfl (up rfl (up rfl (up rfl (up rfl (up rfl (up rfl tp)))))))) (AF_ev rfl tp)) (by kernel_rfl)) ⟨fun _ => hS, ?_⟩)
    refine RD.only 14 rfl (by kernel_rfl) Wd.a ?_
    refine H.buildSlice (e := 84) (cs := #[.bool o, .slice X3 vs.length c4]) (vs := #[(0, .agg #[.bool o, .slice X3 vs.length c4])]) (bld1 (AF_ev rfl tp)) (fun _ => by kernel_rfl) hst fun b5 w hst => ?_
    have hS : w.cell? ⟨ba, oa + j * 2, none⟩ = some (.bool o) ∧ w.cell? ⟨ba, oa + j * 2 + 1, none⟩ = some (.slice Y vs.length d) := ⟨(by exact hca (hst.take (.there (.there (.there .here)))) _ _ (flat_get (j := 0) RingM.enc_len hr (rfl))), (by rw [Nat.add_assoc]; exact hca (hst.take (.there (.there (.there .here)))) _ _ (flat_get (j := 1) RingM.enc_len hr (rfl)))⟩
    refine ⟨fun _ => hS, ?_⟩
    refine RD.only 15 rfl (by kernel_rfl) Wd.a ?_
    refine H.append2 (n2 := j + 1) (xs2 := (rs2.flatMap RingM.enc) ++ ([.bool o, .slice X3 vs.length c4])) (by first | rfl | simp) (by first | rfl | simp) (m := 1) (news := [.bool o, .slice X3 vs.length c4]) (s0 := .slice X1 j c1) (x0 := .slice (some ⟨b5, 0, none⟩) 1 1) Try.underlying71 inf84 rfl (AF_ev rfl (up rfl (up rfl (up rfl (up rfl (up rfl (up rfl (up rfl (up rfl (up rfl (up rfl (up rfl (up rfl (up rfl (up rfl tp))))))))))))))) (AF_ev rfl tp) hst (.there (.there .here)) ⟨rfl, _, _, rfl, by omega, .inr ⟨_, 0, rfl, hst.cellsIn .here rfl⟩⟩ (by simp [Value.oneCell']) (by omega) (by simp only [maxLen]; omega) ?_
    intro vX8 w hnilX8 hst
    obtain ⟨X8, c9, rfl, hcX8, hmX8, hlX8, hbX8⟩ := hst.shape
    have hS : w.cell? ⟨ba, oa + j * 2, none⟩ = some (.bool o) ∧ w.cell? ⟨ba, oa + j * 2 + 1, none⟩ = some (.slice Y vs.length d) := ⟨(by exact hca (hst.take (.there (.there (.there .here)))) _ _ (flat_get (j := 0) RingM.enc_len hr (rfl))), (by rw [Nat.add_assoc]; exact hca (hst.take (.there (.there (.there .here)))) _ _ (flat_get (j := 1) RingM.enc_len hr (rfl)))⟩
    refine ⟨fun _ => hS, ?_⟩
    refine RD.only 16 rfl (by kernel_rfl) Wd.a (Hd.value (v := .slice X8 (j + 1) c9) (by exact E.assign (AF_ev rfl tp)) ⟨fun h => Bool.noConfusion ((show needs _ _ _ = false by kernel_rfl).symm.trans h), ?_⟩)
    refine RD.done (by kernel_rfl) ?_
    refine Bl.n ?_
    refine Th.n ?_
    refine CW.region ?_
    refine RW.soft Wd.a (v := .int .i64 ((j : Nat) : Int)) (by exact E.move (AF_ev rfl (up rfl (up rfl (up rfl (up rfl (up rfl (up rfl (up rfl (up rfl (up rfl (up rfl (up rfl (up rfl (up rfl (up rfl (up rfl (up rfl (up rfl hs4))))))))))))))))))) ?_
    refine RW.soft Wd.a (v := .int .i64 (((j : Nat) : Int) + 1)) (by exact E.add (k := .i64) (a := ((j : Nat) : Int)) (b := 1) (AF_ev rfl tp) rfl (show IntKind.i64.wrap (((j : Nat) : Int) + 1) = ((j : Nat) : Int) + 1 from (by rw [IntWalk.i64_in _ (by omega)]))) ?_
    refine RW.soft Wd.a (v := .int .i64 (((j : Nat) : Int) + 1)) (by exact E.assign (AF_ev rfl tp)) ?_
    refine RW.nil ?_
    refine Th.n ?_
    have hst := hst.take (.there (.there (.there .here)))
    have hst := hst.take (.there (.there (.there .here)))
    have hst := hst.take (.there (.there .here))
    have hst := (hst.take (.there (.there (.there .here)))).drop
    have hst := more hst
    rw [show (rs.take j).map RingM.view ++ [(o, vs)] = (rs.take (j + 1)).map RingM.view from by rw [List.take_add_one, hr, List.map_append]; rfl] at hst
    have hst := hst.take (.there .here)
    have hst := hst.take (.there .here)
    exact ⟨rs.length - (j + 1), by omega, j + 1, X8, c9, (by omega), rfl, up rfl (up rfl (up rfl (up rfl (up rfl (up rfl (up rfl (up rfl (up rfl (up rfl (up rfl (up rfl (up rfl (up rfl (up rfl (up rfl (up rfl (up rfl (up rfl (up rfl hs0))))))))))))))))))), (int_eq (a := ((j : Nat) : Int) + 1) tp (by omega)), up rfl (up rfl (up rfl tp)), hst⟩
  · have hc1_ := hc1
    try simp only [decide_eq_true_eq, decide_eq_false_iff_not, Bool.and_eq_true, Bool.or_eq_true, Bool.and_eq_false_iff, Bool.or_eq_false_iff, Bool.not_eq_true', Bool.not_eq_false', beq_iff_eq, beq_eq_false_iff_ne, bne_iff_ne, bne_eq_false_iff_eq, ne_eq, Int.not_lt, Int.not_le, gt_iff_lt, ge_iff_le] at hc1_
    refine CW.exit ?_
    refine Th.x ?_
    refine Th.x ?_
    refine Bl.x ?_
    refine Th.n ?_
    refine CW.seq ?_
    refine CW.region ?_
    refine RW.soft Wd.a (v := .slice X1 j c1) (by exact E.move (AF_ev rfl hs3)) ?_
    refine RW.soft Wd.a (v := .slice X1 j c1) (by exact E.assign (AF_ev rfl tp)) ?_
    refine RW.fin (fun τ => τ 0 = .slice X rs.length c ∧ τ 2 = .slice X1 j c1 ∧ τ 3 = .slice X1 j c1 ∧ τ 4 = .int .i64 ((j : Nat) : Int) ∧ τ 8 = .bool false) ⟨up rfl (up rfl hs0), tp, up rfl (up rfl hs3), up rfl (up rfl hs4), up rfl (up rfl (Eq.trans hs8 (congrArg Value.bool hc1)))⟩ ?_
    rintro τ ⟨hs0, hs2, hs3, hs4, hs8⟩
    refine CW.ret ?_
    refine ret1 (v := .slice X1 j c1) rfl (by exact (.tmp (AF_ev rfl hs2) .nil)) ?_
    have hst := hst.take (.there .here)
    have hst := hst.take (.there .here)
    rw [List.take_of_length_le (show rs.length ≤ j by omega)] at hst
    exact ⟨_, rfl, hst⟩

theorem ref_CopyT {p : Pers} {w : World} {R : List Assn} {A : Assn} {v : Value} {rs : List RingM} (hA : Tells13 p A v rs) (hs : Small (rs.map RingM.view)) (hst : St p w (A :: R)) :
    Calls Try.prog 61 #[v] w fun e w => ∃ v', e = .returned v' ∧ St p w (RowsV v' (rs.map RingM.view) :: A :: R) := by
  obtain ⟨X, c, rfl, _⟩ := hA.shape hst
  exact ref_Copy hA (small_view hs).1 (small_view hs).2 hst

theorem of_odd {p : Pers} {w : World} {R : List Assn} (x : Ver) (hst : St p w (R)) :
    Calls Try.prog 84 #[.agg (Ver.enc x).toArray] w fun e w => e = .returned (.bool (badV x)) ∧ St p w R := by
  refine enter Try.func84 rfl (by simp) (n := 21) rfl fun τ hτ => ?_
  have hs0 : τ 0 = .agg (Ver.enc x).toArray := hτ 0 (by simp)
  clear hτ
  refine CW.seq ?_
  refine CW.region ?_
  refine RW.hard Wd.a ?_
  refine H.box (v := .agg (Ver.enc x).toArray) (AF_ev rfl hs0) hst fun b1 w hst => ?_
  refine RW.soft Wd.a (v := .bool false) (by exact E.assign rfl) ?_
  refine RW.fin (fun τ => τ 0 = .agg (Ver.enc x).toArray ∧ τ 1 = .pointer (some ⟨b1, 0, none⟩) ∧ τ 2 = .bool false) ⟨up rfl (up rfl hs0), up rfl tp, tp⟩ ?_
  rintro τ ⟨hs0, hs1, hs2⟩
  refine CW.seq ?_
  refine CW.cut (fun τ => τ 0 = .agg (Ver.enc x).toArray ∧ τ 1 = .pointer (some ⟨b1, 0, none⟩) ∧ τ 2 = .bool (((decide (x.uses < 0)) || (decide (x.uses > 16))) || (x.gone && (!decide (x.mat = kz))))) ?_ ?_
  · refine CW.region ?_
    refine RW.soft Wd.a (v := .pointer (some ⟨b1, 32, none⟩)) (by exact E.fieldAddr (b := b1) (o := 0) (f := { name := "Uses", type := 3, offset := 32, embedded := false, tag := "", pkgPath := "", byteOffset := 32 }) (AF_ev rfl hs1) Try.underlying86 rfl sz3 rfl) ?_
    refine RW.soft Wd.a (v := .int .i64 x.uses) (by exact E.load (a := ⟨b1, 32, none⟩) Try.underlying3 rfl (AF_ev rfl tp) (hst.cell .here (by rw [List.getElem?_toArray]; exact Ver.at_uses _))) ?_
    refine RW.soft Wd.a (v := .bool (decide (x.uses < 0))) (by exact E.lss (k := .i64) (a := x.uses) (b := 0) (AF_ev rfl tp) rfl) ?_
    refine RW.soft Wd.a (v := .bool (decide (x.uses < 0))) (by exact E.move (AF_ev rfl tp)) ?_
    refine Or.elim (Bool.eq_false_or_eq_true (decide (x.uses < 0))) (fun hg2 => ?_) (fun hg2 => ?_)
    · have hg2_ := hg2
      try simp only [decide_eq_true_eq, decide_eq_false_iff_not, Bool.and_eq_true, Bool.or_eq_true, Bool.and_eq_false_iff, Bool.or_eq_false_iff, Bool.not_eq_true', Bool.not_eq_false', beq_iff_eq, beq_eq_false_iff_ne, bne_iff_ne, bne_eq_false_iff_eq, ne_eq, Int.not_lt, Int.not_le, gt_iff_lt, ge_iff_le] at hg2_
      refine RW.pass (by exact Wd.no (x := 6) (b := true) rfl (AF_ev rfl (Eq.trans tp (congrArg Value.bool hg2))) rfl) ?_
      refine RW.pass (by exact Wd.no (x := 6) (b := true) rfl (AF_ev rfl (up rfl (Eq.trans tp (congrArg Value.bool hg2)))) rfl) ?_
      refine RW.pass (by exact Wd.no (x := 6) (b := true) rfl (AF_ev rfl (up rfl (up rfl (Eq.trans tp (congrArg Value.bool hg2))))) rfl) ?_
      refine RW.soft Wd.a (v := .bool true) (by exact E.pickT (AF_ev rfl (up rfl (up rfl (up rfl (Eq.trans tp (congrArg Value.bool hg2)))))) rfl) ?_
      refine RW.soft Wd.a (v := .bool true) (by exact E.move (AF_ev rfl tp)) ?_
      refine RW.pass (by exact Wd.no (x := 11) (b := true) rfl (AF_ev rfl tp) rfl) ?_
      refine RW.pass (by exact Wd.no (x := 11) (b := true) rfl (AF_ev rfl (up rfl tp)) rfl) ?_
      refine RW.pass (by exact Wd.no (x := 11) (b := true) rfl (AF_ev rfl (up rfl (up rfl tp))) rfl) ?_
      refine RW.pass (by exact Wd.u (x := 14) rfl (AF_ev rfl tp)) ?_
      refine RW.pass (by exact Wd.u (x := 14) rfl (AF_ev rfl (up rfl tp))) ?_
      refine RW.pass (by exact Wd.u (x := 14) rfl (AF_ev rfl (up rfl (up rfl tp)))) ?_
      refine RW.pass (by exact Wd.u (x := 14) rfl (AF_ev rfl (up rfl (up rfl (up rfl tp))))) ?_
      refine RW.pass (by exact Wd.no (x := 11) (b := true) rfl (AF_ev rfl (up rfl (up rfl (up rfl (up rfl (up rfl (up rfl (up rfl tp)))))))) rfl) ?_
      refine RW.soft Wd.a (v := .bool true) (by exact E.pickT (AF_ev rfl (up rfl (up rfl (up rfl (up rfl (up rfl (up rfl (up rfl (up rfl tp))))))))) rfl) ?_
      refine RW.soft Wd.a (v := .bool true) (by exact E.assign (AF_ev rfl tp)) ?_
      refine RW.nil ⟨rfl, rfl, up rfl (up rfl (up rfl (up rfl (up rfl (up rfl (up rfl (up rfl (up rfl (up rfl (up rfl (up rfl (up rfl (up rfl (up rfl (up rfl (up rfl (up rfl (up rfl hs0)))))))))))))))))), up rfl (up rfl (up rfl (up rfl (up rfl (up rfl (up rfl (up rfl (up rfl (up rfl (up rfl (up rfl (up rfl (up rfl (up rfl (up rfl (up rfl (up rfl (up rfl hs1)))))))))))))))))), (bool_eq (a := true) tp (by simp only [hg2, Bool.true_and, Bool.false_and, Bool.true_or, Bool.false_or]))⟩
    · have hg2_ := hg2
      try simp only [decide_eq_true_eq, decide_eq_false_iff_not, Bool.and_eq_true, Bool.or_eq_true, Bool.and_eq_false_iff, Bool.or_eq_false_iff, Bool.not_eq_true', Bool.not_eq_false', beq_iff_eq, beq_eq_false_iff_ne, bne_iff_ne, bne_eq_false_iff_eq, ne_eq, Int.not_lt, Int.not_le, gt_iff_lt, ge_iff_le] at hg2_
      refine RW.soft (by exact Wd.yes (x := 6) rfl (AF_ev rfl (Eq.trans tp (congrArg Value.bool hg2)))) (v := .pointer (some ⟨b1, 32, none⟩)) (by exact E.fieldAddr (b := b1) (o := 0) (f := { name := "Uses", type := 3, offset := 32, embedded := false, tag := "", pkgPath := "", byteOffset := 32 }) (AF_ev rfl (up rfl (up rfl (up rfl (up rfl hs1))))) Try.underlying86 rfl sz3 rfl) ?_
      refine RW.soft (by exact Wd.yes (x := 6) rfl (AF_ev rfl (up rfl (Eq.trans tp (congrArg Value.bool hg2))))) (v := .int .i64 x.uses) (by exact E.load (a := ⟨b1, 32, none⟩) Try.underlying3 rfl (AF_ev rfl tp) (hst.cell .here (by rw [List.getElem?_toArray]; exact Ver.at_uses _))) ?_
      refine RW.soft (by exact Wd.yes (x := 6) rfl (AF_ev rfl (up rfl (up rfl (Eq.trans tp (congrArg Value.bool hg2)))))) (v := .bool (decide (x.uses > 16))) (by exact E.gtr (k := .i64) (a := x.uses) (b := 16) (AF_ev rfl tp) rfl) ?_
      refine RW.soft Wd.a (v := .bool (decide (x.uses > 16))) (by exact E.pickF (AF_ev rfl (up rfl (up rfl (up rfl (Eq.trans tp (congrArg Value.bool hg2)))))) (AF_ev rfl tp)) ?_
      refine RW.soft Wd.a (v := .bool (decide (x.uses > 16))) (by exact E.move (AF_ev rfl tp)) ?_
      refine Or.elim (Bool.eq_false_or_eq_true (decide (x.uses > 16))) (fun hg3 => ?_) (fun hg3 => ?_)
      · have hg3_ := hg3
        try simp only [decide_eq_true_eq, decide_eq_false_iff_not, Bool.and_eq_true, Bool.or_eq_true, Bool.and_eq_false_iff, Bool.or_eq_false_iff, Bool.not_eq_true', Bool.not_eq_false', beq_iff_eq, beq_eq_false_iff_ne, bne_iff_ne, bne_eq_false_iff_eq, ne_eq, Int.not_lt, Int.not_le, gt_iff_lt, ge_iff_le] at hg3_
        refine RW.pass (by exact Wd.no (x := 11) (b := true) rfl (AF_ev rfl (Eq.trans tp (congrArg Value.bool hg3))) rfl) ?_
        refine RW.pass (by exact Wd.no (x := 11) (b := true) rfl (AF_ev rfl (up rfl (Eq.trans tp (congrArg Value.bool hg3)))) rfl) ?_
        refine RW.pass (by exact Wd.no (x := 11) (b := true) rfl (AF_ev rfl (up rfl (up rfl (Eq.trans tp (congrArg Value.bool hg3))))) rfl) ?_
        refine RW.pass (by exact Wd.u (x := 14) rfl (AF_ev rfl tp)) ?_
        refine RW.pass (by exact Wd.u (x := 14) rfl (AF_ev rfl (up rfl tp))) ?_
        refine RW.pass (by exact Wd.u (x := 14) rfl (AF_ev rfl (up rfl (up rfl tp)))) ?_
        refine RW.pass (by exact Wd.u (x := 14) rfl (AF_ev rfl (up rfl (up rfl (up rfl tp))))) ?_
        refine RW.pass (by exact Wd.no (x := 11) (b := true) rfl (AF_ev rfl (up rfl (up rfl (up rfl (up rfl (up rfl (up rfl (up rfl (Eq.trans tp (congrArg Value.bool hg3)))))))))) rfl) ?_
        refine RW.soft Wd.a (v := .bool true) (by exact E.pickT (AF_ev rfl (up rfl (up rfl (up rfl (up rfl (up rfl (up rfl (up rfl (up rfl (Eq.trans tp (congrArg Value.bool hg3))))))))))) rfl) ?_
        refine RW.soft Wd.a (v := .bool true) (by exact E.assign (AF_ev rfl tp)) ?_
        refine RW.nil ⟨rfl, rfl, up rfl (up rfl (up rfl (up rfl (up rfl (up rfl (up rfl (up rfl (up rfl (up rfl (up rfl (up rfl (up rfl (up rfl (up rfl (up rfl (up rfl (up rfl (up rfl hs0)))))))))))))))))), up rfl (up rfl (up rfl (up rfl (up rfl (up rfl (up rfl (up rfl (up rfl (up rfl (up rfl (up rfl (up rfl (up rfl (up rfl (up rfl (up rfl (up rfl (up rfl hs1)))))))))))))))))), (bool_eq (a := true) tp (by simp only [hg2, hg3, Bool.true_and, Bool.false_and, Bool.true_or, Bool.false_or]))⟩
      · have hg3_ := hg3
        try simp only [decide_eq_true_eq, decide_eq_false_iff_not, Bool.and_eq_true, Bool.or_eq_true, Bool.and_eq_false_iff, Bool.or_eq_false_iff, Bool.not_eq_true', Bool.not_eq_false', beq_iff_eq, beq_eq_false_iff_ne, bne_iff_ne, bne_eq_false_iff_eq, ne_eq, Int.not_lt, Int.not_le, gt_iff_lt, ge_iff_le] at hg3_
        refine RW.soft (by exact Wd.yes (x := 11) rfl (AF_ev rfl (Eq.trans tp (congrArg Value.bool hg3)))) (v := .pointer (some ⟨b1, 33, none⟩)) (by exact E.fieldAddr (b := b1) (o := 0) (f := { name := "Gone", type := 4, offset := 33, embedded := false, tag := "", pkgPath := "", byteOffset := 40 }) (AF_ev rfl (up rfl (up rfl (up rfl (up rfl (up rfl (up rfl (up rfl (up rfl (up rfl hs1)))))))))) Try.underlying86 rfl sz4 rfl) ?_
        refine RW.soft (by exact Wd.yes (x := 11) rfl (AF_ev rfl (up rfl (Eq.trans tp (congrArg Value.bool hg3))))) (v := .bool x.gone) (by exact E.load (a := ⟨b1, 33, none⟩) Try.underlying4 rfl (AF_ev rfl tp) (hst.cell .here (by rw [List.getElem?_toArray]; exact Ver.at_gone _))) ?_
        refine RW.soft (by exact Wd.yes (x := 11) rfl (AF_ev rfl (up rfl (up rfl (Eq.trans tp (congrArg Value.bool hg3)))))) (v := .bool x.gone) (by exact E.move (AF_ev rfl tp)) ?_
        refine Or.elim (Bool.eq_false_or_eq_true x.gone) (fun hg4 => ?_) (fun hg4 => ?_)
        · have hg4_ := hg4
          try simp only [decide_eq_true_eq, decide_eq_false_iff_not, Bool.and_eq_true, Bool.or_eq_true, Bool.and_eq_false_iff, Bool.or_eq_false_iff, Bool.not_eq_true', Bool.not_eq_false', beq_iff_eq, beq_eq_false_iff_ne, bne_iff_ne, bne_eq_false_iff_eq, ne_eq, Int.not_lt, Int.not_le, gt_iff_lt, ge_iff_le] at hg4_
          refine RW.soft (by exact Wd.yes (x := 14) rfl (AF_ev rfl (Eq.trans tp (congrArg Value.bool hg4)))) (v := .pointer (some ⟨b1, 0, none⟩)) (by exact E.fieldAddr (b := b1) (o := 0) (f := { name := "Material", type := 74, offset := 0, embedded := false, tag := "", pkgPath := "", byteOffset := 0 }) (AF_ev rfl (up rfl (up rfl (up rfl (up rfl (up rfl (up rfl (up rfl (up rfl (up rfl (up rfl (up rfl (up rfl hs1))))))))))))) Try.underlying86 rfl sz74 rfl) ?_
          refine RW.soft (by exact Wd.yes (x := 14) rfl (AF_ev rfl (up rfl (Eq.trans tp (congrArg Value.bool hg4))))) (v := .agg (bk x.mat).toArray) (by exact E.loadN (b := b1) (o := 0) (cs := bk x.mat) Try.underlying74 rfl sz74 (AF_ev rfl tp) (bk_len _) (St.cellsOf hst .here (fun j v hv => by rw [Nat.zero_add]; exact Ver.at_mat _ hv))) ?_
          refine RW.soft (by exact Wd.yes (x := 14) rfl (AF_ev rfl (up rfl (up rfl (Eq.trans tp (congrArg Value.bool hg4)))))) (v := .agg (bk kz).toArray) (by exact E.build (vs := #[]) (by simp) (build74z _)) ?_
          refine RW.soft (by exact Wd.yes (x := 14) rfl (AF_ev rfl (up rfl (up rfl (up rfl (Eq.trans tp (congrArg Value.bool hg4))))))) (v := .bool (!decide (x.mat = kz))) (by exact E.neq74 (a := x.mat) (b := kz) (AF_ev rfl (up rfl tp)) (AF_ev rfl tp)) ?_
          refine RW.soft (by exact Wd.yes (x := 11) rfl (AF_ev rfl (up rfl (up rfl (up rfl (up rfl (up rfl (up rfl (up rfl (Eq.trans tp (congrArg Value.bool hg3))))))))))) (v := .bool (!decide (x.mat = kz))) (by exact E.pickT (AF_ev rfl (up rfl (up rfl (up rfl (up rfl (Eq.trans tp (congrArg Value.bool hg4))))))) (AF_ev rfl tp)) ?_
          refine RW.soft Wd.a (v := .bool (!decide (x.mat = kz))) (by exact E.pickF (AF_ev rfl (up rfl (up rfl (up rfl (up rfl (up rfl (up rfl (up rfl (up rfl (Eq.trans tp (congrArg Value.bool hg3))))))))))) (AF_ev rfl tp)) ?_
          refine RW.soft Wd.a (v := .bool (!decide (x.mat = kz))) (by exact E.assign (AF_ev rfl tp)) ?_
          refine RW.nil ⟨rfl, rfl, up rfl (up rfl (up rfl (up rfl (up rfl (up rfl (up rfl (up rfl (up rfl (up rfl (up rfl (up rfl (up rfl (up rfl (up rfl (up rfl (up rfl (up rfl (up rfl hs0)))))))))))))))))), up rfl (up rfl (up rfl (up rfl (up rfl (up rfl (up rfl (up rfl (up rfl (up rfl (up rfl (up rfl (up rfl (up rfl (up rfl (up rfl (up rfl (up rfl (up rfl hs1)))))))))))))))))), (bool_eq (a := !decide (x.mat = kz)) tp (by simp only [hg2, hg3, hg4, Bool.true_and, Bool.false_and, Bool.true_or, Bool.false_or]))⟩
        · have hg4_ := hg4
          try simp only [decide_eq_true_eq, decide_eq_false_iff_not, Bool.and_eq_true, Bool.or_eq_true, Bool.and_eq_false_iff, Bool.or_eq_false_iff, Bool.not_eq_true', Bool.not_eq_false', beq_iff_eq, beq_eq_false_iff_ne, bne_iff_ne, bne_eq_false_iff_eq, ne_eq, Int.not_lt, Int.not_le, gt_iff_lt, ge_iff_le] at hg4_
          refine RW.pass (by exact Wd.no (x := 14) (b := false) rfl (AF_ev rfl (Eq.trans tp (congrArg Value.bool hg4))) rfl) ?_
          refine RW.pass (by exact Wd.no (x := 14) (b := false) rfl (AF_ev rfl (up rfl (Eq.trans tp (congrArg Value.bool hg4)))) rfl) ?_
          refine RW.pass (by exact Wd.no (x := 14) (b := false) rfl (AF_ev rfl (up rfl (up rfl (Eq.trans tp (congrArg Value.bool hg4))))) rfl) ?_
          refine RW.pass (by exact Wd.no (x := 14) (b := false) rfl (AF_ev rfl (up rfl (up rfl (up rfl (Eq.trans tp (congrArg Value.bool hg4)))))) rfl) ?_
          refine RW.soft (by exact Wd.yes (x := 11) rfl (AF_ev rfl (up rfl (up rfl (up rfl (up rfl (up rfl (up rfl (up rfl (Eq.trans tp (congrArg Value.bool hg3))))))))))) (v := .bool false) (by exact E.pickF (AF_ev rfl (up rfl (up rfl (up rfl (up rfl (Eq.trans tp (congrArg Value.bool hg4))))))) rfl) ?_
          refine RW.soft Wd.a (v := .bool false) (by exact E.pickF (AF_ev rfl (up rfl (up rfl (up rfl (up rfl (up rfl (up rfl (up rfl (up rfl (Eq.trans tp (congrArg Value.bool hg3))))))))))) (AF_ev rfl tp)) ?_
          refine RW.soft Wd.a (v := .bool false) (by exact E.assign (AF_ev rfl tp)) ?_
          refine RW.nil ⟨rfl, rfl, up rfl (up rfl (up rfl (up rfl (up rfl (up rfl (up rfl (up rfl (up rfl (up rfl (up rfl (up rfl (up rfl (up rfl (up rfl (up rfl (up rfl (up rfl (up rfl hs0)))))))))))))))))), up rfl (up rfl (up rfl (up rfl (up rfl (up rfl (up rfl (up rfl (up rfl (up rfl (up rfl (up rfl (up rfl (up rfl (up rfl (up rfl (up rfl (up rfl (up rfl hs1)))))))))))))))))), (bool_eq (a := false) tp (by simp only [hg2, hg3, hg4, Bool.true_and, Bool.false_and, Bool.true_or, Bool.false_or]))⟩
  rintro τ ⟨hs0, hs1, hs2⟩
  refine CW.ret ?_
  refine ret1 (v := .bool (((decide (x.uses < 0)) || (decide (x.uses > 16))) || (x.gone && (!decide (x.mat = kz))))) rfl (by exact (.tmp (AF_ev rfl hs2) .nil)) ?_
  have hst := (hst.take .here).drop
  exact ⟨rfl, hst⟩

theorem of_indexV {p : Pers} {w : World} {R : List Assn} {A : Assn} {X : Option Addr} {c : Nat} {vs : List Ver} (hA : ∀ w H, St p w (A :: H) → Src w 34 (.slice X vs.length c) vs.length (vs.flatMap Ver.enc)) (h8 : vs.length ≤ 8) (hst : St p w (A :: R)) :
    Calls Try.prog 92 #[.slice X vs.length c, .func (.func 84) #[] #[]] w fun e w => ∃ i : Int, e = .returned (.int .i64 i) ∧ decide (i ≥ 0) = vs.any badV ∧ St p w (A :: R) := by
  refine enter Try.func92 rfl (by simp) (n := 19) rfl fun τ hτ => ?_
  have hs0 : τ 0 = .slice X vs.length c := hτ 0 (by simp)
  have hs1 : τ 1 = .func (.func 84) #[] #[] := hτ 1 (by simp)
  clear hτ
  refine CW.seq ?_
  refine CW.region ?_
  refine RW.soft Wd.a (v := .int .i64 0) (by exact E.assign rfl) ?_
  refine RW.fin (fun τ => τ 0 = .slice X vs.length c ∧ τ 1 = .func (.func 84) #[] #[] ∧ τ 4 = .int .i64 0) ⟨up rfl hs0, up rfl hs1, tp⟩ ?_
  rintro τ ⟨hs0, hs1, hs4⟩
  refine CW.seq ?_
  refine CW.seq ?_
  refine CW.region ?_
  refine RW.soft Wd.a (v := .slice X vs.length c) (by exact E.move (AF_ev rfl hs0)) ?_
  refine RW.soft Wd.a (v := .int .i64 ((vs.length : Nat) : Int)) (by exact E.lenS (p := X) (l := vs.length) (c := c) Try.underlying82 (AF_ev rfl tp)) ?_
  refine RW.soft Wd.a (v := .int .i64 0) (by exact E.move rfl) ?_
  refine RW.fin (fun τ => τ 0 = .slice X vs.length c ∧ τ 1 = .func (.func 84) #[] #[] ∧ τ 4 = .int .i64 0 ∧ τ 7 = .int .i64 ((vs.length : Nat) : Int) ∧ τ 8 = .int .i64 0) ⟨up rfl (up rfl (up rfl hs0)), up rfl (up rfl (up rfl hs1)), up rfl (up rfl (up rfl hs4)), up rfl tp, tp⟩ ?_
  rintro τ ⟨hs0, hs1, hs4, hs7, hs8⟩
  refine CW.block ?_
  refine CW.loop (fun (k : Nat) (τ : Fr) (w : World) => ∃ (j : Nat), (vs.take j).any badV = false ∧ j ≤ vs.length ∧ k = vs.length - j ∧ τ 0 = .slice X vs.length c ∧ τ 1 = .func (.func 84) #[] #[] ∧ τ 7 = .int .i64 ((vs.length : Nat) : Int) ∧ τ 8 = .int .i64 ((j : Nat) : Int) ∧ St p w (A :: R)) (vs.length - 0) ⟨0, rfl, by omega, rfl, hs0, hs1, hs7, (int_eq (a := 0) hs8 (by omega)), hst⟩ ?_
  clear hst
  rintro k τ w ⟨j, hf, hj, hkj, hs0, hs1, hs7, hs8, hst⟩
  refine CW.seq ?_
  refine CW.region ?_
  refine RW.soft Wd.a (v := .bool (decide (((j : Nat) : Int) < ((vs.length : Nat) : Int)))) (by exact E.lss (k := .i64) (a := ((j : Nat) : Int)) (b := ((vs.length : Nat) : Int)) (AF_ev rfl hs8) (AF_ev rfl hs7)) ?_
  refine RW.fin (fun τ => τ 0 = .slice X vs.length c ∧ τ 1 = .func (.func 84) #[] #[] ∧ τ 7 = .int .i64 ((vs.length : Nat) : Int) ∧ τ 8 = .int .i64 ((j : Nat) : Int) ∧ τ 9 = .bool (decide (((j : Nat) : Int) < ((vs.length : Nat) : Int)))) ⟨up rfl hs0, up rfl hs1, up rfl hs7, up rfl hs8, tp⟩ ?_
  rintro τ ⟨hs0, hs1, hs7, hs8, hs9⟩
  refine CW.seq ?_
  refine CW.cond (AF_ev rfl hs9) (fun hc1 => ?_) (fun hc1 => ?_)
  · have hc1_ := hc1
    try simp only [decide_eq_true_eq, decide_eq_false_iff_not, Bool.and_eq_true, Bool.or_eq_true, Bool.and_eq_false_iff, Bool.or_eq_false_iff, Bool.not_eq_true', Bool.not_eq_false', beq_iff_eq, beq_eq_false_iff_ne, bne_iff_ne, bne_eq_false_iff_eq, ne_eq, Int.not_lt, Int.not_le, gt_iff_lt, ge_iff_le] at hc1_
    refine CW.skip ?_
    refine Th.n ?_
    refine CW.seq ?_
    refine CW.block ?_
    refine CW.seq ?_
    obtain ⟨b0, o0, rfl, hcell0⟩ := src_place hA (hst.take .here) (by omega)
    obtain ⟨x, hx⟩ : ∃ x, vs[j]? = some x := ⟨vs[j]'(by omega), List.getElem?_eq_getElem (by omega)⟩
    refine CW.region ?_
    refine RW.soft Wd.a (v := .int .i64 ((j : Nat) : Int)) (by exact E.move (AF_ev rfl hs8)) ?_
    refine RW.soft Wd.a (v := .int .i64 ((j : Nat) : Int)) (by exact E.assign (AF_ev rfl tp)) ?_
    refine RW.fin (fun τ => τ 0 = .slice (some ⟨b0, o0, none⟩) vs.length c ∧ τ 1 = .func (.func 84) #[] #[] ∧ τ 5 = .int .i64 ((j : Nat) : Int) ∧ τ 7 = .int .i64 ((vs.length : Nat) : Int) ∧ τ 8 = .int .i64 ((j : Nat) : Int) ∧ τ 9 = .bool true) ⟨up rfl (up rfl hs0), up rfl (up rfl hs1), tp, up rfl (up rfl hs7), up rfl (up rfl hs8), up rfl (up rfl (Eq.trans hs9 (congrArg Value.bool hc1)))⟩ ?_
    rintro τ ⟨hs0, hs1, hs5, hs7, hs8, hs9⟩
    refine CW.seq ?_
    refine CW.region ?_
    refine RW.soft Wd.a (v := .func (.func 84) #[] #[]) (by exact E.move (AF_ev rfl hs1)) ?_
    refine RW.soft Wd.a (v := .slice (some ⟨b0, o0, none⟩) vs.length c) (by exact E.move (AF_ev rfl (up rfl hs0))) ?_
    refine RW.soft Wd.a (v := .int .i64 ((j : Nat) : Int)) (by exact E.move (AF_ev rfl (up rfl (up rfl hs5)))) ?_
    refine RW.soft Wd.a (v := .pointer (some ⟨b0, o0 + j * 34, none⟩)) (by exact E.indexAddr (b := b0) (o := o0) (l := vs.length) (c := c) (i := ((j : Nat) : Int)) Try.underlying82 sz86 (AF_ev rfl (up rfl tp)) (AF_ev rfl tp) (by omega) (by omega) (by simp)) ?_
    refine RW.soft Wd.a (v := .agg (Ver.enc x).toArray) (by exact E.loadN (b := b0) (o := o0 + j * 34) (cs := Ver.enc x) Try.underlying86 rfl sz86 (AF_ev rfl tp) (Ver.enc_len _) (fun j v hv => by rw [Nat.add_assoc]; exact hcell0 (hst.take .here) _ _ (flat_get Ver.enc_len hx (hv)))) ?_
    refine RW.hard Wd.a ?_
    refine H.call (AF_ev rfl (up rfl (up rfl (up rfl (up rfl tp))))) Try.func84 nm84 rfl (map1 (AF_ev rfl tp)) (Calls.mono (of_odd x hst) ?_)
    rintro _ w ⟨rfl, hst⟩
    refine ⟨_, rfl, ?_⟩
    show RW _ _ _ _ _ _ _
    refine RW.fin (fun τ => τ 0 = .slice (some ⟨b0, o0, none⟩) vs.length c ∧ τ 1 = .func (.func 84) #[] #[] ∧ τ 5 = .int .i64 ((j : Nat) : Int) ∧ τ 7 = .int .i64 ((vs.length : Nat) : Int) ∧ τ 8 = .int .i64 ((j : Nat) : Int) ∧ τ 9 = .bool true ∧ τ 16 = .bool (badV x)) ⟨up rfl (up rfl (up rfl (up rfl (up rfl (up rfl hs0))))), up rfl (up rfl (up rfl (up rfl (up rfl (up rfl hs1))))), up rfl (up rfl (up rfl (up rfl (up rfl (up rfl hs5))))), up rfl (up rfl (up rfl (up rfl (up rfl (up rfl hs7))))), up rfl (up rfl (up rfl (up rfl (up rfl (up rfl hs8))))), up rfl (up rfl (up rfl (up rfl (up rfl (up rfl hs9))))), tp⟩ ?_
    rintro τ ⟨hs0, hs1, hs5, hs7, hs8, hs9, hs16⟩
    refine CW.cond (AF_ev rfl hs16) (fun hc2 => ?_) (fun hc2 => ?_)
    · have hc2_ := hc2
      try simp only [decide_eq_true_eq, decide_eq_false_iff_not, Bool.and_eq_true, Bool.or_eq_true, Bool.and_eq_false_iff, Bool.or_eq_false_iff, Bool.not_eq_true', Bool.not_eq_false', beq_iff_eq, beq_eq_false_iff_ne, bne_iff_ne, bne_eq_false_iff_eq, ne_eq, Int.not_lt, Int.not_le, gt_iff_lt, ge_iff_le] at hc2_
      refine CW.seq ?_
      refine CW.region ?_
      refine RW.soft Wd.a (v := .int .i64 ((j : Nat) : Int)) (by exact E.move (AF_ev rfl hs5)) ?_
      refine RW.soft Wd.a (v := .int .i64 ((j : Nat) : Int)) (by exact E.assign (AF_ev rfl tp)) ?_
      refine RW.fin (fun τ => τ 0 = .slice (some ⟨b0, o0, none⟩) vs.length c ∧ τ 1 = .func (.func 84) #[] #[] ∧ τ 4 = .int .i64 ((j : Nat) : Int) ∧ τ 5 = .int .i64 ((j : Nat) : Int) ∧ τ 7 = .int .i64 ((vs.length : Nat) : Int) ∧ τ 8 = .int .i64 ((j : Nat) : Int) ∧ τ 9 = .bool true ∧ τ 16 = .bool true) ⟨up rfl (up rfl hs0), up rfl (up rfl hs1), tp, up rfl (up rfl hs5), up rfl (up rfl hs7), up rfl (up rfl hs8), up rfl (up rfl hs9), up rfl (up rfl (Eq.trans hs16 (congrArg Value.bool hc2)))⟩ ?_
      rintro τ ⟨hs0, hs1, hs4, hs5, hs7, hs8, hs9, hs16⟩
      refine CW.ret ?_
      refine Bl.r ?_
      refine Th.r ?_
      refine Th.r ?_
      refine Bl.r ?_
      refine Th.r ?_
      refine ret1 (v := .int .i64 ((j : Nat) : Int)) rfl (by exact (.tmp (AF_ev rfl hs4) .nil)) ?_
      
      exact ⟨_, rfl, by rw [any_found hx (show badV x = true from hc2)]; exact decide_eq_true (by omega), hst⟩
    · have hc2_ := hc2
      try simp only [decide_eq_true_eq, decide_eq_false_iff_not, Bool.and_eq_true, Bool.or_eq_true, Bool.and_eq_false_iff, Bool.or_eq_false_iff, Bool.not_eq_true', Bool.not_eq_false', beq_iff_eq, beq_eq_false_iff_ne, bne_iff_ne, bne_eq_false_iff_eq, ne_eq, Int.not_lt, Int.not_le, gt_iff_lt, ge_iff_le] at hc2_
      refine CW.skip ?_
      refine Bl.n ?_
      refine Th.n ?_
      refine CW.region ?_
      refine RW.soft Wd.a (v := .int .i64 (((j : Nat) : Int) + 1)) (by exact E.add (k := .i64) (a := ((j : Nat) : Int)) (b := 1) (AF_ev rfl hs8) rfl (show IntKind.i64.wrap (((j : Nat) : Int) + 1) = ((j : Nat) : Int) + 1 from (by rw [IntWalk.i64_in _ (by omega)]))) ?_
      refine RW.soft Wd.a (v := .int .i64 (((j : Nat) : Int) + 1)) (by exact E.move (AF_ev rfl tp)) ?_
      refine RW.nil ?_
      refine Th.n ?_
      have hf2 := any_more hf hx (show badV x = false from hc2)
      exact ⟨vs.length - (j + 1), by omega, j + 1, hf2, (by omega), rfl, up rfl (up rfl hs0), up rfl (up rfl hs1), up rfl (up rfl hs7), (int_eq (a := ((j : Nat) : Int) + 1) tp (by omega)), hst⟩
  · have hc1_ := hc1
    try simp only [decide_eq_true_eq, decide_eq_false_iff_not, Bool.and_eq_true, Bool.or_eq_true, Bool.and_eq_false_iff, Bool.or_eq_false_iff, Bool.not_eq_true', Bool.not_eq_false', beq_iff_eq, beq_eq_false_iff_ne, bne_iff_ne, bne_eq_false_iff_eq, ne_eq, Int.not_lt, Int.not_le, gt_iff_lt, ge_iff_le] at hc1_
    refine CW.exit ?_
    refine Th.x ?_
    refine Th.x ?_
    refine Bl.x ?_
    refine Th.n ?_
    refine CW.seq ?_
    refine CW.region ?_
    refine RW.soft Wd.a (v := .int .i64 (-1)) (by exact E.assign rfl) ?_
    refine RW.fin (fun τ => τ 0 = .slice X vs.length c ∧ τ 1 = .func (.func 84) #[] #[] ∧ τ 4 = .int .i64 (-1) ∧ τ 7 = .int .i64 ((vs.length : Nat) : Int) ∧ τ 8 = .int .i64 ((j : Nat) : Int) ∧ τ 9 = .bool false) ⟨up rfl hs0, up rfl hs1, tp, up rfl hs7, up rfl hs8, up rfl (Eq.trans hs9 (congrArg Value.bool hc1))⟩ ?_
    rintro τ ⟨hs0, hs1, hs4, hs7, hs8, hs9⟩
    refine CW.ret ?_
    refine ret1 (v := .int .i64 (-1)) rfl (by exact (.tmp (AF_ev rfl hs4) .nil)) ?_
    
    exact ⟨-1, rfl, (any_all hf (by omega)).symm, hst⟩

theorem of_anyV {p : Pers} {w : World} {R : List Assn} {A : Assn} {X : Option Addr} {c : Nat} {vs : List Ver} (hA : ∀ w H, St p w (A :: H) → Src w 34 (.slice X vs.length c) vs.length (vs.flatMap Ver.enc)) (h8 : vs.length ≤ 8) (hst : St p w (A :: R)) :
    Calls Try.prog 86 #[.slice X vs.length c, .func (.func 84) #[] #[]] w fun e w => e = .returned (.bool (vs.any badV)) ∧ St p w (A :: R) := by
  refine enter Try.func86 rfl (by simp) (n := 9) rfl fun τ hτ => ?_
  have hs0 : τ 0 = .slice X vs.length c := hτ 0 (by simp)
  have hs1 : τ 1 = .func (.func 84) #[] #[] := hτ 1 (by simp)
  clear hτ
  refine CW.seq ?_
  refine CW.region ?_
  refine RW.soft Wd.a (v := .bool false) (by exact E.assign rfl) ?_
  refine RW.fin (fun τ => τ 0 = .slice X vs.length c ∧ τ 1 = .func (.func 84) #[] #[] ∧ τ 4 = .bool false) ⟨up rfl hs0, up rfl hs1, tp⟩ ?_
  rintro τ ⟨hs0, hs1, hs4⟩
  refine CW.seq ?_
  refine CW.region ?_
  refine RW.soft Wd.a (v := .slice X vs.length c) (by exact E.move (AF_ev rfl hs0)) ?_
  refine RW.soft Wd.a (v := .func (.func 84) #[] #[]) (by exact E.move (AF_ev rfl (up rfl hs1))) ?_
  refine RW.hard Wd.a ?_
  refine H.call0 Try.func92 nm92 rfl (map2 (AF_ev rfl (up rfl tp)) (AF_ev rfl tp)) (Calls.mono (of_indexV hA h8 hst) ?_)
  rintro _ w ⟨i1, rfl, hi1, hst⟩
  refine ⟨_, rfl, ?_⟩
  show RW _ _ _ _ _ _ _
  refine RW.soft Wd.a (v := .bool (vs.any badV)) (by exact E.b (a := decide (i1 ≥ 0)) (E.geq (k := .i64) (a := i1) (b := 0) (AF_ev rfl tp) rfl) hi1) ?_
  refine RW.soft Wd.a (v := .bool (vs.any badV)) (by exact E.assign (AF_ev rfl tp)) ?_
  refine RW.fin (fun τ => τ 0 = .slice X vs.length c ∧ τ 1 = .func (.func 84) #[] #[] ∧ τ 4 = .bool (vs.any badV)) ⟨up rfl (up rfl (up rfl (up rfl (up rfl hs0)))), up rfl (up rfl (up rfl (up rfl (up rfl hs1)))), tp⟩ ?_
  rintro τ ⟨hs0, hs1, hs4⟩
  refine CW.ret ?_
  refine ret1 (v := .bool (vs.any badV)) rfl (by exact (.tmp (AF_ev rfl hs4) .nil)) ?_
  
  exact ⟨rfl, hst⟩

theorem of_bad {p : Pers} {w : World} {R : List Assn} (o : Bool) {fb : Nat} {A : Assn} {X : Option Addr} {c : Nat} {vs : List Ver} (hA : ∀ w H, St p w (A :: H) → Src w 34 (.slice X vs.length c) vs.length (vs.flatMap Ver.enc)) (h8 : vs.length ≤ 8) (hst : St p w (pt fb (.cells #[.func (.func 84) #[] #[]] 132) :: A :: R)) :
    Calls Try.prog 85 #[.agg #[.bool o, .slice X vs.length c], .pointer (some ⟨fb, 0, none⟩)] w fun e w => e = .returned (.bool (badR vs)) ∧ St p w (pt fb (.cells #[.func (.func 84) #[] #[]] 132) :: A :: R) := by
  refine enter Try.func85 rfl (by simp) (n := 20) rfl fun τ hτ => ?_
  have hs0 : τ 0 = .agg #[.bool o, .slice X vs.length c] := hτ 0 (by simp)
  have hs1 : τ 1 = .pointer (some ⟨fb, 0, none⟩) := hτ 1 (by simp)
  clear hτ
  refine CW.seq ?_
  refine CW.region ?_
  refine RW.hard Wd.a ?_
  refine H.box (v := .agg #[.bool o, .slice X vs.length c]) (AF_ev rfl hs0) hst fun b1 w hst => ?_
  refine RW.soft Wd.a (v := .bool false) (by exact E.assign rfl) ?_
  refine RW.fin (fun τ => τ 0 = .agg #[.bool o, .slice X vs.length c] ∧ τ 1 = .pointer (some ⟨fb, 0, none⟩) ∧ τ 2 = .pointer (some ⟨b1, 0, none⟩) ∧ τ 3 = .bool false) ⟨up rfl (up rfl hs0), up rfl (up rfl hs1), up rfl tp, tp⟩ ?_
  rintro τ ⟨hs0, hs1, hs2, hs3⟩
  refine CW.seq ?_
  refine Or.elim (Bool.eq_false_or_eq_true (decide (((vs.length : Nat) : Int) < 1))) (fun hl1 => ?_) (fun hl1 => ?_)
  · skip
    refine CW.region ?_
    refine RW.soft Wd.a (v := .pointer (some ⟨b1, 1, none⟩)) (by exact E.fieldAddr (b := b1) (o := 0) (f := { name := "L", type := 82, offset := 1, embedded := false, tag := "", pkgPath := "", byteOffset := 8 }) (AF_ev rfl hs2) Try.underlying84 rfl sz82 rfl) ?_
    refine RW.soft Wd.a (v := .slice X vs.length c) (by exact E.load (a := ⟨b1, 1, none⟩) Try.underlying82 rfl (AF_ev rfl tp) (hst.cell .here rfl)) ?_
    refine RW.soft Wd.a (v := .int .i64 ((vs.length : Nat) : Int)) (by exact E.lenS (p := X) (l := vs.length) (c := c) Try.underlying82 (AF_ev rfl tp)) ?_
    refine RW.soft Wd.a (v := .bool true) (by exact E.b (a := decide (((vs.length : Nat) : Int) < 1)) (E.lss (k := .i64) (a := ((vs.length : Nat) : Int)) (b := 1) (AF_ev rfl tp) rfl) hl1) ?_
    refine RW.soft Wd.a (v := .bool true) (by exact E.move (AF_ev rfl tp)) ?_
    refine RW.pass (by exact Wd.no (x := 8) (b := true) rfl (AF_ev rfl tp) rfl) ?_
    refine RW.pass (by exact Wd.no (x := 8) (b := true) rfl (AF_ev rfl (up rfl tp)) rfl) ?_
    refine RW.pass (by exact Wd.no (x := 8) (b := true) rfl (AF_ev rfl (up rfl (up rfl tp))) rfl) ?_
    refine RW.pass (by exact Wd.no (x := 8) (b := true) rfl (AF_ev rfl (up rfl (up rfl (up rfl tp)))) rfl) ?_
    refine RW.soft Wd.a (v := .bool true) (by exact E.pickT (AF_ev rfl (up rfl (up rfl (up rfl (up rfl tp))))) rfl) ?_
    refine RW.soft Wd.a (v := .bool true) (by exact E.move (AF_ev rfl tp)) ?_
    refine RW.pass (by exact Wd.no (x := 14) (b := true) rfl (AF_ev rfl tp) rfl) ?_
    refine RW.pass (by exact Wd.no (x := 14) (b := true) rfl (AF_ev rfl (up rfl tp)) rfl) ?_
    refine RW.pass (by exact Wd.no (x := 14) (b := true) rfl (AF_ev rfl (up rfl (up rfl tp))) rfl) ?_
    refine RW.pass (by exact Wd.no (x := 14) (b := true) rfl (AF_ev rfl (up rfl (up rfl (up rfl tp)))) rfl) ?_
    refine RW.soft Wd.a (v := .bool true) (by exact E.pickT (AF_ev rfl (up rfl (up rfl (up rfl (up rfl tp))))) rfl) ?_
    refine RW.soft Wd.a (v := .bool true) (by exact E.assign (AF_ev rfl tp)) ?_
    refine RW.fin (fun τ => τ 0 = .agg #[.bool o, .slice X vs.length c] ∧ τ 1 = .pointer (some ⟨fb, 0, none⟩) ∧ τ 2 = .pointer (some ⟨b1, 0, none⟩) ∧ τ 3 = .bool true) ⟨up rfl (up rfl (up rfl (up rfl (up rfl (up rfl (up rfl (up rfl (up rfl (up rfl (up rfl (up rfl (up rfl (up rfl (up rfl (up rfl (up rfl hs0)))))))))))))))), up rfl (up rfl (up rfl (up rfl (up rfl (up rfl (up rfl (up rfl (up rfl (up rfl (up rfl (up rfl (up rfl (up rfl (up rfl (up rfl (up rfl hs1)))))))))))))))), up rfl (up rfl (up rfl (up rfl (up rfl (up rfl (up rfl (up rfl (up rfl (up rfl (up rfl (up rfl (up rfl (up rfl (up rfl (up rfl (up rfl hs2)))))))))))))))), tp⟩ ?_
    rintro τ ⟨hs0, hs1, hs2, hs3⟩
    refine CW.ret ?_
    refine ret1 (v := .bool true) rfl (by exact (.tmp (AF_ev rfl hs3) .nil)) ?_
    have hst := hst.take (.there (.there .here))
    have hst := hst.take (.there (.there .here))
    have hst := (hst.take (.there (.there .here))).drop
    exact ⟨by unfold badR; rw [hl1]; simp, hst⟩
  · skip
    refine Or.elim (Bool.eq_false_or_eq_true (decide (((vs.length : Nat) : Int) > 4))) (fun hl4 => ?_) (fun hl4 => ?_)
    · skip
      refine CW.region ?_
      refine RW.soft Wd.a (v := .pointer (some ⟨b1, 1, none⟩)) (by exact E.fieldAddr (b := b1) (o := 0) (f := { name := "L", type := 82, offset := 1, embedded := false, tag := "", pkgPath := "", byteOffset := 8 }) (AF_ev rfl hs2) Try.underlying84 rfl sz82 rfl) ?_
      refine RW.soft Wd.a (v := .slice X vs.length c) (by exact E.load (a := ⟨b1, 1, none⟩) Try.underlying82 rfl (AF_ev rfl tp) (hst.cell .here rfl)) ?_
      refine RW.soft Wd.a (v := .int .i64 ((vs.length : Nat) : Int)) (by exact E.lenS (p := X) (l := vs.length) (c := c) Try.underlying82 (AF_ev rfl tp)) ?_
      refine RW.soft Wd.a (v := .bool false) (by exact E.b (a := decide (((vs.length : Nat) : Int) < 1)) (E.lss (k := .i64) (a := ((vs.length : Nat) : Int)) (b := 1) (AF_ev rfl tp) rfl) hl1) ?_
      refine RW.soft Wd.a (v := .bool false) (by exact E.move (AF_ev rfl tp)) ?_
      refine RW.soft (by exact Wd.yes (x := 8) rfl (AF_ev rfl tp)) (v := .pointer (some ⟨b1, 1, none⟩)) (by exact E.fieldAddr (b := b1) (o := 0) (f := { name := "L", type := 82, offset := 1, embedded := false, tag := "", pkgPath := "", byteOffset := 8 }) (AF_ev rfl (up rfl (up rfl (up rfl (up rfl (up rfl hs2)))))) Try.underlying84 rfl sz82 rfl) ?_
      refine RW.soft (by exact Wd.yes (x := 8) rfl (AF_ev rfl (up rfl tp))) (v := .slice X vs.length c) (by exact E.load (a := ⟨b1, 1, none⟩) Try.underlying82 rfl (AF_ev rfl tp) (hst.cell .here rfl)) ?_
      refine RW.soft (by exact Wd.yes (x := 8) rfl (AF_ev rfl (up rfl (up rfl tp)))) (v := .int .i64 ((vs.length : Nat) : Int)) (by exact E.lenS (p := X) (l := vs.length) (c := c) Try.underlying82 (AF_ev rfl tp)) ?_
      refine RW.soft (by exact Wd.yes (x := 8) rfl (AF_ev rfl (up rfl (up rfl (up rfl tp))))) (v := .bool true) (by exact E.b (a := decide (((vs.length : Nat) : Int) > 4)) (E.gtr (k := .i64) (a := ((vs.length : Nat) : Int)) (b := 4) (AF_ev rfl tp) rfl) hl4) ?_
      refine RW.soft Wd.a (v := .bool true) (by exact E.pickF (AF_ev rfl (up rfl (up rfl (up rfl (up rfl tp))))) (AF_ev rfl tp)) ?_
      refine RW.soft Wd.a (v := .bool true) (by exact E.move (AF_ev rfl tp)) ?_
      refine RW.pass (by exact Wd.no (x := 14) (b := true) rfl (AF_ev rfl tp) rfl) ?_
      refine RW.pass (by exact Wd.no (x := 14) (b := true) rfl (AF_ev rfl (up rfl tp)) rfl) ?_
      refine RW.pass (by exact Wd.no (x := 14) (b := true) rfl (AF_ev rfl (up rfl (up rfl tp))) rfl) ?_
      refine RW.pass (by exact Wd.no (x := 14) (b := true) rfl (AF_ev rfl (up rfl (up rfl (up rfl tp)))) rfl) ?_
      refine RW.soft Wd.a (v := .bool true) (by exact E.pickT (AF_ev rfl (up rfl (up rfl (up rfl (up rfl tp))))) rfl) ?_
      refine RW.soft Wd.a (v := .bool true) (by exact E.assign (AF_ev rfl tp)) ?_
      refine RW.fin (fun τ => τ 0 = .agg #[.bool o, .slice X vs.length c] ∧ τ 1 = .pointer (some ⟨fb, 0, none⟩) ∧ τ 2 = .pointer (some ⟨b1, 0, none⟩) ∧ τ 3 = .bool true) ⟨up rfl (up rfl (up rfl (up rfl (up rfl (up rfl (up rfl (up rfl (up rfl (up rfl (up rfl (up rfl (up rfl (up rfl (up rfl (up rfl (up rfl hs0)))))))))))))))), up rfl (up rfl (up rfl (up rfl (up rfl (up rfl (up rfl (up rfl (up rfl (up rfl (up rfl (up rfl (up rfl (up rfl (up rfl (up rfl (up rfl hs1)))))))))))))))), up rfl (up rfl (up rfl (up rfl (up rfl (up rfl (up rfl (up rfl (up rfl (up rfl (up rfl (up rfl (up rfl (up rfl (up rfl (up rfl (up rfl hs2)))))))))))))))), tp⟩ ?_
      rintro τ ⟨hs0, hs1, hs2, hs3⟩
      refine CW.ret ?_
      refine ret1 (v := .bool true) rfl (by exact (.tmp (AF_ev rfl hs3) .nil)) ?_
      have hst := hst.take (.there (.there .here))
      have hst := hst.take (.there (.there .here))
      have hst := (hst.take (.there (.there .here))).drop
      exact ⟨by unfold badR; rw [hl1, hl4]; simp, hst⟩
    · skip
      refine CW.region ?_
      refine RW.soft Wd.a (v := .pointer (some ⟨b1, 1, none⟩)) (by exact E.fieldAddr (b := b1) (o := 0) (f := { name := "L", type := 82, offset := 1, embedded := false, tag := "", pkgPath := "", byteOffset := 8 }) (AF_ev rfl hs2) Try.underlying84 rfl sz82 rfl) ?_
      refine RW.soft Wd.a (v := .slice X vs.length c) (by exact E.load (a := ⟨b1, 1, none⟩) Try.underlying82 rfl (AF_ev rfl tp) (hst.cell .here rfl)) ?_
      refine RW.soft Wd.a (v := .int .i64 ((vs.length : Nat) : Int)) (by exact E.lenS (p := X) (l := vs.length) (c := c) Try.underlying82 (AF_ev rfl tp)) ?_
      refine RW.soft Wd.a (v := .bool false) (by exact E.b (a := decide (((vs.length : Nat) : Int) < 1)) (E.lss (k := .i64) (a := ((vs.length : Nat) : Int)) (b := 1) (AF_ev rfl tp) rfl) hl1) ?_
      refine RW.soft Wd.a (v := .bool false) (by exact E.move (AF_ev rfl tp)) ?_
      refine RW.soft (by exact Wd.yes (x := 8) rfl (AF_ev rfl tp)) (v := .pointer (some ⟨b1, 1, none⟩)) (by exact E.fieldAddr (b := b1) (o := 0) (f := { name := "L", type := 82, offset := 1, embedded := false, tag := "", pkgPath := "", byteOffset := 8 }) (AF_ev rfl (up rfl (up rfl (up rfl (up rfl (up rfl hs2)))))) Try.underlying84 rfl sz82 rfl) ?_
      refine RW.soft (by exact Wd.yes (x := 8) rfl (AF_ev rfl (up rfl tp))) (v := .slice X vs.length c) (by exact E.load (a := ⟨b1, 1, none⟩) Try.underlying82 rfl (AF_ev rfl tp) (hst.cell .here rfl)) ?_
      refine RW.soft (by exact Wd.yes (x := 8) rfl (AF_ev rfl (up rfl (up rfl tp)))) (v := .int .i64 ((vs.length : Nat) : Int)) (by exact E.lenS (p := X) (l := vs.length) (c := c) Try.underlying82 (AF_ev rfl tp)) ?_
      refine RW.soft (by exact Wd.yes (x := 8) rfl (AF_ev rfl (up rfl (up rfl (up rfl tp))))) (v := .bool false) (by exact E.b (a := decide (((vs.length : Nat) : Int) > 4)) (E.gtr (k := .i64) (a := ((vs.length : Nat) : Int)) (b := 4) (AF_ev rfl tp) rfl) hl4) ?_
      refine RW.soft Wd.a (v := .bool false) (by exact E.pickF (AF_ev rfl (up rfl (up rfl (up rfl (up rfl tp))))) (AF_ev rfl tp)) ?_
      refine RW.soft Wd.a (v := .bool false) (by exact E.move (AF_ev rfl tp)) ?_
      refine RW.soft (by exact Wd.yes (x := 14) rfl (AF_ev rfl tp)) (v := .pointer (some ⟨b1, 1, none⟩)) (by exact E.fieldAddr (b := b1) (o := 0) (f := { name := "L", type := 82, offset := 1, embedded := false, tag := "", pkgPath := "", byteOffset := 8 }) (AF_ev rfl (up rfl (up rfl (up rfl (up rfl (up rfl (up rfl (up rfl (up rfl (up rfl (up rfl (up rfl hs2)))))))))))) Try.underlying84 rfl sz82 rfl) ?_
      refine RW.soft (by exact Wd.yes (x := 14) rfl (AF_ev rfl (up rfl tp))) (v := .slice X vs.length c) (by exact E.load (a := ⟨b1, 1, none⟩) Try.underlying82 rfl (AF_ev rfl tp) (hst.cell .here rfl)) ?_
      refine RW.soft (by exact Wd.yes (x := 14) rfl (AF_ev rfl (up rfl (up rfl tp)))) (v := .func (.func 84) #[] #[]) (by exact E.load (a := ⟨fb, 0, none⟩) Try.underlying132 rfl (AF_ev rfl (up rfl (up rfl (up rfl (up rfl (up rfl (up rfl (up rfl (up rfl (up rfl (up rfl (up rfl (up rfl (up rfl hs1)))))))))))))) (hst.cell (.there .here) rfl)) ?_
      have hst := hst.take (.there (.there .here))
      refine RW.hard (by exact Wd.yes (x := 14) rfl (AF_ev rfl (up rfl (up rfl (up rfl tp))))) ?_
      refine H.call0 Try.func86 nm86 rfl (map2 (AF_ev rfl (up rfl tp)) (AF_ev rfl tp)) (Calls.mono (of_anyV hA h8 hst) ?_)
      rintro _ w ⟨rfl, hst⟩
      refine ⟨_, rfl, ?_⟩
      show RW _ _ _ _ _ _ _
      refine RW.soft Wd.a (v := .bool (vs.any badV)) (by exact E.pickF (AF_ev rfl (up rfl (up rfl (up rfl (up rfl tp))))) (AF_ev rfl tp)) ?_
      refine RW.soft Wd.a (v := .bool (vs.any badV)) (by exact E.assign (AF_ev rfl tp)) ?_
      refine RW.fin (fun τ => τ 0 = .agg #[.bool o, .slice X vs.length c] ∧ τ 1 = .pointer (some ⟨fb, 0, none⟩) ∧ τ 2 = .pointer (some ⟨b1, 0, none⟩) ∧ τ 3 = .bool (vs.any badV)) ⟨up rfl (up rfl (up rfl (up rfl (up rfl (up rfl (up rfl (up rfl (up rfl (up rfl (up rfl (up rfl (up rfl (up rfl (up rfl (up rfl (up rfl hs0)))))))))))))))), up rfl (up rfl (up rfl (up rfl (up rfl (up rfl (up rfl (up rfl (up rfl (up rfl (up rfl (up rfl (up rfl (up rfl (up rfl (up rfl (up rfl hs1)))))))))))))))), up rfl (up rfl (up rfl (up rfl (up rfl (up rfl (up rfl (up rfl (up rfl (up rfl (up rfl (up rfl (up rfl (up rfl (up rfl (up rfl (up rfl hs2)))))))))))))))), tp⟩ ?_
      rintro τ ⟨hs0, hs1, hs2, hs3⟩
      refine CW.ret ?_
      refine ret1 (v := .bool (vs.any badV)) rfl (by exact (.tmp (AF_ev rfl hs3) .nil)) ?_
      have hst := hst.take (.there (.there .here))
      have hst := (hst.take (.there (.there .here))).drop
      exact ⟨by unfold badR; rw [hl1, hl4]; simp, hst⟩

theorem of_indexR {p : Pers} {w : World} {R : List Assn} {fb : Nat} {A : Assn} {X : Option Addr} {c : Nat} {rs : List RingM} (hA : Tells13 p A (.slice X rs.length c) rs) (h12 : rs.length ≤ 12) (h8 : ∀ r ∈ rs, r.vers.length ≤ 8) (hst : St p w (pt fb (.cells #[.func (.func 84) #[] #[]] 132) :: A :: R)) :
    Calls Try.prog 93 #[.slice X rs.length c, .func (.func 85) #[] #[.pointer (some ⟨fb, 0, none⟩)]] w fun e w => ∃ i : Int, e = .returned (.int .i64 i) ∧ decide (i ≥ 0) = (rs.any fun r => badR r.vers) ∧ St p w (pt fb (.cells #[.func (.func 84) #[] #[]] 132) :: A :: R) := by
  refine enter Try.func93 rfl (by simp) (n := 19) rfl fun τ hτ => ?_
  have hs0 : τ 0 = .slice X rs.length c := hτ 0 (by simp)
  have hs1 : τ 1 = .func (.func 85) #[] #[.pointer (some ⟨fb, 0, none⟩)] := hτ 1 (by simp)
  clear hτ
  refine CW.seq ?_
  refine CW.region ?_
  refine RW.soft Wd.a (v := .int .i64 0) (by exact E.assign rfl) ?_
  refine RW.fin (fun τ => τ 0 = .slice X rs.length c ∧ τ 1 = .func (.func 85) #[] #[.pointer (some ⟨fb, 0, none⟩)] ∧ τ 4 = .int .i64 0) ⟨up rfl hs0, up rfl hs1, tp⟩ ?_
  rintro τ ⟨hs0, hs1, hs4⟩
  refine CW.seq ?_
  refine CW.seq ?_
  refine CW.region ?_
  refine RW.soft Wd.a (v := .slice X rs.length c) (by exact E.move (AF_ev rfl hs0)) ?_
  refine RW.soft Wd.a (v := .int .i64 ((rs.length : Nat) : Int)) (by exact E.lenS (p := X) (l := rs.length) (c := c) Try.underlying71 (AF_ev rfl tp)) ?_
  refine RW.soft Wd.a (v := .int .i64 0) (by exact E.move rfl) ?_
  refine RW.fin (fun τ => τ 0 = .slice X rs.length c ∧ τ 1 = .func (.func 85) #[] #[.pointer (some ⟨fb, 0, none⟩)] ∧ τ 4 = .int .i64 0 ∧ τ 7 = .int .i64 ((rs.length : Nat) : Int) ∧ τ 8 = .int .i64 0) ⟨up rfl (up rfl (up rfl hs0)), up rfl (up rfl (up rfl hs1)), up rfl (up rfl (up rfl hs4)), up rfl tp, tp⟩ ?_
  rintro τ ⟨hs0, hs1, hs4, hs7, hs8⟩
  refine CW.block ?_
  have hst := hst.take (.there .here)
  have hst := hst.take (.there .here)
  refine CW.loop (fun (k : Nat) (τ : Fr) (w : World) => ∃ (j : Nat), (rs.take j).any (fun r => badR r.vers) = false ∧ j ≤ rs.length ∧ k = rs.length - j ∧ τ 0 = .slice X rs.length c ∧ τ 1 = .func (.func 85) #[] #[.pointer (some ⟨fb, 0, none⟩)] ∧ τ 7 = .int .i64 ((rs.length : Nat) : Int) ∧ τ 8 = .int .i64 ((j : Nat) : Int) ∧ St p w (pt fb (.cells #[.func (.func 84) #[] #[]] 132) :: A :: R)) (rs.length - 0) ⟨0, rfl, by omega, rfl, hs0, hs1, hs7, (int_eq (a := 0) hs8 (by omega)), hst⟩ ?_
  clear hst
  rintro k τ w ⟨j, hf, hj, hkj, hs0, hs1, hs7, hs8, hst⟩
  refine CW.seq ?_
  refine CW.region ?_
  refine RW.soft Wd.a (v := .bool (decide (((j : Nat) : Int) < ((rs.length : Nat) : Int)))) (by exact E.lss (k := .i64) (a := ((j : Nat) : Int)) (b := ((rs.length : Nat) : Int)) (AF_ev rfl hs8) (AF_ev rfl hs7)) ?_
  refine RW.fin (fun τ => τ 0 = .slice X rs.length c ∧ τ 1 = .func (.func 85) #[] #[.pointer (some ⟨fb, 0, none⟩)] ∧ τ 7 = .int .i64 ((rs.length : Nat) : Int) ∧ τ 8 = .int .i64 ((j : Nat) : Int) ∧ τ 9 = .bool (decide (((j : Nat) : Int) < ((rs.length : Nat) : Int)))) ⟨up rfl hs0, up rfl hs1, up rfl hs7, up rfl hs8, tp⟩ ?_
  rintro τ ⟨hs0, hs1, hs7, hs8, hs9⟩
  refine CW.seq ?_
  refine CW.cond (AF_ev rfl hs9) (fun hc1 => ?_) (fun hc1 => ?_)
  · have hc1_ := hc1
    try simp only [decide_eq_true_eq, decide_eq_false_iff_not, Bool.and_eq_true, Bool.or_eq_true, Bool.and_eq_false_iff, Bool.or_eq_false_iff, Bool.not_eq_true', Bool.not_eq_false', beq_iff_eq, beq_eq_false_iff_ne, bne_iff_ne, bne_eq_false_iff_eq, ne_eq, Int.not_lt, Int.not_le, gt_iff_lt, ge_iff_le] at hc1_
    refine CW.skip ?_
    refine Th.n ?_
    refine CW.seq ?_
    refine CW.block ?_
    refine CW.seq ?_
    have hjl : j < rs.length := by omega
    obtain ⟨b0, o0, rfl, hcell0⟩ := hA.place (hst.take (.there .here)) (by omega)
    obtain ⟨⟨o, Y, d, vs⟩, hr⟩ : ∃ z, rs[j]? = some z := ⟨rs[j], List.getElem?_eq_getElem hjl⟩
    have hx := hr
    have hv8 : vs.length ≤ 8 := h8 _ (List.mem_of_getElem? hr)
    refine CW.region ?_
    refine RW.soft Wd.a (v := .int .i64 ((j : Nat) : Int)) (by exact E.move (AF_ev rfl hs8)) ?_
    refine RW.soft Wd.a (v := .int .i64 ((j : Nat) : Int)) (by exact E.assign (AF_ev rfl tp)) ?_
    refine RW.fin (fun τ => τ 0 = .slice (some ⟨b0, o0, none⟩) rs.length c ∧ τ 1 = .func (.func 85) #[] #[.pointer (some ⟨fb, 0, none⟩)] ∧ τ 5 = .int .i64 ((j : Nat) : Int) ∧ τ 7 = .int .i64 ((rs.length : Nat) : Int) ∧ τ 8 = .int .i64 ((j : Nat) : Int) ∧ τ 9 = .bool true) ⟨up rfl (up rfl hs0), up rfl (up rfl hs1), tp, up rfl (up rfl hs7), up rfl (up rfl hs8), up rfl (up rfl (Eq.trans hs9 (congrArg Value.bool hc1)))⟩ ?_
    rintro τ ⟨hs0, hs1, hs5, hs7, hs8, hs9⟩
    refine CW.seq ?_
    refine CW.region ?_
    refine RW.soft Wd.a (v := .func (.func 85) #[] #[.pointer (some ⟨fb, 0, none⟩)]) (by exact E.move (AF_ev rfl hs1)) ?_
    refine RW.soft Wd.a (v := .slice (some ⟨b0, o0, none⟩) rs.length c) (by exact E.move (AF_ev rfl (up rfl hs0))) ?_
    refine RW.soft Wd.a (v := .int .i64 ((j : Nat) : Int)) (by exact E.move (AF_ev rfl (up rfl (up rfl hs5)))) ?_
    refine RW.soft Wd.a (v := .pointer (some ⟨b0, o0 + j * 2, none⟩)) (by exact E.indexAddr (b := b0) (o := o0) (l := rs.length) (c := c) (i := ((j : Nat) : Int)) Try.underlying71 sz84 (AF_ev rfl (up rfl tp)) (AF_ev rfl tp) (by omega) (by omega) (by simp)) ?_
    refine RW.soft Wd.a (v := .agg #[.bool o, .slice Y vs.length d]) (by exact E.loadN (b := b0) (o := o0 + j * 2) (cs := [.bool o, .slice Y vs.length d]) Try.underlying84 rfl sz84 (AF_ev rfl tp) rfl (fun j v hv => by rw [Nat.add_assoc]; exact hcell0 (hst.take (.there .here)) _ _ (flat_get RingM.enc_len hr (hv)))) ?_
    have hst := hst.take (.there .here)
    have hst := hst.take (.there .here)
    refine RW.hard Wd.a ?_
    refine H.call (AF_ev rfl (up rfl (up rfl (up rfl (up rfl tp))))) Try.func85 nm85 rfl (map1 (AF_ev rfl tp)) (Calls.mono (of_bad o (hA.row hr) hv8 hst) ?_)
    rintro _ w ⟨rfl, hst⟩
    refine ⟨_, rfl, ?_⟩
    show RW _ _ _ _ _ _ _
    refine RW.fin (fun τ => τ 0 = .slice (some ⟨b0, o0, none⟩) rs.length c ∧ τ 1 = .func (.func 85) #[] #[.pointer (some ⟨fb, 0, none⟩)] ∧ τ 5 = .int .i64 ((j : Nat) : Int) ∧ τ 7 = .int .i64 ((rs.length : Nat) : Int) ∧ τ 8 = .int .i64 ((j : Nat) : Int) ∧ τ 9 = .bool true ∧ τ 16 = .bool (badR vs)) ⟨up rfl (up rfl (up rfl (up rfl (up rfl (up rfl hs0))))), up rfl (up rfl (up rfl (up rfl (up rfl (up rfl hs1))))), up rfl (up rfl (up rfl (up rfl (up rfl (up rfl hs5))))), up rfl (up rfl (up rfl (up rfl (up rfl (up rfl hs7))))), up rfl (up rfl (up rfl (up rfl (up rfl (up rfl hs8))))), up rfl (up rfl (up rfl (up rfl (up rfl (up rfl hs9))))), tp⟩ ?_
    rintro τ ⟨hs0, hs1, hs5, hs7, hs8, hs9, hs16⟩
    refine CW.cond (AF_ev rfl hs16) (fun hc2 => ?_) (fun hc2 => ?_)
    · have hc2_ := hc2
      try simp only [decide_eq_true_eq, decide_eq_false_iff_not, Bool.and_eq_true, Bool.or_eq_true, Bool.and_eq_false_iff, Bool.or_eq_false_iff, Bool.not_eq_true', Bool.not_eq_false', beq_iff_eq, beq_eq_false_iff_ne, bne_iff_ne, bne_eq_false_iff_eq, ne_eq, Int.not_lt, Int.not_le, gt_iff_lt, ge_iff_le] at hc2_
      refine CW.seq ?_
      refine CW.region ?_
      refine RW.soft Wd.a (v := .int .i64 ((j : Nat) : Int)) (by exact E.move (AF_ev rfl hs5)) ?_
      refine RW.soft Wd.a (v := .int .i64 ((j : Nat) : Int)) (by exact E.assign (AF_ev rfl tp)) ?_
      refine RW.fin (fun τ => τ 0 = .slice (some ⟨b0, o0, none⟩) rs.length c ∧ τ 1 = .func (.func 85) #[] #[.pointer (some ⟨fb, 0, none⟩)] ∧ τ 4 = .int .i64 ((j : Nat) : Int) ∧ τ 5 = .int .i64 ((j : Nat) : Int) ∧ τ 7 = .int .i64 ((rs.length : Nat) : Int) ∧ τ 8 = .int .i64 ((j : Nat) : Int) ∧ τ 9 = .bool true ∧ τ 16 = .bool true) ⟨up rfl (up rfl hs0), up rfl (up rfl hs1), tp, up rfl (up rfl hs5), up rfl (up rfl hs7), up rfl (up rfl hs8), up rfl (up rfl hs9), up rfl (up rfl (Eq.trans hs16 (congrArg Value.bool hc2)))⟩ ?_
      rintro τ ⟨hs0, hs1, hs4, hs5, hs7, hs8, hs9, hs16⟩
      refine CW.ret ?_
      refine Bl.r ?_
      refine Th.r ?_
      refine Th.r ?_
      refine Bl.r ?_
      refine Th.r ?_
      refine ret1 (v := .int .i64 ((j : Nat) : Int)) rfl (by exact (.tmp (AF_ev rfl hs4) .nil)) ?_
      have hst := hst.take (.there .here)
      have hst := hst.take (.there .here)
      exact ⟨_, rfl, by rw [any_found hx (show badR vs = true from hc2)]; exact decide_eq_true (by omega), hst⟩
    · have hc2_ := hc2
      try simp only [decide_eq_true_eq, decide_eq_false_iff_not, Bool.and_eq_true, Bool.or_eq_true, Bool.and_eq_false_iff, Bool.or_eq_false_iff, Bool.not_eq_true', Bool.not_eq_false', beq_iff_eq, beq_eq_false_iff_ne, bne_iff_ne, bne_eq_false_iff_eq, ne_eq, Int.not_lt, Int.not_le, gt_iff_lt, ge_iff_le] at hc2_
      refine CW.skip ?_
      refine Bl.n ?_
      refine Th.n ?_
      refine CW.region ?_
      refine RW.soft Wd.a (v := .int .i64 (((j : Nat) : Int) + 1)) (by exact E.add (k := .i64) (a := ((j : Nat) : Int)) (b := 1) (AF_ev rfl hs8) rfl (show IntKind.i64.wrap (((j : Nat) : Int) + 1) = ((j : Nat) : Int) + 1 from (by rw [IntWalk.i64_in _ (by omega)]))) ?_
      refine RW.soft Wd.a (v := .int .i64 (((j : Nat) : Int) + 1)) (by exact E.move (AF_ev rfl tp)) ?_
      refine RW.nil ?_
      refine Th.n ?_
      have hf2 := any_more hf hx (show badR vs = false from hc2)
      have hst := hst.take (.there .here)
      have hst := hst.take (.there .here)
      exact ⟨rs.length - (j + 1), by omega, j + 1, hf2, (by omega), rfl, up rfl (up rfl hs0), up rfl (up rfl hs1), up rfl (up rfl hs7), (int_eq (a := ((j : Nat) : Int) + 1) tp (by omega)), hst⟩
  · have hc1_ := hc1
    try simp only [decide_eq_true_eq, decide_eq_false_iff_not, Bool.and_eq_true, Bool.or_eq_true, Bool.and_eq_false_iff, Bool.or_eq_false_iff, Bool.not_eq_true', Bool.not_eq_false', beq_iff_eq, beq_eq_false_iff_ne, bne_iff_ne, bne_eq_false_iff_eq, ne_eq, Int.not_lt, Int.not_le, gt_iff_lt, ge_iff_le] at hc1_
    refine CW.exit ?_
    refine Th.x ?_
    refine Th.x ?_
    refine Bl.x ?_
    refine Th.n ?_
    refine CW.seq ?_
    refine CW.region ?_
    refine RW.soft Wd.a (v := .int .i64 (-1)) (by exact E.assign rfl) ?_
    refine RW.fin (fun τ => τ 0 = .slice X rs.length c ∧ τ 1 = .func (.func 85) #[] #[.pointer (some ⟨fb, 0, none⟩)] ∧ τ 4 = .int .i64 (-1) ∧ τ 7 = .int .i64 ((rs.length : Nat) : Int) ∧ τ 8 = .int .i64 ((j : Nat) : Int) ∧ τ 9 = .bool false) ⟨up rfl hs0, up rfl hs1, tp, up rfl hs7, up rfl hs8, up rfl (Eq.trans hs9 (congrArg Value.bool hc1))⟩ ?_
    rintro τ ⟨hs0, hs1, hs4, hs7, hs8, hs9⟩
    refine CW.ret ?_
    refine ret1 (v := .int .i64 (-1)) rfl (by exact (.tmp (AF_ev rfl hs4) .nil)) ?_
    have hst := hst.take (.there .here)
    have hst := hst.take (.there .here)
    exact ⟨-1, rfl, (any_all hf (by omega)).symm, hst⟩

theorem of_anyR {p : Pers} {w : World} {R : List Assn} {fb : Nat} {A : Assn} {X : Option Addr} {c : Nat} {rs : List RingM} (hA : Tells13 p A (.slice X rs.length c) rs) (h12 : rs.length ≤ 12) (h8 : ∀ r ∈ rs, r.vers.length ≤ 8) (hst : St p w (pt fb (.cells #[.func (.func 84) #[] #[]] 132) :: A :: R)) :
    Calls Try.prog 87 #[.slice X rs.length c, .func (.func 85) #[] #[.pointer (some ⟨fb, 0, none⟩)]] w fun e w => e = .returned (.bool (rs.any fun r => badR r.vers)) ∧ St p w (pt fb (.cells #[.func (.func 84) #[] #[]] 132) :: A :: R) := by
  refine enter Try.func87 rfl (by simp) (n := 9) rfl fun τ hτ => ?_
  have hs0 : τ 0 = .slice X rs.length c := hτ 0 (by simp)
  have hs1 : τ 1 = .func (.func 85) #[] #[.pointer (some ⟨fb, 0, none⟩)] := hτ 1 (by simp)
  clear hτ
  refine CW.seq ?_
  refine CW.region ?_
  refine RW.soft Wd.a (v := .bool false) (by exact E.assign rfl) ?_
  refine RW.fin (fun τ => τ 0 = .slice X rs.length c ∧ τ 1 = .func (.func 85) #[] #[.pointer (some ⟨fb, 0, none⟩)] ∧ τ 4 = .bool false) ⟨up rfl hs0, up rfl hs1, tp⟩ ?_
  rintro τ ⟨hs0, hs1, hs4⟩
  refine CW.seq ?_
  refine CW.region ?_
  refine RW.soft Wd.a (v := .slice X rs.length c) (by exact E.move (AF_ev rfl hs0)) ?_
  refine RW.soft Wd.a (v := .func (.func 85) #[] #[.pointer (some ⟨fb, 0, none⟩)]) (by exact E.move (AF_ev rfl (up rfl hs1))) ?_
  have hst := hst.take (.there .here)
  have hst := hst.take (.there .here)
  refine RW.hard Wd.a ?_
  refine H.call0 Try.func93 nm93 rfl (map2 (AF_ev rfl (up rfl tp)) (AF_ev rfl tp)) (Calls.mono (of_indexR hA h12 h8 hst) ?_)
  rintro _ w ⟨i1, rfl, hi1, hst⟩
  refine ⟨_, rfl, ?_⟩
  show RW _ _ _ _ _ _ _
  refine RW.soft Wd.a (v := .bool (rs.any fun r => badR r.vers)) (by exact E.b (a := decide (i1 ≥ 0)) (E.geq (k := .i64) (a := i1) (b := 0) (AF_ev rfl tp) rfl) hi1) ?_
  refine RW.soft Wd.a (v := .bool (rs.any fun r => badR r.vers)) (by exact E.assign (AF_ev rfl tp)) ?_
  refine RW.fin (fun τ => τ 0 = .slice X rs.length c ∧ τ 1 = .func (.func 85) #[] #[.pointer (some ⟨fb, 0, none⟩)] ∧ τ 4 = .bool (rs.any fun r => badR r.vers)) ⟨up rfl (up rfl (up rfl (up rfl (up rfl hs0)))), up rfl (up rfl (up rfl (up rfl (up rfl hs1)))), tp⟩ ?_
  rintro τ ⟨hs0, hs1, hs4⟩
  refine CW.ret ?_
  refine ret1 (v := .bool (rs.any fun r => badR r.vers)) rfl (by exact (.tmp (AF_ev rfl hs4) .nil)) ?_
  have hst := hst.take (.there .here)
  have hst := hst.take (.there .here)
  exact ⟨rfl, hst⟩

theorem prog_Of_good {p : Pers} {w : World} {R : List Assn} {A : Assn} {X : Option Addr} {c : Nat} {rs : List RingM} (hA : Tells13 p A (.slice X rs.length c) rs) (h12 : rs.length ≤ 12) (h8 : ∀ r ∈ rs, r.vers.length ≤ 8) (hb : badK (rs.map RingM.view) = false) (hst : St p w (A :: R)) :
    Calls Try.prog 62 #[.slice X rs.length c] w fun e w => ∃ b, e = .returned (.tuple #[.pointer (some ⟨b, 0, none⟩), .int .i64 0]) ∧ St p w (KeysV 127 b (rs.map RingM.view) :: A :: R) := by
  have hb2 := hb
  unfold badK at hb2
  rw [any_view] at hb2
  obtain ⟨hb3, hany⟩ := Bool.or_eq_false_iff.1 hb2
  rw [List.length_map] at hb3
  refine enter Try.func62 rfl (by simp) (n := 19) rfl fun τ hτ => ?_
  have hs0 : τ 0 = .slice X rs.length c := hτ 0 (by simp)
  clear hτ
  refine CW.seq ?_
  refine CW.region ?_
  refine RW.soft Wd.a (v := .pointer none) (by exact E.assign rfl) ?_
  refine RW.soft Wd.a (v := .int .i64 0) (by exact E.assign rfl) ?_
  refine RW.fin (fun τ => τ 0 = .slice X rs.length c ∧ τ 2 = .pointer none ∧ τ 3 = .int .i64 0) ⟨up rfl (up rfl hs0), up rfl tp, tp⟩ ?_
  rintro τ ⟨hs0, hs2, hs3⟩
  refine CW.seq ?_
  refine CW.region ?_
  refine RW.hard Wd.a ?_
  refine H.alloc zr132 hst fun b1 w hst => ?_
  refine RW.hard Wd.a ?_
  refine H.store (b := b1) (o := 0) (v := .func (.func 84) #[] #[]) (c' := #[.func (.func 84) #[] #[]]) (AF_ev rfl tp) rfl hst .here sz132 (by simp [Value.cells]) (by simp [Value.cells, Value.oneCell']) rfl fun w hst => ?_
  refine RW.fin (fun τ => τ 0 = .slice X rs.length c ∧ τ 2 = .pointer none ∧ τ 3 = .int .i64 0 ∧ τ 4 = .pointer (some ⟨b1, 0, none⟩)) ⟨u0 (up rfl hs0), u0 (up rfl hs2), u0 (up rfl hs3), u0 tp⟩ ?_
  rintro τ ⟨hs0, hs2, hs3, hs4⟩
  refine CW.seq ?_
  refine CW.region ?_
  refine RW.soft Wd.a (v := .func (.func 85) #[] #[.pointer (some ⟨b1, 0, none⟩)]) (by exact E.makeFunc map0 (map1 (AF_ev rfl hs4))) ?_
  refine RW.soft Wd.a (v := .func (.func 85) #[] #[.pointer (some ⟨b1, 0, none⟩)]) (by exact E.assign (AF_ev rfl tp)) ?_
  refine RW.fin (fun τ => τ 0 = .slice X rs.length c ∧ τ 2 = .pointer none ∧ τ 3 = .int .i64 0 ∧ τ 4 = .pointer (some ⟨b1, 0, none⟩) ∧ τ 5 = .func (.func 85) #[] #[.pointer (some ⟨b1, 0, none⟩)]) ⟨up rfl (up rfl hs0), up rfl (up rfl hs2), up rfl (up rfl hs3), up rfl (up rfl hs4), tp⟩ ?_
  rintro τ ⟨hs0, hs2, hs3, hs4, hs5⟩
  refine CW.seq ?_
  refine CW.seq ?_
  refine CW.region ?_
  refine RW.soft Wd.a (v := .slice X rs.length c) (by exact E.move (AF_ev rfl hs0)) ?_
  refine RW.soft Wd.a (v := .int .i64 ((rs.length : Nat) : Int)) (by exact E.lenS (p := X) (l := rs.length) (c := c) Try.underlying71 (AF_ev rfl tp)) ?_
  refine RW.soft Wd.a (v := .bool false) (by exact E.b (a := decide (((rs.length : Nat) : Int) > 8)) (E.gtr (k := .i64) (a := ((rs.length : Nat) : Int)) (b := 8) (AF_ev rfl tp) rfl) hb3) ?_
  refine RW.soft Wd.a (v := .bool false) (by exact E.move (AF_ev rfl tp)) ?_
  refine RW.soft (by exact Wd.yes (x := 10) rfl (AF_ev rfl tp)) (v := .slice X rs.length c) (by exact E.move (AF_ev rfl (up rfl (up rfl (up rfl (up rfl hs0)))))) ?_
  refine RW.soft (by exact Wd.yes (x := 10) rfl (AF_ev rfl (up rfl tp))) (v := .func (.func 85) #[] #[.pointer (some ⟨b1, 0, none⟩)]) (by exact E.move (AF_ev rfl (up rfl (up rfl (up rfl (up rfl (up rfl hs5))))))) ?_
  have hst := hst.take (.there .here)
  have hst := hst.take (.there .here)
  refine RW.hard (by exact Wd.yes (x := 10) rfl (AF_ev rfl (up rfl (up rfl tp)))) ?_
  refine H.call0 Try.func87 nm87 rfl (map2 (AF_ev rfl (up rfl tp)) (AF_ev rfl tp)) (Calls.mono ((show Calls Try.prog 87 #[.slice X rs.length c, .func (.func 85) #[] #[.pointer (some ⟨b1, 0, none⟩)]] w (fun e w => e = .returned (.bool false) ∧ St p w (pt b1 (.cells #[.func (.func 84) #[] #[]] 132) :: A :: R)) from (by
    have hq := of_anyR hA h12 h8 hst
    rw [hany] at hq; exact hq))) ?_)
  rintro _ w ⟨rfl, hst⟩
  refine ⟨_, rfl, ?_⟩
  show RW _ _ _ _ _ _ _
  refine RW.soft Wd.a (v := .bool false) (by exact E.pickF (AF_ev rfl (up rfl (up rfl (up rfl tp)))) (AF_ev rfl tp)) ?_
  refine RW.fin (fun τ => τ 0 = .slice X rs.length c ∧ τ 2 = .pointer none ∧ τ 3 = .int .i64 0 ∧ τ 4 = .pointer (some ⟨b1, 0, none⟩) ∧ τ 5 = .func (.func 85) #[] #[.pointer (some ⟨b1, 0, none⟩)] ∧ τ 14 = .bool false) ⟨up rfl (up rfl (up rfl (up rfl (up rfl (up rfl (up rfl (up rfl hs0))))))), up rfl (up rfl (up rfl (up rfl (up rfl (up rfl (up rfl (up rfl hs2))))))), up rfl (up rfl (up rfl (up rfl (up rfl (up rfl (up rfl (up rfl hs3))))))), up rfl (up rfl (up rfl (up rfl (up rfl (up rfl (up rfl (up rfl hs4))))))), up rfl (up rfl (up rfl (up rfl (up rfl (up rfl (up rfl (up rfl hs5))))))), tp⟩ ?_
  rintro τ ⟨hs0, hs2, hs3, hs4, hs5, hs14⟩
  refine CW.condF (AF_ev rfl hs14) ?_
  refine CW.skip ?_
  refine Th.n ?_
  refine CW.seq ?_
  refine CW.region ?_
  refine RW.soft Wd.a (v := .slice X rs.length c) (by exact E.move (AF_ev rfl hs0)) ?_
  have hst := hst.take (.there .here)
  refine RW.hard Wd.a ?_
  refine H.call0 Try.func71 nm71 rfl (map1 (AF_ev rfl tp)) (Calls.mono (prog_own hA h12 h8 hst) ?_)
  rintro _ w ⟨v2, rfl, hst⟩
  obtain ⟨Xv2, cv2, rfl, hcv2⟩ := rowsShape hst
  refine ⟨_, rfl, ?_⟩
  show RW _ _ _ _ _ _ _
  refine RW.soft Wd.a (v := .agg #[.slice Xv2 ((rs.map RingM.view).length) cv2]) (by exact E.build (vs := #[(0, .slice Xv2 ((rs.map RingM.view).length) cv2)]) (bld1 (AF_ev rfl tp)) (by kernel_rfl)) ?_
  refine RW.hard Wd.a ?_
  refine H.box (v := .agg #[.slice Xv2 ((rs.map RingM.view).length) cv2]) (AF_ev rfl tp) hst fun b3 w hst => ?_
  refine RW.soft Wd.a (v := .pointer (some ⟨b3, 0, none⟩)) (by exact E.assign (AF_ev rfl tp)) ?_
  refine RW.soft Wd.a (v := .int .i64 0) (by exact E.assign rfl) ?_
  refine RW.fin (fun τ => τ 0 = .slice X rs.length c ∧ τ 2 = .pointer (some ⟨b3, 0, none⟩) ∧ τ 3 = .int .i64 0 ∧ τ 4 = .pointer (some ⟨b1, 0, none⟩) ∧ τ 5 = .func (.func 85) #[] #[.pointer (some ⟨b1, 0, none⟩)] ∧ τ 14 = .bool false) ⟨up rfl (up rfl (up rfl (up rfl (up rfl (up rfl hs0))))), up rfl tp, tp, up rfl (up rfl (up rfl (up rfl (up rfl (up rfl hs4))))), up rfl (up rfl (up rfl (up rfl (up rfl (up rfl hs5))))), up rfl (up rfl (up rfl (up rfl (up rfl (up rfl hs14)))))⟩ ?_
  rintro τ ⟨hs0, hs2, hs3, hs4, hs5, hs14⟩
  refine CW.ret ?_
  refine retN (rs := [.tmp 2, .tmp 3]) (vs := [.pointer (some ⟨b3, 0, none⟩), .int .i64 0]) rfl (by exact (.tmp (AF_ev rfl hs2) (.tmp (AF_ev rfl hs3) .nil))) (by simp) ?_
  have hst := hst.take (.there (.there .here))
  have hst := hst.take (.there (.there .here))
  have hst := hst.take (.there (.there .here))
  have hst := (hst.take (.there (.there (.there .here)))).drop
  exact ⟨_, rfl, keysMake (kok_of hb) hst⟩

theorem prog_Of_bad {p : Pers} {w : World} {R : List Assn} {A : Assn} {X : Option Addr} {c : Nat} {rs : List RingM} (hA : Tells13 p A (.slice X rs.length c) rs) (h12 : rs.length ≤ 12) (h8 : ∀ r ∈ rs, r.vers.length ≤ 8) (hb : badK (rs.map RingM.view) = true) (hst : St p w (A :: R)) :
    Calls Try.prog 62 #[.slice X rs.length c] w fun e w => e = .returned (.tuple #[.pointer none, .int .i64 1]) ∧ St p w (A :: R) := by
  refine enter Try.func62 rfl (by simp) (n := 19) rfl fun τ hτ => ?_
  have hs0 : τ 0 = .slice X rs.length c := hτ 0 (by simp)
  clear hτ
  refine CW.seq ?_
  refine CW.region ?_
  refine RW.soft Wd.a (v := .pointer none) (by exact E.assign rfl) ?_
  refine RW.soft Wd.a (v := .int .i64 0) (by exact E.assign rfl) ?_
  refine RW.fin (fun τ => τ 0 = .slice X rs.length c ∧ τ 2 = .pointer none ∧ τ 3 = .int .i64 0) ⟨up rfl (up rfl hs0), up rfl tp, tp⟩ ?_
  rintro τ ⟨hs0, hs2, hs3⟩
  refine CW.seq ?_
  refine CW.region ?_
  refine RW.hard Wd.a ?_
  refine H.alloc zr132 hst fun b1 w hst => ?_
  refine RW.hard Wd.a ?_
  refine H.store (b := b1) (o := 0) (v := .func (.func 84) #[] #[]) (c' := #[.func (.func 84) #[] #[]]) (AF_ev rfl tp) rfl hst .here sz132 (by simp [Value.cells]) (by simp [Value.cells, Value.oneCell']) rfl fun w hst => ?_
  refine RW.fin (fun τ => τ 0 = .slice X rs.length c ∧ τ 2 = .pointer none ∧ τ 3 = .int .i64 0 ∧ τ 4 = .pointer (some ⟨b1, 0, none⟩)) ⟨u0 (up rfl hs0), u0 (up rfl hs2), u0 (up rfl hs3), u0 tp⟩ ?_
  rintro τ ⟨hs0, hs2, hs3, hs4⟩
  refine CW.seq ?_
  refine CW.region ?_
  refine RW.soft Wd.a (v := .func (.func 85) #[] #[.pointer (some ⟨b1, 0, none⟩)]) (by exact E.makeFunc map0 (map1 (AF_ev rfl hs4))) ?_
  refine RW.soft Wd.a (v := .func (.func 85) #[] #[.pointer (some ⟨b1, 0, none⟩)]) (by exact E.assign (AF_ev rfl tp)) ?_
  refine RW.fin (fun τ => τ 0 = .slice X rs.length c ∧ τ 2 = .pointer none ∧ τ 3 = .int .i64 0 ∧ τ 4 = .pointer (some ⟨b1, 0, none⟩) ∧ τ 5 = .func (.func 85) #[] #[.pointer (some ⟨b1, 0, none⟩)]) ⟨up rfl (up rfl hs0), up rfl (up rfl hs2), up rfl (up rfl hs3), up rfl (up rfl hs4), tp⟩ ?_
  rintro τ ⟨hs0, hs2, hs3, hs4, hs5⟩
  refine CW.seq ?_
  refine CW.seq ?_
  refine Or.elim (Bool.eq_false_or_eq_true (decide (((rs.length : Nat) : Int) > 8))) (fun hl8 => ?_) (fun hl8 => ?_)
  · skip
    refine CW.region ?_
    refine RW.soft Wd.a (v := .slice X rs.length c) (by exact E.move (AF_ev rfl hs0)) ?_
    refine RW.soft Wd.a (v := .int .i64 ((rs.length : Nat) : Int)) (by exact E.lenS (p := X) (l := rs.length) (c := c) Try.underlying71 (AF_ev rfl tp)) ?_
    refine RW.soft Wd.a (v := .bool true) (by exact E.b (a := decide (((rs.length : Nat) : Int) > 8)) (E.gtr (k := .i64) (a := ((rs.length : Nat) : Int)) (b := 8) (AF_ev rfl tp) rfl) hl8) ?_
    refine RW.soft Wd.a (v := .bool true) (by exact E.move (AF_ev rfl tp)) ?_
    refine RW.pass (by exact Wd.no (x := 10) (b := true) rfl (AF_ev rfl tp) rfl) ?_
    refine RW.pass (by exact Wd.no (x := 10) (b := true) rfl (AF_ev rfl (up rfl tp)) rfl) ?_
    refine RW.pass (by exact Wd.no (x := 10) (b := true) rfl (AF_ev rfl (up rfl (up rfl tp))) rfl) ?_
    refine RW.soft Wd.a (v := .bool true) (by exact E.pickT (AF_ev rfl (up rfl (up rfl (up rfl tp)))) rfl) ?_
    refine RW.fin (fun τ => τ 0 = .slice X rs.length c ∧ τ 2 = .pointer none ∧ τ 3 = .int .i64 0 ∧ τ 4 = .pointer (some ⟨b1, 0, none⟩) ∧ τ 5 = .func (.func 85) #[] #[.pointer (some ⟨b1, 0, none⟩)] ∧ τ 14 = .bool true) ⟨up rfl (up rfl (up rfl (up rfl (up rfl (up rfl (up rfl (up rfl hs0))))))), up rfl (up rfl (up rfl (up rfl (up rfl (up rfl (up rfl (up rfl hs2))))))), up rfl (up rfl (up rfl (up rfl (up rfl (up rfl (up rfl (up rfl hs3))))))), up rfl (up rfl (up rfl (up rfl (up rfl (up rfl (up rfl (up rfl hs4))))))), up rfl (up rfl (up rfl (up rfl (up rfl (up rfl (up rfl (up rfl hs5))))))), tp⟩ ?_
    rintro τ ⟨hs0, hs2, hs3, hs4, hs5, hs14⟩
    refine CW.condT (AF_ev rfl hs14) ?_
    refine CW.seq ?_
    refine CW.region ?_
    refine RW.soft Wd.a (v := .pointer none) (by exact E.assign rfl) ?_
    refine RW.soft Wd.a (v := .int .i64 1) (by exact E.assign rfl) ?_
    refine RW.fin (fun τ => τ 0 = .slice X rs.length c ∧ τ 2 = .pointer none ∧ τ 3 = .int .i64 1 ∧ τ 4 = .pointer (some ⟨b1, 0, none⟩) ∧ τ 5 = .func (.func 85) #[] #[.pointer (some ⟨b1, 0, none⟩)] ∧ τ 14 = .bool true) ⟨up rfl (up rfl hs0), up rfl tp, tp, up rfl (up rfl hs4), up rfl (up rfl hs5), up rfl (up rfl hs14)⟩ ?_
    rintro τ ⟨hs0, hs2, hs3, hs4, hs5, hs14⟩
    refine CW.ret ?_
    refine Th.r ?_
    refine retN (rs := [.tmp 2, .tmp 3]) (vs := [.pointer none, .int .i64 1]) rfl (by exact (.tmp (AF_ev rfl hs2) (.tmp (AF_ev rfl hs3) .nil))) (by simp) ?_
    have hst := hst.take (.there .here)
    have hst := (hst.take (.there .here)).drop
    exact ⟨rfl, hst⟩
  · skip
    have hany : (rs.any fun r => badR r.vers) = true := by
      have hb2 := hb
      unfold badK at hb2
      rw [any_view, List.length_map, hl8, Bool.false_or] at hb2; exact hb2
    refine CW.region ?_
    refine RW.soft Wd.a (v := .slice X rs.length c) (by exact E.move (AF_ev rfl hs0)) ?_
    refine RW.soft Wd.a (v := .int .i64 ((rs.length : Nat) : Int)) (by exact E.lenS (p := X) (l := rs.length) (c := c) Try.underlying71 (AF_ev rfl tp)) ?_
    refine RW.soft Wd.a (v := .bool false) (by exact E.b (a := decide (((rs.length : Nat) : Int) > 8)) (E.gtr (k := .i64) (a := ((rs.length : Nat) : Int)) (b := 8) (AF_ev rfl tp) rfl) hl8) ?_
    refine RW.soft Wd.a (v := .bool false) (by exact E.move (AF_ev rfl tp)) ?_
    refine RW.soft (by exact Wd.yes (x := 10) rfl (AF_ev rfl tp)) (v := .slice X rs.length c) (by exact E.move (AF_ev rfl (up rfl (up rfl (up rfl (up rfl hs0)))))) ?_
    refine RW.soft (by exact Wd.yes (x := 10) rfl (AF_ev rfl (up rfl tp))) (v := .func (.func 85) #[] #[.pointer (some ⟨b1, 0, none⟩)]) (by exact E.move (AF_ev rfl (up rfl (up rfl (up rfl (up rfl (up rfl hs5))))))) ?_
    have hst := hst.take (.there .here)
    have hst := hst.take (.there .here)
    refine RW.hard (by exact Wd.yes (x := 10) rfl (AF_ev rfl (up rfl (up rfl tp)))) ?_
    refine H.call0 Try.func87 nm87 rfl (map2 (AF_ev rfl (up rfl tp)) (AF_ev rfl tp)) (Calls.mono ((show Calls Try.prog 87 #[.slice X rs.length c, .func (.func 85) #[] #[.pointer (some ⟨b1, 0, none⟩)]] w (fun e w => e = .returned (.bool true) ∧ St p w (pt b1 (.cells #[.func (.func 84) #[] #[]] 132) :: A :: R)) from (by
      have hq := of_anyR hA h12 h8 hst
      rw [hany] at hq; exact hq))) ?_)
    rintro _ w ⟨rfl, hst⟩
    refine ⟨_, rfl, ?_⟩
    show RW _ _ _ _ _ _ _
    refine RW.soft Wd.a (v := .bool true) (by exact E.pickF (AF_ev rfl (up rfl (up rfl (up rfl tp)))) (AF_ev rfl tp)) ?_
    refine RW.fin (fun τ => τ 0 = .slice X rs.length c ∧ τ 2 = .pointer none ∧ τ 3 = .int .i64 0 ∧ τ 4 = .pointer (some ⟨b1, 0, none⟩) ∧ τ 5 = .func (.func 85) #[] #[.pointer (some ⟨b1, 0, none⟩)] ∧ τ 14 = .bool true) ⟨up rfl (up rfl (up rfl (up rfl (up rfl (up rfl (up rfl (up rfl hs0))))))), up rfl (up rfl (up rfl (up rfl (up rfl (up rfl (up rfl (up rfl hs2))))))), up rfl (up rfl (up rfl (up rfl (up rfl (up rfl (up rfl (up rfl hs3))))))), up rfl (up rfl (up rfl (up rfl (up rfl (up rfl (up rfl (up rfl hs4))))))), up rfl (up rfl (up rfl (up rfl (up rfl (up rfl (up rfl (up rfl hs5))))))), tp⟩ ?_
    rintro τ ⟨hs0, hs2, hs3, hs4, hs5, hs14⟩
    refine CW.condT (AF_ev rfl hs14) ?_
    refine CW.seq ?_
    refine CW.region ?_
    refine RW.soft Wd.a (v := .pointer none) (by exact E.assign rfl) ?_
    refine RW.soft Wd.a (v := .int .i64 1) (by exact E.assign rfl) ?_
    refine RW.fin (fun τ => τ 0 = .slice X rs.length c ∧ τ 2 = .pointer none ∧ τ 3 = .int .i64 1 ∧ τ 4 = .pointer (some ⟨b1, 0, none⟩) ∧ τ 5 = .func (.func 85) #[] #[.pointer (some ⟨b1, 0, none⟩)] ∧ τ 14 = .bool true) ⟨up rfl (up rfl hs0), up rfl tp, tp, up rfl (up rfl hs4), up rfl (up rfl hs5), up rfl (up rfl hs14)⟩ ?_
    rintro τ ⟨hs0, hs2, hs3, hs4, hs5, hs14⟩
    refine CW.ret ?_
    refine Th.r ?_
    refine retN (rs := [.tmp 2, .tmp 3]) (vs := [.pointer none, .int .i64 1]) rfl (by exact (.tmp (AF_ev rfl hs2) (.tmp (AF_ev rfl hs3) .nil))) (by simp) ?_
    have hst := hst.take (.there .here)
    have hst := (hst.take (.there .here)).drop
    exact ⟨rfl, hst⟩
end Go.Proofs.Ytdlcjoonhojpfaa
