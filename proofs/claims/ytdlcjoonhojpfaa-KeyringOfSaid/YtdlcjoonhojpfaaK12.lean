/- The calls of the package keyring, walked through operation by operation. -/
import Derived.Test.YtdlcjoonhojpfaaK11
import Derived.Test.YtdlcjoonhojpfaaK10
import Derived.Test.YtdlcjoonhojpfaaK9
import Derived.Test.YtdlcjoonhojpfaaK8
import Derived.Test.YtdlcjoonhojpfaaK7
import Derived.Test.YtdlcjoonhojpfaaK6
import Derived.Test.YtdlcjoonhojpfaaK5
import Derived.Test.YtdlcjoonhojpfaaK4
import Derived.Test.YtdlcjoonhojpfaaK3
namespace Go.Proofs.Ytdlcjoonhojpfaa
open Go.RowKit Go.SL Go.K13
attribute [local irreducible] Go.SL.RW Go.SL.CW Go.SL.RD Go.SL.Hd Go.SL.St
set_option linter.unusedVariables false
set_option linter.unusedSimpArgs false

theorem nm71 : (Try.f71.name == "runtime.NumGoroutine") = false := by kernel_rfl
theorem nm90 : (Try.f90.name == "runtime.NumGoroutine") = false := by kernel_rfl

theorem clone_vers {p : Pers} {w : World} {R : List Assn} {A : Assn} {X : Option Addr} {m c : Nat} {xs : List Value} (hA : ∀ w H, St p w (A :: H) → Src w 34 (.slice X m c) m xs) (h1 : ∀ u ∈ xs, u.oneCell' = true) (hm : m * 48 ≤ 140737488355328) (hst : St p w (A :: R)) :
    Calls Try.prog 90 #[.slice X m c] w fun e w => ∃ v, e = .returned v ∧ (isNil v = true ↔ X.isNone = true) ∧ St p w (Own 86 34 v m xs :: A :: R) := by
  refine enter Try.func90 rfl (by simp) (n := 8) rfl fun τ hτ => ?_
  have hs0 : τ 0 = .slice X m c := hτ 0 (by simp)
  clear hτ
  refine CW.seq ?_
  refine CW.region ?_
  refine RW.soft Wd.a (v := .slice none 0 0) (by exact E.assign rfl) ?_
  refine RW.fin (fun τ => τ 0 = .slice X m c ∧ τ 2 = .slice none 0 0) ⟨up rfl hs0, tp⟩ ?_
  rintro τ ⟨hs0, hs2⟩
  refine CW.seq ?_
  refine CW.seq ?_
  refine CW.region ?_
  refine RW.soft Wd.a (v := .slice X m c) (by exact E.move (AF_ev rfl hs0)) ?_
  refine RW.soft Wd.a (v := .bool X.isNone) (by exact E.eqlS (p := X) (l := m) (c := c) Try.underlying82 (AF_ev rfl tp) rfl) ?_
  refine RW.fin (fun τ => τ 0 = .slice X m c ∧ τ 2 = .slice none 0 0 ∧ τ 4 = .bool X.isNone) ⟨up rfl (up rfl hs0), up rfl (up rfl hs2), tp⟩ ?_
  rintro τ ⟨hs0, hs2, hs4⟩
  refine CW.cond (AF_ev rfl hs4) (fun hc1 => ?_) (fun hc1 => ?_)
  · have hc1_ := hc1
    try simp only [decide_eq_true_eq, decide_eq_false_iff_not, Bool.and_eq_true, Bool.or_eq_true, Bool.and_eq_false_iff, Bool.or_eq_false_iff, Bool.not_eq_true', Bool.not_eq_false', beq_iff_eq, beq_eq_false_iff_ne, bne_iff_ne, bne_eq_false_iff_eq, ne_eq, Int.not_lt, Int.not_le, gt_iff_lt, ge_iff_le] at hc1_
    refine CW.seq ?_
    refine CW.region ?_
    refine RW.soft Wd.a (v := .slice none 0 0) (by exact E.assign rfl) ?_
    refine RW.fin (fun τ => τ 0 = .slice X m c ∧ τ 2 = .slice none 0 0 ∧ τ 4 = .bool true) ⟨up rfl hs0, tp, up rfl (Eq.trans hs4 (congrArg Value.bool hc1))⟩ ?_
    rintro τ ⟨hs0, hs2, hs4⟩
    refine CW.ret ?_
    refine Th.r ?_
    refine ret1 (v := .slice none 0 0) rfl (by exact (.tmp (AF_ev rfl hs2) .nil)) ?_
    obtain rfl := Option.isNone_iff_eq_none.1 hc1
    obtain ⟨rfl, -, rfl⟩ := (hA _ _ hst).nil0
    exact ⟨_, rfl, by simp [isNil], hst.ownNil none⟩
  · have hc1_ := hc1
    try simp only [decide_eq_true_eq, decide_eq_false_iff_not, Bool.and_eq_true, Bool.or_eq_true, Bool.and_eq_false_iff, Bool.or_eq_false_iff, Bool.not_eq_true', Bool.not_eq_false', beq_iff_eq, beq_eq_false_iff_ne, bne_iff_ne, bne_eq_false_iff_eq, ne_eq, Int.not_lt, Int.not_le, gt_iff_lt, ge_iff_le] at hc1_
    refine CW.skip ?_
    refine Th.n ?_
    refine CW.seq ?_
    have hmx : m ≤ 140737488355328 := Nat.le_trans (Nat.le_mul_of_pos_right m (by omega)) hm
    refine CW.region ?_
    refine RW.hard Wd.a ?_
    refine H.buildSlice (e := 86) (cs := #[]) (vs := #[]) (by simp) (fun _ => by kernel_rfl) hst fun b2 w hst => ?_
    refine RW.soft Wd.a (v := .slice X m c) (by exact E.move (AF_ev rfl (up rfl hs0))) ?_
    have hst := hst.ownNew (n := 0) (cap := 0) (sz := 34) (xs := []) (by omega) (by simp [maxLen]) rfl rfl
    refine RW.hard Wd.a ?_
    refine H.append2 (n2 := m) (xs2 := xs) (by first | rfl | simp) (by first | rfl | simp) (m := m) (news := xs) (s0 := .slice (some ⟨b2, 0, none⟩) 0 0) (x0 := .slice X m c) Try.underlying82 inf86 rfl (AF_ev rfl (up rfl tp)) (AF_ev rfl tp) hst .here (hA _ _ (hst.take (.there .here))) h1 (by omega) (by simp only [maxLen]; omega) ?_
    intro vX3 w hnilX3 hst
    obtain ⟨X3, c4, rfl, hcX3, hmX3, hlX3, hbX3⟩ := hst.shape
    refine RW.soft Wd.a (v := .slice X3 m c4) (by exact E.assign (AF_ev rfl tp)) ?_
    refine RW.fin (fun τ => τ 0 = .slice X m c ∧ τ 2 = .slice X3 m c4 ∧ τ 4 = .bool false) ⟨up rfl (up rfl (up rfl (up rfl hs0))), tp, up rfl (up rfl (up rfl (up rfl (Eq.trans hs4 (congrArg Value.bool hc1)))))⟩ ?_
    rintro τ ⟨hs0, hs2, hs4⟩
    refine CW.ret ?_
    refine ret1 (v := .slice X3 m c4) rfl (by exact (.tmp (AF_ev rfl hs2) .nil)) ?_
    have hst := hst.take (.there .here)
    have hst := hst.take (.there .here)
    exact ⟨_, rfl, ⟨fun h => by have q := (hnilX3.1 h).1; simp [isNil] at q, fun h => by rw [hc1] at h; cases h⟩, hst⟩

theorem prog_own {p : Pers} {w : World} {R : List Assn} {A : Assn} {X : Option Addr} {c : Nat} {rs : List RingM} (hA : Tells13 p A (.slice X rs.length c) rs) (h12 : rs.length ≤ 12) (h8 : ∀ r ∈ rs, r.vers.length ≤ 8) (hst : St p w (A :: R)) :
    Calls Try.prog 71 #[.slice X rs.length c] w fun e w => ∃ v, e = .returned v ∧ St p w (RowsV v (rs.map RingM.view) :: A :: R) := by
  refine enter Try.func71 rfl (by simp) (n := 23) rfl fun τ hτ => ?_
  have hs0 : τ 0 = .slice X rs.length c := hτ 0 (by simp)
  clear hτ
  refine CW.seq ?_
  refine CW.region ?_
  refine RW.soft Wd.a (v := .slice none 0 0) (by exact E.assign rfl) ?_
  refine RW.fin (fun τ => τ 0 = .slice X rs.length c ∧ τ 2 = .slice none 0 0) ⟨up rfl hs0, tp⟩ ?_
  rintro τ ⟨hs0, hs2⟩
  refine CW.seq ?_
  refine CW.region ?_
  refine RW.soft Wd.a (v := .slice none 0 0) (by exact E.assign rfl) ?_
  refine RW.fin (fun τ => τ 0 = .slice X rs.length c ∧ τ 2 = .slice none 0 0 ∧ τ 3 = .slice none 0 0) ⟨up rfl hs0, up rfl hs2, tp⟩ ?_
  rintro τ ⟨hs0, hs2, hs3⟩
  refine CW.seq ?_
  refine CW.seq ?_
  have hst : St p w (RowsV (.slice none 0 0) [] :: A :: R) := rowsClose (ks := []) (rs := []) rfl (hst.ownNil (e := 84) (sz := 2) none)
  refine CW.region ?_
  refine RW.soft Wd.a (v := .slice X rs.length c) (by exact E.move (AF_ev rfl hs0)) ?_
  refine RW.soft Wd.a (v := .int .i64 ((rs.length : Nat) : Int)) (by exact E.lenS (p := X) (l := rs.length) (c := c) Try.underlying71 (AF_ev rfl tp)) ?_
  refine RW.soft Wd.a (v := .int .i64 0) (by exact E.move rfl) ?_
  refine RW.fin (fun τ => τ 0 = .slice X rs.length c ∧ τ 2 = .slice none 0 0 ∧ τ 3 = .slice none 0 0 ∧ τ 6 = .slice X rs.length c ∧ τ 7 = .int .i64 ((rs.length : Nat) : Int) ∧ τ 8 = .int .i64 0) ⟨up rfl (up rfl (up rfl hs0)), up rfl (up rfl (up rfl hs2)), up rfl (up rfl (up rfl hs3)), up rfl (up rfl tp), up rfl tp, tp⟩ ?_
  rintro τ ⟨hs0, hs2, hs3, hs6, hs7, hs8⟩
  refine CW.block ?_
  have hst := hst.take (.there .here)
  have hst := hst.take (.there .here)
  refine CW.loop (fun (k : Nat) (τ : Fr) (w : World) => ∃ (j : Nat) (X1 : Option Addr) (c1 : Nat), j ≤ rs.length ∧ k = rs.length - j ∧ τ 6 = .slice X rs.length c ∧ τ 7 = .int .i64 ((rs.length : Nat) : Int) ∧ τ 8 = .int .i64 ((j : Nat) : Int) ∧ τ 3 = .slice X1 j c1 ∧ St p w (RowsV (.slice X1 j c1) ((rs.take j).map RingM.view) :: A :: R)) (rs.length - 0) ⟨0, none, 0, by omega, rfl, hs6, hs7, (int_eq (a := 0) hs8 (by omega)), hs3, hst⟩ ?_
  clear hst
  rintro k τ w ⟨j, X1, c1, hj, hkj, hs6, hs7, hs8, hs3, hst⟩
  refine CW.seq ?_
  refine CW.region ?_
  refine RW.soft Wd.a (v := .bool (decide (((j : Nat) : Int) < ((rs.length : Nat) : Int)))) (by exact E.lss (k := .i64) (a := ((j : Nat) : Int)) (b := ((rs.length : Nat) : Int)) (AF_ev rfl hs8) (AF_ev rfl hs7)) ?_
  refine RW.fin (fun τ => τ 3 = .slice X1 j c1 ∧ τ 6 = .slice X rs.length c ∧ τ 7 = .int .i64 ((rs.length : Nat) : Int) ∧ τ 8 = .int .i64 ((j : Nat) : Int) ∧ τ 9 = .bool (decide (((j : Nat) : Int) < ((rs.length : Nat) : Int)))) ⟨up rfl hs3, up rfl hs6, up rfl hs7, up rfl hs8, tp⟩ ?_
  rintro τ ⟨hs3, hs6, hs7, hs8, hs9⟩
  refine CW.seq ?_
  refine CW.cond (AF_ev rfl hs9) (fun hc1 => ?_) (fun hc1 => ?_)
  · have hc1_ := hc1
    try simp only [decide_eq_true_eq, decide_eq_false_iff_not, Bool.and_eq_true, Bool.or_eq_true, Bool.and_eq_false_iff, Bool.or_eq_false_iff, Bool.not_eq_true', Bool.not_eq_false', beq_iff_eq, beq_eq_false_iff_ne, bne_iff_ne, bne_eq_false_iff_eq, ne_eq, Int.not_lt, Int.not_le, gt_iff_lt, ge_iff_le] at hc1_
    refine CW.skip ?_
    refine Th.n ?_
    refine CW.seq ?_
    refine CW.block ?_
    refine CW.seq ?_
    have hjl : j < rs.length := by omega
    have htl : ((rs.take j).map RingM.view).length = j := by rw [List.length_map, List.length_take]; omega
    have hst := hst.take (.there .here)
    have hst := hst.take (.there .here)
    obtain ⟨rs2, R2, hc2, hm2, hst, more⟩ := rowsGrow htl hst
    obtain ⟨ba, oa, rfl, hca⟩ := hA.place (hst.take (.there .here)) (by omega)
    obtain ⟨⟨o, Y, d, vs⟩, hr⟩ : ∃ z, rs[j]? = some z := ⟨rs[j], List.getElem?_eq_getElem hjl⟩
    have hv8 : vs.length ≤ 8 := h8 _ (List.mem_of_getElem? hr)
    refine CW.region ?_
    refine RW.soft Wd.a (v := .pointer (some ⟨ba, oa + j * 2, none⟩)) (by exact E.indexAddr (b := ba) (o := oa) (l := rs.length) (c := c) (i := ((j : Nat) : Int)) Try.underlying71 sz84 (AF_ev rfl hs6) (AF_ev rfl hs8) (by omega) (by omega) (by simp)) ?_
    refine RW.soft Wd.a (v := .agg #[.bool o, .slice Y vs.length d]) (by exact E.loadN (b := ba) (o := oa + j * 2) (cs := [.bool o, .slice Y vs.length d]) Try.underlying84 rfl sz84 (AF_ev rfl tp) rfl (fun j v hv => by rw [Nat.add_assoc]; exact hca (hst.take (.there .here)) _ _ (flat_get RingM.enc_len hr (hv)))) ?_
    refine RW.hard Wd.a ?_
    refine H.alloc zr84 hst fun b2 w hst => ?_
    refine RW.hard Wd.a ?_
    refine H.store (b := b2) (o := 0) (v := .agg #[.bool o, .slice Y vs.length d]) (c' := #[.bool o, .slice Y vs.length d]) (AF_ev rfl tp) (AF_ev rfl (up rfl tp)) hst .here sz84 (by simp [Value.cells]) (by simp [Value.cells, Value.oneCell']) rfl fun w hst => ?_
    refine RW.fin (fun τ => τ 3 = .slice X1 j c1 ∧ τ 5 = .pointer (some ⟨b2, 0, none⟩) ∧ τ 6 = .slice (some ⟨ba, oa, none⟩) rs.length c ∧ τ 7 = .int .i64 ((rs.length : Nat) : Int) ∧ τ 8 = .int .i64 ((j : Nat) : Int) ∧ τ 9 = .bool true) ⟨u0 (up rfl (up rfl (up rfl hs3))), u0 tp, u0 (up rfl (up rfl (up rfl hs6))), u0 (up rfl (up rfl (up rfl hs7))), u0 (up rfl (up rfl (up rfl hs8))), u0 (up rfl (up rfl (up rfl (Eq.trans hs9 (congrArg Value.bool hc1)))))⟩ ?_
    rintro τ ⟨hs3, hs5, hs6, hs7, hs8, hs9⟩
    refine CW.regionD [0, 1, 2, 3, 4] (fun w => w.cell? ⟨b2, 0, none⟩ = some (.bool o) ∧ w.cell? ⟨b2, 1, none⟩ = some (.slice Y vs.length d)) mixed ?_
    have hst := hst.drew
    generalize w.drew = w at hst ⊢
    have hS : w.cell? ⟨b2, 0, none⟩ = some (.bool o) ∧ w.cell? ⟨b2, 1, none⟩ = some (.slice Y vs.length d) := ⟨hst.cell .here rfl, hst.cell .here rfl⟩
    refine RD.take 0 rfl (by kernel_rfl) Wd.a (v := .slice X1 j c1) (fun w hS => by exact E.move (AF_ev rfl hs3)) hS ?_
    refine RD.take 1 rfl (by kernel_rfl) Wd.a (v := .pointer (some ⟨b2, 0, none⟩)) (fun w hS => by exact E.fieldAddr (b := b2) (o := 0) (f := { name := "Off", type := 4, offset := 0, embedded := false, tag := "", pkgPath := "", byteOffset := 0 }) (AF_ev rfl (up rfl hs5)) Try.underlying84 rfl sz4 rfl) hS ?_
    refine RD.take 2 rfl (by kernel_rfl) Wd.a (v := .bool o) (fun w hS => by exact E.load (a := ⟨b2, 0, none⟩) Try.underlying4 rfl (AF_ev rfl tp) hS.1) hS ?_
    refine RD.take 3 rfl (by kernel_rfl) Wd.a (v := .pointer (some ⟨b2, 1, none⟩)) (fun w hS => by exact E.fieldAddr (b := b2) (o := 0) (f := { name := "L", type := 82, offset := 1, embedded := false, tag := "", pkgPath := "", byteOffset := 8 }) (AF_ev rfl (up rfl (up rfl (up rfl hs5)))) Try.underlying84 rfl sz82 rfl) hS ?_
    refine RD.take 4 rfl (by kernel_rfl) Wd.a (v := .slice Y vs.length d) (fun w hS => by exact E.load (a := ⟨b2, 1, none⟩) Try.underlying82 rfl (AF_ev rfl tp) hS.2) hS ?_
    refine RD.only 5 rfl (by kernel_rfl) Wd.a ?_
    have hst := hst.take (.there (.there .here))
    refine H.call0 Try.func90 nm90 rfl (map1 (AF_ev rfl tp)) (Calls.mono (clone_vers (hA.row hr) (Ver.ones _) (by omega) hst) ?_)
    rintro _ w ⟨vX3, rfl, hnX3, hst⟩
    obtain ⟨X3, c4, rfl, hcX3, hmX3, hlX3, hbX3⟩ := hst.shape
    refine ⟨_, rfl, ?_⟩
    have hS : w.cell? ⟨b2, 0, none⟩ = some (.bool o) ∧ w.cell? ⟨b2, 1, none⟩ = some (.slice Y vs.length d) := ⟨hst.cell (.there (.there .here)) rfl, hst.cell (.there (.there .here)) rfl⟩
    refine ⟨fun _ => hS, ?_⟩
    refine RD.only 6 rfl (by kernel_rfl) Wd.a (Hd.value (v := .agg #[.bool o, .slice X3 vs.length c4]) (by exact E.build (vs := #[(0, .bool o), (1, .slice X3 vs.length c4)]) (bld2 (AF_ev rfl (up rfl (up rfl (up rfl tp)))) (AF_ev rfl tp)) (by kernel_rfl)) ⟨fun _ => hS, ?_⟩)
    refine RD.only 7 rfl (by kernel_rfl) Wd.a ?_
    refine H.buildSlice (e := 84) (cs := #[.bool o, .slice X3 vs.length c4]) (vs := #[(0, .agg #[.bool o, .slice X3 vs.length c4])]) (bld1 (AF_ev rfl tp)) (fun _ => by kernel_rfl) hst fun b5 w hst => ?_
    have hS : w.cell? ⟨b2, 0, none⟩ = some (.bool o) ∧ w.cell? ⟨b2, 1, none⟩ = some (.slice Y vs.length d) := ⟨hst.cell (.there (.there (.there .here))) rfl, hst.cell (.there (.there (.there .here))) rfl⟩
    refine ⟨fun _ => hS, ?_⟩
    refine RD.only 8 rfl (by kernel_rfl) Wd.a ?_
    refine H.append2 (n2 := j + 1) (xs2 := (rs2.flatMap RingM.enc) ++ ([.bool o, .slice X3 vs.length c4])) (by first | rfl | simp) (by first | rfl | simp) (m := 1) (news := [.bool o, .slice X3 vs.length c4]) (s0 := .slice X1 j c1) (x0 := .slice (some ⟨b5, 0, none⟩) 1 1) Try.underlying71 inf84 rfl (AF_ev rfl (up rfl (up rfl (up rfl (up rfl (up rfl (up rfl (up rfl tp)))))))) (AF_ev rfl tp) hst (.there (.there (.there (.there .here)))) ⟨rfl, _, _, rfl, by omega, .inr ⟨_, 0, rfl, hst.cellsIn .here rfl⟩⟩ (by simp [Value.oneCell']) (by omega) (by simp only [maxLen]; omega) ?_
    intro vX8 w hnilX8 hst
    obtain ⟨X8, c9, rfl, hcX8, hmX8, hlX8, hbX8⟩ := hst.shape
    have hS : w.cell? ⟨b2, 0, none⟩ = some (.bool o) ∧ w.cell? ⟨b2, 1, none⟩ = some (.slice Y vs.length d) := ⟨hst.cell (.there (.there (.there (.there .here)))) rfl, hst.cell (.there (.there (.there (.there .here)))) rfl⟩
    refine ⟨fun _ => hS, ?_⟩
    refine RD.only 9 rfl (by kernel_rfl) Wd.a (Hd.value (v := .slice X8 (j + 1) c9) (by exact E.assign (AF_ev rfl tp)) ⟨fun h => Bool.noConfusion ((show needs _ _ _ = false by kernel_rfl).symm.trans h), ?_⟩)
    refine RD.done (by kernel_rfl) ?_
    refine Bl.n ?_
    refine Th.n ?_
    refine CW.region ?_
    refine RW.soft Wd.a (v := .int .i64 (((j : Nat) : Int) + 1)) (by exact E.add (k := .i64) (a := ((j : Nat) : Int)) (b := 1) (AF_ev rfl (up rfl (up rfl (up rfl (up rfl (up rfl (up rfl (up rfl (up rfl (up rfl (up rfl hs8))))))))))) rfl (show IntKind.i64.wrap (((j : Nat) : Int) + 1) = ((j : Nat) : Int) + 1 from (by rw [IntWalk.i64_in _ (by omega)]))) ?_
    refine RW.soft Wd.a (v := .int .i64 (((j : Nat) : Int) + 1)) (by exact E.move (AF_ev rfl tp)) ?_
    refine RW.nil ?_
    refine Th.n ?_
    have hst := hst.take (.there (.there (.there .here)))
    have hst := hst.take (.there (.there (.there .here)))
    have hst := hst.take (.there (.there .here))
    have hst := (hst.take (.there (.there (.there .here)))).drop
    have hst := (hst.take (.there (.there (.there .here)))).drop
    have hst := more hst
    rw [show (rs.take j).map RingM.view ++ [(o, vs)] = (rs.take (j + 1)).map RingM.view from by rw [List.take_add_one, hr, List.map_append]; rfl] at hst
    have hst := hst.take (.there .here)
    have hst := hst.take (.there .here)
    exact ⟨rs.length - (j + 1), by omega, j + 1, X8, c9, (by omega), rfl, up rfl (up rfl (up rfl (up rfl (up rfl (up rfl (up rfl (up rfl (up rfl (up rfl (up rfl (up rfl hs6))))))))))), up rfl (up rfl (up rfl (up rfl (up rfl (up rfl (up rfl (up rfl (up rfl (up rfl (up rfl (up rfl hs7))))))))))), (int_eq (a := ((j : Nat) : Int) + 1) tp (by omega)), up rfl (up rfl tp), hst⟩
  · have hc1_ := hc1
    try simp only [decide_eq_true_eq, decide_eq_false_iff_not, Bool.and_eq_true, Bool.or_eq_true, Bool.and_eq_false_iff, Bool.or_eq_false_iff, Bool.not_eq_true', Bool.not_eq_false', beq_iff_eq, beq_eq_false_iff_ne, bne_iff_ne, bne_eq_false_iff_eq, ne_eq, Int.not_lt, Int.not_le, gt_iff_lt, ge_iff_le] at hc1_
    refine CW.exit ?_
    refine Th.x ?_
    refine Th.x ?_
    refine Bl.x ?_
    refine Th.n ?_
    refine CW.seq ?_
    refine CW.region ?_
    refine RW.soft Wd.a (v := .slice X1 j c1) (by exact E.move (AF_ev rfl hs3)) ?_
    refine RW.soft Wd.a (v := .slice X1 j c1) (by exact E.assign (AF_ev rfl tp)) ?_
    refine RW.fin (fun τ => τ 2 = .slice X1 j c1 ∧ τ 3 = .slice X1 j c1 ∧ τ 6 = .slice X rs.length c ∧ τ 7 = .int .i64 ((rs.length : Nat) : Int) ∧ τ 8 = .int .i64 ((j : Nat) : Int) ∧ τ 9 = .bool false) ⟨tp, up rfl (up rfl hs3), up rfl (up rfl hs6), up rfl (up rfl hs7), up rfl (up rfl hs8), up rfl (up rfl (Eq.trans hs9 (congrArg Value.bool hc1)))⟩ ?_
    rintro τ ⟨hs2, hs3, hs6, hs7, hs8, hs9⟩
    refine CW.ret ?_
    refine ret1 (v := .slice X1 j c1) rfl (by exact (.tmp (AF_ev rfl hs2) .nil)) ?_
    have hst := hst.take (.there .here)
    have hst := hst.take (.there .here)
    rw [List.take_of_length_le (show rs.length ≤ j by omega)] at hst
    exact ⟨_, rfl, hst⟩

theorem rowsShape {p : Pers} {w : World} {R : List Assn} {v : Value} {ks : RK} (hst : St p w (RowsV v ks :: R)) : ∃ X c, v = .slice X ks.length c ∧ ks.length ≤ c := by
  obtain ⟨rs, X, c, he, _, hc, _⟩ := rowsOpen hst
  exact ⟨X, c, he, hc⟩
def Small (ks : RK) : Prop := ks.length ≤ 12 ∧ ∀ r ∈ ks, r.2.length ≤ 8
theorem small_ok {ks : RK} (h : KOk ks) : Small ks := ⟨Nat.le_trans h.1 (by decide), fun r hr => Nat.le_trans (h.2 r hr).2.1 (by decide)⟩
theorem small_view {rs : List RingM} (h : Small (rs.map RingM.view)) : rs.length ≤ 12 ∧ ∀ r ∈ rs, r.vers.length ≤ 8 :=
  ⟨by have := h.1; rwa [List.length_map] at this, fun r hr => h.2 r.view (List.mem_map_of_mem hr)⟩
theorem prog_ownT {p : Pers} {w : World} {R : List Assn} {A : Assn} {v : Value} {rs : List RingM} (hA : Tells13 p A v rs) (hs : Small (rs.map RingM.view)) (hst : St p w (A :: R)) :
    Calls Try.prog 71 #[v] w fun e w => ∃ v', e = .returned v' ∧ St p w (RowsV v' (rs.map RingM.view) :: A :: R) := by
  obtain ⟨X, c, rfl, _⟩ := hA.shape hst
  exact prog_own hA (small_view hs).1 (small_view hs).2 hst
theorem prog_ownV {p : Pers} {w : World} {R : List Assn} {v : Value} {ks : RK} (hs : Small ks) (hst : St p w (RowsV v ks :: R)) :
    Calls Try.prog 71 #[v] w fun e w => ∃ v', e = .returned v' ∧ St p w (RowsV v' ks :: RowsV v ks :: R) := by
  obtain ⟨rs, hv, s⟩ := rowsR hst
  subst hv
  refine Calls.mono (prog_ownT rowsR_tells hs s) ?_
  rintro _ w ⟨v', rfl, s2⟩
  exact ⟨v', rfl, (rowsB rfl (s2.take (.there .here))).take (.there .here)⟩

theorem prog_Rings {p : Pers} {w : World} {R : List Assn} {ks : RK} {b : Nat}  (hst : St p w (KeysV 127 b ks :: R)) :
    Calls Try.prog 40 #[.pointer (some ⟨b, 0, none⟩)] w fun e w => ∃ v, e = .returned v ∧ St p w (RowsV v ks :: KeysV 127 b ks :: R) := by
  obtain ⟨hko, X, c, hc, hm, hX, hst⟩ := keysApart hst
  have hn8 := hko.1
  refine enter Try.func40 rfl (by simp) (n := 8) rfl fun τ hτ => ?_
  have hs0 : τ 0 = .pointer (some ⟨b, 0, none⟩) := hτ 0 (by simp)
  clear hτ
  refine CW.seq ?_
  refine CW.region ?_
  refine RW.soft Wd.a (v := .slice none 0 0) (by exact E.assign rfl) ?_
  refine RW.fin (fun τ => τ 0 = .pointer (some ⟨b, 0, none⟩) ∧ τ 2 = .slice none 0 0) ⟨up rfl hs0, tp⟩ ?_
  rintro τ ⟨hs0, hs2⟩
  refine CW.seq ?_
  refine CW.region ?_
  refine RW.soft Wd.a (v := .pointer (some ⟨b, 0, none⟩)) (by exact E.move (AF_ev rfl hs0)) ?_
  refine RW.soft Wd.a (v := .pointer (some ⟨b, 0, none⟩)) (by exact E.nilCheck (a := ⟨b, 0, none⟩) (AF_ev rfl tp)) ?_
  refine RW.soft Wd.a (v := .pointer (some ⟨b, 0, none⟩)) (by exact E.fieldAddr (b := b) (o := 0) (f := { name := "l", type := 71, offset := 0, embedded := false, tag := "", pkgPath := "strongroom/keyring", byteOffset := 0 }) (AF_ev rfl tp) Try.underlying127 rfl sz71 rfl) ?_
  refine RW.soft Wd.a (v := .slice X ks.length c) (by exact E.load (a := ⟨b, 0, none⟩) Try.underlying71 rfl (AF_ev rfl tp) (hst.cell .here rfl)) ?_
  have hst := hst.take (.there .here)
  refine RW.hard Wd.a ?_
  refine H.call0 Try.func71 nm71 rfl (map1 (AF_ev rfl tp)) (Calls.mono (prog_ownV (small_ok hko) hst) ?_)
  rintro _ w ⟨vX1, rfl, hst⟩
  obtain ⟨X1, c2, rfl, hcX1⟩ := rowsShape hst
  refine ⟨_, rfl, ?_⟩
  show RW _ _ _ _ _ _ _
  refine RW.soft Wd.a (v := .slice X1 ks.length c2) (by exact E.assign (AF_ev rfl tp)) ?_
  refine RW.fin (fun τ => τ 0 = .pointer (some ⟨b, 0, none⟩) ∧ τ 2 = .slice X1 ks.length c2) ⟨up rfl (up rfl (up rfl (up rfl (up rfl (up rfl hs0))))), tp⟩ ?_
  rintro τ ⟨hs0, hs2⟩
  refine CW.ret ?_
  refine ret1 (v := .slice X1 ks.length c2) rfl (by exact (.tmp (AF_ev rfl hs2) .nil)) ?_
  have hst := hst.take (.there .here)
  have hst := hst.take (.there (.there .here))
  exact ⟨_, rfl, (keysMake hko hst).take (.there .here)⟩

theorem prog_Clone {p : Pers} {w : World} {R : List Assn} {ks : RK} {b : Nat}  (hst : St p w (KeysV 127 b ks :: R)) :
    Calls Try.prog 49 #[.pointer (some ⟨b, 0, none⟩)] w fun e w => ∃ b', e = .returned (.pointer (some ⟨b', 0, none⟩)) ∧ St p w (KeysV 127 b' ks :: KeysV 127 b ks :: R) := by
  obtain ⟨hko, X, c, hc, hm, hX, hst⟩ := keysApart hst
  have hn8 := hko.1
  refine enter Try.func49 rfl (by simp) (n := 10) rfl fun τ hτ => ?_
  have hs0 : τ 0 = .pointer (some ⟨b, 0, none⟩) := hτ 0 (by simp)
  clear hτ
  refine CW.seq ?_
  refine CW.region ?_
  refine RW.soft Wd.a (v := .pointer none) (by exact E.assign rfl) ?_
  refine RW.fin (fun τ => τ 0 = .pointer (some ⟨b, 0, none⟩) ∧ τ 2 = .pointer none) ⟨up rfl hs0, tp⟩ ?_
  rintro τ ⟨hs0, hs2⟩
  refine CW.seq ?_
  refine CW.region ?_
  refine RW.soft Wd.a (v := .pointer (some ⟨b, 0, none⟩)) (by exact E.move (AF_ev rfl hs0)) ?_
  refine RW.soft Wd.a (v := .pointer (some ⟨b, 0, none⟩)) (by exact E.nilCheck (a := ⟨b, 0, none⟩) (AF_ev rfl tp)) ?_
  refine RW.soft Wd.a (v := .pointer (some ⟨b, 0, none⟩)) (by exact E.fieldAddr (b := b) (o := 0) (f := { name := "l", type := 71, offset := 0, embedded := false, tag := "", pkgPath := "strongroom/keyring", byteOffset := 0 }) (AF_ev rfl tp) Try.underlying127 rfl sz71 rfl) ?_
  refine RW.soft Wd.a (v := .slice X ks.length c) (by exact E.load (a := ⟨b, 0, none⟩) Try.underlying71 rfl (AF_ev rfl tp) (hst.cell .here rfl)) ?_
  have hst := hst.take (.there .here)
  refine RW.hard Wd.a ?_
  refine H.call0 Try.func71 nm71 rfl (map1 (AF_ev rfl tp)) (Calls.mono (prog_ownV (small_ok hko) hst) ?_)
  rintro _ w ⟨vX1, rfl, hst⟩
  obtain ⟨X1, c2, rfl, hcX1⟩ := rowsShape hst
  refine ⟨_, rfl, ?_⟩
  show RW _ _ _ _ _ _ _
  refine RW.soft Wd.a (v := .agg #[.slice X1 ks.length c2]) (by exact E.build (vs := #[(0, .slice X1 ks.length c2)]) (bld1 (AF_ev rfl tp)) (by kernel_rfl)) ?_
  refine RW.hard Wd.a ?_
  refine H.box (v := .agg #[.slice X1 ks.length c2]) (AF_ev rfl tp) hst fun b3 w hst => ?_
  refine RW.soft Wd.a (v := .pointer (some ⟨b3, 0, none⟩)) (by exact E.assign (AF_ev rfl tp)) ?_
  refine RW.fin (fun τ => τ 0 = .pointer (some ⟨b, 0, none⟩) ∧ τ 2 = .pointer (some ⟨b3, 0, none⟩)) ⟨up rfl (up rfl (up rfl (up rfl (up rfl (up rfl (up rfl (up rfl hs0))))))), tp⟩ ?_
  rintro τ ⟨hs0, hs2⟩
  refine CW.ret ?_
  refine ret1 (v := .pointer (some ⟨b3, 0, none⟩)) rfl (by exact (.tmp (AF_ev rfl hs2) .nil)) ?_
  have hst := hst.take (.there .here)
  have hst := hst.take (.there .here)
  have hst := hst.take (.there (.there .here))
  have hst := hst.take (.there (.there (.there .here)))
  exact ⟨_, rfl, keysMake hko ((keysMake hko hst).take (.there .here) |>.take (.there (.there .here)) |>.take (.there .here))⟩

theorem ref_Same {p : Pers} {w : World} {R : List Assn} {A B : Assn} {Xa Xb : Option Addr} {ca cb : Nat} {ra rb : List RingM} (hA : Tells13 p A (.slice Xa ra.length ca) ra) (hB : Tells13 p B (.slice Xb rb.length cb) rb) (hv : ra.map RingM.view = rb.map RingM.view) (h12 : ra.length ≤ 12) (h8 : ∀ r ∈ ra, r.vers.length ≤ 8) (hst : St p w (A :: B :: R)) :
    Calls Try.prog 48 #[.slice Xa ra.length ca, .slice Xb rb.length cb] w fun e w => e = .returned (.bool true) ∧ St p w (A :: B :: R) := by
  have hlen : ra.length = rb.length := by have := congrArg List.length hv; simpa using this
  refine enter Try.func48 rfl (by simp) (n := 71) rfl fun τ hτ => ?_
  have hs0 : τ 0 = .slice Xa ra.length ca := hτ 0 (by simp)
  have hs1 : τ 1 = .slice Xb rb.length cb := hτ 1 (by simp)
  clear hτ
  refine CW.seq ?_
  refine CW.region ?_
  refine RW.soft Wd.a (v := .bool false) (by exact E.assign rfl) ?_
  refine RW.fin (fun τ => τ 0 = .slice Xa ra.length ca ∧ τ 1 = .slice Xb rb.length cb ∧ τ 4 = .bool false) ⟨up rfl hs0, up rfl hs1, tp⟩ ?_
  rintro τ ⟨hs0, hs1, hs4⟩
  refine CW.seq ?_
  refine CW.seq ?_
  refine CW.region ?_
  refine RW.soft Wd.a (v := .slice Xa ra.length ca) (by exact E.move (AF_ev rfl hs0)) ?_
  refine RW.soft Wd.a (v := .int .i64 ((ra.length : Nat) : Int)) (by exact E.lenS (p := Xa) (l := ra.length) (c := ca) Try.underlying71 (AF_ev rfl tp)) ?_
  refine RW.soft Wd.a (v := .slice Xb rb.length cb) (by exact E.move (AF_ev rfl (up rfl (up rfl hs1)))) ?_
  refine RW.soft Wd.a (v := .int .i64 ((rb.length : Nat) : Int)) (by exact E.lenS (p := Xb) (l := rb.length) (c := cb) Try.underlying71 (AF_ev rfl tp)) ?_
  refine RW.soft Wd.a (v := .bool false) (by exact E.b (a := ((ra.length : Nat) : Int) != ((rb.length : Nat) : Int)) (E.neq (k := .i64) (a := ((ra.length : Nat) : Int)) (b := ((rb.length : Nat) : Int)) (AF_ev rfl (up rfl (up rfl tp))) (AF_ev rfl tp)) (by rw [bne_eq_false_iff_eq]; omega)) ?_
  refine RW.fin (fun τ => τ 0 = .slice Xa ra.length ca ∧ τ 1 = .slice Xb rb.length cb ∧ τ 4 = .bool false ∧ τ 11 = .bool false) ⟨up rfl (up rfl (up rfl (up rfl (up rfl hs0)))), up rfl (up rfl (up rfl (up rfl (up rfl hs1)))), up rfl (up rfl (up rfl (up rfl (up rfl hs4)))), tp⟩ ?_
  rintro τ ⟨hs0, hs1, hs4, hs11⟩
  refine CW.condF (AF_ev rfl hs11) ?_
  refine CW.skip ?_
  refine Th.n ?_
  refine CW.seq ?_
  refine CW.seq ?_
  refine CW.region ?_
  refine RW.soft Wd.a (v := .int .i64 0) (by exact E.assign rfl) ?_
  refine RW.fin (fun τ => τ 0 = .slice Xa ra.length ca ∧ τ 1 = .slice Xb rb.length cb ∧ τ 4 = .bool false ∧ τ 5 = .int .i64 0 ∧ τ 11 = .bool false) ⟨up rfl hs0, up rfl hs1, up rfl hs4, tp, up rfl hs11⟩ ?_
  rintro τ ⟨hs0, hs1, hs4, hs5, hs11⟩
  refine CW.block ?_
  have hst := hst.take (.there .here)
  have hst := hst.take (.there .here)
  refine CW.loop (fun (k : Nat) (τ : Fr) (w : World) => ∃ (j : Nat), j ≤ ra.length ∧ k = ra.length - j ∧ τ 0 = .slice Xa ra.length ca ∧ τ 1 = .slice Xb rb.length cb ∧ τ 5 = .int .i64 ((j : Nat) : Int) ∧ St p w (A :: B :: R)) (ra.length - 0) ⟨0, by omega, rfl, hs0, hs1, (int_eq (a := 0) hs5 (by omega)), hst⟩ ?_
  clear hst
  rintro k τ w ⟨j, hj, hkj, hs0, hs1, hs5, hst⟩
  refine CW.seq ?_
  refine CW.seq ?_
  refine CW.region ?_
  refine RW.soft Wd.a (v := .int .i64 ((j : Nat) : Int)) (by exact E.move (AF_ev rfl hs5)) ?_
  refine RW.soft Wd.a (v := .slice Xa ra.length ca) (by exact E.move (AF_ev rfl (up rfl hs0))) ?_
  refine RW.soft Wd.a (v := .int .i64 ((ra.length : Nat) : Int)) (by exact E.lenS (p := Xa) (l := ra.length) (c := ca) Try.underlying71 (AF_ev rfl tp)) ?_
  refine RW.soft Wd.a (v := .bool (decide (((j : Nat) : Int) < ((ra.length : Nat) : Int)))) (by exact E.lss (k := .i64) (a := ((j : Nat) : Int)) (b := ((ra.length : Nat) : Int)) (AF_ev rfl (up rfl (up rfl tp))) (AF_ev rfl tp)) ?_
  refine RW.fin (fun τ => τ 0 = .slice Xa ra.length ca ∧ τ 1 = .slice Xb rb.length cb ∧ τ 5 = .int .i64 ((j : Nat) : Int) ∧ τ 15 = .bool (decide (((j : Nat) : Int) < ((ra.length : Nat) : Int)))) ⟨up rfl (up rfl (up rfl (up rfl hs0))), up rfl (up rfl (up rfl (up rfl hs1))), up rfl (up rfl (up rfl (up rfl hs5))), tp⟩ ?_
  rintro τ ⟨hs0, hs1, hs5, hs15⟩
  refine CW.cond (AF_ev rfl hs15) (fun hc1 => ?_) (fun hc1 => ?_)
  · have hc1_ := hc1
    try simp only [decide_eq_true_eq, decide_eq_false_iff_not, Bool.and_eq_true, Bool.or_eq_true, Bool.and_eq_false_iff, Bool.or_eq_false_iff, Bool.not_eq_true', Bool.not_eq_false', beq_iff_eq, beq_eq_false_iff_ne, bne_iff_ne, bne_eq_false_iff_eq, ne_eq, Int.not_lt, Int.not_le, gt_iff_lt, ge_iff_le] at hc1_
    refine CW.skip ?_
    refine Th.n ?_
    refine CW.seq ?_
    refine CW.block ?_
    refine CW.seq ?_
    refine CW.seq ?_
    have hjl : j < ra.length := by omega
    have hjl2 : j < rb.length := by omega
    obtain ⟨ba, oa, rfl, hca⟩ := hA.place (hst.take .here) (by omega)
    obtain ⟨bb, ob, rfl, hcb⟩ := hB.place (hst.take (.there .here)) (by omega)
    obtain ⟨⟨o, Y, d, vs⟩, hra⟩ : ∃ z, ra[j]? = some z := ⟨ra[j], List.getElem?_eq_getElem hjl⟩
    obtain ⟨⟨o', Z, d2, vs'⟩, hrb⟩ : ∃ z, rb[j]? = some z := ⟨rb[j], List.getElem?_eq_getElem hjl2⟩
    obtain ⟨rfl, rfl⟩ : o = o' ∧ vs = vs' := by
      have h1 : (ra.map RingM.view)[j]? = (rb.map RingM.view)[j]? := by rw [hv]
      simp only [List.getElem?_map, hra, hrb, Option.map_some, Option.some.injEq, RingM.view, Prod.mk.injEq] at h1; exact h1
    have hv8 : vs.length ≤ 8 := h8 _ (List.mem_of_getElem? hra)
    refine CW.regionD [0, 1, 2, 3, 4, 5, 6, 7, 8, 9, 10, 11, 12, 13, 14, 15, 16, 17, 18, 19, 20, 21, 22, 23, 24, 25] (fun w => w.cell? ⟨ba, oa + j * 2, none⟩ = some (.bool o) ∧ w.cell? ⟨bb, ob + j * 2, none⟩ = some (.bool o) ∧ w.cell? ⟨ba, oa + j * 2 + 1, none⟩ = some (.slice Y vs.length d) ∧ w.cell? ⟨bb, ob + j * 2 + 1, none⟩ = some (.slice Z vs.length d2)) mixed ?_
    have hst := hst.drew
    generalize w.drew = w at hst ⊢
    have hS : w.cell? ⟨ba, oa + j * 2, none⟩ = some (.bool o) ∧ w.cell? ⟨bb, ob + j * 2, none⟩ = some (.bool o) ∧ w.cell? ⟨ba, oa + j * 2 + 1, none⟩ = some (.slice Y vs.length d) ∧ w.cell? ⟨bb, ob + j * 2 + 1, none⟩ = some (.slice Z vs.length d2) := ⟨(by exact hca (hst.take .here) _ _ (flat_get (j := 0) RingM.enc_len hra (rfl))), (by exact hcb (hst.take (.there .here)) _ _ (flat_get (j := 0) RingM.enc_len hrb (rfl))), (by rw [Nat.add_assoc]; exact hca (hst.take .here) _ _ (flat_get (j := 1) RingM.enc_len hra (rfl))), (by rw [Nat.add_assoc]; exact hcb (hst.take (.there .here)) _ _ (flat_get (j := 1) RingM.enc_len hrb (rfl)))⟩
    refine RD.take 0 rfl (by kernel_rfl) Wd.a (v := .slice (some ⟨ba, oa, none⟩) ra.length ca) (fun w hS => by exact E.move (AF_ev rfl hs0)) hS ?_
    refine RD.take 1 rfl (by kernel_rfl) Wd.a (v := .int .i64 ((j : Nat) : Int)) (fun w hS => by exact E.move (AF_ev rfl (up rfl hs5))) hS ?_
    refine RD.take 2 rfl (by kernel_rfl) Wd.a (v := .pointer (some ⟨ba, oa + j * 2, none⟩)) (fun w hS => by exact E.indexAddr (b := ba) (o := oa) (l := ra.length) (c := ca) (i := ((j : Nat) : Int)) Try.underlying71 sz84 (AF_ev rfl (up rfl tp)) (AF_ev rfl tp) (by omega) (by omega) (by simp)) hS ?_
    refine RD.take 3 rfl (by kernel_rfl) Wd.a (v := .pointer (some ⟨ba, oa + j * 2, none⟩)) (fun w hS => by exact E.fieldAddr (b := ba) (o := oa + j * 2) (f := { name := "Off", type := 4, offset := 0, embedded := false, tag := "", pkgPath := "", byteOffset := 0 }) (AF_ev rfl tp) Try.underlying84 rfl sz4 rfl) hS ?_
    refine RD.take 4 rfl (by kernel_rfl) Wd.a (v := .bool o) (fun w hS => by exact E.load (a := ⟨ba, oa + j * 2, none⟩) Try.underlying4 rfl (AF_ev rfl tp) hS.1) hS ?_
    refine RD.take 5 rfl (by kernel_rfl) Wd.a (v := .slice (some ⟨bb, ob, none⟩) rb.length cb) (fun w hS => by exact E.move (AF_ev rfl (up rfl (up rfl (up rfl (up rfl (up rfl hs1))))))) hS ?_
    refine RD.take 6 rfl (by kernel_rfl) Wd.a (v := .int .i64 ((j : Nat) : Int)) (fun w hS => by exact E.move (AF_ev rfl (up rfl (up rfl (up rfl (up rfl (up rfl (up rfl hs5)))))))) hS ?_
    refine RD.take 7 rfl (by kernel_rfl) Wd.a (v := .pointer (some ⟨bb, ob + j * 2, none⟩)) (fun w hS => by exact E.indexAddr (b := bb) (o := ob) (l := rb.length) (c := cb) (i := ((j : Nat) : Int)) Try.underlying71 sz84 (AF_ev rfl (up rfl tp)) (AF_ev rfl tp) (by omega) (by omega) (by simp)) hS ?_
    refine RD.take 8 rfl (by kernel_rfl) Wd.a (v := .pointer (some ⟨bb, ob + j * 2, none⟩)) (fun w hS => by exact E.fieldAddr (b := bb) (o := ob + j * 2) (f := { name := "Off", type := 4, offset := 0, embedded := false, tag := "", pkgPath := "", byteOffset := 0 }) (AF_ev rfl tp) Try.underlying84 rfl sz4 rfl) hS ?_
    refine RD.take 9 rfl (by kernel_rfl) Wd.a (v := .bool o) (fun w hS => by exact E.load (a := ⟨bb, ob + j * 2, none⟩) Try.underlying4 rfl (AF_ev rfl tp) hS.2.1) hS ?_
    refine RD.take 10 rfl (by kernel_rfl) Wd.a (v := .bool false) (fun w hS => by exact E.b (a := o != o) (E.neqB (a := o) (b := o) Try.underlying4 (AF_ev rfl (up rfl (up rfl (up rfl (up rfl (up rfl tp)))))) (AF_ev rfl tp)) (by cases o <;> rfl)) hS ?_
    refine RD.take 11 rfl (by kernel_rfl) Wd.a (v := .bool false) (fun w hS => by exact E.move (AF_ev rfl tp)) hS ?_
    refine RD.take 12 rfl (by kernel_rfl) (by exact Wd.yes (x := 29) rfl (AF_ev rfl tp)) (v := .slice (some ⟨ba, oa, none⟩) ra.length ca) (fun w hS => by exact E.move (AF_ev rfl (up rfl (up rfl (up rfl (up rfl (up rfl (up rfl (up rfl (up rfl (up rfl (up rfl (up rfl (up rfl hs0)))))))))))))) hS ?_
    refine RD.take 13 rfl (by kernel_rfl) (by exact Wd.yes (x := 29) rfl (AF_ev rfl (up rfl tp))) (v := .int .i64 ((j : Nat) : Int)) (fun w hS => by exact E.move (AF_ev rfl (up rfl (up rfl (up rfl (up rfl (up rfl (up rfl (up rfl (up rfl (up rfl (up rfl (up rfl (up rfl (up rfl hs5))))))))))))))) hS ?_
    refine RD.take 14 rfl (by kernel_rfl) (by exact Wd.yes (x := 29) rfl (AF_ev rfl (up rfl (up rfl tp)))) (v := .pointer (some ⟨ba, oa + j * 2, none⟩)) (fun w hS => by exact E.indexAddr (b := ba) (o := oa) (l := ra.length) (c := ca) (i := ((j : Nat) : Int)) Try.underlying71 sz84 (AF_ev rfl (up rfl tp)) (AF_ev rfl tp) (by omega) (by omega) (by simp)) hS ?_
    refine RD.take 15 rfl (by kernel_rfl) (by exact Wd.yes (x := 29) rfl (AF_ev rfl (up rfl (up rfl (up rfl tp))))) (v := .pointer (some ⟨ba, oa + j * 2 + 1, none⟩)) (fun w hS => by exact E.fieldAddr (b := ba) (o := oa + j * 2) (f := { name := "L", type := 82, offset := 1, embedded := false, tag := "", pkgPath := "", byteOffset := 8 }) (AF_ev rfl tp) Try.underlying84 rfl sz82 rfl) hS ?_
    refine RD.take 16 rfl (by kernel_rfl) (by exact Wd.yes (x := 29) rfl (AF_ev rfl (up rfl (up rfl (up rfl (up rfl tp)))))) (v := .slice Y vs.length d) (fun w hS => by exact E.load (a := ⟨ba, oa + j * 2 + 1, none⟩) Try.underlying82 rfl (AF_ev rfl tp) hS.2.2.1) hS ?_
    refine RD.take 17 rfl (by kernel_rfl) (by exact Wd.yes (x := 29) rfl (AF_ev rfl (up rfl (up rfl (up rfl (up rfl (up rfl tp))))))) (v := .int .i64 ((vs.length : Nat) : Int)) (fun w hS => by exact E.lenS (p := Y) (l := vs.length) (c := d) Try.underlying82 (AF_ev rfl tp)) hS ?_
    refine RD.take 18 rfl (by kernel_rfl) (by exact Wd.yes (x := 29) rfl (AF_ev rfl (up rfl (up rfl (up rfl (up rfl (up rfl (up rfl tp)))))))) (v := .slice (some ⟨bb, ob, none⟩) rb.length cb) (fun w hS => by exact E.move (AF_ev rfl (up rfl (up rfl (up rfl (up rfl (up rfl (up rfl (up rfl (up rfl (up rfl (up rfl (up rfl (up rfl (up rfl (up rfl (up rfl (up rfl (up rfl (up rfl hs1)))))))))))))))))))) hS ?_
    refine RD.take 19 rfl (by kernel_rfl) (by exact Wd.yes (x := 29) rfl (AF_ev rfl (up rfl (up rfl (up rfl (up rfl (up rfl (up rfl (up rfl tp))))))))) (v := .int .i64 ((j : Nat) : Int)) (fun w hS => by exact E.move (AF_ev rfl (up rfl (up rfl (up rfl (up rfl (up rfl (up rfl (up rfl (up rfl (up rfl (up rfl (up rfl (up rfl (up rfl (up rfl (up rfl (up rfl (up rfl (up rfl (up rfl hs5))))))))))))))))))))) hS ?_
    refine RD.take 20 rfl (by kernel_rfl) (by exact Wd.yes (x := 29) rfl (AF_ev rfl (up rfl (up rfl (up rfl (up rfl (up rfl (up rfl (up rfl (up rfl tp)))))))))) (v := .pointer (some ⟨bb, ob + j * 2, none⟩)) (fun w hS => by exact E.indexAddr (b := bb) (o := ob) (l := rb.length) (c := cb) (i := ((j : Nat) : Int)) Try.underlying71 sz84 (AF_ev rfl (up rfl tp)) (AF_ev rfl tp) (by omega) (by omega) (by simp)) hS ?_
    refine RD.take 21 rfl (by kernel_rfl) (by exact Wd.yes (x := 29) rfl (AF_ev rfl (up rfl (up rfl (up rfl (up rfl (up rfl (up rfl (up rfl (up rfl (up rfl tp))))))))))) (v := .pointer (some ⟨bb, ob + j * 2 + 1, none⟩)) (fun w hS => by exact E.fieldAddr (b := bb) (o := ob + j * 2) (f := { name := "L", type := 82, offset := 1, embedded := false, tag := "", pkgPath := "", byteOffset := 8 }) (AF_ev rfl tp) Try.underlying84 rfl sz82 rfl) hS ?_
    refine RD.take 22 rfl (by kernel_rfl) (by exact Wd.yes (x := 29) rfl (AF_ev rfl (up rfl (up rfl (up rfl (up rfl (up rfl (up rfl (up rfl (up rfl (up rfl (up rfl tp)))))))))))) (v := .slice Z vs.length d2) (fun w hS => by exact E.load (a := ⟨bb, ob + j * 2 + 1, none⟩) Try.underlying82 rfl (AF_ev rfl tp) hS.2.2.2) hS ?_
    refine RD.take 23 rfl (by kernel_rfl) (by exact Wd.yes (x := 29) rfl (AF_ev rfl (up rfl (up rfl (up rfl (up rfl (up rfl (up rfl (up rfl (up rfl (up rfl (up rfl (up rfl tp))))))))))))) (v := .int .i64 ((vs.length : Nat) : Int)) (fun w hS => by exact E.lenS (p := Z) (l := vs.length) (c := d2) Try.underlying82 (AF_ev rfl tp)) hS ?_
    refine RD.take 24 rfl (by kernel_rfl) (by exact Wd.yes (x := 29) rfl (AF_ev rfl (up rfl (up rfl (up rfl (up rfl (up rfl (up rfl (up rfl (up rfl (up rfl (up rfl (up rfl (up rfl tp)))))))))))))) (v := .bool false) (fun w hS => by exact E.b (a := ((vs.length : Nat) : Int) != ((vs.length : Nat) : Int)) (E.neq (k := .i64) (a := ((vs.length : Nat) : Int)) (b := ((vs.length : Nat) : Int)) (AF_ev rfl (up rfl (up rfl (up rfl (up rfl (up rfl (up rfl tp))))))) (AF_ev rfl tp)) (by simp)) hS ?_
    refine RD.take 25 rfl (by kernel_rfl) Wd.a (v := .bool false) (fun w hS => by exact E.pickF (AF_ev rfl (up rfl (up rfl (up rfl (up rfl (up rfl (up rfl (up rfl (up rfl (up rfl (up rfl (up rfl (up rfl (up rfl tp)))))))))))))) (AF_ev rfl tp)) hS ?_
    refine RD.fin (by kernel_rfl) (fun τ => τ 0 = .slice (some ⟨ba, oa, none⟩) ra.length ca ∧ τ 1 = .slice (some ⟨bb, ob, none⟩) rb.length cb ∧ τ 5 = .int .i64 ((j : Nat) : Int) ∧ τ 15 = .bool true ∧ τ 43 = .bool false) ⟨up rfl (up rfl (up rfl (up rfl (up rfl (up rfl (up rfl (up rfl (up rfl (up rfl (up rfl (up rfl (up rfl (up rfl (up rfl (up rfl (up rfl (up rfl (up rfl (up rfl (up rfl (up rfl (up rfl (up rfl (up rfl (up rfl hs0))))))))))))))))))))))))), up rfl (up rfl (up rfl (up rfl (up rfl (up rfl (up rfl (up rfl (up rfl (up rfl (up rfl (up rfl (up rfl (up rfl (up rfl (up rfl (up rfl (up rfl (up rfl (up rfl (up rfl (up rfl (up rfl (up rfl (up rfl (up rfl hs1))))))))))))))))))))))))), up rfl (up rfl (up rfl (up rfl (up rfl (up rfl (up rfl (up rfl (up rfl (up rfl (up rfl (up rfl (up rfl (up rfl (up rfl (up rfl (up rfl (up rfl (up rfl (up rfl (up rfl (up rfl (up rfl (up rfl (up rfl (up rfl hs5))))))))))))))))))))))))), up rfl (up rfl (up rfl (up rfl (up rfl (up rfl (up rfl (up rfl (up rfl (up rfl (up rfl (up rfl (up rfl (up rfl (up rfl (up rfl (up rfl (up rfl (up rfl (up rfl (up rfl (up rfl (up rfl (up rfl (up rfl (up rfl (Eq.trans hs15 (congrArg Value.bool hc1))))))))))))))))))))))))))), tp⟩ ?_
    rintro τ ⟨hs0, hs1, hs5, hs15, hs43⟩
    refine CW.condF (AF_ev rfl hs43) ?_
    refine CW.skip ?_
    refine Th.n ?_
    refine CW.seq ?_
    refine CW.region ?_
    refine RW.soft Wd.a (v := .int .i64 0) (by exact E.assign rfl) ?_
    refine RW.fin (fun τ => τ 0 = .slice (some ⟨ba, oa, none⟩) ra.length ca ∧ τ 1 = .slice (some ⟨bb, ob, none⟩) rb.length cb ∧ τ 5 = .int .i64 ((j : Nat) : Int) ∧ τ 6 = .int .i64 0 ∧ τ 15 = .bool true ∧ τ 43 = .bool false) ⟨up rfl hs0, up rfl hs1, up rfl hs5, tp, up rfl hs15, up rfl hs43⟩ ?_
    rintro τ ⟨hs0, hs1, hs5, hs6, hs15, hs43⟩
    refine CW.block ?_
    have hst := hst.take (.there .here)
    have hst := hst.take (.there .here)
    refine CW.loop (fun (k : Nat) (τ : Fr) (w : World) => ∃ (q : Nat), q ≤ vs.length ∧ k = vs.length - q ∧ τ 0 = .slice (some ⟨ba, oa, none⟩) ra.length ca ∧ τ 1 = .slice (some ⟨bb, ob, none⟩) rb.length cb ∧ τ 5 = .int .i64 ((j : Nat) : Int) ∧ τ 6 = .int .i64 ((q : Nat) : Int) ∧ St p w (A :: B :: R)) (vs.length - 0) ⟨0, by omega, rfl, hs0, hs1, hs5, (int_eq (a := 0) hs6 (by omega)), hst⟩ ?_
    clear hst
    rintro k τ w ⟨q, hq, hkq, hs0, hs1, hs5, hs6, hst⟩
    refine CW.seq ?_
    refine CW.seq ?_
    refine CW.region ?_
    refine RW.soft Wd.a (v := .int .i64 ((q : Nat) : Int)) (by exact E.move (AF_ev rfl hs6)) ?_
    refine RW.soft Wd.a (v := .slice (some ⟨ba, oa, none⟩) ra.length ca) (by exact E.move (AF_ev rfl (up rfl hs0))) ?_
    refine RW.soft Wd.a (v := .int .i64 ((j : Nat) : Int)) (by exact E.move (AF_ev rfl (up rfl (up rfl hs5)))) ?_
    refine RW.soft Wd.a (v := .pointer (some ⟨ba, oa + j * 2, none⟩)) (by exact E.indexAddr (b := ba) (o := oa) (l := ra.length) (c := ca) (i := ((j : Nat) : Int)) Try.underlying71 sz84 (AF_ev rfl (up rfl tp)) (AF_ev rfl tp) (by omega) (by omega) (by simp)) ?_
    refine RW.soft Wd.a (v := .pointer (some ⟨ba, oa + j * 2 + 1, none⟩)) (by exact E.fieldAddr (b := ba) (o := oa + j * 2) (f := { name := "L", type := 82, offset := 1, embedded := false, tag := "", pkgPath := "", byteOffset := 8 }) (AF_ev rfl tp) Try.underlying84 rfl sz82 rfl) ?_
    refine RW.soft Wd.a (v := .slice Y vs.length d) (by exact E.load (a := ⟨ba, oa + j * 2 + 1, none⟩) Try.underlying82 rfl (AF_ev rfl tp) (by rw [Nat.add_assoc]; exact hca (hst.take .here) _ _ (flat_get (j := 1) RingM.enc_len hra (rfl)))) ?_
    refine RW.soft Wd.a (v := .int .i64 ((vs.length : Nat) : Int)) (by exact E.lenS (p := Y) (l := vs.length) (c := d) Try.underlying82 (AF_ev rfl tp)) ?_
    refine RW.soft Wd.a (v := .bool (decide (((q : Nat) : Int) < ((vs.length : Nat) : Int)))) (by exact E.lss (k := .i64) (a := ((q : Nat) : Int)) (b := ((vs.length : Nat) : Int)) (AF_ev rfl (up rfl (up rfl (up rfl (up rfl (up rfl (up rfl tp))))))) (AF_ev rfl tp)) ?_
    refine RW.fin (fun τ => τ 0 = .slice (some ⟨ba, oa, none⟩) ra.length ca ∧ τ 1 = .slice (some ⟨bb, ob, none⟩) rb.length cb ∧ τ 5 = .int .i64 ((j : Nat) : Int) ∧ τ 6 = .int .i64 ((q : Nat) : Int) ∧ τ 51 = .bool (decide (((q : Nat) : Int) < ((vs.length : Nat) : Int)))) ⟨up rfl (up rfl (up rfl (up rfl (up rfl (up rfl (up rfl (up rfl hs0))))))), up rfl (up rfl (up rfl (up rfl (up rfl (up rfl (up rfl (up rfl hs1))))))), up rfl (up rfl (up rfl (up rfl (up rfl (up rfl (up rfl (up rfl hs5))))))), up rfl (up rfl (up rfl (up rfl (up rfl (up rfl (up rfl (up rfl hs6))))))), tp⟩ ?_
    rintro τ ⟨hs0, hs1, hs5, hs6, hs51⟩
    refine CW.cond (AF_ev rfl hs51) (fun hc2 => ?_) (fun hc2 => ?_)
    · have hc2_ := hc2
      try simp only [decide_eq_true_eq, decide_eq_false_iff_not, Bool.and_eq_true, Bool.or_eq_true, Bool.and_eq_false_iff, Bool.or_eq_false_iff, Bool.not_eq_true', Bool.not_eq_false', beq_iff_eq, beq_eq_false_iff_ne, bne_iff_ne, bne_eq_false_iff_eq, ne_eq, Int.not_lt, Int.not_le, gt_iff_lt, ge_iff_le] at hc2_
      refine CW.skip ?_
      refine Th.n ?_
      refine CW.seq ?_
      refine CW.block ?_
      refine CW.seq ?_
      have hql : q < vs.length := by omega
      obtain ⟨x, hx⟩ : ∃ z, vs[q]? = some z := ⟨vs[q], List.getElem?_eq_getElem hql⟩
      obtain ⟨b1, o1, rfl, hcx1⟩ := hA.rowPlace hra (hst.take .here) (by omega)
      obtain ⟨b2, o2, rfl, hcx2⟩ := hB.rowPlace hrb (hst.take (.there .here)) (by omega)
      refine CW.regionD [0, 1, 2, 3, 4, 5, 6, 7, 8, 9, 10, 11, 12, 13, 14, 15, 16] (fun w => w.cell? ⟨ba, oa + j * 2 + 1, none⟩ = some (.slice (some ⟨b1, o1, none⟩) vs.length d) ∧ (∀ j_ v_, (Ver.enc x : List Value)[j_]? = some v_ → w.cell? ⟨b1, o1 + q * 34 + j_, none⟩ = some v_) ∧ w.cell? ⟨bb, ob + j * 2 + 1, none⟩ = some (.slice (some ⟨b2, o2, none⟩) vs.length d2) ∧ (∀ j_ v_, (Ver.enc x : List Value)[j_]? = some v_ → w.cell? ⟨b2, o2 + q * 34 + j_, none⟩ = some v_)) mixed ?_
      have hst := hst.drew
      generalize w.drew = w at hst ⊢
      have hS : w.cell? ⟨ba, oa + j * 2 + 1, none⟩ = some (.slice (some ⟨b1, o1, none⟩) vs.length d) ∧ (∀ j_ v_, (Ver.enc x : List Value)[j_]? = some v_ → w.cell? ⟨b1, o1 + q * 34 + j_, none⟩ = some v_) ∧ w.cell? ⟨bb, ob + j * 2 + 1, none⟩ = some (.slice (some ⟨b2, o2, none⟩) vs.length d2) ∧ (∀ j_ v_, (Ver.enc x : List Value)[j_]? = some v_ → w.cell? ⟨b2, o2 + q * 34 + j_, none⟩ = some v_) := ⟨(by rw [Nat.add_assoc]; exact hca (hst.take .here) _ _ (flat_get (j := 1) RingM.enc_len hra (rfl))), (fun j v hv => by rw [Nat.add_assoc]; exact hcx1 (hst.take .here) _ _ (flat_get Ver.enc_len hx (hv))), (by rw [Nat.add_assoc]; exact hcb (hst.take (.there .here)) _ _ (flat_get (j := 1) RingM.enc_len hrb (rfl))), (fun j v hv => by rw [Nat.add_assoc]; exact hcx2 (hst.take (.there .here)) _ _ (flat_get Ver.enc_len hx (hv)))⟩
      refine RD.take 0 rfl (by kernel_rfl) Wd.a (v := .slice (some ⟨ba, oa, none⟩) ra.length ca) (fun w hS => by exact E.move (AF_ev rfl hs0)) hS ?_
      refine RD.take 1 rfl (by kernel_rfl) Wd.a (v := .int .i64 ((j : Nat) : Int)) (fun w hS => by exact E.move (AF_ev rfl (up rfl hs5))) hS ?_
      refine RD.take 2 rfl (by kernel_rfl) Wd.a (v := .pointer (some ⟨ba, oa + j * 2, none⟩)) (fun w hS => by exact E.indexAddr (b := ba) (o := oa) (l := ra.length) (c := ca) (i := ((j : Nat) : Int)) Try.underlying71 sz84 (AF_ev rfl (up rfl tp)) (AF_ev rfl tp) (by omega) (by omega) (by simp)) hS ?_
      refine RD.take 3 rfl (by kernel_rfl) Wd.a (v := .pointer (some ⟨ba, oa + j * 2 + 1, none⟩)) (fun w hS => by exact E.fieldAddr (b := ba) (o := oa + j * 2) (f := { name := "L", type := 82, offset := 1, embedded := false, tag := "", pkgPath := "", byteOffset := 8 }) (AF_ev rfl tp) Try.underlying84 rfl sz82 rfl) hS ?_
      refine RD.take 4 rfl (by kernel_rfl) Wd.a (v := .slice (some ⟨b1, o1, none⟩) vs.length d) (fun w hS => by exact E.load (a := ⟨ba, oa + j * 2 + 1, none⟩) Try.underlying82 rfl (AF_ev rfl tp) hS.1) hS ?_
      refine RD.take 5 rfl (by kernel_rfl) Wd.a (v := .int .i64 ((q : Nat) : Int)) (fun w hS => by exact E.move (AF_ev rfl (up rfl (up rfl (up rfl (up rfl (up rfl hs6))))))) hS ?_
      refine RD.take 6 rfl (by kernel_rfl) Wd.a (v := .pointer (some ⟨b1, o1 + q * 34, none⟩)) (fun w hS => by exact E.indexAddr (b := b1) (o := o1) (l := vs.length) (c := d) (i := ((q : Nat) : Int)) Try.underlying82 sz86 (AF_ev rfl (up rfl tp)) (AF_ev rfl tp) (by omega) (by omega) (by simp)) hS ?_
      refine RD.take 7 rfl (by kernel_rfl) Wd.a (v := .agg (Ver.enc x).toArray) (fun w hS => by exact E.loadN (b := b1) (o := o1 + q * 34) (cs := Ver.enc x) Try.underlying86 rfl sz86 (AF_ev rfl tp) (Ver.enc_len _) hS.2.1) hS ?_
      refine RD.take 8 rfl (by kernel_rfl) Wd.a (v := .slice (some ⟨bb, ob, none⟩) rb.length cb) (fun w hS => by exact E.move (AF_ev rfl (up rfl (up rfl (up rfl (up rfl (up rfl (up rfl (up rfl (up rfl hs1)))))))))) hS ?_
      refine RD.take 9 rfl (by kernel_rfl) Wd.a (v := .int .i64 ((j : Nat) : Int)) (fun w hS => by exact E.move (AF_ev rfl (up rfl (up rfl (up rfl (up rfl (up rfl (up rfl (up rfl (up rfl (up rfl hs5))))))))))) hS ?_
      refine RD.take 10 rfl (by kernel_rfl) Wd.a (v := .pointer (some ⟨bb, ob + j * 2, none⟩)) (fun w hS => by exact E.indexAddr (b := bb) (o := ob) (l := rb.length) (c := cb) (i := ((j : Nat) : Int)) Try.underlying71 sz84 (AF_ev rfl (up rfl tp)) (AF_ev rfl tp) (by omega) (by omega) (by simp)) hS ?_
      refine RD.take 11 rfl (by kernel_rfl) Wd.a (v := .pointer (some ⟨bb, ob + j * 2 + 1, none⟩)) (fun w hS => by exact E.fieldAddr (b := bb) (o := ob + j * 2) (f := { name := "L", type := 82, offset := 1, embedded := false, tag := "", pkgPath := "", byteOffset := 8 }) (AF_ev rfl tp) Try.underlying84 rfl sz82 rfl) hS ?_
      refine RD.take 12 rfl (by kernel_rfl) Wd.a (v := .slice (some ⟨b2, o2, none⟩) vs.length d2) (fun w hS => by exact E.load (a := ⟨bb, ob + j * 2 + 1, none⟩) Try.underlying82 rfl (AF_ev rfl tp) hS.2.2.1) hS ?_
      refine RD.take 13 rfl (by kernel_rfl) Wd.a (v := .int .i64 ((q : Nat) : Int)) (fun w hS => by exact E.move (AF_ev rfl (up rfl (up rfl (up rfl (up rfl (up rfl (up rfl (up rfl (up rfl (up rfl (up rfl (up rfl (up rfl (up rfl hs6))))))))))))))) hS ?_
      refine RD.take 14 rfl (by kernel_rfl) Wd.a (v := .pointer (some ⟨b2, o2 + q * 34, none⟩)) (fun w hS => by exact E.indexAddr (b := b2) (o := o2) (l := vs.length) (c := d2) (i := ((q : Nat) : Int)) Try.underlying82 sz86 (AF_ev rfl (up rfl tp)) (AF_ev rfl tp) (by omega) (by omega) (by simp)) hS ?_
      refine RD.take 15 rfl (by kernel_rfl) Wd.a (v := .agg (Ver.enc x).toArray) (fun w hS => by exact E.loadN (b := b2) (o := o2 + q * 34) (cs := Ver.enc x) Try.underlying86 rfl sz86 (AF_ev rfl tp) (Ver.enc_len _) hS.2.2.2) hS ?_
      refine RD.take 16 rfl (by kernel_rfl) Wd.a (v := .bool false) (fun w hS => by exact E.b (a := !decide (x = x)) (E.neq86 (a := x) (b := x) (AF_ev rfl (up rfl (up rfl (up rfl (up rfl (up rfl (up rfl (up rfl (up rfl tp))))))))) (AF_ev rfl tp)) (by simp)) hS ?_
      refine RD.fin (by kernel_rfl) (fun τ => τ 0 = .slice (some ⟨ba, oa, none⟩) ra.length ca ∧ τ 1 = .slice (some ⟨bb, ob, none⟩) rb.length cb ∧ τ 5 = .int .i64 ((j : Nat) : Int) ∧ τ 6 = .int .i64 ((q : Nat) : Int) ∧ τ 51 = .bool true ∧ τ 70 = .bool false) ⟨up rfl (up rfl (up rfl (up rfl (up rfl (up rfl (up rfl (up rfl (up rfl (up rfl (up rfl (up rfl (up rfl (up rfl (up rfl (up rfl (up rfl hs0)))))))))))))))), up rfl (up rfl (up rfl (up rfl (up rfl (up rfl (up rfl (up rfl (up rfl (up rfl (up rfl (up rfl (up rfl (up rfl (up rfl (up rfl (up rfl hs1)))))))))))))))), up rfl (up rfl (up rfl (up rfl (up rfl (up rfl (up rfl (up rfl (up rfl (up rfl (up rfl (up rfl (up rfl (up rfl (up rfl (up rfl (up rfl hs5)))))))))))))))), up rfl (up rfl (up rfl (up rfl (up rfl (up rfl (up rfl (up rfl (up rfl (up rfl (up rfl (up rfl (up rfl (up rfl (up rfl (up rfl (up rfl hs6)))))))))))))))), up rfl (up rfl (up rfl (up rfl (up rfl (up rfl (up rfl (up rfl (up rfl (up rfl (up rfl (up rfl (up rfl (up rfl (up rfl (up rfl (up rfl (Eq.trans hs51 (congrArg Value.bool hc2)))))))))))))))))), tp⟩ ?_
      rintro τ ⟨hs0, hs1, hs5, hs6, hs51, hs70⟩
      refine CW.condF (AF_ev rfl hs70) ?_
      refine CW.skip ?_
      refine Bl.n ?_
      refine Th.n ?_
      refine CW.region ?_
      refine RW.soft Wd.a (v := .int .i64 ((q : Nat) : Int)) (by exact E.move (AF_ev rfl hs6)) ?_
      refine RW.soft Wd.a (v := .int .i64 (((q : Nat) : Int) + 1)) (by exact E.add (k := .i64) (a := ((q : Nat) : Int)) (b := 1) (AF_ev rfl tp) rfl (show IntKind.i64.wrap (((q : Nat) : Int) + 1) = ((q : Nat) : Int) + 1 from (by rw [IntWalk.i64_in _ (by omega)]))) ?_
      refine RW.soft Wd.a (v := .int .i64 (((q : Nat) : Int) + 1)) (by exact E.assign (AF_ev rfl tp)) ?_
      refine RW.nil ?_
      refine Th.n ?_
      have hst := hst.take (.there .here)
      have hst := hst.take (.there .here)
      exact ⟨vs.length - (q + 1), by omega, q + 1, (by omega), rfl, up rfl (up rfl (up rfl hs0)), up rfl (up rfl (up rfl hs1)), up rfl (up rfl (up rfl hs5)), (int_eq (a := ((q : Nat) : Int) + 1) tp (by omega)), hst⟩
    · have hc2_ := hc2
      try simp only [decide_eq_true_eq, decide_eq_false_iff_not, Bool.and_eq_true, Bool.or_eq_true, Bool.and_eq_false_iff, Bool.or_eq_false_iff, Bool.not_eq_true', Bool.not_eq_false', beq_iff_eq, beq_eq_false_iff_ne, bne_iff_ne, bne_eq_false_iff_eq, ne_eq, Int.not_lt, Int.not_le, gt_iff_lt, ge_iff_le] at hc2_
      refine CW.exit ?_
      refine Th.x ?_
      refine Th.x ?_
      refine Bl.x ?_
      refine Bl.n ?_
      refine Th.n ?_
      refine CW.region ?_
      refine RW.soft Wd.a (v := .int .i64 ((j : Nat) : Int)) (by exact E.move (AF_ev rfl hs5)) ?_
      refine RW.soft Wd.a (v := .int .i64 (((j : Nat) : Int) + 1)) (by exact E.add (k := .i64) (a := ((j : Nat) : Int)) (b := 1) (AF_ev rfl tp) rfl (show IntKind.i64.wrap (((j : Nat) : Int) + 1) = ((j : Nat) : Int) + 1 from (by rw [IntWalk.i64_in _ (by omega)]))) ?_
      refine RW.soft Wd.a (v := .int .i64 (((j : Nat) : Int) + 1)) (by exact E.assign (AF_ev rfl tp)) ?_
      refine RW.nil ?_
      refine Th.n ?_
      have hst := hst.take (.there .here)
      have hst := hst.take (.there .here)
      exact ⟨ra.length - (j + 1), by omega, j + 1, (by omega), rfl, up rfl (up rfl (up rfl hs0)), up rfl (up rfl (up rfl hs1)), (int_eq (a := ((j : Nat) : Int) + 1) tp (by omega)), hst⟩
  · have hc1_ := hc1
    try simp only [decide_eq_true_eq, decide_eq_false_iff_not, Bool.and_eq_true, Bool.or_eq_true, Bool.and_eq_false_iff, Bool.or_eq_false_iff, Bool.not_eq_true', Bool.not_eq_false', beq_iff_eq, beq_eq_false_iff_ne, bne_iff_ne, bne_eq_false_iff_eq, ne_eq, Int.not_lt, Int.not_le, gt_iff_lt, ge_iff_le] at hc1_
    refine CW.exit ?_
    refine Th.x ?_
    refine Th.x ?_
    refine Bl.x ?_
    refine Th.n ?_
    refine CW.seq ?_
    refine CW.region ?_
    refine RW.soft Wd.a (v := .bool true) (by exact E.assign rfl) ?_
    refine RW.fin (fun τ => τ 0 = .slice Xa ra.length ca ∧ τ 1 = .slice Xb rb.length cb ∧ τ 4 = .bool true ∧ τ 5 = .int .i64 ((j : Nat) : Int) ∧ τ 15 = .bool false) ⟨up rfl hs0, up rfl hs1, tp, up rfl hs5, up rfl (Eq.trans hs15 (congrArg Value.bool hc1))⟩ ?_
    rintro τ ⟨hs0, hs1, hs4, hs5, hs15⟩
    refine CW.ret ?_
    refine ret1 (v := .bool true) rfl (by exact (.tmp (AF_ev rfl hs4) .nil)) ?_
    have hst := hst.take (.there .here)
    have hst := hst.take (.there .here)
    exact ⟨rfl, hst⟩

theorem ref_SameT {p : Pers} {w : World} {R : List Assn} {A B : Assn} {v u : Value} {ra rb : List RingM} (hA : Tells13 p A v ra) (hB : Tells13 p B u rb) (hv : ra.map RingM.view = rb.map RingM.view) (hs : Small (ra.map RingM.view)) (hst : St p w (A :: B :: R)) :
    Calls Try.prog 48 #[v, u] w fun e w => e = .returned (.bool true) ∧ St p w (A :: B :: R) := by
  obtain ⟨X, c, rfl, _⟩ := hA.shape hst
  obtain ⟨Y, d, rfl, _⟩ := hB.shape (hst.take (.there .here))
  exact ref_Same hA hB hv (small_view hs).1 (small_view hs).2 hst
theorem ref_SameV {p : Pers} {w : World} {R : List Assn} {v u : Value} {ks : RK} (hs : Small ks) (hst : St p w (RowsV v ks :: RowsV u ks :: R)) :
    Calls Try.prog 48 #[v, u] w fun e w => e = .returned (.bool true) ∧ St p w (RowsV v ks :: RowsV u ks :: R) := by
  obtain ⟨ra, hv, s⟩ := rowsR hst
  obtain ⟨rb, hu, s⟩ := rowsR (s.take (.there .here))
  refine Calls.mono (ref_SameT rowsR_tells rowsR_tells (hv.trans hu.symm) (by rw [hv]; exact hs) (s.take (.there .here))) ?_
  rintro _ w ⟨rfl, s2⟩
  exact ⟨rfl, rowsB hv ((rowsB hu (s2.take (.there .here))).take (.there .here))⟩
end Go.Proofs.Ytdlcjoonhojpfaa
