/- The functions of the package quorum, walked through operation by operation. -/
import Derived.Test.YtjagffnbobnofaaU9
import Derived.Test.YtjagffnbobnofaaU8
import Derived.Test.YtjagffnbobnofaaU1
import Derived.Test.YtjagffnbobnofaaU3
import Derived.Test.YtjagffnbobnofaaU7
import Derived.Test.YtjagffnbobnofaaU6
import Derived.Test.YtjagffnbobnofaaQ15
import Derived.Test.YtjagffnbobnofaaQ13
import Derived.Test.YtjagffnbobnofaaQ14
import Derived.Test.YtjagffnbobnofaaQ11
import Derived.Test.YtjagffnbobnofaaQ12
import Derived.Test.YtjagffnbobnofaaQ9
import Derived.Test.YtjagffnbobnofaaQ10
import Derived.Test.YtjagffnbobnofaaQ8
import Derived.Test.YtjagffnbobnofaaSN
import Derived.Test.YtjagffnbobnofaaQ6
import Derived.Test.YtjagffnbobnofaaQ7
import Derived.Test.YtjagffnbobnofaaQ4
import Derived.Test.YtjagffnbobnofaaQ5
import Derived.Test.YtjagffnbobnofaaQ2
import Derived.Test.YtjagffnbobnofaaQ1
import Derived.Test.YtjagffnbobnofaaQ3
import Derived.Test.YtjagffnbobnofaaQ0
import Derived.Test.YtjagffnbobnofaaSM
namespace Go.Proofs.Ytjagffnbobnofaa
open Go.RowKit Go.SL Go.Q18 Go.S15
attribute [local irreducible] Go.SL.RW Go.SL.CW Go.SL.RD Go.SL.Hd Go.SL.St
set_option linter.unusedVariables false
set_option linter.unusedSimpArgs false

theorem inf51 : (Try.prog.info? 51).map (fun i => (i.zero, i.size, i.bytes)) = some (some (.agg #[.int .i64 0, .int .i64 0, .int .i64 0, .int .i64 0, .int .i64 0, .slice none 0 0]), 6, 64) := by kernel_rfl
theorem nm45 : (Try.f45.name == "runtime.NumGoroutine") = false := by kernel_rfl
theorem nm46 : (Try.f46.name == "runtime.NumGoroutine") = false := by kernel_rfl

theorem seats_K {p : Pers} {w : World} {R : List Assn} {p0 : Pers} {t mm : Nat} {ks : List (Int × Value)} {L : Ses} {next : Int} (hl : ks.length ≤ 12) (hk : ∀ q ∈ ks, I64 q.1) (hTR : TR p ks L) (hpp : p0.le p) (hst : St p w (pt t (.cells #[.map (some mm), .int .i64 next] 73) :: MapI mm ks :: R)) :
    Calls Try.prog 17 #[.pointer (some ⟨t, 0, none⟩)] w fun e w' => ∃ q v K S, p0.le q ∧ e = .returned (.tuple #[v, .int .i64 next]) ∧ List.Perm K (ks.map (·.1)) ∧ K.Pairwise (· ≤ ·) ∧ SeatsOf L K S ∧ SeatsOk q S ∧ TR q ks L ∧ St q w' (SL.Own 51 6 v S.length (S.flatMap SeatM.enc) :: pt t (.cells #[.map (some mm), .int .i64 next] 73) :: MapI mm ks :: R) := by
  refine enter Try.func17 rfl (by simp) (n := 39) rfl fun τ hτ => ?_
  have hs0 : τ 0 = .pointer (some ⟨t, 0, none⟩) := hτ 0 (by simp)
  clear hτ
  refine CW.seq ?_
  refine CW.region ?_
  refine RW.soft Wd.a (v := .slice none 0 0) (by exact E.assign rfl) ?_
  refine RW.soft Wd.a (v := .int .i64 0) (by exact E.assign rfl) ?_
  refine RW.fin (fun τ => τ 0 = .pointer (some ⟨t, 0, none⟩) ∧ τ 2 = .slice none 0 0 ∧ τ 3 = .int .i64 0) ⟨up rfl (up rfl hs0), up rfl tp, tp⟩ ?_
  rintro τ ⟨hs0, hs2, hs3⟩
  refine CW.seq ?_
  refine CW.region ?_
  refine RW.soft Wd.a (v := .slice none 0 0) (by exact E.assign rfl) ?_
  refine RW.fin (fun τ => τ 0 = .pointer (some ⟨t, 0, none⟩) ∧ τ 2 = .slice none 0 0 ∧ τ 3 = .int .i64 0 ∧ τ 4 = .slice none 0 0) ⟨up rfl hs0, up rfl hs2, up rfl hs3, tp⟩ ?_
  rintro τ ⟨hs0, hs2, hs3, hs4⟩
  refine CW.seq ?_
  refine CW.seq ?_
  refine CW.region ?_
  refine RW.soft Wd.a (v := .pointer (some ⟨t, 0, none⟩)) (by exact E.move (AF_ev rfl hs0)) ?_
  refine RW.soft Wd.a (v := .pointer (some ⟨t, 0, none⟩)) (by exact E.nilCheck (a := ⟨t, 0, none⟩) (AF_ev rfl tp)) ?_
  refine RW.soft Wd.a (v := .pointer (some ⟨t, 0, none⟩)) (by exact E.fieldAddr (b := t) (o := 0) (f := { name := "m", type := 71, offset := 0, embedded := false, tag := "", pkgPath := "strongroom/sessions", byteOffset := 0 }) (AF_ev rfl tp) Try.underlying73 rfl sz71 rfl) ?_
  refine RW.soft Wd.a (v := .map (some mm)) (by exact E.load (a := ⟨t, 0, none⟩) Try.underlying71 rfl (AF_ev rfl tp) (hst.cell .here rfl)) ?_
  have hst := hst.take (.there .here)
  refine RW.hard Wd.a ?_
  refine H.call0 Try.func46 nm46 rfl (map1 (AF_ev rfl tp)) (Calls.mono (ks_Keys hst) ?_)
  rintro _ w ⟨Bm, rfl, hst⟩
  refine ⟨_, rfl, ?_⟩
  show RW _ _ _ _ _ _ _
  have hst := hst.take (.there .here)
  have hst := hst.take (.there .here)
  refine RW.hard Wd.a ?_
  refine H.call0 Try.func45 nm45 rfl (map1 (AF_ev rfl tp)) (Calls.mono (ks_SortedAll hl hk hst) ?_)
  rintro _ w ⟨vK, K, rfl, hPK, hWK, hst⟩
  have hKl : K.length = ks.length := by rw [hPK.length_eq, List.length_map]
  rw [← hKl] at hst
  obtain ⟨XK, cK, heK, hcK, hmK, hlK, hbK⟩ := hst.shape
  subst heK
  refine ⟨_, rfl, ?_⟩
  show RW _ _ _ _ _ _ _
  refine RW.soft Wd.a (v := .int .i64 ((K.length : Nat) : Int)) (by exact E.lenS (p := XK) (l := K.length) (c := cK) Try.underlying58 (AF_ev rfl tp)) ?_
  refine RW.soft Wd.a (v := .int .i64 0) (by exact E.move rfl) ?_
  refine RW.fin (fun τ => τ 0 = .pointer (some ⟨t, 0, none⟩) ∧ τ 2 = .slice none 0 0 ∧ τ 3 = .int .i64 0 ∧ τ 4 = .slice none 0 0 ∧ τ 13 = .slice XK K.length cK ∧ τ 14 = .int .i64 ((K.length : Nat) : Int) ∧ τ 15 = .int .i64 0) ⟨up rfl (up rfl (up rfl (up rfl (up rfl (up rfl (up rfl (up rfl hs0))))))), up rfl (up rfl (up rfl (up rfl (up rfl (up rfl (up rfl (up rfl hs2))))))), up rfl (up rfl (up rfl (up rfl (up rfl (up rfl (up rfl (up rfl hs3))))))), up rfl (up rfl (up rfl (up rfl (up rfl (up rfl (up rfl (up rfl hs4))))))), up rfl (up rfl tp), up rfl tp, tp⟩ ?_
  rintro τ ⟨hs0, hs2, hs3, hs4, hs13, hs14, hs15⟩
  refine CW.block ?_
  have hst := hst.ownNil (e := 51) (sz := 6) none
  have hst := hst.take (.there (.there (.there .here)))
  have hst := hst.take (.there (.there (.there (.there .here))))
  have hst := hst.take (.there (.there (.there .here)))
  have hst := hst.take (.there (.there (.there .here)))
  have hst := (hst.take (.there (.there (.there (.there .here))))).drop
  refine CW.loop (fun (k : Nat) (τ : Fr) (w : World) => ∃ (p : Pers) (j : Nat) (XS : Option Addr) (S : List SeatM) (cS : Nat), p0.le p ∧ TR p ks L ∧ SeatsOf L (K.take j) S ∧ SeatsOk p S ∧ j ≤ K.length ∧ k = K.length - j ∧ τ 0 = .pointer (some ⟨t, 0, none⟩) ∧ τ 13 = .slice XK K.length cK ∧ τ 14 = .int .i64 ((K.length : Nat) : Int) ∧ τ 4 = .slice XS S.length cS ∧ τ 15 = .int .i64 ((j : Nat) : Int) ∧ St p w (SL.Own 51 6 (.slice XS S.length cS) S.length (S.flatMap SeatM.enc) :: SL.Own 3 1 (.slice XK K.length cK) K.length (K.flatMap ienc) :: pt t (.cells #[.map (some mm), .int .i64 next] 73) :: MapI mm ks :: R)) (K.length - 0) ⟨p, 0, none, [], 0, hpp, hTR, ⟨rfl, fun s hs => by cases hs⟩, SeatsOk.nil, by omega, rfl, hs0, hs13, hs14, hs4, (int_eq (a := 0) hs15 (by omega)), hst⟩ ?_
  clear hst
  rintro k τ w ⟨p, j, XS, S, cS, hpp, hTR, hSs, hSok, hj, hkj, hs0, hs13, hs14, hs4, hs15, hst⟩
  refine CW.seq ?_
  refine CW.region ?_
  refine RW.soft Wd.a (v := .bool (decide (((j : Nat) : Int) < ((K.length : Nat) : Int)))) (by exact E.lss (k := .i64) (a := ((j : Nat) : Int)) (b := ((K.length : Nat) : Int)) (AF_ev rfl hs15) (AF_ev rfl hs14)) ?_
  refine RW.fin (fun τ => τ 0 = .pointer (some ⟨t, 0, none⟩) ∧ τ 4 = .slice XS S.length cS ∧ τ 13 = .slice XK K.length cK ∧ τ 14 = .int .i64 ((K.length : Nat) : Int) ∧ τ 15 = .int .i64 ((j : Nat) : Int) ∧ τ 16 = .bool (decide (((j : Nat) : Int) < ((K.length : Nat) : Int)))) ⟨up rfl hs0, up rfl hs4, up rfl hs13, up rfl hs14, up rfl hs15, tp⟩ ?_
  rintro τ ⟨hs0, hs4, hs13, hs14, hs15, hs16⟩
  refine CW.seq ?_
  refine CW.cond (AF_ev rfl hs16) (fun hc1 => ?_) (fun hc1 => ?_)
  · have hc1_ := hc1
    try simp only [decide_eq_true_eq, decide_eq_false_iff_not, Bool.and_eq_true, Bool.or_eq_true, Bool.and_eq_false_iff, Bool.or_eq_false_iff, Bool.not_eq_true', Bool.not_eq_false', beq_iff_eq, beq_eq_false_iff_ne, bne_iff_ne, bne_eq_false_iff_eq, ne_eq, Int.not_lt, Int.not_le, gt_iff_lt, ge_iff_le] at hc1_
    refine CW.skip ?_
    refine Th.n ?_
    refine CW.seq ?_
    refine CW.block ?_
    refine CW.seq ?_
    obtain ⟨x, hx⟩ : ∃ z, K[j]? = some z := ⟨K[j]'(by omega), List.getElem?_eq_getElem (by omega)⟩
    have hst := hst.take (.there .here)
    obtain ⟨Xo, co, heo, hco, hmo, hlo, hbo⟩ := hst.shape
    cases heo
    obtain ⟨g, hgo⟩ := hbo (by omega)
    subst hgo
    refine CW.region ?_
    refine RW.soft Wd.a (v := .pointer (some ⟨g, j * 1, none⟩)) (by exact E.indexAddr (b := g) (o := 0) (l := K.length) (c := cK) (i := ((j : Nat) : Int)) Try.underlying58 sz3 (AF_ev rfl hs13) (AF_ev rfl hs15) (by omega) (by omega) (by simp)) ?_
    refine RW.soft Wd.a (v := .int .i64 x) (by exact E.load (a := ⟨g, j * 1, none⟩) Try.underlying3 rfl (AF_ev rfl tp) (hst.ocell .here (flat_get (j := 0) ienc_len hx (rfl)))) ?_
    refine RW.soft Wd.a (v := .int .i64 x) (by exact E.assign (AF_ev rfl tp)) ?_
    refine RW.fin (fun τ => τ 0 = .pointer (some ⟨t, 0, none⟩) ∧ τ 4 = .slice XS S.length cS ∧ τ 6 = .int .i64 x ∧ τ 13 = .slice (some ⟨g, 0, none⟩) K.length cK ∧ τ 14 = .int .i64 ((K.length : Nat) : Int) ∧ τ 15 = .int .i64 ((j : Nat) : Int) ∧ τ 16 = .bool true) ⟨up rfl (up rfl (up rfl hs0)), up rfl (up rfl (up rfl hs4)), tp, up rfl (up rfl (up rfl hs13)), up rfl (up rfl (up rfl hs14)), up rfl (up rfl (up rfl hs15)), up rfl (up rfl (up rfl (Eq.trans hs16 (congrArg Value.bool hc1))))⟩ ?_
    rintro τ ⟨hs0, hs4, hs6, hs13, hs14, hs15, hs16⟩
    refine CW.seq ?_
    have hSl : S.length = j := by have h1 := congrArg List.length hSs.1; rw [List.length_map, List.length_take] at h1; omega
    obtain ⟨st, hgL⟩ := lget_mem (L := L) (k := x) (by rw [← TR.keys hTR]; exact hPK.mem_iff.1 (List.mem_of_getElem? hx))
    obtain ⟨sq, c0, c1, c2, ns⟩ := st
    obtain ⟨vs, hag, Xb, cb, heb, hLb, hnb⟩ := TR.some hTR hgL
    subst heb
    refine CW.region ?_
    refine RW.soft Wd.a (v := .pointer (some ⟨t, 0, none⟩)) (by exact E.move (AF_ev rfl hs0)) ?_
    refine RW.soft Wd.a (v := .pointer (some ⟨t, 0, none⟩)) (by exact E.nilCheck (a := ⟨t, 0, none⟩) (AF_ev rfl tp)) ?_
    refine RW.soft Wd.a (v := .pointer (some ⟨t, 0, none⟩)) (by exact E.fieldAddr (b := t) (o := 0) (f := { name := "m", type := 71, offset := 0, embedded := false, tag := "", pkgPath := "strongroom/sessions", byteOffset := 0 }) (AF_ev rfl tp) Try.underlying73 rfl sz71 rfl) ?_
    refine RW.soft Wd.a (v := .map (some mm)) (by exact E.load (a := ⟨t, 0, none⟩) Try.underlying71 rfl (AF_ev rfl tp) (hst.cell (.there (.there .here)) rfl)) ?_
    refine RW.soft Wd.a (v := .int .i64 x) (by exact E.move (AF_ev rfl (up rfl (up rfl (up rfl (up rfl hs6)))))) ?_
    refine RW.soft Wd.a (v := .agg #[.int .i64 x, .int .i64 sq, .int .i64 c0, .int .i64 c1, .int .i64 c2, .slice Xb ns.length cb]) (by exact E.lookupP (b := mm) (ks := ks) (k := x) hag Try.underlying71 Try.underlying3 zr51 (AF_ev rfl (up rfl tp)) (AF_ev rfl tp) hst (.there (.there (.there .here)))) ?_
    refine RW.hard Wd.a ?_
    refine H.alloc zr51 hst fun b2 w hst => ?_
    refine RW.hard Wd.a ?_
    refine H.store (b := b2) (o := 0) (v := .agg #[.int .i64 x, .int .i64 sq, .int .i64 c0, .int .i64 c1, .int .i64 c2, .slice Xb ns.length cb]) (c' := #[.int .i64 x, .int .i64 sq, .int .i64 c0, .int .i64 c1, .int .i64 c2, .slice Xb ns.length cb]) (AF_ev rfl tp) (AF_ev rfl (up rfl tp)) hst .here sz51 (by simp [Value.cells]) (by simp [Value.cells, Value.oneCell']) rfl fun w hst => ?_
    refine RW.fin (fun τ => τ 0 = .pointer (some ⟨t, 0, none⟩) ∧ τ 4 = .slice XS S.length cS ∧ τ 6 = .int .i64 x ∧ τ 7 = .pointer (some ⟨b2, 0, none⟩) ∧ τ 13 = .slice (some ⟨g, 0, none⟩) K.length cK ∧ τ 14 = .int .i64 ((K.length : Nat) : Int) ∧ τ 15 = .int .i64 ((j : Nat) : Int) ∧ τ 16 = .bool true) ⟨u0 (up rfl (up rfl (up rfl (up rfl (up rfl (up rfl (up rfl hs0))))))), u0 (up rfl (up rfl (up rfl (up rfl (up rfl (up rfl (up rfl hs4))))))), u0 (up rfl (up rfl (up rfl (up rfl (up rfl (up rfl (up rfl hs6))))))), u0 tp, u0 (up rfl (up rfl (up rfl (up rfl (up rfl (up rfl (up rfl hs13))))))), u0 (up rfl (up rfl (up rfl (up rfl (up rfl (up rfl (up rfl hs14))))))), u0 (up rfl (up rfl (up rfl (up rfl (up rfl (up rfl (up rfl hs15))))))), u0 (up rfl (up rfl (up rfl (up rfl (up rfl (up rfl (up rfl hs16)))))))⟩ ?_
    rintro τ ⟨hs0, hs4, hs6, hs7, hs13, hs14, hs15, hs16⟩
    refine CW.seq ?_
    have hst := hst.emp
    refine CW.region ?_
    refine RW.soft Wd.a (v := .pointer (some ⟨b2, 2, none⟩)) (by exact E.fieldAddr (b := b2) (o := 0) (f := { name := "Last", type := 39, offset := 2, embedded := false, tag := "", pkgPath := "", byteOffset := 16 }) (AF_ev rfl hs7) Try.underlying51 rfl sz39 rfl) ?_
    refine RW.soft Wd.a (v := .agg #[.int .i64 c0, .int .i64 c1, .int .i64 c2, .slice Xb ns.length cb]) (by exact E.loadN (b := b2) (o := 2) (cs := [.int .i64 c0, .int .i64 c1, .int .i64 c2, .slice Xb ns.length cb]) Try.underlying39 rfl sz39 (AF_ev rfl tp) rfl (hst.cellsIn (.there .here) rfl)) ?_
    refine RW.hard Wd.a ?_
    refine H.call0 Try.func47 nm47 rfl (map1 (AF_ev rfl tp)) (Calls.mono (sess_own (fun w H s => hLb.src s) (bv_one _) (by omega) c0 c1 c2 hst) ?_)
    rintro _ w ⟨vX3, rfl, hnX3, hst⟩
    obtain ⟨X3, c4, rfl, hcX3, hmX3, hlX3, hbX3⟩ := hst.shape
    refine ⟨_, rfl, ?_⟩
    show RW _ _ _ _ _ _ _
    refine RW.soft Wd.a (v := .pointer (some ⟨b2, 2, none⟩)) (by exact E.fieldAddr (b := b2) (o := 0) (f := { name := "Last", type := 39, offset := 2, embedded := false, tag := "", pkgPath := "", byteOffset := 16 }) (AF_ev rfl (up rfl (up rfl (up rfl hs7)))) Try.underlying51 rfl sz39 rfl) ?_
    refine RW.hard Wd.a ?_
    refine H.store (b := b2) (o := 2) (v := .agg #[.int .i64 c0, .int .i64 c1, .int .i64 c2, .slice X3 ns.length c4]) (c' := #[.int .i64 x, .int .i64 sq, .int .i64 c0, .int .i64 c1, .int .i64 c2, .slice X3 ns.length c4]) (AF_ev rfl tp) (AF_ev rfl (up rfl tp)) hst (.there (.there .here)) sz39 (by simp [Value.cells]) (by simp [Value.cells, Value.oneCell']) rfl fun w hst => ?_
    refine RW.fin (fun τ => τ 0 = .pointer (some ⟨t, 0, none⟩) ∧ τ 4 = .slice XS S.length cS ∧ τ 6 = .int .i64 x ∧ τ 7 = .pointer (some ⟨b2, 0, none⟩) ∧ τ 13 = .slice (some ⟨g, 0, none⟩) K.length cK ∧ τ 14 = .int .i64 ((K.length : Nat) : Int) ∧ τ 15 = .int .i64 ((j : Nat) : Int) ∧ τ 16 = .bool true) ⟨u0 (up rfl (up rfl (up rfl (up rfl hs0)))), u0 (up rfl (up rfl (up rfl (up rfl hs4)))), u0 (up rfl (up rfl (up rfl (up rfl hs6)))), u0 (up rfl (up rfl (up rfl (up rfl hs7)))), u0 (up rfl (up rfl (up rfl (up rfl hs13)))), u0 (up rfl (up rfl (up rfl (up rfl hs14)))), u0 (up rfl (up rfl (up rfl (up rfl hs15)))), u0 (up rfl (up rfl (up rfl (up rfl hs16))))⟩ ?_
    rintro τ ⟨hs0, hs4, hs6, hs7, hs13, hs14, hs15, hs16⟩
    obtain ⟨p, hle, hLn, hst⟩ := hst.ownKeep
    replace hTR := hTR.le hle
    replace hSok := hSok.le hle
    replace hpp := hpp.trans hle
    refine CW.region ?_
    refine RW.soft Wd.a (v := .slice XS S.length cS) (by exact E.move (AF_ev rfl hs4)) ?_
    refine RW.soft Wd.a (v := .agg #[.int .i64 x, .int .i64 sq, .int .i64 c0, .int .i64 c1, .int .i64 c2, .slice X3 ns.length c4]) (by exact E.loadN (b := b2) (o := 0) (cs := [.int .i64 x, .int .i64 sq, .int .i64 c0, .int .i64 c1, .int .i64 c2, .slice X3 ns.length c4]) Try.underlying51 rfl sz51 (AF_ev rfl (up rfl hs7)) rfl (hst.cellsIn (.there .here) rfl)) ?_
    refine RW.hard Wd.a ?_
    refine H.buildSlice (e := 51) (cs := #[.int .i64 x, .int .i64 sq, .int .i64 c0, .int .i64 c1, .int .i64 c2, .slice X3 ns.length c4]) (vs := #[(0, .agg #[.int .i64 x, .int .i64 sq, .int .i64 c0, .int .i64 c1, .int .i64 c2, .slice X3 ns.length c4])]) (bld1 (AF_ev rfl tp)) (fun _ => by kernel_rfl) hst fun b5 w hst => ?_
    refine RW.hard Wd.a ?_
    refine H.append2 (m := 1) (news := [.int .i64 x, .int .i64 sq, .int .i64 c0, .int .i64 c1, .int .i64 c2, .slice X3 ns.length c4]) (n2 := (S ++ [(SeatM.mk x sq c0 c1 c2 X3 c4 ns)]).length) (xs2 := (S ++ [(SeatM.mk x sq c0 c1 c2 X3 c4 ns)]).flatMap SeatM.enc) (s0 := .slice XS S.length cS) (x0 := .slice (some ⟨b5, 0, none⟩) 1 1) (by simp) (by simp [SeatM.enc]) Try.underlying30 inf51 rfl (AF_ev rfl (up rfl (up rfl tp))) (AF_ev rfl tp) hst (.there (.there (.there (.there .here)))) ⟨rfl, _, _, rfl, by omega, .inr ⟨_, 0, rfl, hst.cellsIn .here rfl⟩⟩ (by simp [Value.oneCell']) (by omega) (by simp only [maxLen]; omega) ?_
    intro vX6 w hnilX6 hst
    obtain ⟨X6, c7, rfl, hcX6, hmX6, hlX6, hbX6⟩ := hst.shape
    refine RW.soft Wd.a (v := .slice X6 ((S ++ [(SeatM.mk x sq c0 c1 c2 X3 c4 ns)]).length) c7) (by exact E.assign (AF_ev rfl tp)) ?_
    refine RW.nil ?_
    refine Bl.n ?_
    refine Th.n ?_
    refine CW.region ?_
    refine RW.soft Wd.a (v := .int .i64 (((j : Nat) : Int) + 1)) (by exact E.add (k := .i64) (a := ((j : Nat) : Int)) (b := 1) (AF_ev rfl (up rfl (up rfl (up rfl (up rfl (up rfl hs15)))))) rfl (show IntKind.i64.wrap (((j : Nat) : Int) + 1) = ((j : Nat) : Int) + 1 from (by rw [IntWalk.i64_in _ (by omega)]))) ?_
    refine RW.soft Wd.a (v := .int .i64 (((j : Nat) : Int) + 1)) (by exact E.move (AF_ev rfl tp)) ?_
    refine RW.nil ?_
    refine Th.n ?_
    have hS2 : SeatsOf L (K.take (j + 1)) (S ++ [(SeatM.mk x sq c0 c1 c2 X3 c4 ns)]) := SeatsOf.more hSs hx rfl hgL
    have hst := hst.take (.there (.there (.there (.there (.there (.there .here))))))
    have hst := hst.take (.there (.there (.there (.there (.there (.there .here))))))
    have hst := hst.take (.there (.there (.there (.there (.there (.there .here))))))
    have hst := hst.take (.there (.there (.there .here)))
    have hst := (hst.take (.there (.there (.there (.there .here))))).drop
    have hst := (hst.take (.there (.there (.there (.there .here))))).drop
    have hst := (hst.take (.there (.there (.there (.there .here))))).drop
    exact ⟨K.length - (j + 1), by omega, p, j + 1, X6, (S ++ [(SeatM.mk x sq c0 c1 c2 X3 c4 ns)]), c7, hpp, hTR, hS2, (SeatsOk.more hSok hLn), (by omega), rfl, up rfl (up rfl (up rfl (up rfl (up rfl (up rfl (up rfl hs0)))))), up rfl (up rfl (up rfl (up rfl (up rfl (up rfl (up rfl hs13)))))), up rfl (up rfl (up rfl (up rfl (up rfl (up rfl (up rfl hs14)))))), up rfl (up rfl tp), (int_eq (a := ((j : Nat) : Int) + 1) tp (by omega)), hst⟩
  · have hc1_ := hc1
    try simp only [decide_eq_true_eq, decide_eq_false_iff_not, Bool.and_eq_true, Bool.or_eq_true, Bool.and_eq_false_iff, Bool.or_eq_false_iff, Bool.not_eq_true', Bool.not_eq_false', beq_iff_eq, beq_eq_false_iff_ne, bne_iff_ne, bne_eq_false_iff_eq, ne_eq, Int.not_lt, Int.not_le, gt_iff_lt, ge_iff_le] at hc1_
    refine CW.exit ?_
    refine Th.x ?_
    refine Th.x ?_
    refine Bl.x ?_
    refine Th.n ?_
    refine CW.seq ?_
    refine CW.regionD [0, 1, 2, 3, 4, 5, 6] (fun w => w.cell? ⟨t, 1, none⟩ = some (.int .i64 next)) mixed ?_
    have hst := hst.drew
    generalize w.drew = w at hst ⊢
    have hS : w.cell? ⟨t, 1, none⟩ = some (.int .i64 next) := hst.cell (.there (.there .here)) rfl
    refine RD.take 0 rfl (by kernel_rfl) Wd.a (v := .slice XS S.length cS) (fun w hS => by exact E.move (AF_ev rfl hs4)) hS ?_
    refine RD.take 1 rfl (by kernel_rfl) Wd.a (v := .pointer (some ⟨t, 0, none⟩)) (fun w hS => by exact E.move (AF_ev rfl (up rfl hs0))) hS ?_
    refine RD.take 2 rfl (by kernel_rfl) Wd.a (v := .pointer (some ⟨t, 0, none⟩)) (fun w hS => by exact E.nilCheck (a := ⟨t, 0, none⟩) (AF_ev rfl tp)) hS ?_
    refine RD.take 3 rfl (by kernel_rfl) Wd.a (v := .pointer (some ⟨t, 1, none⟩)) (fun w hS => by exact E.fieldAddr (b := t) (o := 0) (f := { name := "next", type := 3, offset := 1, embedded := false, tag := "", pkgPath := "strongroom/sessions", byteOffset := 8 }) (AF_ev rfl tp) Try.underlying73 rfl sz3 rfl) hS ?_
    refine RD.take 4 rfl (by kernel_rfl) Wd.a (v := .int .i64 next) (fun w hS => by exact E.load (a := ⟨t, 1, none⟩) Try.underlying3 rfl (AF_ev rfl tp) hS) hS ?_
    refine RD.take 5 rfl (by kernel_rfl) Wd.a (v := .slice XS S.length cS) (fun w hS => by exact E.assign (AF_ev rfl (up rfl (up rfl (up rfl (up rfl tp)))))) hS ?_
    refine RD.take 6 rfl (by kernel_rfl) Wd.a (v := .int .i64 next) (fun w hS => by exact E.assign (AF_ev rfl (up rfl tp))) hS ?_
    refine RD.fin (by kernel_rfl) (fun τ => τ 0 = .pointer (some ⟨t, 0, none⟩) ∧ τ 2 = .slice XS S.length cS ∧ τ 3 = .int .i64 next ∧ τ 4 = .slice XS S.length cS ∧ τ 13 = .slice XK K.length cK ∧ τ 14 = .int .i64 ((K.length : Nat) : Int) ∧ τ 15 = .int .i64 ((j : Nat) : Int) ∧ τ 16 = .bool false) ⟨up rfl (up rfl (up rfl (up rfl (up rfl (up rfl (up rfl hs0)))))), up rfl tp, tp, up rfl (up rfl (up rfl (up rfl (up rfl (up rfl (up rfl hs4)))))), up rfl (up rfl (up rfl (up rfl (up rfl (up rfl (up rfl hs13)))))), up rfl (up rfl (up rfl (up rfl (up rfl (up rfl (up rfl hs14)))))), up rfl (up rfl (up rfl (up rfl (up rfl (up rfl (up rfl hs15)))))), up rfl (up rfl (up rfl (up rfl (up rfl (up rfl (up rfl (Eq.trans hs16 (congrArg Value.bool hc1))))))))⟩ ?_
    rintro τ ⟨hs0, hs2, hs3, hs4, hs13, hs14, hs15, hs16⟩
    refine CW.ret ?_
    refine retN (rs := [.tmp 2, .tmp 3]) (vs := [.slice XS S.length cS, .int .i64 next]) rfl (by exact (.tmp (AF_ev rfl hs2) (.tmp (AF_ev rfl hs3) .nil))) (by simp) ?_
    have hst := hst.take (.there (.there (.there .here)))
    have hst := hst.take (.there (.there (.there .here)))
    have hst := hst.take (.there (.there .here))
    have hst := (hst.take (.there (.there (.there .here)))).drop
    rw [List.take_of_length_le (by omega)] at hSs
    exact ⟨p, _, K, S, hpp, rfl, hPK, hWK, hSs, hSok, hTR, hst⟩
end Go.Proofs.Ytjagffnbobnofaa
