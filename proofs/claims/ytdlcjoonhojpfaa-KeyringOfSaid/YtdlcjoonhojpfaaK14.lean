/- The calls of the package keyring, walked through operation by operation. -/
import Derived.Test.YtdlcjoonhojpfaaK13
import Derived.Test.YtdlcjoonhojpfaaK12
import Derived.Test.YtdlcjoonhojpfaaK11
import Derived.Test.YtdlcjoonhojpfaaK10
import Derived.Test.YtdlcjoonhojpfaaK9
import Derived.Test.YtdlcjoonhojpfaaK8
import Derived.Test.YtdlcjoonhojpfaaK7
import Derived.Test.YtdlcjoonhojpfaaK6
import Derived.Test.YtdlcjoonhojpfaaK5
import Derived.Test.YtdlcjoonhojpfaaK4
import Derived.Test.YtdlcjoonhojpfaaK3
namespace Go.Proofs.Ytdlcjoonhojpfaa
open Go.RowKit Go.SL Go.K13
attribute [local irreducible] Go.SL.RW Go.SL.CW Go.SL.RD Go.SL.Hd Go.SL.St
set_option linter.unusedVariables false
set_option linter.unusedSimpArgs false

theorem nm41 : (Try.f41.name == "runtime.NumGoroutine") = false := by kernel_rfl
theorem nm74 : (Try.f74.name == "runtime.NumGoroutine") = false := by kernel_rfl
theorem nm75 : (Try.f75.name == "runtime.NumGoroutine") = false := by kernel_rfl
theorem nm76 : (Try.f76.name == "runtime.NumGoroutine") = false := by kernel_rfl
theorem nm77 : (Try.f77.name == "runtime.NumGoroutine") = false := by kernel_rfl
theorem nm78 : (Try.f78.name == "runtime.NumGoroutine") = false := by kernel_rfl
theorem nm79 : (Try.f79.name == "runtime.NumGoroutine") = false := by kernel_rfl

theorem does13 {p : Pers} {w : World} {R : List Assn} {ks : RK} {b d : Nat} (o : OpM) (ho : o.Ok) (hst : St p w (KeysV 127 b ks :: KeysV 96 d ks :: R)) :
    Calls Try.prog 50 #[.pointer (some ⟨b, 0, none⟩), .pointer (some ⟨d, 0, none⟩), .agg (OpM.enc o).toArray] w fun e w => e = .returned (.bool true) ∧ St p w (KeysV 127 b (opStep ks o) :: KeysV 96 d (opStep ks o) :: R) := by
  refine enter Try.func50 rfl (by simp) (n := 183) rfl fun τ hτ => ?_
  have hs0 : τ 0 = .pointer (some ⟨b, 0, none⟩) := hτ 0 (by simp)
  have hs1 : τ 1 = .pointer (some ⟨d, 0, none⟩) := hτ 1 (by simp)
  have hs2 : τ 2 = .agg (OpM.enc o).toArray := hτ 2 (by simp)
  clear hτ
  refine CW.seq ?_
  refine CW.region ?_
  refine RW.hard Wd.a ?_
  refine H.box (v := .agg (OpM.enc o).toArray) (AF_ev rfl hs2) hst fun b1 w hst => ?_
  refine RW.soft Wd.a (v := .bool false) (by exact E.assign rfl) ?_
  refine RW.fin (fun τ => τ 0 = .pointer (some ⟨b, 0, none⟩) ∧ τ 1 = .pointer (some ⟨d, 0, none⟩) ∧ τ 2 = .agg (OpM.enc o).toArray ∧ τ 5 = .pointer (some ⟨b1, 0, none⟩) ∧ τ 6 = .bool false) ⟨up rfl (up rfl hs0), up rfl (up rfl hs1), up rfl (up rfl hs2), up rfl tp, tp⟩ ?_
  rintro τ ⟨hs0, hs1, hs2, hs5, hs6⟩
  refine CW.seq ?_
  refine CW.seq ?_
  refine CW.region ?_
  refine RW.soft Wd.a (v := .pointer (some ⟨b1, 0, none⟩)) (by exact E.fieldAddr (b := b1) (o := 0) (f := { name := "Kind", type := 3, offset := 0, embedded := false, tag := "", pkgPath := "", byteOffset := 0 }) (AF_ev rfl hs5) Try.underlying76 rfl sz3 rfl) ?_
  refine RW.soft Wd.a (v := .int .i64 o.kd) (by exact E.load (a := ⟨b1, 0, none⟩) Try.underlying3 rfl (AF_ev rfl tp) (hst.cell .here (by rw [List.getElem?_toArray]; exact rfl))) ?_
  refine RW.hard Wd.a ?_
  refine H.call0 Try.func41 nm41 rfl (map2 (AF_ev rfl tp) rfl) (Calls.mono (kind13 o.kd 8 ho.1 (by omega) hst) ?_)
  rintro _ w ⟨rfl, hst⟩
  refine ⟨_, rfl, ?_⟩
  show RW _ _ _ _ _ _ _
  refine RW.fin (fun τ => τ 0 = .pointer (some ⟨b, 0, none⟩) ∧ τ 1 = .pointer (some ⟨d, 0, none⟩) ∧ τ 2 = .agg (OpM.enc o).toArray ∧ τ 5 = .pointer (some ⟨b1, 0, none⟩) ∧ τ 6 = .bool false ∧ τ 29 = .int .i64 (kindF o.kd 8)) ⟨up rfl (up rfl (up rfl hs0)), up rfl (up rfl (up rfl hs1)), up rfl (up rfl (up rfl hs2)), up rfl (up rfl (up rfl hs5)), up rfl (up rfl (up rfl hs6)), tp⟩ ?_
  rintro τ ⟨hs0, hs1, hs2, hs5, hs6, hs29⟩
  refine CW.block ?_
  refine CW.seq ?_
  refine CW.region ?_
  refine RW.soft Wd.a (v := .bool ((kindF o.kd 8) == 0)) (by exact E.eql (k := .i64) (a := kindF o.kd 8) (b := 0) (AF_ev rfl hs29) rfl) ?_
  refine RW.soft Wd.a (v := .bool ((kindF o.kd 8) == 0)) (by exact E.assign (AF_ev rfl tp)) ?_
  refine RW.fin (fun τ => τ 0 = .pointer (some ⟨b, 0, none⟩) ∧ τ 1 = .pointer (some ⟨d, 0, none⟩) ∧ τ 2 = .agg (OpM.enc o).toArray ∧ τ 5 = .pointer (some ⟨b1, 0, none⟩) ∧ τ 6 = .bool false ∧ τ 29 = .int .i64 (kindF o.kd 8) ∧ τ 30 = .bool ((kindF o.kd 8) == 0)) ⟨up rfl (up rfl hs0), up rfl (up rfl hs1), up rfl (up rfl hs2), up rfl (up rfl hs5), up rfl (up rfl hs6), up rfl (up rfl hs29), tp⟩ ?_
  rintro τ ⟨hs0, hs1, hs2, hs5, hs6, hs29, hs30⟩
  refine CW.cond (AF_ev rfl hs30) (fun hc2 => ?_) (fun hc2 => ?_)
  · have hc2_ := hc2
    try simp only [decide_eq_true_eq, decide_eq_false_iff_not, Bool.and_eq_true, Bool.or_eq_true, Bool.and_eq_false_iff, Bool.or_eq_false_iff, Bool.not_eq_true', Bool.not_eq_false', beq_iff_eq, beq_eq_false_iff_ne, bne_iff_ne, bne_eq_false_iff_eq, ne_eq, Int.not_lt, Int.not_le, gt_iff_lt, ge_iff_le] at hc2_
    refine CW.seq ?_
    refine CW.region ?_
    refine RW.soft Wd.a (v := .pointer (some ⟨b, 0, none⟩)) (by exact E.move (AF_ev rfl hs0)) ?_
    refine RW.soft Wd.a (v := .pointer (some ⟨b1, 3, none⟩)) (by exact E.fieldAddr (b := b1) (o := 0) (f := { name := "M", type := 74, offset := 3, embedded := false, tag := "", pkgPath := "", byteOffset := 24 }) (AF_ev rfl (up rfl hs5)) Try.underlying76 rfl sz74 rfl) ?_
    refine RW.soft Wd.a (v := .agg (bk o.m).toArray) (by exact E.loadN (b := b1) (o := 3) (cs := bk o.m) Try.underlying74 rfl sz74 (AF_ev rfl tp) (bk_len _) (St.cellsOf hst .here (fun j v hv => OpM.at_m _ hv))) ?_
    have hst := hst.take (.there .here)
    refine RW.hard Wd.a ?_
    refine H.call0 Try.func42 nm42 rfl (map2 (AF_ev rfl (up rfl (up rfl tp))) (AF_ev rfl tp)) (Calls.mono (prog_Create   o.m hst) ?_)
    rintro _ w ⟨rfl, hst⟩
    refine ⟨_, rfl, ?_⟩
    show RW _ _ _ _ _ _ _
    refine RW.soft Wd.a (v := .tuple #[.int .i64 ((kCreate ks o.m).1), .int .i64 ((kCreate ks o.m).2.1)]) (by exact E.move (AF_ev rfl tp)) ?_
    refine RW.soft Wd.a (v := .int .i64 ((kCreate ks o.m).1)) (by exact E.extract (vs := #[.int .i64 ((kCreate ks o.m).1), .int .i64 ((kCreate ks o.m).2.1)]) (AF_ev rfl tp) rfl) ?_
    refine RW.soft Wd.a (v := .int .i64 ((kCreate ks o.m).2.1)) (by exact E.extract (vs := #[.int .i64 ((kCreate ks o.m).1), .int .i64 ((kCreate ks o.m).2.1)]) (AF_ev rfl (up rfl tp)) rfl) ?_
    refine RW.soft Wd.a (v := .int .i64 ((kCreate ks o.m).1)) (by exact E.assign (AF_ev rfl (up rfl tp))) ?_
    refine RW.soft Wd.a (v := .int .i64 ((kCreate ks o.m).2.1)) (by exact E.assign (AF_ev rfl (up rfl tp))) ?_
    refine RW.fin (fun τ => τ 0 = .pointer (some ⟨b, 0, none⟩) ∧ τ 1 = .pointer (some ⟨d, 0, none⟩) ∧ τ 2 = .agg (OpM.enc o).toArray ∧ τ 5 = .pointer (some ⟨b1, 0, none⟩) ∧ τ 6 = .bool false ∧ τ 7 = .int .i64 ((kCreate ks o.m).1) ∧ τ 8 = .int .i64 ((kCreate ks o.m).2.1) ∧ τ 29 = .int .i64 (kindF o.kd 8) ∧ τ 30 = .bool true) ⟨up rfl (up rfl (up rfl (up rfl (up rfl (up rfl (up rfl (up rfl (up rfl hs0)))))))), up rfl (up rfl (up rfl (up rfl (up rfl (up rfl (up rfl (up rfl (up rfl hs1)))))))), up rfl (up rfl (up rfl (up rfl (up rfl (up rfl (up rfl (up rfl (up rfl hs2)))))))), up rfl (up rfl (up rfl (up rfl (up rfl (up rfl (up rfl (up rfl (up rfl hs5)))))))), up rfl (up rfl (up rfl (up rfl (up rfl (up rfl (up rfl (up rfl (up rfl hs6)))))))), up rfl tp, tp, up rfl (up rfl (up rfl (up rfl (up rfl (up rfl (up rfl (up rfl (up rfl hs29)))))))), up rfl (up rfl (up rfl (up rfl (up rfl (up rfl (up rfl (up rfl (up rfl (Eq.trans hs30 (congrArg Value.bool hc2))))))))))⟩ ?_
    rintro τ ⟨hs0, hs1, hs2, hs5, hs6, hs7, hs8, hs29, hs30⟩
    refine CW.seq ?_
    refine CW.region ?_
    refine RW.soft Wd.a (v := .pointer (some ⟨d, 0, none⟩)) (by exact E.move (AF_ev rfl hs1)) ?_
    refine RW.soft Wd.a (v := .pointer (some ⟨b1, 3, none⟩)) (by exact E.fieldAddr (b := b1) (o := 0) (f := { name := "M", type := 74, offset := 3, embedded := false, tag := "", pkgPath := "", byteOffset := 24 }) (AF_ev rfl (up rfl hs5)) Try.underlying76 rfl sz74 rfl) ?_
    refine RW.soft Wd.a (v := .agg (bk o.m).toArray) (by exact E.loadN (b := b1) (o := 3) (cs := bk o.m) Try.underlying74 rfl sz74 (AF_ev rfl tp) (bk_len _) (St.cellsOf hst (.there .here) (fun j v hv => OpM.at_m _ hv))) ?_
    have hst := hst.take (.there (.there .here))
    refine RW.hard Wd.a ?_
    refine H.call0 Try.func74 nm74 rfl (map2 (AF_ev rfl (up rfl (up rfl tp))) (AF_ev rfl tp)) (Calls.mono (ref_Create   o.m hst) ?_)
    rintro _ w ⟨rfl, hst⟩
    refine ⟨_, rfl, ?_⟩
    show RW _ _ _ _ _ _ _
    refine RW.soft Wd.a (v := .tuple #[.int .i64 ((kCreate ks o.m).1), .int .i64 ((kCreate ks o.m).2.1)]) (by exact E.move (AF_ev rfl tp)) ?_
    refine RW.soft Wd.a (v := .int .i64 ((kCreate ks o.m).1)) (by exact E.extract (vs := #[.int .i64 ((kCreate ks o.m).1), .int .i64 ((kCreate ks o.m).2.1)]) (AF_ev rfl tp) rfl) ?_
    refine RW.soft Wd.a (v := .int .i64 ((kCreate ks o.m).2.1)) (by exact E.extract (vs := #[.int .i64 ((kCreate ks o.m).1), .int .i64 ((kCreate ks o.m).2.1)]) (AF_ev rfl (up rfl tp)) rfl) ?_
    refine RW.soft Wd.a (v := .int .i64 ((kCreate ks o.m).1)) (by exact E.assign (AF_ev rfl (up rfl tp))) ?_
    refine RW.soft Wd.a (v := .int .i64 ((kCreate ks o.m).2.1)) (by exact E.assign (AF_ev rfl (up rfl tp))) ?_
    refine RW.fin (fun τ => τ 0 = .pointer (some ⟨b, 0, none⟩) ∧ τ 1 = .pointer (some ⟨d, 0, none⟩) ∧ τ 2 = .agg (OpM.enc o).toArray ∧ τ 5 = .pointer (some ⟨b1, 0, none⟩) ∧ τ 6 = .bool false ∧ τ 7 = .int .i64 ((kCreate ks o.m).1) ∧ τ 8 = .int .i64 ((kCreate ks o.m).2.1) ∧ τ 9 = .int .i64 ((kCreate ks o.m).1) ∧ τ 10 = .int .i64 ((kCreate ks o.m).2.1) ∧ τ 29 = .int .i64 (kindF o.kd 8) ∧ τ 30 = .bool true) ⟨up rfl (up rfl (up rfl (up rfl (up rfl (up rfl (up rfl (up rfl (up rfl hs0)))))))), up rfl (up rfl (up rfl (up rfl (up rfl (up rfl (up rfl (up rfl (up rfl hs1)))))))), up rfl (up rfl (up rfl (up rfl (up rfl (up rfl (up rfl (up rfl (up rfl hs2)))))))), up rfl (up rfl (up rfl (up rfl (up rfl (up rfl (up rfl (up rfl (up rfl hs5)))))))), up rfl (up rfl (up rfl (up rfl (up rfl (up rfl (up rfl (up rfl (up rfl hs6)))))))), up rfl (up rfl (up rfl (up rfl (up rfl (up rfl (up rfl (up rfl (up rfl hs7)))))))), up rfl (up rfl (up rfl (up rfl (up rfl (up rfl (up rfl (up rfl (up rfl hs8)))))))), up rfl tp, tp, up rfl (up rfl (up rfl (up rfl (up rfl (up rfl (up rfl (up rfl (up rfl hs29)))))))), up rfl (up rfl (up rfl (up rfl (up rfl (up rfl (up rfl (up rfl (up rfl hs30))))))))⟩ ?_
    rintro τ ⟨hs0, hs1, hs2, hs5, hs6, hs7, hs8, hs9, hs10, hs29, hs30⟩
    refine CW.seq ?_
    refine CW.region ?_
    refine RW.soft Wd.a (v := .int .i64 ((kCreate ks o.m).1)) (by exact E.move (AF_ev rfl hs7)) ?_
    refine RW.soft Wd.a (v := .int .i64 ((kCreate ks o.m).1)) (by exact E.move (AF_ev rfl (up rfl hs9))) ?_
    refine RW.soft Wd.a (v := .bool true) (by exact E.b (a := ((kCreate ks o.m).1) == ((kCreate ks o.m).1)) (E.eql (k := .i64) (a := (kCreate ks o.m).1) (b := (kCreate ks o.m).1) (AF_ev rfl (up rfl tp)) (AF_ev rfl tp)) (by simp)) ?_
    refine RW.soft Wd.a (v := .bool true) (by exact E.move (AF_ev rfl tp)) ?_
    refine RW.soft (by exact Wd.yes (x := 49) rfl (AF_ev rfl tp)) (v := .int .i64 ((kCreate ks o.m).2.1)) (by exact E.move (AF_ev rfl (up rfl (up rfl (up rfl (up rfl hs8)))))) ?_
    refine RW.soft (by exact Wd.yes (x := 49) rfl (AF_ev rfl (up rfl tp))) (v := .int .i64 ((kCreate ks o.m).2.1)) (by exact E.move (AF_ev rfl (up rfl (up rfl (up rfl (up rfl (up rfl hs10))))))) ?_
    refine RW.soft (by exact Wd.yes (x := 49) rfl (AF_ev rfl (up rfl (up rfl tp)))) (v := .bool true) (by exact E.b (a := ((kCreate ks o.m).2.1) == ((kCreate ks o.m).2.1)) (E.eql (k := .i64) (a := (kCreate ks o.m).2.1) (b := (kCreate ks o.m).2.1) (AF_ev rfl (up rfl tp)) (AF_ev rfl tp)) (by simp)) ?_
    refine RW.soft Wd.a (v := .bool true) (by exact E.pickT (AF_ev rfl (up rfl (up rfl (up rfl tp)))) (AF_ev rfl tp)) ?_
    refine RW.soft Wd.a (v := .bool true) (by exact E.assign (AF_ev rfl tp)) ?_
    refine RW.fin (fun τ => τ 0 = .pointer (some ⟨b, 0, none⟩) ∧ τ 1 = .pointer (some ⟨d, 0, none⟩) ∧ τ 2 = .agg (OpM.enc o).toArray ∧ τ 5 = .pointer (some ⟨b1, 0, none⟩) ∧ τ 6 = .bool true ∧ τ 7 = .int .i64 ((kCreate ks o.m).1) ∧ τ 8 = .int .i64 ((kCreate ks o.m).2.1) ∧ τ 9 = .int .i64 ((kCreate ks o.m).1) ∧ τ 10 = .int .i64 ((kCreate ks o.m).2.1) ∧ τ 29 = .int .i64 (kindF o.kd 8) ∧ τ 30 = .bool true) ⟨up rfl (up rfl (up rfl (up rfl (up rfl (up rfl (up rfl (up rfl (up rfl hs0)))))))), up rfl (up rfl (up rfl (up rfl (up rfl (up rfl (up rfl (up rfl (up rfl hs1)))))))), up rfl (up rfl (up rfl (up rfl (up rfl (up rfl (up rfl (up rfl (up rfl hs2)))))))), up rfl (up rfl (up rfl (up rfl (up rfl (up rfl (up rfl (up rfl (up rfl hs5)))))))), tp, up rfl (up rfl (up rfl (up rfl (up rfl (up rfl (up rfl (up rfl (up rfl hs7)))))))), up rfl (up rfl (up rfl (up rfl (up rfl (up rfl (up rfl (up rfl (up rfl hs8)))))))), up rfl (up rfl (up rfl (up rfl (up rfl (up rfl (up rfl (up rfl (up rfl hs9)))))))), up rfl (up rfl (up rfl (up rfl (up rfl (up rfl (up rfl (up rfl (up rfl hs10)))))))), up rfl (up rfl (up rfl (up rfl (up rfl (up rfl (up rfl (up rfl (up rfl hs29)))))))), up rfl (up rfl (up rfl (up rfl (up rfl (up rfl (up rfl (up rfl (up rfl hs30))))))))⟩ ?_
    rintro τ ⟨hs0, hs1, hs2, hs5, hs6, hs7, hs8, hs9, hs10, hs29, hs30⟩
    refine CW.ret ?_
    refine Bl.r ?_
    refine Th.r ?_
    refine ret1 (v := .bool true) rfl (by exact (.tmp (AF_ev rfl hs6) .nil)) ?_
    have hst := hst.take (.there .here)
    have hst := (hst.take (.there (.there .here))).drop
    rw [show opStep ks o = (kCreate ks o.m).2.2 from by unfold opStep; rw [if_pos (by omega)]]
    exact ⟨rfl, hst⟩
  · have hc2_ := hc2
    try simp only [decide_eq_true_eq, decide_eq_false_iff_not, Bool.and_eq_true, Bool.or_eq_true, Bool.and_eq_false_iff, Bool.or_eq_false_iff, Bool.not_eq_true', Bool.not_eq_false', beq_iff_eq, beq_eq_false_iff_ne, bne_iff_ne, bne_eq_false_iff_eq, ne_eq, Int.not_lt, Int.not_le, gt_iff_lt, ge_iff_le] at hc2_
    refine CW.seq ?_
    refine CW.region ?_
    refine RW.soft Wd.a (v := .bool ((kindF o.kd 8) == 1)) (by exact E.eql (k := .i64) (a := kindF o.kd 8) (b := 1) (AF_ev rfl hs29) rfl) ?_
    refine RW.soft Wd.a (v := .bool ((kindF o.kd 8) == 1)) (by exact E.assign (AF_ev rfl tp)) ?_
    refine RW.fin (fun τ => τ 0 = .pointer (some ⟨b, 0, none⟩) ∧ τ 1 = .pointer (some ⟨d, 0, none⟩) ∧ τ 2 = .agg (OpM.enc o).toArray ∧ τ 5 = .pointer (some ⟨b1, 0, none⟩) ∧ τ 6 = .bool false ∧ τ 29 = .int .i64 (kindF o.kd 8) ∧ τ 30 = .bool false ∧ τ 54 = .bool ((kindF o.kd 8) == 1)) ⟨up rfl (up rfl hs0), up rfl (up rfl hs1), up rfl (up rfl hs2), up rfl (up rfl hs5), up rfl (up rfl hs6), up rfl (up rfl hs29), up rfl (up rfl (Eq.trans hs30 (congrArg Value.bool hc2))), tp⟩ ?_
    rintro τ ⟨hs0, hs1, hs2, hs5, hs6, hs29, hs30, hs54⟩
    refine CW.cond (AF_ev rfl hs54) (fun hc3 => ?_) (fun hc3 => ?_)
    · have hc3_ := hc3
      try simp only [decide_eq_true_eq, decide_eq_false_iff_not, Bool.and_eq_true, Bool.or_eq_true, Bool.and_eq_false_iff, Bool.or_eq_false_iff, Bool.not_eq_true', Bool.not_eq_false', beq_iff_eq, beq_eq_false_iff_ne, bne_iff_ne, bne_eq_false_iff_eq, ne_eq, Int.not_lt, Int.not_le, gt_iff_lt, ge_iff_le] at hc3_
      refine CW.seq ?_
      refine CW.region ?_
      refine RW.soft Wd.a (v := .pointer (some ⟨b, 0, none⟩)) (by exact E.move (AF_ev rfl hs0)) ?_
      refine RW.soft Wd.a (v := .pointer (some ⟨b1, 1, none⟩)) (by exact E.fieldAddr (b := b1) (o := 0) (f := { name := "Id", type := 3, offset := 1, embedded := false, tag := "", pkgPath := "", byteOffset := 8 }) (AF_ev rfl (up rfl hs5)) Try.underlying76 rfl sz3 rfl) ?_
      refine RW.soft Wd.a (v := .int .i64 o.id) (by exact E.load (a := ⟨b1, 1, none⟩) Try.underlying3 rfl (AF_ev rfl tp) (hst.cell .here (by rw [List.getElem?_toArray]; exact rfl))) ?_
      refine RW.soft Wd.a (v := .pointer (some ⟨b1, 3, none⟩)) (by exact E.fieldAddr (b := b1) (o := 0) (f := { name := "M", type := 74, offset := 3, embedded := false, tag := "", pkgPath := "", byteOffset := 24 }) (AF_ev rfl (up rfl (up rfl (up rfl hs5)))) Try.underlying76 rfl sz74 rfl) ?_
      refine RW.soft Wd.a (v := .agg (bk o.m).toArray) (by exact E.loadN (b := b1) (o := 3) (cs := bk o.m) Try.underlying74 rfl sz74 (AF_ev rfl tp) (bk_len _) (St.cellsOf hst .here (fun j v hv => OpM.at_m _ hv))) ?_
      have hst := hst.take (.there .here)
      refine RW.hard Wd.a ?_
      refine H.call0 Try.func43 nm43 rfl (map3 (AF_ev rfl (up rfl (up rfl (up rfl (up rfl tp))))) (AF_ev rfl (up rfl (up rfl tp))) (AF_ev rfl tp)) (Calls.mono (prog_Rotate o.id ho.2.1 o.m hst) ?_)
      rintro _ w ⟨rfl, hst⟩
      refine ⟨_, rfl, ?_⟩
      show RW _ _ _ _ _ _ _
      refine RW.soft Wd.a (v := .tuple #[.int .i64 ((kRotate ks o.id o.m).1), .int .i64 ((kRotate ks o.id o.m).2.1)]) (by exact E.move (AF_ev rfl tp)) ?_
      refine RW.soft Wd.a (v := .int .i64 ((kRotate ks o.id o.m).1)) (by exact E.extract (vs := #[.int .i64 ((kRotate ks o.id o.m).1), .int .i64 ((kRotate ks o.id o.m).2.1)]) (AF_ev rfl tp) rfl) ?_
      refine RW.soft Wd.a (v := .int .i64 ((kRotate ks o.id o.m).2.1)) (by exact E.extract (vs := #[.int .i64 ((kRotate ks o.id o.m).1), .int .i64 ((kRotate ks o.id o.m).2.1)]) (AF_ev rfl (up rfl tp)) rfl) ?_
      refine RW.soft Wd.a (v := .int .i64 ((kRotate ks o.id o.m).1)) (by exact E.assign (AF_ev rfl (up rfl tp))) ?_
      refine RW.soft Wd.a (v := .int .i64 ((kRotate ks o.id o.m).2.1)) (by exact E.assign (AF_ev rfl (up rfl tp))) ?_
      refine RW.fin (fun τ => τ 0 = .pointer (some ⟨b, 0, none⟩) ∧ τ 1 = .pointer (some ⟨d, 0, none⟩) ∧ τ 2 = .agg (OpM.enc o).toArray ∧ τ 5 = .pointer (some ⟨b1, 0, none⟩) ∧ τ 6 = .bool false ∧ τ 11 = .int .i64 ((kRotate ks o.id o.m).1) ∧ τ 12 = .int .i64 ((kRotate ks o.id o.m).2.1) ∧ τ 29 = .int .i64 (kindF o.kd 8) ∧ τ 30 = .bool false ∧ τ 54 = .bool true) ⟨up rfl (up rfl (up rfl (up rfl (up rfl (up rfl (up rfl (up rfl (up rfl (up rfl (up rfl hs0)))))))))), up rfl (up rfl (up rfl (up rfl (up rfl (up rfl (up rfl (up rfl (up rfl (up rfl (up rfl hs1)))))))))), up rfl (up rfl (up rfl (up rfl (up rfl (up rfl (up rfl (up rfl (up rfl (up rfl (up rfl hs2)))))))))), up rfl (up rfl (up rfl (up rfl (up rfl (up rfl (up rfl (up rfl (up rfl (up rfl (up rfl hs5)))))))))), up rfl (up rfl (up rfl (up rfl (up rfl (up rfl (up rfl (up rfl (up rfl (up rfl (up rfl hs6)))))))))), up rfl tp, tp, up rfl (up rfl (up rfl (up rfl (up rfl (up rfl (up rfl (up rfl (up rfl (up rfl (up rfl hs29)))))))))), up rfl (up rfl (up rfl (up rfl (up rfl (up rfl (up rfl (up rfl (up rfl (up rfl (up rfl hs30)))))))))), up rfl (up rfl (up rfl (up rfl (up rfl (up rfl (up rfl (up rfl (up rfl (up rfl (up rfl (Eq.trans hs54 (congrArg Value.bool hc3))))))))))))⟩ ?_
      rintro τ ⟨hs0, hs1, hs2, hs5, hs6, hs11, hs12, hs29, hs30, hs54⟩
      refine CW.seq ?_
      refine CW.region ?_
      refine RW.soft Wd.a (v := .pointer (some ⟨d, 0, none⟩)) (by exact E.move (AF_ev rfl hs1)) ?_
      refine RW.soft Wd.a (v := .pointer (some ⟨b1, 1, none⟩)) (by exact E.fieldAddr (b := b1) (o := 0) (f := { name := "Id", type := 3, offset := 1, embedded := false, tag := "", pkgPath := "", byteOffset := 8 }) (AF_ev rfl (up rfl hs5)) Try.underlying76 rfl sz3 rfl) ?_
      refine RW.soft Wd.a (v := .int .i64 o.id) (by exact E.load (a := ⟨b1, 1, none⟩) Try.underlying3 rfl (AF_ev rfl tp) (hst.cell (.there .here) (by rw [List.getElem?_toArray]; exact rfl))) ?_
      refine RW.soft Wd.a (v := .pointer (some ⟨b1, 3, none⟩)) (by exact E.fieldAddr (b := b1) (o := 0) (f := { name := "M", type := 74, offset := 3, embedded := false, tag := "", pkgPath := "", byteOffset := 24 }) (AF_ev rfl (up rfl (up rfl (up rfl hs5)))) Try.underlying76 rfl sz74 rfl) ?_
      refine RW.soft Wd.a (v := .agg (bk o.m).toArray) (by exact E.loadN (b := b1) (o := 3) (cs := bk o.m) Try.underlying74 rfl sz74 (AF_ev rfl tp) (bk_len _) (St.cellsOf hst (.there .here) (fun j v hv => OpM.at_m _ hv))) ?_
      have hst := hst.take (.there (.there .here))
      refine RW.hard Wd.a ?_
      refine H.call0 Try.func75 nm75 rfl (map3 (AF_ev rfl (up rfl (up rfl (up rfl (up rfl tp))))) (AF_ev rfl (up rfl (up rfl tp))) (AF_ev rfl tp)) (Calls.mono (ref_Rotate o.id ho.2.1 o.m hst) ?_)
      rintro _ w ⟨rfl, hst⟩
      refine ⟨_, rfl, ?_⟩
      show RW _ _ _ _ _ _ _
      refine RW.soft Wd.a (v := .tuple #[.int .i64 ((kRotate ks o.id o.m).1), .int .i64 ((kRotate ks o.id o.m).2.1)]) (by exact E.move (AF_ev rfl tp)) ?_
      refine RW.soft Wd.a (v := .int .i64 ((kRotate ks o.id o.m).1)) (by exact E.extract (vs := #[.int .i64 ((kRotate ks o.id o.m).1), .int .i64 ((kRotate ks o.id o.m).2.1)]) (AF_ev rfl tp) rfl) ?_
      refine RW.soft Wd.a (v := .int .i64 ((kRotate ks o.id o.m).2.1)) (by exact E.extract (vs := #[.int .i64 ((kRotate ks o.id o.m).1), .int .i64 ((kRotate ks o.id o.m).2.1)]) (AF_ev rfl (up rfl tp)) rfl) ?_
      refine RW.soft Wd.a (v := .int .i64 ((kRotate ks o.id o.m).1)) (by exact E.assign (AF_ev rfl (up rfl tp))) ?_
      refine RW.soft Wd.a (v := .int .i64 ((kRotate ks o.id o.m).2.1)) (by exact E.assign (AF_ev rfl (up rfl tp))) ?_
      refine RW.fin (fun τ => τ 0 = .pointer (some ⟨b, 0, none⟩) ∧ τ 1 = .pointer (some ⟨d, 0, none⟩) ∧ τ 2 = .agg (OpM.enc o).toArray ∧ τ 5 = .pointer (some ⟨b1, 0, none⟩) ∧ τ 6 = .bool false ∧ τ 11 = .int .i64 ((kRotate ks o.id o.m).1) ∧ τ 12 = .int .i64 ((kRotate ks o.id o.m).2.1) ∧ τ 13 = .int .i64 ((kRotate ks o.id o.m).1) ∧ τ 14 = .int .i64 ((kRotate ks o.id o.m).2.1) ∧ τ 29 = .int .i64 (kindF o.kd 8) ∧ τ 30 = .bool false ∧ τ 54 = .bool true) ⟨up rfl (up rfl (up rfl (up rfl (up rfl (up rfl (up rfl (up rfl (up rfl (up rfl (up rfl hs0)))))))))), up rfl (up rfl (up rfl (up rfl (up rfl (up rfl (up rfl (up rfl (up rfl (up rfl (up rfl hs1)))))))))), up rfl (up rfl (up rfl (up rfl (up rfl (up rfl (up rfl (up rfl (up rfl (up rfl (up rfl hs2)))))))))), up rfl (up rfl (up rfl (up rfl (up rfl (up rfl (up rfl (up rfl (up rfl (up rfl (up rfl hs5)))))))))), up rfl (up rfl (up rfl (up rfl (up rfl (up rfl (up rfl (up rfl (up rfl (up rfl (up rfl hs6)))))))))), up rfl (up rfl (up rfl (up rfl (up rfl (up rfl (up rfl (up rfl (up rfl (up rfl (up rfl hs11)))))))))), up rfl (up rfl (up rfl (up rfl (up rfl (up rfl (up rfl (up rfl (up rfl (up rfl (up rfl hs12)))))))))), up rfl tp, tp, up rfl (up rfl (up rfl (up rfl (up rfl (up rfl (up rfl (up rfl (up rfl (up rfl (up rfl hs29)))))))))), up rfl (up rfl (up rfl (up rfl (up rfl (up rfl (up rfl (up rfl (up rfl (up rfl (up rfl hs30)))))))))), up rfl (up rfl (up rfl (up rfl (up rfl (up rfl (up rfl (up rfl (up rfl (up rfl (up rfl hs54))))))))))⟩ ?_
      rintro τ ⟨hs0, hs1, hs2, hs5, hs6, hs11, hs12, hs13, hs14, hs29, hs30, hs54⟩
      refine CW.seq ?_
      refine CW.region ?_
      refine RW.soft Wd.a (v := .int .i64 ((kRotate ks o.id o.m).1)) (by exact E.move (AF_ev rfl hs11)) ?_
      refine RW.soft Wd.a (v := .int .i64 ((kRotate ks o.id o.m).1)) (by exact E.move (AF_ev rfl (up rfl hs13))) ?_
      refine RW.soft Wd.a (v := .bool true) (by exact E.b (a := ((kRotate ks o.id o.m).1) == ((kRotate ks o.id o.m).1)) (E.eql (k := .i64) (a := (kRotate ks o.id o.m).1) (b := (kRotate ks o.id o.m).1) (AF_ev rfl (up rfl tp)) (AF_ev rfl tp)) (by simp)) ?_
      refine RW.soft Wd.a (v := .bool true) (by exact E.move (AF_ev rfl tp)) ?_
      refine RW.soft (by exact Wd.yes (x := 77) rfl (AF_ev rfl tp)) (v := .int .i64 ((kRotate ks o.id o.m).2.1)) (by exact E.move (AF_ev rfl (up rfl (up rfl (up rfl (up rfl hs12)))))) ?_
      refine RW.soft (by exact Wd.yes (x := 77) rfl (AF_ev rfl (up rfl tp))) (v := .int .i64 ((kRotate ks o.id o.m).2.1)) (by exact E.move (AF_ev rfl (up rfl (up rfl (up rfl (up rfl (up rfl hs14))))))) ?_
      refine RW.soft (by exact Wd.yes (x := 77) rfl (AF_ev rfl (up rfl (up rfl tp)))) (v := .bool true) (by exact E.b (a := ((kRotate ks o.id o.m).2.1) == ((kRotate ks o.id o.m).2.1)) (E.eql (k := .i64) (a := (kRotate ks o.id o.m).2.1) (b := (kRotate ks o.id o.m).2.1) (AF_ev rfl (up rfl tp)) (AF_ev rfl tp)) (by simp)) ?_
      refine RW.soft Wd.a (v := .bool true) (by exact E.pickT (AF_ev rfl (up rfl (up rfl (up rfl tp)))) (AF_ev rfl tp)) ?_
      refine RW.soft Wd.a (v := .bool true) (by exact E.assign (AF_ev rfl tp)) ?_
      refine RW.fin (fun τ => τ 0 = .pointer (some ⟨b, 0, none⟩) ∧ τ 1 = .pointer (some ⟨d, 0, none⟩) ∧ τ 2 = .agg (OpM.enc o).toArray ∧ τ 5 = .pointer (some ⟨b1, 0, none⟩) ∧ τ 6 = .bool true ∧ τ 11 = .int .i64 ((kRotate ks o.id o.m).1) ∧ τ 12 = .int .i64 ((kRotate ks o.id o.m).2.1) ∧ τ 13 = .int .i64 ((kRotate ks o.id o.m).1) ∧ τ 14 = .int .i64 ((kRotate ks o.id o.m).2.1) ∧ τ 29 = .int .i64 (kindF o.kd 8) ∧ τ 30 = .bool false ∧ τ 54 = .bool true) ⟨up rfl (up rfl (up rfl (up rfl (up rfl (up rfl (up rfl (up rfl (up rfl hs0)))))))), up rfl (up rfl (up rfl (up rfl (up rfl (up rfl (up rfl (up rfl (up rfl hs1)))))))), up rfl (up rfl (up rfl (up rfl (up rfl (up rfl (up rfl (up rfl (up rfl hs2)))))))), up rfl (up rfl (up rfl (up rfl (up rfl (up rfl (up rfl (up rfl (up rfl hs5)))))))), tp, up rfl (up rfl (up rfl (up rfl (up rfl (up rfl (up rfl (up rfl (up rfl hs11)))))))), up rfl (up rfl (up rfl (up rfl (up rfl (up rfl (up rfl (up rfl (up rfl hs12)))))))), up rfl (up rfl (up rfl (up rfl (up rfl (up rfl (up rfl (up rfl (up rfl hs13)))))))), up rfl (up rfl (up rfl (up rfl (up rfl (up rfl (up rfl (up rfl (up rfl hs14)))))))), up rfl (up rfl (up rfl (up rfl (up rfl (up rfl (up rfl (up rfl (up rfl hs29)))))))), up rfl (up rfl (up rfl (up rfl (up rfl (up rfl (up rfl (up rfl (up rfl hs30)))))))), up rfl (up rfl (up rfl (up rfl (up rfl (up rfl (up rfl (up rfl (up rfl hs54))))))))⟩ ?_
      rintro τ ⟨hs0, hs1, hs2, hs5, hs6, hs11, hs12, hs13, hs14, hs29, hs30, hs54⟩
      refine CW.ret ?_
      refine Bl.r ?_
      refine Th.r ?_
      refine ret1 (v := .bool true) rfl (by exact (.tmp (AF_ev rfl hs6) .nil)) ?_
      have hst := hst.take (.there .here)
      have hst := (hst.take (.there (.there .here))).drop
      rw [show opStep ks o = (kRotate ks o.id o.m).2.2 from by unfold opStep; rw [if_neg (by omega), if_pos (by omega)]]
      exact ⟨rfl, hst⟩
    · have hc3_ := hc3
      try simp only [decide_eq_true_eq, decide_eq_false_iff_not, Bool.and_eq_true, Bool.or_eq_true, Bool.and_eq_false_iff, Bool.or_eq_false_iff, Bool.not_eq_true', Bool.not_eq_false', beq_iff_eq, beq_eq_false_iff_ne, bne_iff_ne, bne_eq_false_iff_eq, ne_eq, Int.not_lt, Int.not_le, gt_iff_lt, ge_iff_le] at hc3_
      refine CW.seq ?_
      refine CW.region ?_
      refine RW.soft Wd.a (v := .bool ((kindF o.kd 8) == 2)) (by exact E.eql (k := .i64) (a := kindF o.kd 8) (b := 2) (AF_ev rfl hs29) rfl) ?_
      refine RW.soft Wd.a (v := .bool ((kindF o.kd 8) == 2)) (by exact E.assign (AF_ev rfl tp)) ?_
      refine RW.fin (fun τ => τ 0 = .pointer (some ⟨b, 0, none⟩) ∧ τ 1 = .pointer (some ⟨d, 0, none⟩) ∧ τ 2 = .agg (OpM.enc o).toArray ∧ τ 5 = .pointer (some ⟨b1, 0, none⟩) ∧ τ 6 = .bool false ∧ τ 29 = .int .i64 (kindF o.kd 8) ∧ τ 30 = .bool false ∧ τ 54 = .bool false ∧ τ 82 = .bool ((kindF o.kd 8) == 2)) ⟨up rfl (up rfl hs0), up rfl (up rfl hs1), up rfl (up rfl hs2), up rfl (up rfl hs5), up rfl (up rfl hs6), up rfl (up rfl hs29), up rfl (up rfl hs30), up rfl (up rfl (Eq.trans hs54 (congrArg Value.bool hc3))), tp⟩ ?_
      rintro τ ⟨hs0, hs1, hs2, hs5, hs6, hs29, hs30, hs54, hs82⟩
      refine CW.cond (AF_ev rfl hs82) (fun hc4 => ?_) (fun hc4 => ?_)
      · have hc4_ := hc4
        try simp only [decide_eq_true_eq, decide_eq_false_iff_not, Bool.and_eq_true, Bool.or_eq_true, Bool.and_eq_false_iff, Bool.or_eq_false_iff, Bool.not_eq_true', Bool.not_eq_false', beq_iff_eq, beq_eq_false_iff_ne, bne_iff_ne, bne_eq_false_iff_eq, ne_eq, Int.not_lt, Int.not_le, gt_iff_lt, ge_iff_le] at hc4_
        refine CW.seq ?_
        refine CW.regionD [0, 1, 2, 3, 4, 5, 6, 8, 9, 10, 11, 12, 13, 14] (fun w => w.cell? ⟨b1, 1, none⟩ = some (.int .i64 o.id) ∧ w.cell? ⟨b1, 2, none⟩ = some (.int .i64 o.n)) mixed ?_
        have hst := hst.drew
        generalize w.drew = w at hst ⊢
        have hS : w.cell? ⟨b1, 1, none⟩ = some (.int .i64 o.id) ∧ w.cell? ⟨b1, 2, none⟩ = some (.int .i64 o.n) := ⟨(hst.cell .here (by rw [List.getElem?_toArray]; exact rfl)), (hst.cell .here (by rw [List.getElem?_toArray]; exact rfl))⟩
        refine RD.take 0 rfl (by kernel_rfl) Wd.a (v := .pointer (some ⟨b, 0, none⟩)) (fun w hS => by exact E.move (AF_ev rfl hs0)) hS ?_
        refine RD.take 1 rfl (by kernel_rfl) Wd.a (v := .pointer (some ⟨b1, 1, none⟩)) (fun w hS => by exact E.fieldAddr (b := b1) (o := 0) (f := { name := "Id", type := 3, offset := 1, embedded := false, tag := "", pkgPath := "", byteOffset := 8 }) (AF_ev rfl (up rfl hs5)) Try.underlying76 rfl sz3 rfl) hS ?_
        refine RD.take 2 rfl (by kernel_rfl) Wd.a (v := .int .i64 o.id) (fun w hS => by exact E.load (a := ⟨b1, 1, none⟩) Try.underlying3 rfl (AF_ev rfl tp) hS.1) hS ?_
        refine RD.take 3 rfl (by kernel_rfl) Wd.a (v := .pointer (some ⟨b1, 2, none⟩)) (fun w hS => by exact E.fieldAddr (b := b1) (o := 0) (f := { name := "N", type := 3, offset := 2, embedded := false, tag := "", pkgPath := "", byteOffset := 16 }) (AF_ev rfl (up rfl (up rfl (up rfl hs5)))) Try.underlying76 rfl sz3 rfl) hS ?_
        refine RD.take 4 rfl (by kernel_rfl) Wd.a (v := .int .i64 o.n) (fun w hS => by exact E.load (a := ⟨b1, 2, none⟩) Try.underlying3 rfl (AF_ev rfl tp) hS.2) hS ?_
        refine RD.take 5 rfl (by kernel_rfl) Wd.a (v := .int .i64 (Int.tmod o.n 2)) (fun w hS => by exact E.rem (k := .i64) (a := o.n) (b := 2) (AF_ev rfl tp) rfl (by omega) rfl) hS ?_
        refine RD.take 6 rfl (by kernel_rfl) Wd.a (v := .bool ((Int.tmod o.n 2) == 0)) (fun w hS => by exact E.eql (k := .i64) (a := Int.tmod o.n 2) (b := 0) (AF_ev rfl tp) rfl) hS ?_
        refine RD.take 8 rfl (by kernel_rfl) Wd.a (v := .pointer (some ⟨d, 0, none⟩)) (fun w hS => by exact E.move (AF_ev rfl (up rfl (up rfl (up rfl (up rfl (up rfl (up rfl (up rfl hs1))))))))) hS ?_
        refine RD.take 9 rfl (by kernel_rfl) Wd.a (v := .pointer (some ⟨b1, 1, none⟩)) (fun w hS => by exact E.fieldAddr (b := b1) (o := 0) (f := { name := "Id", type := 3, offset := 1, embedded := false, tag := "", pkgPath := "", byteOffset := 8 }) (AF_ev rfl (up rfl (up rfl (up rfl (up rfl (up rfl (up rfl (up rfl (up rfl hs5))))))))) Try.underlying76 rfl sz3 rfl) hS ?_
        refine RD.take 10 rfl (by kernel_rfl) Wd.a (v := .int .i64 o.id) (fun w hS => by exact E.load (a := ⟨b1, 1, none⟩) Try.underlying3 rfl (AF_ev rfl tp) hS.1) hS ?_
        refine RD.take 11 rfl (by kernel_rfl) Wd.a (v := .pointer (some ⟨b1, 2, none⟩)) (fun w hS => by exact E.fieldAddr (b := b1) (o := 0) (f := { name := "N", type := 3, offset := 2, embedded := false, tag := "", pkgPath := "", byteOffset := 16 }) (AF_ev rfl (up rfl (up rfl (up rfl (up rfl (up rfl (up rfl (up rfl (up rfl (up rfl (up rfl hs5))))))))))) Try.underlying76 rfl sz3 rfl) hS ?_
        refine RD.take 12 rfl (by kernel_rfl) Wd.a (v := .int .i64 o.n) (fun w hS => by exact E.load (a := ⟨b1, 2, none⟩) Try.underlying3 rfl (AF_ev rfl tp) hS.2) hS ?_
        refine RD.take 13 rfl (by kernel_rfl) Wd.a (v := .int .i64 (Int.tmod o.n 2)) (fun w hS => by exact E.rem (k := .i64) (a := o.n) (b := 2) (AF_ev rfl tp) rfl (by omega) rfl) hS ?_
        refine RD.take 14 rfl (by kernel_rfl) Wd.a (v := .bool ((Int.tmod o.n 2) == 0)) (fun w hS => by exact E.eql (k := .i64) (a := Int.tmod o.n 2) (b := 0) (AF_ev rfl tp) rfl) hS ?_
        refine RD.only 7 rfl (by kernel_rfl) Wd.a ?_
        have hst := hst.take (.there .here)
        refine H.call0 Try.func44 nm44 rfl (map3 (AF_ev rfl (up rfl (up rfl (up rfl (up rfl (up rfl (up rfl (up rfl (up rfl (up rfl (up rfl (up rfl (up rfl (up rfl tp)))))))))))))) (AF_ev rfl (up rfl (up rfl (up rfl (up rfl (up rfl (up rfl (up rfl (up rfl (up rfl (up rfl (up rfl tp)))))))))))) (AF_ev rfl (up rfl (up rfl (up rfl (up rfl (up rfl (up rfl (up rfl tp))))))))) (Calls.mono (prog_Switch o.id ho.2.1 ((Int.tmod o.n 2) == 0) hst) ?_)
        rintro _ w ⟨rfl, hst⟩
        refine ⟨_, rfl, ?_⟩
        have hS : w.cell? ⟨b1, 1, none⟩ = some (.int .i64 o.id) ∧ w.cell? ⟨b1, 2, none⟩ = some (.int .i64 o.n) := ⟨(hst.cell (.there .here) (by rw [List.getElem?_toArray]; exact rfl)), (hst.cell (.there .here) (by rw [List.getElem?_toArray]; exact rfl))⟩
        refine ⟨fun _ => hS, ?_⟩
        refine RD.only 15 rfl (by kernel_rfl) Wd.a ?_
        have hst := hst.take (.there (.there .here))
        refine H.call0 Try.func76 nm76 rfl (map3 (AF_ev rfl (up rfl (up rfl (up rfl (up rfl (up rfl (up rfl (up rfl tp)))))))) (AF_ev rfl (up rfl (up rfl (up rfl (up rfl (up rfl tp)))))) (AF_ev rfl (up rfl tp))) (Calls.mono (ref_Switch o.id ho.2.1 ((Int.tmod o.n 2) == 0) hst) ?_)
        rintro _ w ⟨rfl, hst⟩
        refine ⟨_, rfl, ?_⟩
        have hS : w.cell? ⟨b1, 1, none⟩ = some (.int .i64 o.id) ∧ w.cell? ⟨b1, 2, none⟩ = some (.int .i64 o.n) := ⟨(hst.cell (.there (.there .here)) (by rw [List.getElem?_toArray]; exact rfl)), (hst.cell (.there (.there .here)) (by rw [List.getElem?_toArray]; exact rfl))⟩
        refine ⟨fun _ => hS, ?_⟩
        refine RD.only 16 rfl (by kernel_rfl) Wd.a (Hd.value (v := .bool true) (by exact E.b (a := ((kSwitch ks o.id ((Int.tmod o.n 2) == 0)).1) == ((kSwitch ks o.id ((Int.tmod o.n 2) == 0)).1)) (E.eql (k := .i64) (a := (kSwitch ks o.id ((Int.tmod o.n 2) == 0)).1) (b := (kSwitch ks o.id ((Int.tmod o.n 2) == 0)).1) (AF_ev rfl (up rfl tp)) (AF_ev rfl tp)) (by simp)) ⟨fun _ => hS, ?_⟩)
        refine RD.only 17 rfl (by kernel_rfl) Wd.a (Hd.value (v := .bool true) (by exact E.assign (AF_ev rfl tp)) ⟨fun h => Bool.noConfusion ((show needs _ _ _ = false by kernel_rfl).symm.trans h), ?_⟩)
        refine RD.fin (by kernel_rfl) (fun τ => τ 0 = .pointer (some ⟨b, 0, none⟩) ∧ τ 1 = .pointer (some ⟨d, 0, none⟩) ∧ τ 2 = .agg (OpM.enc o).toArray ∧ τ 5 = .pointer (some ⟨b1, 0, none⟩) ∧ τ 6 = .bool true ∧ τ 29 = .int .i64 (kindF o.kd 8) ∧ τ 30 = .bool false ∧ τ 54 = .bool false ∧ τ 82 = .bool true) ⟨up rfl (up rfl (up rfl (up rfl (up rfl (up rfl (up rfl (up rfl (up rfl (up rfl (up rfl (up rfl (up rfl (up rfl (up rfl (up rfl (up rfl (up rfl hs0))))))))))))))))), up rfl (up rfl (up rfl (up rfl (up rfl (up rfl (up rfl (up rfl (up rfl (up rfl (up rfl (up rfl (up rfl (up rfl (up rfl (up rfl (up rfl (up rfl hs1))))))))))))))))), up rfl (up rfl (up rfl (up rfl (up rfl (up rfl (up rfl (up rfl (up rfl (up rfl (up rfl (up rfl (up rfl (up rfl (up rfl (up rfl (up rfl (up rfl hs2))))))))))))))))), up rfl (up rfl (up rfl (up rfl (up rfl (up rfl (up rfl (up rfl (up rfl (up rfl (up rfl (up rfl (up rfl (up rfl (up rfl (up rfl (up rfl (up rfl hs5))))))))))))))))), tp, up rfl (up rfl (up rfl (up rfl (up rfl (up rfl (up rfl (up rfl (up rfl (up rfl (up rfl (up rfl (up rfl (up rfl (up rfl (up rfl (up rfl (up rfl hs29))))))))))))))))), up rfl (up rfl (up rfl (up rfl (up rfl (up rfl (up rfl (up rfl (up rfl (up rfl (up rfl (up rfl (up rfl (up rfl (up rfl (up rfl (up rfl (up rfl hs30))))))))))))))))), up rfl (up rfl (up rfl (up rfl (up rfl (up rfl (up rfl (up rfl (up rfl (up rfl (up rfl (up rfl (up rfl (up rfl (up rfl (up rfl (up rfl (up rfl hs54))))))))))))))))), up rfl (up rfl (up rfl (up rfl (up rfl (up rfl (up rfl (up rfl (up rfl (up rfl (up rfl (up rfl (up rfl (up rfl (up rfl (up rfl (up rfl (up rfl (Eq.trans hs82 (congrArg Value.bool hc4)))))))))))))))))))⟩ ?_
        rintro τ ⟨hs0, hs1, hs2, hs5, hs6, hs29, hs30, hs54, hs82⟩
        refine CW.ret ?_
        refine Bl.r ?_
        refine Th.r ?_
        refine ret1 (v := .bool true) rfl (by exact (.tmp (AF_ev rfl hs6) .nil)) ?_
        have hst := hst.take (.there .here)
        have hst := (hst.take (.there (.there .here))).drop
        rw [show opStep ks o = (kSwitch ks o.id ((Int.tmod o.n 2) == 0)).2 from by unfold opStep; rw [if_neg (by omega), if_neg (by omega), if_pos (by omega)]]
        exact ⟨rfl, hst⟩
      · have hc4_ := hc4
        try simp only [decide_eq_true_eq, decide_eq_false_iff_not, Bool.and_eq_true, Bool.or_eq_true, Bool.and_eq_false_iff, Bool.or_eq_false_iff, Bool.not_eq_true', Bool.not_eq_false', beq_iff_eq, beq_eq_false_iff_ne, bne_iff_ne, bne_eq_false_iff_eq, ne_eq, Int.not_lt, Int.not_le, gt_iff_lt, ge_iff_le] at hc4_
        refine CW.seq ?_
        refine CW.region ?_
        refine RW.soft Wd.a (v := .bool ((kindF o.kd 8) == 3)) (by exact E.eql (k := .i64) (a := kindF o.kd 8) (b := 3) (AF_ev rfl hs29) rfl) ?_
        refine RW.soft Wd.a (v := .bool ((kindF o.kd 8) == 3)) (by exact E.assign (AF_ev rfl tp)) ?_
        refine RW.fin (fun τ => τ 0 = .pointer (some ⟨b, 0, none⟩) ∧ τ 1 = .pointer (some ⟨d, 0, none⟩) ∧ τ 2 = .agg (OpM.enc o).toArray ∧ τ 5 = .pointer (some ⟨b1, 0, none⟩) ∧ τ 6 = .bool false ∧ τ 29 = .int .i64 (kindF o.kd 8) ∧ τ 30 = .bool false ∧ τ 54 = .bool false ∧ τ 82 = .bool false ∧ τ 101 = .bool ((kindF o.kd 8) == 3)) ⟨up rfl (up rfl hs0), up rfl (up rfl hs1), up rfl (up rfl hs2), up rfl (up rfl hs5), up rfl (up rfl hs6), up rfl (up rfl hs29), up rfl (up rfl hs30), up rfl (up rfl hs54), up rfl (up rfl (Eq.trans hs82 (congrArg Value.bool hc4))), tp⟩ ?_
        rintro τ ⟨hs0, hs1, hs2, hs5, hs6, hs29, hs30, hs54, hs82, hs101⟩
        refine CW.cond (AF_ev rfl hs101) (fun hc5 => ?_) (fun hc5 => ?_)
        · have hc5_ := hc5
          try simp only [decide_eq_true_eq, decide_eq_false_iff_not, Bool.and_eq_true, Bool.or_eq_true, Bool.and_eq_false_iff, Bool.or_eq_false_iff, Bool.not_eq_true', Bool.not_eq_false', beq_iff_eq, beq_eq_false_iff_ne, bne_iff_ne, bne_eq_false_iff_eq, ne_eq, Int.not_lt, Int.not_le, gt_iff_lt, ge_iff_le] at hc5_
          refine CW.seq ?_
          refine CW.regionD [0, 1, 2, 3, 4, 6, 7, 8, 9, 10] (fun w => w.cell? ⟨b1, 1, none⟩ = some (.int .i64 o.id) ∧ w.cell? ⟨b1, 2, none⟩ = some (.int .i64 o.n)) mixed ?_
          have hst := hst.drew
          generalize w.drew = w at hst ⊢
          have hS : w.cell? ⟨b1, 1, none⟩ = some (.int .i64 o.id) ∧ w.cell? ⟨b1, 2, none⟩ = some (.int .i64 o.n) := ⟨(hst.cell .here (by rw [List.getElem?_toArray]; exact rfl)), (hst.cell .here (by rw [List.getElem?_toArray]; exact rfl))⟩
          refine RD.take 0 rfl (by kernel_rfl) Wd.a (v := .pointer (some ⟨b, 0, none⟩)) (fun w hS => by exact E.move (AF_ev rfl hs0)) hS ?_
          refine RD.take 1 rfl (by kernel_rfl) Wd.a (v := .pointer (some ⟨b1, 1, none⟩)) (fun w hS => by exact E.fieldAddr (b := b1) (o := 0) (f := { name := "Id", type := 3, offset := 1, embedded := false, tag := "", pkgPath := "", byteOffset := 8 }) (AF_ev rfl (up rfl hs5)) Try.underlying76 rfl sz3 rfl) hS ?_
          refine RD.take 2 rfl (by kernel_rfl) Wd.a (v := .int .i64 o.id) (fun w hS => by exact E.load (a := ⟨b1, 1, none⟩) Try.underlying3 rfl (AF_ev rfl tp) hS.1) hS ?_
          refine RD.take 3 rfl (by kernel_rfl) Wd.a (v := .pointer (some ⟨b1, 2, none⟩)) (fun w hS => by exact E.fieldAddr (b := b1) (o := 0) (f := { name := "N", type := 3, offset := 2, embedded := false, tag := "", pkgPath := "", byteOffset := 16 }) (AF_ev rfl (up rfl (up rfl (up rfl hs5)))) Try.underlying76 rfl sz3 rfl) hS ?_
          refine RD.take 4 rfl (by kernel_rfl) Wd.a (v := .int .i64 o.n) (fun w hS => by exact E.load (a := ⟨b1, 2, none⟩) Try.underlying3 rfl (AF_ev rfl tp) hS.2) hS ?_
          refine RD.take 6 rfl (by kernel_rfl) Wd.a (v := .pointer (some ⟨d, 0, none⟩)) (fun w hS => by exact E.move (AF_ev rfl (up rfl (up rfl (up rfl (up rfl (up rfl hs1))))))) hS ?_
          refine RD.take 7 rfl (by kernel_rfl) Wd.a (v := .pointer (some ⟨b1, 1, none⟩)) (fun w hS => by exact E.fieldAddr (b := b1) (o := 0) (f := { name := "Id", type := 3, offset := 1, embedded := false, tag := "", pkgPath := "", byteOffset := 8 }) (AF_ev rfl (up rfl (up rfl (up rfl (up rfl (up rfl (up rfl hs5))))))) Try.underlying76 rfl sz3 rfl) hS ?_
          refine RD.take 8 rfl (by kernel_rfl) Wd.a (v := .int .i64 o.id) (fun w hS => by exact E.load (a := ⟨b1, 1, none⟩) Try.underlying3 rfl (AF_ev rfl tp) hS.1) hS ?_
          refine RD.take 9 rfl (by kernel_rfl) Wd.a (v := .pointer (some ⟨b1, 2, none⟩)) (fun w hS => by exact E.fieldAddr (b := b1) (o := 0) (f := { name := "N", type := 3, offset := 2, embedded := false, tag := "", pkgPath := "", byteOffset := 16 }) (AF_ev rfl (up rfl (up rfl (up rfl (up rfl (up rfl (up rfl (up rfl (up rfl hs5))))))))) Try.underlying76 rfl sz3 rfl) hS ?_
          refine RD.take 10 rfl (by kernel_rfl) Wd.a (v := .int .i64 o.n) (fun w hS => by exact E.load (a := ⟨b1, 2, none⟩) Try.underlying3 rfl (AF_ev rfl tp) hS.2) hS ?_
          refine RD.only 5 rfl (by kernel_rfl) Wd.a ?_
          have hst := hst.take (.there .here)
          refine H.call0 Try.func45 nm45 rfl (map3 (AF_ev rfl (up rfl (up rfl (up rfl (up rfl (up rfl (up rfl (up rfl (up rfl (up rfl tp)))))))))) (AF_ev rfl (up rfl (up rfl (up rfl (up rfl (up rfl (up rfl (up rfl tp)))))))) (AF_ev rfl (up rfl (up rfl (up rfl (up rfl (up rfl tp))))))) (Calls.mono (prog_Destroy o.id o.n ho.2.1 ho.2.2  hst) ?_)
          rintro _ w ⟨rfl, hst⟩
          refine ⟨_, rfl, ?_⟩
          have hS : w.cell? ⟨b1, 1, none⟩ = some (.int .i64 o.id) ∧ w.cell? ⟨b1, 2, none⟩ = some (.int .i64 o.n) := ⟨(hst.cell (.there .here) (by rw [List.getElem?_toArray]; exact rfl)), (hst.cell (.there .here) (by rw [List.getElem?_toArray]; exact rfl))⟩
          refine ⟨fun _ => hS, ?_⟩
          refine RD.only 11 rfl (by kernel_rfl) Wd.a ?_
          have hst := hst.take (.there (.there .here))
          refine H.call0 Try.func77 nm77 rfl (map3 (AF_ev rfl (up rfl (up rfl (up rfl (up rfl (up rfl tp)))))) (AF_ev rfl (up rfl (up rfl (up rfl tp)))) (AF_ev rfl (up rfl tp))) (Calls.mono (ref_Destroy o.id o.n ho.2.1 ho.2.2  hst) ?_)
          rintro _ w ⟨rfl, hst⟩
          refine ⟨_, rfl, ?_⟩
          have hS : w.cell? ⟨b1, 1, none⟩ = some (.int .i64 o.id) ∧ w.cell? ⟨b1, 2, none⟩ = some (.int .i64 o.n) := ⟨(hst.cell (.there (.there .here)) (by rw [List.getElem?_toArray]; exact rfl)), (hst.cell (.there (.there .here)) (by rw [List.getElem?_toArray]; exact rfl))⟩
          refine ⟨fun _ => hS, ?_⟩
          refine RD.only 12 rfl (by kernel_rfl) Wd.a (Hd.value (v := .bool true) (by exact E.b (a := ((kDestroy ks o.id o.n).1) == ((kDestroy ks o.id o.n).1)) (E.eql (k := .i64) (a := (kDestroy ks o.id o.n).1) (b := (kDestroy ks o.id o.n).1) (AF_ev rfl (up rfl tp)) (AF_ev rfl tp)) (by simp)) ⟨fun _ => hS, ?_⟩)
          refine RD.only 13 rfl (by kernel_rfl) Wd.a (Hd.value (v := .bool true) (by exact E.assign (AF_ev rfl tp)) ⟨fun h => Bool.noConfusion ((show needs _ _ _ = false by kernel_rfl).symm.trans h), ?_⟩)
          refine RD.fin (by kernel_rfl) (fun τ => τ 0 = .pointer (some ⟨b, 0, none⟩) ∧ τ 1 = .pointer (some ⟨d, 0, none⟩) ∧ τ 2 = .agg (OpM.enc o).toArray ∧ τ 5 = .pointer (some ⟨b1, 0, none⟩) ∧ τ 6 = .bool true ∧ τ 29 = .int .i64 (kindF o.kd 8) ∧ τ 30 = .bool false ∧ τ 54 = .bool false ∧ τ 82 = .bool false ∧ τ 101 = .bool true) ⟨up rfl (up rfl (up rfl (up rfl (up rfl (up rfl (up rfl (up rfl (up rfl (up rfl (up rfl (up rfl (up rfl (up rfl hs0))))))))))))), up rfl (up rfl (up rfl (up rfl (up rfl (up rfl (up rfl (up rfl (up rfl (up rfl (up rfl (up rfl (up rfl (up rfl hs1))))))))))))), up rfl (up rfl (up rfl (up rfl (up rfl (up rfl (up rfl (up rfl (up rfl (up rfl (up rfl (up rfl (up rfl (up rfl hs2))))))))))))), up rfl (up rfl (up rfl (up rfl (up rfl (up rfl (up rfl (up rfl (up rfl (up rfl (up rfl (up rfl (up rfl (up rfl hs5))))))))))))), tp, up rfl (up rfl (up rfl (up rfl (up rfl (up rfl (up rfl (up rfl (up rfl (up rfl (up rfl (up rfl (up rfl (up rfl hs29))))))))))))), up rfl (up rfl (up rfl (up rfl (up rfl (up rfl (up rfl (up rfl (up rfl (up rfl (up rfl (up rfl (up rfl (up rfl hs30))))))))))))), up rfl (up rfl (up rfl (up rfl (up rfl (up rfl (up rfl (up rfl (up rfl (up rfl (up rfl (up rfl (up rfl (up rfl hs54))))))))))))), up rfl (up rfl (up rfl (up rfl (up rfl (up rfl (up rfl (up rfl (up rfl (up rfl (up rfl (up rfl (up rfl (up rfl hs82))))))))))))), up rfl (up rfl (up rfl (up rfl (up rfl (up rfl (up rfl (up rfl (up rfl (up rfl (up rfl (up rfl (up rfl (up rfl (Eq.trans hs101 (congrArg Value.bool hc5)))))))))))))))⟩ ?_
          rintro τ ⟨hs0, hs1, hs2, hs5, hs6, hs29, hs30, hs54, hs82, hs101⟩
          refine CW.ret ?_
          refine Bl.r ?_
          refine Th.r ?_
          refine ret1 (v := .bool true) rfl (by exact (.tmp (AF_ev rfl hs6) .nil)) ?_
          have hst := hst.take (.there .here)
          have hst := (hst.take (.there (.there .here))).drop
          rw [show opStep ks o = (kDestroy ks o.id o.n).2 from by unfold opStep; rw [if_neg (by omega), if_neg (by omega), if_neg (by omega), if_pos (by omega)]]
          exact ⟨rfl, hst⟩
        · have hc5_ := hc5
          try simp only [decide_eq_true_eq, decide_eq_false_iff_not, Bool.and_eq_true, Bool.or_eq_true, Bool.and_eq_false_iff, Bool.or_eq_false_iff, Bool.not_eq_true', Bool.not_eq_false', beq_iff_eq, beq_eq_false_iff_ne, bne_iff_ne, bne_eq_false_iff_eq, ne_eq, Int.not_lt, Int.not_le, gt_iff_lt, ge_iff_le] at hc5_
          refine CW.seq ?_
          refine CW.seq ?_
          refine CW.region ?_
          refine RW.soft Wd.a (v := .bool ((kindF o.kd 8) == 4)) (by exact E.eql (k := .i64) (a := kindF o.kd 8) (b := 4) (AF_ev rfl hs29) rfl) ?_
          refine RW.soft Wd.a (v := .bool ((kindF o.kd 8) == 4)) (by exact E.assign (AF_ev rfl tp)) ?_
          refine RW.fin (fun τ => τ 0 = .pointer (some ⟨b, 0, none⟩) ∧ τ 1 = .pointer (some ⟨d, 0, none⟩) ∧ τ 2 = .agg (OpM.enc o).toArray ∧ τ 5 = .pointer (some ⟨b1, 0, none⟩) ∧ τ 6 = .bool false ∧ τ 29 = .int .i64 (kindF o.kd 8) ∧ τ 30 = .bool false ∧ τ 54 = .bool false ∧ τ 82 = .bool false ∧ τ 101 = .bool false ∧ τ 116 = .bool ((kindF o.kd 8) == 4)) ⟨up rfl (up rfl hs0), up rfl (up rfl hs1), up rfl (up rfl hs2), up rfl (up rfl hs5), up rfl (up rfl hs6), up rfl (up rfl hs29), up rfl (up rfl hs30), up rfl (up rfl hs54), up rfl (up rfl hs82), up rfl (up rfl (Eq.trans hs101 (congrArg Value.bool hc5))), tp⟩ ?_
          rintro τ ⟨hs0, hs1, hs2, hs5, hs6, hs29, hs30, hs54, hs82, hs101, hs116⟩
          refine CW.cond (AF_ev rfl hs116) (fun hc6 => ?_) (fun hc6 => ?_)
          · have hc6_ := hc6
            try simp only [decide_eq_true_eq, decide_eq_false_iff_not, Bool.and_eq_true, Bool.or_eq_true, Bool.and_eq_false_iff, Bool.or_eq_false_iff, Bool.not_eq_true', Bool.not_eq_false', beq_iff_eq, beq_eq_false_iff_ne, bne_iff_ne, bne_eq_false_iff_eq, ne_eq, Int.not_lt, Int.not_le, gt_iff_lt, ge_iff_le] at hc6_
            refine CW.skip ?_
            refine Th.n ?_
            refine CW.condT (AF_ev rfl (Eq.trans hs116 (congrArg Value.bool hc6))) ?_
            refine CW.seq ?_
            refine CW.region ?_
            refine RW.soft Wd.a (v := .pointer (some ⟨b, 0, none⟩)) (by exact E.move (AF_ev rfl hs0)) ?_
            refine RW.soft Wd.a (v := .pointer (some ⟨b1, 1, none⟩)) (by exact E.fieldAddr (b := b1) (o := 0) (f := { name := "Id", type := 3, offset := 1, embedded := false, tag := "", pkgPath := "", byteOffset := 8 }) (AF_ev rfl (up rfl hs5)) Try.underlying76 rfl sz3 rfl) ?_
            refine RW.soft Wd.a (v := .int .i64 o.id) (by exact E.load (a := ⟨b1, 1, none⟩) Try.underlying3 rfl (AF_ev rfl tp) (hst.cell .here (by rw [List.getElem?_toArray]; exact rfl))) ?_
            have hst := hst.take (.there .here)
            refine RW.hard Wd.a ?_
            refine H.call0 Try.func46 nm46 rfl (map2 (AF_ev rfl (up rfl (up rfl tp))) (AF_ev rfl tp)) (Calls.mono (prog_Use o.id ho.2.1  hst) ?_)
            rintro _ w ⟨rfl, hst⟩
            refine ⟨_, rfl, ?_⟩
            show RW _ _ _ _ _ _ _
            refine RW.soft Wd.a (v := .tuple #[.int .i64 ((kUse ks o.id).1), .int .i64 ((kUse ks o.id).2.1), .agg (bk ((kUse ks o.id).2.2.1)).toArray, .int .i64 ((kUse ks o.id).2.2.2.1)]) (by exact E.move (AF_ev rfl tp)) ?_
            refine RW.soft Wd.a (v := .int .i64 ((kUse ks o.id).1)) (by exact E.extract (vs := #[.int .i64 ((kUse ks o.id).1), .int .i64 ((kUse ks o.id).2.1), .agg (bk ((kUse ks o.id).2.2.1)).toArray, .int .i64 ((kUse ks o.id).2.2.2.1)]) (AF_ev rfl tp) rfl) ?_
            refine RW.soft Wd.a (v := .int .i64 ((kUse ks o.id).2.1)) (by exact E.extract (vs := #[.int .i64 ((kUse ks o.id).1), .int .i64 ((kUse ks o.id).2.1), .agg (bk ((kUse ks o.id).2.2.1)).toArray, .int .i64 ((kUse ks o.id).2.2.2.1)]) (AF_ev rfl (up rfl tp)) rfl) ?_
            refine RW.soft Wd.a (v := .agg (bk ((kUse ks o.id).2.2.1)).toArray) (by exact E.extract (vs := #[.int .i64 ((kUse ks o.id).1), .int .i64 ((kUse ks o.id).2.1), .agg (bk ((kUse ks o.id).2.2.1)).toArray, .int .i64 ((kUse ks o.id).2.2.2.1)]) (AF_ev rfl (up rfl (up rfl tp))) rfl) ?_
            refine RW.soft Wd.a (v := .int .i64 ((kUse ks o.id).2.2.2.1)) (by exact E.extract (vs := #[.int .i64 ((kUse ks o.id).1), .int .i64 ((kUse ks o.id).2.1), .agg (bk ((kUse ks o.id).2.2.1)).toArray, .int .i64 ((kUse ks o.id).2.2.2.1)]) (AF_ev rfl (up rfl (up rfl (up rfl tp)))) rfl) ?_
            refine RW.hard Wd.a ?_
            refine H.alloc zr74k hst fun b7 w hst => ?_
            refine RW.soft Wd.a (v := .int .i64 ((kUse ks o.id).1)) (by exact E.assign (AF_ev rfl (up rfl (up rfl (up rfl (up rfl tp)))))) ?_
            refine RW.soft Wd.a (v := .int .i64 ((kUse ks o.id).2.1)) (by exact E.assign (AF_ev rfl (up rfl (up rfl (up rfl (up rfl tp)))))) ?_
            refine RW.hard Wd.a ?_
            refine H.storeWhole (b := b7) (m := 32) (v := .agg (bk ((kUse ks o.id).2.2.1)).toArray) (news := bk ((kUse ks o.id).2.2.1)) (AF_ev rfl (up rfl (up rfl tp))) (AF_ev rfl (up rfl (up rfl (up rfl (up rfl tp))))) hst .here rfl (bk_len _) (by rw [List.size_toArray]; exact (bk_len _)) sz74 (bk_one _) fun w hst => ?_
            refine RW.soft Wd.a (v := .int .i64 ((kUse ks o.id).2.2.2.1)) (by exact E.assign (AF_ev rfl (u0 (up rfl (up rfl (up rfl tp)))))) ?_
            refine RW.fin (fun τ => τ 0 = .pointer (some ⟨b, 0, none⟩) ∧ τ 1 = .pointer (some ⟨d, 0, none⟩) ∧ τ 2 = .agg (OpM.enc o).toArray ∧ τ 5 = .pointer (some ⟨b1, 0, none⟩) ∧ τ 6 = .bool false ∧ τ 15 = .int .i64 ((kUse ks o.id).1) ∧ τ 16 = .int .i64 ((kUse ks o.id).2.1) ∧ τ 17 = .pointer (some ⟨b7, 0, none⟩) ∧ τ 18 = .int .i64 ((kUse ks o.id).2.2.2.1) ∧ τ 29 = .int .i64 (kindF o.kd 8) ∧ τ 30 = .bool false ∧ τ 54 = .bool false ∧ τ 82 = .bool false ∧ τ 101 = .bool false ∧ τ 116 = .bool true) ⟨up rfl (u0 (up rfl (up rfl (up rfl (up rfl (up rfl (up rfl (up rfl (up rfl (up rfl (up rfl (up rfl (up rfl hs0))))))))))))), up rfl (u0 (up rfl (up rfl (up rfl (up rfl (up rfl (up rfl (up rfl (up rfl (up rfl (up rfl (up rfl (up rfl hs1))))))))))))), up rfl (u0 (up rfl (up rfl (up rfl (up rfl (up rfl (up rfl (up rfl (up rfl (up rfl (up rfl (up rfl (up rfl hs2))))))))))))), up rfl (u0 (up rfl (up rfl (up rfl (up rfl (up rfl (up rfl (up rfl (up rfl (up rfl (up rfl (up rfl (up rfl hs5))))))))))))), up rfl (u0 (up rfl (up rfl (up rfl (up rfl (up rfl (up rfl (up rfl (up rfl (up rfl (up rfl (up rfl (up rfl hs6))))))))))))), up rfl (u0 (up rfl tp)), up rfl (u0 tp), up rfl (u0 (up rfl (up rfl tp))), tp, up rfl (u0 (up rfl (up rfl (up rfl (up rfl (up rfl (up rfl (up rfl (up rfl (up rfl (up rfl (up rfl (up rfl hs29))))))))))))), up rfl (u0 (up rfl (up rfl (up rfl (up rfl (up rfl (up rfl (up rfl (up rfl (up rfl (up rfl (up rfl (up rfl hs30))))))))))))), up rfl (u0 (up rfl (up rfl (up rfl (up rfl (up rfl (up rfl (up rfl (up rfl (up rfl (up rfl (up rfl (up rfl hs54))))))))))))), up rfl (u0 (up rfl (up rfl (up rfl (up rfl (up rfl (up rfl (up rfl (up rfl (up rfl (up rfl (up rfl (up rfl hs82))))))))))))), up rfl (u0 (up rfl (up rfl (up rfl (up rfl (up rfl (up rfl (up rfl (up rfl (up rfl (up rfl (up rfl (up rfl hs101))))))))))))), up rfl (u0 (up rfl (up rfl (up rfl (up rfl (up rfl (up rfl (up rfl (up rfl (up rfl (up rfl (up rfl (up rfl (Eq.trans hs116 (congrArg Value.bool hc6)))))))))))))))⟩ ?_
            rintro τ ⟨hs0, hs1, hs2, hs5, hs6, hs15, hs16, hs17, hs18, hs29, hs30, hs54, hs82, hs101, hs116⟩
            refine CW.seq ?_
            refine CW.region ?_
            refine RW.soft Wd.a (v := .pointer (some ⟨d, 0, none⟩)) (by exact E.move (AF_ev rfl hs1)) ?_
            refine RW.soft Wd.a (v := .pointer (some ⟨b1, 1, none⟩)) (by exact E.fieldAddr (b := b1) (o := 0) (f := { name := "Id", type := 3, offset := 1, embedded := false, tag := "", pkgPath := "", byteOffset := 8 }) (AF_ev rfl (up rfl hs5)) Try.underlying76 rfl sz3 rfl) ?_
            refine RW.soft Wd.a (v := .int .i64 o.id) (by exact E.load (a := ⟨b1, 1, none⟩) Try.underlying3 rfl (AF_ev rfl tp) (hst.cell (.there (.there .here)) (by rw [List.getElem?_toArray]; exact rfl))) ?_
            have hst := hst.take (.there (.there (.there .here)))
            refine RW.hard Wd.a ?_
            refine H.call0 Try.func78 nm78 rfl (map2 (AF_ev rfl (up rfl (up rfl tp))) (AF_ev rfl tp)) (Calls.mono (ref_Use o.id ho.2.1  hst) ?_)
            rintro _ w ⟨rfl, hst⟩
            refine ⟨_, rfl, ?_⟩
            show RW _ _ _ _ _ _ _
            refine RW.soft Wd.a (v := .tuple #[.int .i64 ((kUse ks o.id).1), .int .i64 ((kUse ks o.id).2.1), .agg (bk ((kUse ks o.id).2.2.1)).toArray, .int .i64 ((kUse ks o.id).2.2.2.1)]) (by exact E.move (AF_ev rfl tp)) ?_
            refine RW.soft Wd.a (v := .int .i64 ((kUse ks o.id).1)) (by exact E.extract (vs := #[.int .i64 ((kUse ks o.id).1), .int .i64 ((kUse ks o.id).2.1), .agg (bk ((kUse ks o.id).2.2.1)).toArray, .int .i64 ((kUse ks o.id).2.2.2.1)]) (AF_ev rfl tp) rfl) ?_
            refine RW.soft Wd.a (v := .int .i64 ((kUse ks o.id).2.1)) (by exact E.extract (vs := #[.int .i64 ((kUse ks o.id).1), .int .i64 ((kUse ks o.id).2.1), .agg (bk ((kUse ks o.id).2.2.1)).toArray, .int .i64 ((kUse ks o.id).2.2.2.1)]) (AF_ev rfl (up rfl tp)) rfl) ?_
            refine RW.soft Wd.a (v := .agg (bk ((kUse ks o.id).2.2.1)).toArray) (by exact E.extract (vs := #[.int .i64 ((kUse ks o.id).1), .int .i64 ((kUse ks o.id).2.1), .agg (bk ((kUse ks o.id).2.2.1)).toArray, .int .i64 ((kUse ks o.id).2.2.2.1)]) (AF_ev rfl (up rfl (up rfl tp))) rfl) ?_
            refine RW.soft Wd.a (v := .int .i64 ((kUse ks o.id).2.2.2.1)) (by exact E.extract (vs := #[.int .i64 ((kUse ks o.id).1), .int .i64 ((kUse ks o.id).2.1), .agg (bk ((kUse ks o.id).2.2.1)).toArray, .int .i64 ((kUse ks o.id).2.2.2.1)]) (AF_ev rfl (up rfl (up rfl (up rfl tp)))) rfl) ?_
            refine RW.hard Wd.a ?_
            refine H.alloc zr74k hst fun b8 w hst => ?_
            refine RW.soft Wd.a (v := .int .i64 ((kUse ks o.id).1)) (by exact E.assign (AF_ev rfl (up rfl (up rfl (up rfl (up rfl tp)))))) ?_
            refine RW.soft Wd.a (v := .int .i64 ((kUse ks o.id).2.1)) (by exact E.assign (AF_ev rfl (up rfl (up rfl (up rfl (up rfl tp)))))) ?_
            refine RW.hard Wd.a ?_
            refine H.storeWhole (b := b8) (m := 32) (v := .agg (bk ((kUse ks o.id).2.2.1)).toArray) (news := bk ((kUse ks o.id).2.2.1)) (AF_ev rfl (up rfl (up rfl tp))) (AF_ev rfl (up rfl (up rfl (up rfl (up rfl tp))))) hst .here rfl (bk_len _) (by rw [List.size_toArray]; exact (bk_len _)) sz74 (bk_one _) fun w hst => ?_
            refine RW.soft Wd.a (v := .int .i64 ((kUse ks o.id).2.2.2.1)) (by exact E.assign (AF_ev rfl (u0 (up rfl (up rfl (up rfl tp)))))) ?_
            refine RW.fin (fun τ => τ 0 = .pointer (some ⟨b, 0, none⟩) ∧ τ 1 = .pointer (some ⟨d, 0, none⟩) ∧ τ 2 = .agg (OpM.enc o).toArray ∧ τ 5 = .pointer (some ⟨b1, 0, none⟩) ∧ τ 6 = .bool false ∧ τ 15 = .int .i64 ((kUse ks o.id).1) ∧ τ 16 = .int .i64 ((kUse ks o.id).2.1) ∧ τ 17 = .pointer (some ⟨b7, 0, none⟩) ∧ τ 18 = .int .i64 ((kUse ks o.id).2.2.2.1) ∧ τ 19 = .int .i64 ((kUse ks o.id).1) ∧ τ 20 = .int .i64 ((kUse ks o.id).2.1) ∧ τ 21 = .pointer (some ⟨b8, 0, none⟩) ∧ τ 22 = .int .i64 ((kUse ks o.id).2.2.2.1) ∧ τ 29 = .int .i64 (kindF o.kd 8) ∧ τ 30 = .bool false ∧ τ 54 = .bool false ∧ τ 82 = .bool false ∧ τ 101 = .bool false ∧ τ 116 = .bool true) ⟨up rfl (u0 (up rfl (up rfl (up rfl (up rfl (up rfl (up rfl (up rfl (up rfl (up rfl (up rfl (up rfl (up rfl hs0))))))))))))), up rfl (u0 (up rfl (up rfl (up rfl (up rfl (up rfl (up rfl (up rfl (up rfl (up rfl (up rfl (up rfl (up rfl hs1))))))))))))), up rfl (u0 (up rfl (up rfl (up rfl (up rfl (up rfl (up rfl (up rfl (up rfl (up rfl (up rfl (up rfl (up rfl hs2))))))))))))), up rfl (u0 (up rfl (up rfl (up rfl (up rfl (up rfl (up rfl (up rfl (up rfl (up rfl (up rfl (up rfl (up rfl hs5))))))))))))), up rfl (u0 (up rfl (up rfl (up rfl (up rfl (up rfl (up rfl (up rfl (up rfl (up rfl (up rfl (up rfl (up rfl hs6))))))))))))), up rfl (u0 (up rfl (up rfl (up rfl (up rfl (up rfl (up rfl (up rfl (up rfl (up rfl (up rfl (up rfl (up rfl hs15))))))))))))), up rfl (u0 (up rfl (up rfl (up rfl (up rfl (up rfl (up rfl (up rfl (up rfl (up rfl (up rfl (up rfl (up rfl hs16))))))))))))), up rfl (u0 (up rfl (up rfl (up rfl (up rfl (up rfl (up rfl (up rfl (up rfl (up rfl (up rfl (up rfl (up rfl hs17))))))))))))), up rfl (u0 (up rfl (up rfl (up rfl (up rfl (up rfl (up rfl (up rfl (up rfl (up rfl (up rfl (up rfl (up rfl hs18))))))))))))), up rfl (u0 (up rfl tp)), up rfl (u0 tp), up rfl (u0 (up rfl (up rfl tp))), tp, up rfl (u0 (up rfl (up rfl (up rfl (up rfl (up rfl (up rfl (up rfl (up rfl (up rfl (up rfl (up rfl (up rfl hs29))))))))))))), up rfl (u0 (up rfl (up rfl (up rfl (up rfl (up rfl (up rfl (up rfl (up rfl (up rfl (up rfl (up rfl (up rfl hs30))))))))))))), up rfl (u0 (up rfl (up rfl (up rfl (up rfl (up rfl (up rfl (up rfl (up rfl (up rfl (up rfl (up rfl (up rfl hs54))))))))))))), up rfl (u0 (up rfl (up rfl (up rfl (up rfl (up rfl (up rfl (up rfl (up rfl (up rfl (up rfl (up rfl (up rfl hs82))))))))))))), up rfl (u0 (up rfl (up rfl (up rfl (up rfl (up rfl (up rfl (up rfl (up rfl (up rfl (up rfl (up rfl (up rfl hs101))))))))))))), up rfl (u0 (up rfl (up rfl (up rfl (up rfl (up rfl (up rfl (up rfl (up rfl (up rfl (up rfl (up rfl (up rfl hs116)))))))))))))⟩ ?_
            rintro τ ⟨hs0, hs1, hs2, hs5, hs6, hs15, hs16, hs17, hs18, hs19, hs20, hs21, hs22, hs29, hs30, hs54, hs82, hs101, hs116⟩
            refine CW.seq ?_
            refine CW.region ?_
            refine RW.soft Wd.a (v := .int .i64 ((kUse ks o.id).1)) (by exact E.move (AF_ev rfl hs15)) ?_
            refine RW.soft Wd.a (v := .int .i64 ((kUse ks o.id).1)) (by exact E.move (AF_ev rfl (up rfl hs19))) ?_
            refine RW.soft Wd.a (v := .bool true) (by exact E.b (a := ((kUse ks o.id).1) == ((kUse ks o.id).1)) (E.eql (k := .i64) (a := (kUse ks o.id).1) (b := (kUse ks o.id).1) (AF_ev rfl (up rfl tp)) (AF_ev rfl tp)) (by simp)) ?_
            refine RW.soft Wd.a (v := .bool true) (by exact E.move (AF_ev rfl tp)) ?_
            refine RW.soft (by exact Wd.yes (x := 140) rfl (AF_ev rfl tp)) (v := .int .i64 ((kUse ks o.id).2.1)) (by exact E.move (AF_ev rfl (up rfl (up rfl (up rfl (up rfl hs16)))))) ?_
            refine RW.soft (by exact Wd.yes (x := 140) rfl (AF_ev rfl (up rfl tp))) (v := .int .i64 ((kUse ks o.id).2.1)) (by exact E.move (AF_ev rfl (up rfl (up rfl (up rfl (up rfl (up rfl hs20))))))) ?_
            refine RW.soft (by exact Wd.yes (x := 140) rfl (AF_ev rfl (up rfl (up rfl tp)))) (v := .bool true) (by exact E.b (a := ((kUse ks o.id).2.1) == ((kUse ks o.id).2.1)) (E.eql (k := .i64) (a := (kUse ks o.id).2.1) (b := (kUse ks o.id).2.1) (AF_ev rfl (up rfl tp)) (AF_ev rfl tp)) (by simp)) ?_
            refine RW.soft Wd.a (v := .bool true) (by exact E.pickT (AF_ev rfl (up rfl (up rfl (up rfl tp)))) (AF_ev rfl tp)) ?_
            refine RW.soft Wd.a (v := .bool true) (by exact E.move (AF_ev rfl tp)) ?_
            refine RW.soft (by exact Wd.yes (x := 145) rfl (AF_ev rfl tp)) (v := .agg (bk ((kUse ks o.id).2.2.1)).toArray) (by exact E.loadN (b := b7) (o := 0) (cs := bk ((kUse ks o.id).2.2.1)) Try.underlying74 rfl sz74 (AF_ev rfl (up rfl (up rfl (up rfl (up rfl (up rfl (up rfl (up rfl (up rfl (up rfl hs17)))))))))) (bk_len _) (St.cellsOf hst (.there (.there .here)) (fun j v hv => by rw [Nat.zero_add]; exact hv))) ?_
            refine RW.soft (by exact Wd.yes (x := 145) rfl (AF_ev rfl (up rfl tp))) (v := .agg (bk ((kUse ks o.id).2.2.1)).toArray) (by exact E.loadN (b := b8) (o := 0) (cs := bk ((kUse ks o.id).2.2.1)) Try.underlying74 rfl sz74 (AF_ev rfl (up rfl (up rfl (up rfl (up rfl (up rfl (up rfl (up rfl (up rfl (up rfl (up rfl hs21))))))))))) (bk_len _) (St.cellsOf hst .here (fun j v hv => by rw [Nat.zero_add]; exact hv))) ?_
            refine RW.soft (by exact Wd.yes (x := 145) rfl (AF_ev rfl (up rfl (up rfl tp)))) (v := .bool true) (by exact E.b (a := decide ((kUse ks o.id).2.2.1 = (kUse ks o.id).2.2.1)) (E.eql74 (a := (kUse ks o.id).2.2.1) (b := (kUse ks o.id).2.2.1) (AF_ev rfl (up rfl tp)) (AF_ev rfl tp)) (by simp)) ?_
            refine RW.soft Wd.a (v := .bool true) (by exact E.pickT (AF_ev rfl (up rfl (up rfl (up rfl tp)))) (AF_ev rfl tp)) ?_
            refine RW.soft Wd.a (v := .bool true) (by exact E.move (AF_ev rfl tp)) ?_
            refine RW.soft (by exact Wd.yes (x := 150) rfl (AF_ev rfl tp)) (v := .int .i64 ((kUse ks o.id).2.2.2.1)) (by exact E.move (AF_ev rfl (up rfl (up rfl (up rfl (up rfl (up rfl (up rfl (up rfl (up rfl (up rfl (up rfl (up rfl (up rfl (up rfl (up rfl hs18)))))))))))))))) ?_
            refine RW.soft (by exact Wd.yes (x := 150) rfl (AF_ev rfl (up rfl tp))) (v := .int .i64 ((kUse ks o.id).2.2.2.1)) (by exact E.move (AF_ev rfl (up rfl (up rfl (up rfl (up rfl (up rfl (up rfl (up rfl (up rfl (up rfl (up rfl (up rfl (up rfl (up rfl (up rfl (up rfl hs22))))))))))))))))) ?_
            refine RW.soft (by exact Wd.yes (x := 150) rfl (AF_ev rfl (up rfl (up rfl tp)))) (v := .bool true) (by exact E.b (a := ((kUse ks o.id).2.2.2.1) == ((kUse ks o.id).2.2.2.1)) (E.eql (k := .i64) (a := (kUse ks o.id).2.2.2.1) (b := (kUse ks o.id).2.2.2.1) (AF_ev rfl (up rfl tp)) (AF_ev rfl tp)) (by simp)) ?_
            refine RW.soft Wd.a (v := .bool true) (by exact E.pickT (AF_ev rfl (up rfl (up rfl (up rfl tp)))) (AF_ev rfl tp)) ?_
            refine RW.soft Wd.a (v := .bool true) (by exact E.assign (AF_ev rfl tp)) ?_
            refine RW.fin (fun τ => τ 0 = .pointer (some ⟨b, 0, none⟩) ∧ τ 1 = .pointer (some ⟨d, 0, none⟩) ∧ τ 2 = .agg (OpM.enc o).toArray ∧ τ 5 = .pointer (some ⟨b1, 0, none⟩) ∧ τ 6 = .bool true ∧ τ 15 = .int .i64 ((kUse ks o.id).1) ∧ τ 16 = .int .i64 ((kUse ks o.id).2.1) ∧ τ 17 = .pointer (some ⟨b7, 0, none⟩) ∧ τ 18 = .int .i64 ((kUse ks o.id).2.2.2.1) ∧ τ 19 = .int .i64 ((kUse ks o.id).1) ∧ τ 20 = .int .i64 ((kUse ks o.id).2.1) ∧ τ 21 = .pointer (some ⟨b8, 0, none⟩) ∧ τ 22 = .int .i64 ((kUse ks o.id).2.2.2.1) ∧ τ 29 = .int .i64 (kindF o.kd 8) ∧ τ 30 = .bool false ∧ τ 54 = .bool false ∧ τ 82 = .bool false ∧ τ 101 = .bool false ∧ τ 116 = .bool true) ⟨up rfl (up rfl (up rfl (up rfl (up rfl (up rfl (up rfl (up rfl (up rfl (up rfl (up rfl (up rfl (up rfl (up rfl (up rfl (up rfl (up rfl (up rfl (up rfl hs0)))))))))))))))))), up rfl (up rfl (up rfl (up rfl (up rfl (up rfl (up rfl (up rfl (up rfl (up rfl (up rfl (up rfl (up rfl (up rfl (up rfl (up rfl (up rfl (up rfl (up rfl hs1)))))))))))))))))), up rfl (up rfl (up rfl (up rfl (up rfl (up rfl (up rfl (up rfl (up rfl (up rfl (up rfl (up rfl (up rfl (up rfl (up rfl (up rfl (up rfl (up rfl (up rfl hs2)))))))))))))))))), up rfl (up rfl (up rfl (up rfl (up rfl (up rfl (up rfl (up rfl (up rfl (up rfl (up rfl (up rfl (up rfl (up rfl (up rfl (up rfl (up rfl (up rfl (up rfl hs5)))))))))))))))))), tp, up rfl (up rfl (up rfl (up rfl (up rfl (up rfl (up rfl (up rfl (up rfl (up rfl (up rfl (up rfl (up rfl (up rfl (up rfl (up rfl (up rfl (up rfl (up rfl hs15)))))))))))))))))), up rfl (up rfl (up rfl (up rfl (up rfl (up rfl (up rfl (up rfl (up rfl (up rfl (up rfl (up rfl (up rfl (up rfl (up rfl (up rfl (up rfl (up rfl (up rfl hs16)))))))))))))))))), up rfl (up rfl (up rfl (up rfl (up rfl (up rfl (up rfl (up rfl (up rfl (up rfl (up rfl (up rfl (up rfl (up rfl (up rfl (up rfl (up rfl (up rfl (up rfl hs17)))))))))))))))))), up rfl (up rfl (up rfl (up rfl (up rfl (up rfl (up rfl (up rfl (up rfl (up rfl (up rfl (up rfl (up rfl (up rfl (up rfl (up rfl (up rfl (up rfl (up rfl hs18)))))))))))))))))), up rfl (up rfl (up rfl (up rfl (up rfl (up rfl (up rfl (up rfl (up rfl (up rfl (up rfl (up rfl (up rfl (up rfl (up rfl (up rfl (up rfl (up rfl (up rfl hs19)))))))))))))))))), up rfl (up rfl (up rfl (up rfl (up rfl (up rfl (up rfl (up rfl (up rfl (up rfl (up rfl (up rfl (up rfl (up rfl (up rfl (up rfl (up rfl (up rfl (up rfl hs20)))))))))))))))))), up rfl (up rfl (up rfl (up rfl (up rfl (up rfl (up rfl (up rfl (up rfl (up rfl (up rfl (up rfl (up rfl (up rfl (up rfl (up rfl (up rfl (up rfl (up rfl hs21)))))))))))))))))), up rfl (up rfl (up rfl (up rfl (up rfl (up rfl (up rfl (up rfl (up rfl (up rfl (up rfl (up rfl (up rfl (up rfl (up rfl (up rfl (up rfl (up rfl (up rfl hs22)))))))))))))))))), up rfl (up rfl (up rfl (up rfl (up rfl (up rfl (up rfl (up rfl (up rfl (up rfl (up rfl (up rfl (up rfl (up rfl (up rfl (up rfl (up rfl (up rfl (up rfl hs29)))))))))))))))))), up rfl (up rfl (up rfl (up rfl (up rfl (up rfl (up rfl (up rfl (up rfl (up rfl (up rfl (up rfl (up rfl (up rfl (up rfl (up rfl (up rfl (up rfl (up rfl hs30)))))))))))))))))), up rfl (up rfl (up rfl (up rfl (up rfl (up rfl (up rfl (up rfl (up rfl (up rfl (up rfl (up rfl (up rfl (up rfl (up rfl (up rfl (up rfl (up rfl (up rfl hs54)))))))))))))))))), up rfl (up rfl (up rfl (up rfl (up rfl (up rfl (up rfl (up rfl (up rfl (up rfl (up rfl (up rfl (up rfl (up rfl (up rfl (up rfl (up rfl (up rfl (up rfl hs82)))))))))))))))))), up rfl (up rfl (up rfl (up rfl (up rfl (up rfl (up rfl (up rfl (up rfl (up rfl (up rfl (up rfl (up rfl (up rfl (up rfl (up rfl (up rfl (up rfl (up rfl hs101)))))))))))))))))), up rfl (up rfl (up rfl (up rfl (up rfl (up rfl (up rfl (up rfl (up rfl (up rfl (up rfl (up rfl (up rfl (up rfl (up rfl (up rfl (up rfl (up rfl (up rfl hs116))))))))))))))))))⟩ ?_
            rintro τ ⟨hs0, hs1, hs2, hs5, hs6, hs15, hs16, hs17, hs18, hs19, hs20, hs21, hs22, hs29, hs30, hs54, hs82, hs101, hs116⟩
            refine CW.ret ?_
            refine Bl.r ?_
            refine Th.r ?_
            refine ret1 (v := .bool true) rfl (by exact (.tmp (AF_ev rfl hs6) .nil)) ?_
            have hst := hst.take (.there .here)
            have hst := hst.take (.there (.there (.there .here)))
            have hst := (hst.take (.there (.there .here))).drop
            have hst := (hst.take (.there (.there .here))).drop
            have hst := (hst.take (.there (.there .here))).drop
            rw [show opStep ks o = (kUse ks o.id).2.2.2.2 from by unfold opStep; rw [if_neg (by omega), if_neg (by omega), if_neg (by omega), if_neg (by omega), if_pos (by omega)]]
            exact ⟨rfl, hst⟩
          · have hc6_ := hc6
            try simp only [decide_eq_true_eq, decide_eq_false_iff_not, Bool.and_eq_true, Bool.or_eq_true, Bool.and_eq_false_iff, Bool.or_eq_false_iff, Bool.not_eq_true', Bool.not_eq_false', beq_iff_eq, beq_eq_false_iff_ne, bne_iff_ne, bne_eq_false_iff_eq, ne_eq, Int.not_lt, Int.not_le, gt_iff_lt, ge_iff_le] at hc6_
            refine CW.region ?_
            refine RW.soft Wd.a (v := .bool ((kindF o.kd 8) == 5)) (by exact E.eql (k := .i64) (a := kindF o.kd 8) (b := 5) (AF_ev rfl hs29) rfl) ?_
            refine RW.soft Wd.a (v := .bool ((kindF o.kd 8) == 5)) (by exact E.assign (AF_ev rfl tp)) ?_
            refine RW.fin (fun τ => τ 0 = .pointer (some ⟨b, 0, none⟩) ∧ τ 1 = .pointer (some ⟨d, 0, none⟩) ∧ τ 2 = .agg (OpM.enc o).toArray ∧ τ 5 = .pointer (some ⟨b1, 0, none⟩) ∧ τ 6 = .bool false ∧ τ 29 = .int .i64 (kindF o.kd 8) ∧ τ 30 = .bool false ∧ τ 54 = .bool false ∧ τ 82 = .bool false ∧ τ 101 = .bool false ∧ τ 116 = .bool ((kindF o.kd 8) == 5)) ⟨up rfl (up rfl hs0), up rfl (up rfl hs1), up rfl (up rfl hs2), up rfl (up rfl hs5), up rfl (up rfl hs6), up rfl (up rfl hs29), up rfl (up rfl hs30), up rfl (up rfl hs54), up rfl (up rfl hs82), up rfl (up rfl hs101), tp⟩ ?_
            rintro τ ⟨hs0, hs1, hs2, hs5, hs6, hs29, hs30, hs54, hs82, hs101, hs116⟩
            refine CW.cond (AF_ev rfl hs116) (fun hc9 => ?_) (fun hc9 => ?_)
            · have hc9_ := hc9
              try simp only [decide_eq_true_eq, decide_eq_false_iff_not, Bool.and_eq_true, Bool.or_eq_true, Bool.and_eq_false_iff, Bool.or_eq_false_iff, Bool.not_eq_true', Bool.not_eq_false', beq_iff_eq, beq_eq_false_iff_ne, bne_iff_ne, bne_eq_false_iff_eq, ne_eq, Int.not_lt, Int.not_le, gt_iff_lt, ge_iff_le] at hc9_
              refine CW.seq ?_
              refine CW.region ?_
              refine RW.soft Wd.a (v := .pointer (some ⟨b, 0, none⟩)) (by exact E.move (AF_ev rfl hs0)) ?_
              refine RW.soft Wd.a (v := .pointer (some ⟨b1, 1, none⟩)) (by exact E.fieldAddr (b := b1) (o := 0) (f := { name := "Id", type := 3, offset := 1, embedded := false, tag := "", pkgPath := "", byteOffset := 8 }) (AF_ev rfl (up rfl hs5)) Try.underlying76 rfl sz3 rfl) ?_
              refine RW.soft Wd.a (v := .int .i64 o.id) (by exact E.load (a := ⟨b1, 1, none⟩) Try.underlying3 rfl (AF_ev rfl tp) (hst.cell .here (by rw [List.getElem?_toArray]; exact rfl))) ?_
              have hst := hst.take (.there .here)
              refine RW.hard Wd.a ?_
              refine H.call0 Try.func46 nm46 rfl (map2 (AF_ev rfl (up rfl (up rfl tp))) (AF_ev rfl tp)) (Calls.mono (prog_Use o.id ho.2.1  hst) ?_)
              rintro _ w ⟨rfl, hst⟩
              refine ⟨_, rfl, ?_⟩
              show RW _ _ _ _ _ _ _
              refine RW.soft Wd.a (v := .tuple #[.int .i64 ((kUse ks o.id).1), .int .i64 ((kUse ks o.id).2.1), .agg (bk ((kUse ks o.id).2.2.1)).toArray, .int .i64 ((kUse ks o.id).2.2.2.1)]) (by exact E.move (AF_ev rfl tp)) ?_
              refine RW.soft Wd.a (v := .int .i64 ((kUse ks o.id).1)) (by exact E.extract (vs := #[.int .i64 ((kUse ks o.id).1), .int .i64 ((kUse ks o.id).2.1), .agg (bk ((kUse ks o.id).2.2.1)).toArray, .int .i64 ((kUse ks o.id).2.2.2.1)]) (AF_ev rfl tp) rfl) ?_
              refine RW.soft Wd.a (v := .int .i64 ((kUse ks o.id).2.1)) (by exact E.extract (vs := #[.int .i64 ((kUse ks o.id).1), .int .i64 ((kUse ks o.id).2.1), .agg (bk ((kUse ks o.id).2.2.1)).toArray, .int .i64 ((kUse ks o.id).2.2.2.1)]) (AF_ev rfl (up rfl tp)) rfl) ?_
              refine RW.soft Wd.a (v := .agg (bk ((kUse ks o.id).2.2.1)).toArray) (by exact E.extract (vs := #[.int .i64 ((kUse ks o.id).1), .int .i64 ((kUse ks o.id).2.1), .agg (bk ((kUse ks o.id).2.2.1)).toArray, .int .i64 ((kUse ks o.id).2.2.2.1)]) (AF_ev rfl (up rfl (up rfl tp))) rfl) ?_
              refine RW.soft Wd.a (v := .int .i64 ((kUse ks o.id).2.2.2.1)) (by exact E.extract (vs := #[.int .i64 ((kUse ks o.id).1), .int .i64 ((kUse ks o.id).2.1), .agg (bk ((kUse ks o.id).2.2.1)).toArray, .int .i64 ((kUse ks o.id).2.2.2.1)]) (AF_ev rfl (up rfl (up rfl (up rfl tp)))) rfl) ?_
              refine RW.hard Wd.a ?_
              refine H.alloc zr74k hst fun b10 w hst => ?_
              refine RW.soft Wd.a (v := .int .i64 ((kUse ks o.id).1)) (by exact E.assign (AF_ev rfl (up rfl (up rfl (up rfl (up rfl tp)))))) ?_
              refine RW.soft Wd.a (v := .int .i64 ((kUse ks o.id).2.1)) (by exact E.assign (AF_ev rfl (up rfl (up rfl (up rfl (up rfl tp)))))) ?_
              refine RW.hard Wd.a ?_
              refine H.storeWhole (b := b10) (m := 32) (v := .agg (bk ((kUse ks o.id).2.2.1)).toArray) (news := bk ((kUse ks o.id).2.2.1)) (AF_ev rfl (up rfl (up rfl tp))) (AF_ev rfl (up rfl (up rfl (up rfl (up rfl tp))))) hst .here rfl (bk_len _) (by rw [List.size_toArray]; exact (bk_len _)) sz74 (bk_one _) fun w hst => ?_
              refine RW.soft Wd.a (v := .int .i64 ((kUse ks o.id).2.2.2.1)) (by exact E.assign (AF_ev rfl (u0 (up rfl (up rfl (up rfl tp)))))) ?_
              refine RW.fin (fun τ => τ 0 = .pointer (some ⟨b, 0, none⟩) ∧ τ 1 = .pointer (some ⟨d, 0, none⟩) ∧ τ 2 = .agg (OpM.enc o).toArray ∧ τ 5 = .pointer (some ⟨b1, 0, none⟩) ∧ τ 6 = .bool false ∧ τ 15 = .int .i64 ((kUse ks o.id).1) ∧ τ 16 = .int .i64 ((kUse ks o.id).2.1) ∧ τ 17 = .pointer (some ⟨b10, 0, none⟩) ∧ τ 18 = .int .i64 ((kUse ks o.id).2.2.2.1) ∧ τ 29 = .int .i64 (kindF o.kd 8) ∧ τ 30 = .bool false ∧ τ 54 = .bool false ∧ τ 82 = .bool false ∧ τ 101 = .bool false ∧ τ 116 = .bool true) ⟨up rfl (u0 (up rfl (up rfl (up rfl (up rfl (up rfl (up rfl (up rfl (up rfl (up rfl (up rfl (up rfl (up rfl hs0))))))))))))), up rfl (u0 (up rfl (up rfl (up rfl (up rfl (up rfl (up rfl (up rfl (up rfl (up rfl (up rfl (up rfl (up rfl hs1))))))))))))), up rfl (u0 (up rfl (up rfl (up rfl (up rfl (up rfl (up rfl (up rfl (up rfl (up rfl (up rfl (up rfl (up rfl hs2))))))))))))), up rfl (u0 (up rfl (up rfl (up rfl (up rfl (up rfl (up rfl (up rfl (up rfl (up rfl (up rfl (up rfl (up rfl hs5))))))))))))), up rfl (u0 (up rfl (up rfl (up rfl (up rfl (up rfl (up rfl (up rfl (up rfl (up rfl (up rfl (up rfl (up rfl hs6))))))))))))), up rfl (u0 (up rfl tp)), up rfl (u0 tp), up rfl (u0 (up rfl (up rfl tp))), tp, up rfl (u0 (up rfl (up rfl (up rfl (up rfl (up rfl (up rfl (up rfl (up rfl (up rfl (up rfl (up rfl (up rfl hs29))))))))))))), up rfl (u0 (up rfl (up rfl (up rfl (up rfl (up rfl (up rfl (up rfl (up rfl (up rfl (up rfl (up rfl (up rfl hs30))))))))))))), up rfl (u0 (up rfl (up rfl (up rfl (up rfl (up rfl (up rfl (up rfl (up rfl (up rfl (up rfl (up rfl (up rfl hs54))))))))))))), up rfl (u0 (up rfl (up rfl (up rfl (up rfl (up rfl (up rfl (up rfl (up rfl (up rfl (up rfl (up rfl (up rfl hs82))))))))))))), up rfl (u0 (up rfl (up rfl (up rfl (up rfl (up rfl (up rfl (up rfl (up rfl (up rfl (up rfl (up rfl (up rfl hs101))))))))))))), up rfl (u0 (up rfl (up rfl (up rfl (up rfl (up rfl (up rfl (up rfl (up rfl (up rfl (up rfl (up rfl (up rfl (Eq.trans hs116 (congrArg Value.bool hc9)))))))))))))))⟩ ?_
              rintro τ ⟨hs0, hs1, hs2, hs5, hs6, hs15, hs16, hs17, hs18, hs29, hs30, hs54, hs82, hs101, hs116⟩
              refine CW.seq ?_
              refine CW.region ?_
              refine RW.soft Wd.a (v := .pointer (some ⟨d, 0, none⟩)) (by exact E.move (AF_ev rfl hs1)) ?_
              refine RW.soft Wd.a (v := .pointer (some ⟨b1, 1, none⟩)) (by exact E.fieldAddr (b := b1) (o := 0) (f := { name := "Id", type := 3, offset := 1, embedded := false, tag := "", pkgPath := "", byteOffset := 8 }) (AF_ev rfl (up rfl hs5)) Try.underlying76 rfl sz3 rfl) ?_
              refine RW.soft Wd.a (v := .int .i64 o.id) (by exact E.load (a := ⟨b1, 1, none⟩) Try.underlying3 rfl (AF_ev rfl tp) (hst.cell (.there (.there .here)) (by rw [List.getElem?_toArray]; exact rfl))) ?_
              have hst := hst.take (.there (.there (.there .here)))
              refine RW.hard Wd.a ?_
              refine H.call0 Try.func78 nm78 rfl (map2 (AF_ev rfl (up rfl (up rfl tp))) (AF_ev rfl tp)) (Calls.mono (ref_Use o.id ho.2.1  hst) ?_)
              rintro _ w ⟨rfl, hst⟩
              refine ⟨_, rfl, ?_⟩
              show RW _ _ _ _ _ _ _
              refine RW.soft Wd.a (v := .tuple #[.int .i64 ((kUse ks o.id).1), .int .i64 ((kUse ks o.id).2.1), .agg (bk ((kUse ks o.id).2.2.1)).toArray, .int .i64 ((kUse ks o.id).2.2.2.1)]) (by exact E.move (AF_ev rfl tp)) ?_
              refine RW.soft Wd.a (v := .int .i64 ((kUse ks o.id).1)) (by exact E.extract (vs := #[.int .i64 ((kUse ks o.id).1), .int .i64 ((kUse ks o.id).2.1), .agg (bk ((kUse ks o.id).2.2.1)).toArray, .int .i64 ((kUse ks o.id).2.2.2.1)]) (AF_ev rfl tp) rfl) ?_
              refine RW.soft Wd.a (v := .int .i64 ((kUse ks o.id).2.1)) (by exact E.extract (vs := #[.int .i64 ((kUse ks o.id).1), .int .i64 ((kUse ks o.id).2.1), .agg (bk ((kUse ks o.id).2.2.1)).toArray, .int .i64 ((kUse ks o.id).2.2.2.1)]) (AF_ev rfl (up rfl tp)) rfl) ?_
              refine RW.soft Wd.a (v := .agg (bk ((kUse ks o.id).2.2.1)).toArray) (by exact E.extract (vs := #[.int .i64 ((kUse ks o.id).1), .int .i64 ((kUse ks o.id).2.1), .agg (bk ((kUse ks o.id).2.2.1)).toArray, .int .i64 ((kUse ks o.id).2.2.2.1)]) (AF_ev rfl (up rfl (up rfl tp))) rfl) ?_
              refine RW.soft Wd.a (v := .int .i64 ((kUse ks o.id).2.2.2.1)) (by exact E.extract (vs := #[.int .i64 ((kUse ks o.id).1), .int .i64 ((kUse ks o.id).2.1), .agg (bk ((kUse ks o.id).2.2.1)).toArray, .int .i64 ((kUse ks o.id).2.2.2.1)]) (AF_ev rfl (up rfl (up rfl (up rfl tp)))) rfl) ?_
              refine RW.hard Wd.a ?_
              refine H.alloc zr74k hst fun b11 w hst => ?_
              refine RW.soft Wd.a (v := .int .i64 ((kUse ks o.id).1)) (by exact E.assign (AF_ev rfl (up rfl (up rfl (up rfl (up rfl tp)))))) ?_
              refine RW.soft Wd.a (v := .int .i64 ((kUse ks o.id).2.1)) (by exact E.assign (AF_ev rfl (up rfl (up rfl (up rfl (up rfl tp)))))) ?_
              refine RW.hard Wd.a ?_
              refine H.storeWhole (b := b11) (m := 32) (v := .agg (bk ((kUse ks o.id).2.2.1)).toArray) (news := bk ((kUse ks o.id).2.2.1)) (AF_ev rfl (up rfl (up rfl tp))) (AF_ev rfl (up rfl (up rfl (up rfl (up rfl tp))))) hst .here rfl (bk_len _) (by rw [List.size_toArray]; exact (bk_len _)) sz74 (bk_one _) fun w hst => ?_
              refine RW.soft Wd.a (v := .int .i64 ((kUse ks o.id).2.2.2.1)) (by exact E.assign (AF_ev rfl (u0 (up rfl (up rfl (up rfl tp)))))) ?_
              refine RW.fin (fun τ => τ 0 = .pointer (some ⟨b, 0, none⟩) ∧ τ 1 = .pointer (some ⟨d, 0, none⟩) ∧ τ 2 = .agg (OpM.enc o).toArray ∧ τ 5 = .pointer (some ⟨b1, 0, none⟩) ∧ τ 6 = .bool false ∧ τ 15 = .int .i64 ((kUse ks o.id).1) ∧ τ 16 = .int .i64 ((kUse ks o.id).2.1) ∧ τ 17 = .pointer (some ⟨b10, 0, none⟩) ∧ τ 18 = .int .i64 ((kUse ks o.id).2.2.2.1) ∧ τ 19 = .int .i64 ((kUse ks o.id).1) ∧ τ 20 = .int .i64 ((kUse ks o.id).2.1) ∧ τ 21 = .pointer (some ⟨b11, 0, none⟩) ∧ τ 22 = .int .i64 ((kUse ks o.id).2.2.2.1) ∧ τ 29 = .int .i64 (kindF o.kd 8) ∧ τ 30 = .bool false ∧ τ 54 = .bool false ∧ τ 82 = .bool false ∧ τ 101 = .bool false ∧ τ 116 = .bool true) ⟨up rfl (u0 (up rfl (up rfl (up rfl (up rfl (up rfl (up rfl (up rfl (up rfl (up rfl (up rfl (up rfl (up rfl hs0))))))))))))), up rfl (u0 (up rfl (up rfl (up rfl (up rfl (up rfl (up rfl (up rfl (up rfl (up rfl (up rfl (up rfl (up rfl hs1))))))))))))), up rfl (u0 (up rfl (up rfl (up rfl (up rfl (up rfl (up rfl (up rfl (up rfl (up rfl (up rfl (up rfl (up rfl hs2))))))))))))), up rfl (u0 (up rfl (up rfl (up rfl (up rfl (up rfl (up rfl (up rfl (up rfl (up rfl (up rfl (up rfl (up rfl hs5))))))))))))), up rfl (u0 (up rfl (up rfl (up rfl (up rfl (up rfl (up rfl (up rfl (up rfl (up rfl (up rfl (up rfl (up rfl hs6))))))))))))), up rfl (u0 (up rfl (up rfl (up rfl (up rfl (up rfl (up rfl (up rfl (up rfl (up rfl (up rfl (up rfl (up rfl hs15))))))))))))), up rfl (u0 (up rfl (up rfl (up rfl (up rfl (up rfl (up rfl (up rfl (up rfl (up rfl (up rfl (up rfl (up rfl hs16))))))))))))), up rfl (u0 (up rfl (up rfl (up rfl (up rfl (up rfl (up rfl (up rfl (up rfl (up rfl (up rfl (up rfl (up rfl hs17))))))))))))), up rfl (u0 (up rfl (up rfl (up rfl (up rfl (up rfl (up rfl (up rfl (up rfl (up rfl (up rfl (up rfl (up rfl hs18))))))))))))), up rfl (u0 (up rfl tp)), up rfl (u0 tp), up rfl (u0 (up rfl (up rfl tp))), tp, up rfl (u0 (up rfl (up rfl (up rfl (up rfl (up rfl (up rfl (up rfl (up rfl (up rfl (up rfl (up rfl (up rfl hs29))))))))))))), up rfl (u0 (up rfl (up rfl (up rfl (up rfl (up rfl (up rfl (up rfl (up rfl (up rfl (up rfl (up rfl (up rfl hs30))))))))))))), up rfl (u0 (up rfl (up rfl (up rfl (up rfl (up rfl (up rfl (up rfl (up rfl (up rfl (up rfl (up rfl (up rfl hs54))))))))))))), up rfl (u0 (up rfl (up rfl (up rfl (up rfl (up rfl (up rfl (up rfl (up rfl (up rfl (up rfl (up rfl (up rfl hs82))))))))))))), up rfl (u0 (up rfl (up rfl (up rfl (up rfl (up rfl (up rfl (up rfl (up rfl (up rfl (up rfl (up rfl (up rfl hs101))))))))))))), up rfl (u0 (up rfl (up rfl (up rfl (up rfl (up rfl (up rfl (up rfl (up rfl (up rfl (up rfl (up rfl (up rfl hs116)))))))))))))⟩ ?_
              rintro τ ⟨hs0, hs1, hs2, hs5, hs6, hs15, hs16, hs17, hs18, hs19, hs20, hs21, hs22, hs29, hs30, hs54, hs82, hs101, hs116⟩
              refine CW.seq ?_
              refine CW.region ?_
              refine RW.soft Wd.a (v := .int .i64 ((kUse ks o.id).1)) (by exact E.move (AF_ev rfl hs15)) ?_
              refine RW.soft Wd.a (v := .int .i64 ((kUse ks o.id).1)) (by exact E.move (AF_ev rfl (up rfl hs19))) ?_
              refine RW.soft Wd.a (v := .bool true) (by exact E.b (a := ((kUse ks o.id).1) == ((kUse ks o.id).1)) (E.eql (k := .i64) (a := (kUse ks o.id).1) (b := (kUse ks o.id).1) (AF_ev rfl (up rfl tp)) (AF_ev rfl tp)) (by simp)) ?_
              refine RW.soft Wd.a (v := .bool true) (by exact E.move (AF_ev rfl tp)) ?_
              refine RW.soft (by exact Wd.yes (x := 140) rfl (AF_ev rfl tp)) (v := .int .i64 ((kUse ks o.id).2.1)) (by exact E.move (AF_ev rfl (up rfl (up rfl (up rfl (up rfl hs16)))))) ?_
              refine RW.soft (by exact Wd.yes (x := 140) rfl (AF_ev rfl (up rfl tp))) (v := .int .i64 ((kUse ks o.id).2.1)) (by exact E.move (AF_ev rfl (up rfl (up rfl (up rfl (up rfl (up rfl hs20))))))) ?_
              refine RW.soft (by exact Wd.yes (x := 140) rfl (AF_ev rfl (up rfl (up rfl tp)))) (v := .bool true) (by exact E.b (a := ((kUse ks o.id).2.1) == ((kUse ks o.id).2.1)) (E.eql (k := .i64) (a := (kUse ks o.id).2.1) (b := (kUse ks o.id).2.1) (AF_ev rfl (up rfl tp)) (AF_ev rfl tp)) (by simp)) ?_
              refine RW.soft Wd.a (v := .bool true) (by exact E.pickT (AF_ev rfl (up rfl (up rfl (up rfl tp)))) (AF_ev rfl tp)) ?_
              refine RW.soft Wd.a (v := .bool true) (by exact E.move (AF_ev rfl tp)) ?_
              refine RW.soft (by exact Wd.yes (x := 145) rfl (AF_ev rfl tp)) (v := .agg (bk ((kUse ks o.id).2.2.1)).toArray) (by exact E.loadN (b := b10) (o := 0) (cs := bk ((kUse ks o.id).2.2.1)) Try.underlying74 rfl sz74 (AF_ev rfl (up rfl (up rfl (up rfl (up rfl (up rfl (up rfl (up rfl (up rfl (up rfl hs17)))))))))) (bk_len _) (St.cellsOf hst (.there (.there .here)) (fun j v hv => by rw [Nat.zero_add]; exact hv))) ?_
              refine RW.soft (by exact Wd.yes (x := 145) rfl (AF_ev rfl (up rfl tp))) (v := .agg (bk ((kUse ks o.id).2.2.1)).toArray) (by exact E.loadN (b := b11) (o := 0) (cs := bk ((kUse ks o.id).2.2.1)) Try.underlying74 rfl sz74 (AF_ev rfl (up rfl (up rfl (up rfl (up rfl (up rfl (up rfl (up rfl (up rfl (up rfl (up rfl hs21))))))))))) (bk_len _) (St.cellsOf hst .here (fun j v hv => by rw [Nat.zero_add]; exact hv))) ?_
              refine RW.soft (by exact Wd.yes (x := 145) rfl (AF_ev rfl (up rfl (up rfl tp)))) (v := .bool true) (by exact E.b (a := decide ((kUse ks o.id).2.2.1 = (kUse ks o.id).2.2.1)) (E.eql74 (a := (kUse ks o.id).2.2.1) (b := (kUse ks o.id).2.2.1) (AF_ev rfl (up rfl tp)) (AF_ev rfl tp)) (by simp)) ?_
              refine RW.soft Wd.a (v := .bool true) (by exact E.pickT (AF_ev rfl (up rfl (up rfl (up rfl tp)))) (AF_ev rfl tp)) ?_
              refine RW.soft Wd.a (v := .bool true) (by exact E.move (AF_ev rfl tp)) ?_
              refine RW.soft (by exact Wd.yes (x := 150) rfl (AF_ev rfl tp)) (v := .int .i64 ((kUse ks o.id).2.2.2.1)) (by exact E.move (AF_ev rfl (up rfl (up rfl (up rfl (up rfl (up rfl (up rfl (up rfl (up rfl (up rfl (up rfl (up rfl (up rfl (up rfl (up rfl hs18)))))))))))))))) ?_
              refine RW.soft (by exact Wd.yes (x := 150) rfl (AF_ev rfl (up rfl tp))) (v := .int .i64 ((kUse ks o.id).2.2.2.1)) (by exact E.move (AF_ev rfl (up rfl (up rfl (up rfl (up rfl (up rfl (up rfl (up rfl (up rfl (up rfl (up rfl (up rfl (up rfl (up rfl (up rfl (up rfl hs22))))))))))))))))) ?_
              refine RW.soft (by exact Wd.yes (x := 150) rfl (AF_ev rfl (up rfl (up rfl tp)))) (v := .bool true) (by exact E.b (a := ((kUse ks o.id).2.2.2.1) == ((kUse ks o.id).2.2.2.1)) (E.eql (k := .i64) (a := (kUse ks o.id).2.2.2.1) (b := (kUse ks o.id).2.2.2.1) (AF_ev rfl (up rfl tp)) (AF_ev rfl tp)) (by simp)) ?_
              refine RW.soft Wd.a (v := .bool true) (by exact E.pickT (AF_ev rfl (up rfl (up rfl (up rfl tp)))) (AF_ev rfl tp)) ?_
              refine RW.soft Wd.a (v := .bool true) (by exact E.assign (AF_ev rfl tp)) ?_
              refine RW.fin (fun τ => τ 0 = .pointer (some ⟨b, 0, none⟩) ∧ τ 1 = .pointer (some ⟨d, 0, none⟩) ∧ τ 2 = .agg (OpM.enc o).toArray ∧ τ 5 = .pointer (some ⟨b1, 0, none⟩) ∧ τ 6 = .bool true ∧ τ 15 = .int .i64 ((kUse ks o.id).1) ∧ τ 16 = .int .i64 ((kUse ks o.id).2.1) ∧ τ 17 = .pointer (some ⟨b10, 0, none⟩) ∧ τ 18 = .int .i64 ((kUse ks o.id).2.2.2.1) ∧ τ 19 = .int .i64 ((kUse ks o.id).1) ∧ τ 20 = .int .i64 ((kUse ks o.id).2.1) ∧ τ 21 = .pointer (some ⟨b11, 0, none⟩) ∧ τ 22 = .int .i64 ((kUse ks o.id).2.2.2.1) ∧ τ 29 = .int .i64 (kindF o.kd 8) ∧ τ 30 = .bool false ∧ τ 54 = .bool false ∧ τ 82 = .bool false ∧ τ 101 = .bool false ∧ τ 116 = .bool true) ⟨up rfl (up rfl (up rfl (up rfl (up rfl (up rfl (up rfl (up rfl (up rfl (up rfl (up rfl (up rfl (up rfl (up rfl (up rfl (up rfl (up rfl (up rfl (up rfl hs0)))))))))))))))))), up rfl (up rfl (up rfl (up rfl (up rfl (up rfl (up rfl (up rfl (up rfl (up rfl (up rfl (up rfl (up rfl (up rfl (up rfl (up rfl (up rfl (up rfl (up rfl hs1)))))))))))))))))), up rfl (up rfl (up rfl (up rfl (up rfl (up rfl (up rfl (up rfl (up rfl (up rfl (up rfl (up rfl (up rfl (up rfl (up rfl (up rfl (up rfl (up rfl (up rfl hs2)))))))))))))))))), up rfl (up rfl (up rfl (up rfl (up rfl (up rfl (up rfl (up rfl (up rfl (up rfl (up rfl (up rfl (up rfl (up rfl (up rfl (up rfl (up rfl (up rfl (up rfl hs5)))))))))))))))))), tp, up rfl (up rfl (up rfl (up rfl (up rfl (up rfl (up rfl (up rfl (up rfl (up rfl (up rfl (up rfl (up rfl (up rfl (up rfl (up rfl (up rfl (up rfl (up rfl hs15)))))))))))))))))), up rfl (up rfl (up rfl (up rfl (up rfl (up rfl (up rfl (up rfl (up rfl (up rfl (up rfl (up rfl (up rfl (up rfl (up rfl (up rfl (up rfl (up rfl (up rfl hs16)))))))))))))))))), up rfl (up rfl (up rfl (up rfl (up rfl (up rfl (up rfl (up rfl (up rfl (up rfl (up rfl (up rfl (up rfl (up rfl (up rfl (up rfl (up rfl (up rfl (up rfl hs17)))))))))))))))))), up rfl (up rfl (up rfl (up rfl (up rfl (up rfl (up rfl (up rfl (up rfl (up rfl (up rfl (up rfl (up rfl (up rfl (up rfl (up rfl (up rfl (up rfl (up rfl hs18)))))))))))))))))), up rfl (up rfl (up rfl (up rfl (up rfl (up rfl (up rfl (up rfl (up rfl (up rfl (up rfl (up rfl (up rfl (up rfl (up rfl (up rfl (up rfl (up rfl (up rfl hs19)))))))))))))))))), up rfl (up rfl (up rfl (up rfl (up rfl (up rfl (up rfl (up rfl (up rfl (up rfl (up rfl (up rfl (up rfl (up rfl (up rfl (up rfl (up rfl (up rfl (up rfl hs20)))))))))))))))))), up rfl (up rfl (up rfl (up rfl (up rfl (up rfl (up rfl (up rfl (up rfl (up rfl (up rfl (up rfl (up rfl (up rfl (up rfl (up rfl (up rfl (up rfl (up rfl hs21)))))))))))))))))), up rfl (up rfl (up rfl (up rfl (up rfl (up rfl (up rfl (up rfl (up rfl (up rfl (up rfl (up rfl (up rfl (up rfl (up rfl (up rfl (up rfl (up rfl (up rfl hs22)))))))))))))))))), up rfl (up rfl (up rfl (up rfl (up rfl (up rfl (up rfl (up rfl (up rfl (up rfl (up rfl (up rfl (up rfl (up rfl (up rfl (up rfl (up rfl (up rfl (up rfl hs29)))))))))))))))))), up rfl (up rfl (up rfl (up rfl (up rfl (up rfl (up rfl (up rfl (up rfl (up rfl (up rfl (up rfl (up rfl (up rfl (up rfl (up rfl (up rfl (up rfl (up rfl hs30)))))))))))))))))), up rfl (up rfl (up rfl (up rfl (up rfl (up rfl (up rfl (up rfl (up rfl (up rfl (up rfl (up rfl (up rfl (up rfl (up rfl (up rfl (up rfl (up rfl (up rfl hs54)))))))))))))))))), up rfl (up rfl (up rfl (up rfl (up rfl (up rfl (up rfl (up rfl (up rfl (up rfl (up rfl (up rfl (up rfl (up rfl (up rfl (up rfl (up rfl (up rfl (up rfl hs82)))))))))))))))))), up rfl (up rfl (up rfl (up rfl (up rfl (up rfl (up rfl (up rfl (up rfl (up rfl (up rfl (up rfl (up rfl (up rfl (up rfl (up rfl (up rfl (up rfl (up rfl hs101)))))))))))))))))), up rfl (up rfl (up rfl (up rfl (up rfl (up rfl (up rfl (up rfl (up rfl (up rfl (up rfl (up rfl (up rfl (up rfl (up rfl (up rfl (up rfl (up rfl (up rfl hs116))))))))))))))))))⟩ ?_
              rintro τ ⟨hs0, hs1, hs2, hs5, hs6, hs15, hs16, hs17, hs18, hs19, hs20, hs21, hs22, hs29, hs30, hs54, hs82, hs101, hs116⟩
              refine CW.ret ?_
              refine Bl.r ?_
              refine Th.r ?_
              refine ret1 (v := .bool true) rfl (by exact (.tmp (AF_ev rfl hs6) .nil)) ?_
              have hst := hst.take (.there .here)
              have hst := hst.take (.there (.there (.there .here)))
              have hst := (hst.take (.there (.there .here))).drop
              have hst := (hst.take (.there (.there .here))).drop
              have hst := (hst.take (.there (.there .here))).drop
              rw [show opStep ks o = (kUse ks o.id).2.2.2.2 from by unfold opStep; rw [if_neg (by omega), if_neg (by omega), if_neg (by omega), if_neg (by omega), if_pos (by omega)]]
              exact ⟨rfl, hst⟩
            · have hc9_ := hc9
              try simp only [decide_eq_true_eq, decide_eq_false_iff_not, Bool.and_eq_true, Bool.or_eq_true, Bool.and_eq_false_iff, Bool.or_eq_false_iff, Bool.not_eq_true', Bool.not_eq_false', beq_iff_eq, beq_eq_false_iff_ne, bne_iff_ne, bne_eq_false_iff_eq, ne_eq, Int.not_lt, Int.not_le, gt_iff_lt, ge_iff_le] at hc9_
              refine CW.seq ?_
              refine CW.region ?_
              refine RW.soft Wd.a (v := .bool ((kindF o.kd 8) == 6)) (by exact E.eql (k := .i64) (a := kindF o.kd 8) (b := 6) (AF_ev rfl hs29) rfl) ?_
              refine RW.soft Wd.a (v := .bool ((kindF o.kd 8) == 6)) (by exact E.assign (AF_ev rfl tp)) ?_
              refine RW.fin (fun τ => τ 0 = .pointer (some ⟨b, 0, none⟩) ∧ τ 1 = .pointer (some ⟨d, 0, none⟩) ∧ τ 2 = .agg (OpM.enc o).toArray ∧ τ 5 = .pointer (some ⟨b1, 0, none⟩) ∧ τ 6 = .bool false ∧ τ 29 = .int .i64 (kindF o.kd 8) ∧ τ 30 = .bool false ∧ τ 54 = .bool false ∧ τ 82 = .bool false ∧ τ 101 = .bool false ∧ τ 116 = .bool false ∧ τ 155 = .bool ((kindF o.kd 8) == 6)) ⟨up rfl (up rfl hs0), up rfl (up rfl hs1), up rfl (up rfl hs2), up rfl (up rfl hs5), up rfl (up rfl hs6), up rfl (up rfl hs29), up rfl (up rfl hs30), up rfl (up rfl hs54), up rfl (up rfl hs82), up rfl (up rfl hs101), up rfl (up rfl (Eq.trans hs116 (congrArg Value.bool hc9))), tp⟩ ?_
              rintro τ ⟨hs0, hs1, hs2, hs5, hs6, hs29, hs30, hs54, hs82, hs101, hs116, hs155⟩
              refine CW.cond (AF_ev rfl hs155) (fun hc12 => ?_) (fun hc12 => ?_)
              · have hc12_ := hc12
                try simp only [decide_eq_true_eq, decide_eq_false_iff_not, Bool.and_eq_true, Bool.or_eq_true, Bool.and_eq_false_iff, Bool.or_eq_false_iff, Bool.not_eq_true', Bool.not_eq_false', beq_iff_eq, beq_eq_false_iff_ne, bne_iff_ne, bne_eq_false_iff_eq, ne_eq, Int.not_lt, Int.not_le, gt_iff_lt, ge_iff_le] at hc12_
                refine CW.seq ?_
                refine CW.region ?_
                refine RW.soft Wd.a (v := .pointer (some ⟨b, 0, none⟩)) (by exact E.move (AF_ev rfl hs0)) ?_
                refine RW.soft Wd.a (v := .pointer (some ⟨b1, 1, none⟩)) (by exact E.fieldAddr (b := b1) (o := 0) (f := { name := "Id", type := 3, offset := 1, embedded := false, tag := "", pkgPath := "", byteOffset := 8 }) (AF_ev rfl (up rfl hs5)) Try.underlying76 rfl sz3 rfl) ?_
                refine RW.soft Wd.a (v := .int .i64 o.id) (by exact E.load (a := ⟨b1, 1, none⟩) Try.underlying3 rfl (AF_ev rfl tp) (hst.cell .here (by rw [List.getElem?_toArray]; exact rfl))) ?_
                refine RW.soft Wd.a (v := .pointer (some ⟨b1, 2, none⟩)) (by exact E.fieldAddr (b := b1) (o := 0) (f := { name := "N", type := 3, offset := 2, embedded := false, tag := "", pkgPath := "", byteOffset := 16 }) (AF_ev rfl (up rfl (up rfl (up rfl hs5)))) Try.underlying76 rfl sz3 rfl) ?_
                refine RW.soft Wd.a (v := .int .i64 o.n) (by exact E.load (a := ⟨b1, 2, none⟩) Try.underlying3 rfl (AF_ev rfl tp) (hst.cell .here (by rw [List.getElem?_toArray]; exact rfl))) ?_
                have hst := hst.take (.there .here)
                refine RW.hard Wd.a ?_
                refine H.call0 Try.func47 nm47 rfl (map3 (AF_ev rfl (up rfl (up rfl (up rfl (up rfl tp))))) (AF_ev rfl (up rfl (up rfl tp))) (AF_ev rfl tp)) (Calls.mono (prog_Material o.id o.n ho.2.1 ho.2.2  hst) ?_)
                rintro _ w ⟨rfl, hst⟩
                refine ⟨_, rfl, ?_⟩
                show RW _ _ _ _ _ _ _
                refine RW.soft Wd.a (v := .tuple #[.agg (bk ((kMat ks o.id o.n).1)).toArray, .int .i64 ((kMat ks o.id o.n).2)]) (by exact E.move (AF_ev rfl tp)) ?_
                refine RW.soft Wd.a (v := .agg (bk ((kMat ks o.id o.n).1)).toArray) (by exact E.extract (vs := #[.agg (bk ((kMat ks o.id o.n).1)).toArray, .int .i64 ((kMat ks o.id o.n).2)]) (AF_ev rfl tp) rfl) ?_
                refine RW.soft Wd.a (v := .int .i64 ((kMat ks o.id o.n).2)) (by exact E.extract (vs := #[.agg (bk ((kMat ks o.id o.n).1)).toArray, .int .i64 ((kMat ks o.id o.n).2)]) (AF_ev rfl (up rfl tp)) rfl) ?_
                refine RW.hard Wd.a ?_
                refine H.alloc zr74k hst fun b13 w hst => ?_
                refine RW.hard Wd.a ?_
                refine H.storeWhole (b := b13) (m := 32) (v := .agg (bk ((kMat ks o.id o.n).1)).toArray) (news := bk ((kMat ks o.id o.n).1)) (AF_ev rfl tp) (AF_ev rfl (up rfl (up rfl tp))) hst .here rfl (bk_len _) (by rw [List.size_toArray]; exact (bk_len _)) sz74 (bk_one _) fun w hst => ?_
                refine RW.soft Wd.a (v := .int .i64 ((kMat ks o.id o.n).2)) (by exact E.assign (AF_ev rfl (u0 (up rfl tp)))) ?_
                refine RW.fin (fun τ => τ 0 = .pointer (some ⟨b, 0, none⟩) ∧ τ 1 = .pointer (some ⟨d, 0, none⟩) ∧ τ 2 = .agg (OpM.enc o).toArray ∧ τ 5 = .pointer (some ⟨b1, 0, none⟩) ∧ τ 6 = .bool false ∧ τ 23 = .pointer (some ⟨b13, 0, none⟩) ∧ τ 24 = .int .i64 ((kMat ks o.id o.n).2) ∧ τ 29 = .int .i64 (kindF o.kd 8) ∧ τ 30 = .bool false ∧ τ 54 = .bool false ∧ τ 82 = .bool false ∧ τ 101 = .bool false ∧ τ 116 = .bool false ∧ τ 155 = .bool true) ⟨up rfl (u0 (up rfl (up rfl (up rfl (up rfl (up rfl (up rfl (up rfl (up rfl (up rfl (up rfl hs0))))))))))), up rfl (u0 (up rfl (up rfl (up rfl (up rfl (up rfl (up rfl (up rfl (up rfl (up rfl (up rfl hs1))))))))))), up rfl (u0 (up rfl (up rfl (up rfl (up rfl (up rfl (up rfl (up rfl (up rfl (up rfl (up rfl hs2))))))))))), up rfl (u0 (up rfl (up rfl (up rfl (up rfl (up rfl (up rfl (up rfl (up rfl (up rfl (up rfl hs5))))))))))), up rfl (u0 (up rfl (up rfl (up rfl (up rfl (up rfl (up rfl (up rfl (up rfl (up rfl (up rfl hs6))))))))))), up rfl (u0 tp), tp, up rfl (u0 (up rfl (up rfl (up rfl (up rfl (up rfl (up rfl (up rfl (up rfl (up rfl (up rfl hs29))))))))))), up rfl (u0 (up rfl (up rfl (up rfl (up rfl (up rfl (up rfl (up rfl (up rfl (up rfl (up rfl hs30))))))))))), up rfl (u0 (up rfl (up rfl (up rfl (up rfl (up rfl (up rfl (up rfl (up rfl (up rfl (up rfl hs54))))))))))), up rfl (u0 (up rfl (up rfl (up rfl (up rfl (up rfl (up rfl (up rfl (up rfl (up rfl (up rfl hs82))))))))))), up rfl (u0 (up rfl (up rfl (up rfl (up rfl (up rfl (up rfl (up rfl (up rfl (up rfl (up rfl hs101))))))))))), up rfl (u0 (up rfl (up rfl (up rfl (up rfl (up rfl (up rfl (up rfl (up rfl (up rfl (up rfl hs116))))))))))), up rfl (u0 (up rfl (up rfl (up rfl (up rfl (up rfl (up rfl (up rfl (up rfl (up rfl (up rfl (Eq.trans hs155 (congrArg Value.bool hc12)))))))))))))⟩ ?_
                rintro τ ⟨hs0, hs1, hs2, hs5, hs6, hs23, hs24, hs29, hs30, hs54, hs82, hs101, hs116, hs155⟩
                refine CW.seq ?_
                refine CW.region ?_
                refine RW.soft Wd.a (v := .pointer (some ⟨d, 0, none⟩)) (by exact E.move (AF_ev rfl hs1)) ?_
                refine RW.soft Wd.a (v := .pointer (some ⟨b1, 1, none⟩)) (by exact E.fieldAddr (b := b1) (o := 0) (f := { name := "Id", type := 3, offset := 1, embedded := false, tag := "", pkgPath := "", byteOffset := 8 }) (AF_ev rfl (up rfl hs5)) Try.underlying76 rfl sz3 rfl) ?_
                refine RW.soft Wd.a (v := .int .i64 o.id) (by exact E.load (a := ⟨b1, 1, none⟩) Try.underlying3 rfl (AF_ev rfl tp) (hst.cell (.there (.there .here)) (by rw [List.getElem?_toArray]; exact rfl))) ?_
                refine RW.soft Wd.a (v := .pointer (some ⟨b1, 2, none⟩)) (by exact E.fieldAddr (b := b1) (o := 0) (f := { name := "N", type := 3, offset := 2, embedded := false, tag := "", pkgPath := "", byteOffset := 16 }) (AF_ev rfl (up rfl (up rfl (up rfl hs5)))) Try.underlying76 rfl sz3 rfl) ?_
                refine RW.soft Wd.a (v := .int .i64 o.n) (by exact E.load (a := ⟨b1, 2, none⟩) Try.underlying3 rfl (AF_ev rfl tp) (hst.cell (.there (.there .here)) (by rw [List.getElem?_toArray]; exact rfl))) ?_
                have hst := hst.take (.there (.there (.there .here)))
                refine RW.hard Wd.a ?_
                refine H.call0 Try.func79 nm79 rfl (map3 (AF_ev rfl (up rfl (up rfl (up rfl (up rfl tp))))) (AF_ev rfl (up rfl (up rfl tp))) (AF_ev rfl tp)) (Calls.mono (ref_Material o.id o.n ho.2.1 ho.2.2  hst) ?_)
                rintro _ w ⟨rfl, hst⟩
                refine ⟨_, rfl, ?_⟩
                show RW _ _ _ _ _ _ _
                refine RW.soft Wd.a (v := .tuple #[.agg (bk ((kMat ks o.id o.n).1)).toArray, .int .i64 ((kMat ks o.id o.n).2)]) (by exact E.move (AF_ev rfl tp)) ?_
                refine RW.soft Wd.a (v := .agg (bk ((kMat ks o.id o.n).1)).toArray) (by exact E.extract (vs := #[.agg (bk ((kMat ks o.id o.n).1)).toArray, .int .i64 ((kMat ks o.id o.n).2)]) (AF_ev rfl tp) rfl) ?_
                refine RW.soft Wd.a (v := .int .i64 ((kMat ks o.id o.n).2)) (by exact E.extract (vs := #[.agg (bk ((kMat ks o.id o.n).1)).toArray, .int .i64 ((kMat ks o.id o.n).2)]) (AF_ev rfl (up rfl tp)) rfl) ?_
                refine RW.hard Wd.a ?_
                refine H.alloc zr74k hst fun b14 w hst => ?_
                refine RW.hard Wd.a ?_
                refine H.storeWhole (b := b14) (m := 32) (v := .agg (bk ((kMat ks o.id o.n).1)).toArray) (news := bk ((kMat ks o.id o.n).1)) (AF_ev rfl tp) (AF_ev rfl (up rfl (up rfl tp))) hst .here rfl (bk_len _) (by rw [List.size_toArray]; exact (bk_len _)) sz74 (bk_one _) fun w hst => ?_
                refine RW.soft Wd.a (v := .int .i64 ((kMat ks o.id o.n).2)) (by exact E.assign (AF_ev rfl (u0 (up rfl tp)))) ?_
                refine RW.fin (fun τ => τ 0 = .pointer (some ⟨b, 0, none⟩) ∧ τ 1 = .pointer (some ⟨d, 0, none⟩) ∧ τ 2 = .agg (OpM.enc o).toArray ∧ τ 5 = .pointer (some ⟨b1, 0, none⟩) ∧ τ 6 = .bool false ∧ τ 23 = .pointer (some ⟨b13, 0, none⟩) ∧ τ 24 = .int .i64 ((kMat ks o.id o.n).2) ∧ τ 25 = .pointer (some ⟨b14, 0, none⟩) ∧ τ 26 = .int .i64 ((kMat ks o.id o.n).2) ∧ τ 29 = .int .i64 (kindF o.kd 8) ∧ τ 30 = .bool false ∧ τ 54 = .bool false ∧ τ 82 = .bool false ∧ τ 101 = .bool false ∧ τ 116 = .bool false ∧ τ 155 = .bool true) ⟨up rfl (u0 (up rfl (up rfl (up rfl (up rfl (up rfl (up rfl (up rfl (up rfl (up rfl (up rfl hs0))))))))))), up rfl (u0 (up rfl (up rfl (up rfl (up rfl (up rfl (up rfl (up rfl (up rfl (up rfl (up rfl hs1))))))))))), up rfl (u0 (up rfl (up rfl (up rfl (up rfl (up rfl (up rfl (up rfl (up rfl (up rfl (up rfl hs2))))))))))), up rfl (u0 (up rfl (up rfl (up rfl (up rfl (up rfl (up rfl (up rfl (up rfl (up rfl (up rfl hs5))))))))))), up rfl (u0 (up rfl (up rfl (up rfl (up rfl (up rfl (up rfl (up rfl (up rfl (up rfl (up rfl hs6))))))))))), up rfl (u0 (up rfl (up rfl (up rfl (up rfl (up rfl (up rfl (up rfl (up rfl (up rfl (up rfl hs23))))))))))), up rfl (u0 (up rfl (up rfl (up rfl (up rfl (up rfl (up rfl (up rfl (up rfl (up rfl (up rfl hs24))))))))))), up rfl (u0 tp), tp, up rfl (u0 (up rfl (up rfl (up rfl (up rfl (up rfl (up rfl (up rfl (up rfl (up rfl (up rfl hs29))))))))))), up rfl (u0 (up rfl (up rfl (up rfl (up rfl (up rfl (up rfl (up rfl (up rfl (up rfl (up rfl hs30))))))))))), up rfl (u0 (up rfl (up rfl (up rfl (up rfl (up rfl (up rfl (up rfl (up rfl (up rfl (up rfl hs54))))))))))), up rfl (u0 (up rfl (up rfl (up rfl (up rfl (up rfl (up rfl (up rfl (up rfl (up rfl (up rfl hs82))))))))))), up rfl (u0 (up rfl (up rfl (up rfl (up rfl (up rfl (up rfl (up rfl (up rfl (up rfl (up rfl hs101))))))))))), up rfl (u0 (up rfl (up rfl (up rfl (up rfl (up rfl (up rfl (up rfl (up rfl (up rfl (up rfl hs116))))))))))), up rfl (u0 (up rfl (up rfl (up rfl (up rfl (up rfl (up rfl (up rfl (up rfl (up rfl (up rfl hs155)))))))))))⟩ ?_
                rintro τ ⟨hs0, hs1, hs2, hs5, hs6, hs23, hs24, hs25, hs26, hs29, hs30, hs54, hs82, hs101, hs116, hs155⟩
                refine CW.seq ?_
                refine CW.region ?_
                refine RW.soft Wd.a (v := .agg (bk ((kMat ks o.id o.n).1)).toArray) (by exact E.loadN (b := b13) (o := 0) (cs := bk ((kMat ks o.id o.n).1)) Try.underlying74 rfl sz74 (AF_ev rfl hs23) (bk_len _) (St.cellsOf hst (.there (.there .here)) (fun j v hv => by rw [Nat.zero_add]; exact hv))) ?_
                refine RW.soft Wd.a (v := .agg (bk ((kMat ks o.id o.n).1)).toArray) (by exact E.loadN (b := b14) (o := 0) (cs := bk ((kMat ks o.id o.n).1)) Try.underlying74 rfl sz74 (AF_ev rfl (up rfl hs25)) (bk_len _) (St.cellsOf hst .here (fun j v hv => by rw [Nat.zero_add]; exact hv))) ?_
                refine RW.soft Wd.a (v := .bool true) (by exact E.b (a := decide ((kMat ks o.id o.n).1 = (kMat ks o.id o.n).1)) (E.eql74 (a := (kMat ks o.id o.n).1) (b := (kMat ks o.id o.n).1) (AF_ev rfl (up rfl tp)) (AF_ev rfl tp)) (by simp)) ?_
                refine RW.soft Wd.a (v := .bool true) (by exact E.move (AF_ev rfl tp)) ?_
                refine RW.soft (by exact Wd.yes (x := 178) rfl (AF_ev rfl tp)) (v := .int .i64 ((kMat ks o.id o.n).2)) (by exact E.move (AF_ev rfl (up rfl (up rfl (up rfl (up rfl hs24)))))) ?_
                refine RW.soft (by exact Wd.yes (x := 178) rfl (AF_ev rfl (up rfl tp))) (v := .int .i64 ((kMat ks o.id o.n).2)) (by exact E.move (AF_ev rfl (up rfl (up rfl (up rfl (up rfl (up rfl hs26))))))) ?_
                refine RW.soft (by exact Wd.yes (x := 178) rfl (AF_ev rfl (up rfl (up rfl tp)))) (v := .bool true) (by exact E.b (a := ((kMat ks o.id o.n).2) == ((kMat ks o.id o.n).2)) (E.eql (k := .i64) (a := (kMat ks o.id o.n).2) (b := (kMat ks o.id o.n).2) (AF_ev rfl (up rfl tp)) (AF_ev rfl tp)) (by simp)) ?_
                refine RW.soft Wd.a (v := .bool true) (by exact E.pickT (AF_ev rfl (up rfl (up rfl (up rfl tp)))) (AF_ev rfl tp)) ?_
                refine RW.soft Wd.a (v := .bool true) (by exact E.assign (AF_ev rfl tp)) ?_
                refine RW.fin (fun τ => τ 0 = .pointer (some ⟨b, 0, none⟩) ∧ τ 1 = .pointer (some ⟨d, 0, none⟩) ∧ τ 2 = .agg (OpM.enc o).toArray ∧ τ 5 = .pointer (some ⟨b1, 0, none⟩) ∧ τ 6 = .bool true ∧ τ 23 = .pointer (some ⟨b13, 0, none⟩) ∧ τ 24 = .int .i64 ((kMat ks o.id o.n).2) ∧ τ 25 = .pointer (some ⟨b14, 0, none⟩) ∧ τ 26 = .int .i64 ((kMat ks o.id o.n).2) ∧ τ 29 = .int .i64 (kindF o.kd 8) ∧ τ 30 = .bool false ∧ τ 54 = .bool false ∧ τ 82 = .bool false ∧ τ 101 = .bool false ∧ τ 116 = .bool false ∧ τ 155 = .bool true) ⟨up rfl (up rfl (up rfl (up rfl (up rfl (up rfl (up rfl (up rfl (up rfl hs0)))))))), up rfl (up rfl (up rfl (up rfl (up rfl (up rfl (up rfl (up rfl (up rfl hs1)))))))), up rfl (up rfl (up rfl (up rfl (up rfl (up rfl (up rfl (up rfl (up rfl hs2)))))))), up rfl (up rfl (up rfl (up rfl (up rfl (up rfl (up rfl (up rfl (up rfl hs5)))))))), tp, up rfl (up rfl (up rfl (up rfl (up rfl (up rfl (up rfl (up rfl (up rfl hs23)))))))), up rfl (up rfl (up rfl (up rfl (up rfl (up rfl (up rfl (up rfl (up rfl hs24)))))))), up rfl (up rfl (up rfl (up rfl (up rfl (up rfl (up rfl (up rfl (up rfl hs25)))))))), up rfl (up rfl (up rfl (up rfl (up rfl (up rfl (up rfl (up rfl (up rfl hs26)))))))), up rfl (up rfl (up rfl (up rfl (up rfl (up rfl (up rfl (up rfl (up rfl hs29)))))))), up rfl (up rfl (up rfl (up rfl (up rfl (up rfl (up rfl (up rfl (up rfl hs30)))))))), up rfl (up rfl (up rfl (up rfl (up rfl (up rfl (up rfl (up rfl (up rfl hs54)))))))), up rfl (up rfl (up rfl (up rfl (up rfl (up rfl (up rfl (up rfl (up rfl hs82)))))))), up rfl (up rfl (up rfl (up rfl (up rfl (up rfl (up rfl (up rfl (up rfl hs101)))))))), up rfl (up rfl (up rfl (up rfl (up rfl (up rfl (up rfl (up rfl (up rfl hs116)))))))), up rfl (up rfl (up rfl (up rfl (up rfl (up rfl (up rfl (up rfl (up rfl hs155))))))))⟩ ?_
                rintro τ ⟨hs0, hs1, hs2, hs5, hs6, hs23, hs24, hs25, hs26, hs29, hs30, hs54, hs82, hs101, hs116, hs155⟩
                refine CW.ret ?_
                refine Bl.r ?_
                refine Th.r ?_
                refine ret1 (v := .bool true) rfl (by exact (.tmp (AF_ev rfl hs6) .nil)) ?_
                have hst := hst.take (.there .here)
                have hst := hst.take (.there (.there (.there .here)))
                have hst := (hst.take (.there (.there .here))).drop
                have hst := (hst.take (.there (.there .here))).drop
                have hst := (hst.take (.there (.there .here))).drop
                rw [show opStep ks o = ks from by unfold opStep; rw [if_neg (by omega), if_neg (by omega), if_neg (by omega), if_neg (by omega), if_neg (by omega)]]
                exact ⟨rfl, hst⟩
              · have hc12_ := hc12
                try simp only [decide_eq_true_eq, decide_eq_false_iff_not, Bool.and_eq_true, Bool.or_eq_true, Bool.and_eq_false_iff, Bool.or_eq_false_iff, Bool.not_eq_true', Bool.not_eq_false', beq_iff_eq, beq_eq_false_iff_ne, bne_iff_ne, bne_eq_false_iff_eq, ne_eq, Int.not_lt, Int.not_le, gt_iff_lt, ge_iff_le] at hc12_
                refine CW.skip ?_
                refine Bl.n ?_
                refine Th.n ?_
                refine CW.seq ?_
                refine CW.region ?_
                refine RW.soft Wd.a (v := .bool true) (by exact E.assign rfl) ?_
                refine RW.fin (fun τ => τ 0 = .pointer (some ⟨b, 0, none⟩) ∧ τ 1 = .pointer (some ⟨d, 0, none⟩) ∧ τ 2 = .agg (OpM.enc o).toArray ∧ τ 5 = .pointer (some ⟨b1, 0, none⟩) ∧ τ 6 = .bool true ∧ τ 29 = .int .i64 (kindF o.kd 8) ∧ τ 30 = .bool false ∧ τ 54 = .bool false ∧ τ 82 = .bool false ∧ τ 101 = .bool false ∧ τ 116 = .bool false ∧ τ 155 = .bool false) ⟨up rfl hs0, up rfl hs1, up rfl hs2, up rfl hs5, tp, up rfl hs29, up rfl hs30, up rfl hs54, up rfl hs82, up rfl hs101, up rfl hs116, up rfl (Eq.trans hs155 (congrArg Value.bool hc12))⟩ ?_
                rintro τ ⟨hs0, hs1, hs2, hs5, hs6, hs29, hs30, hs54, hs82, hs101, hs116, hs155⟩
                refine CW.ret ?_
                refine ret1 (v := .bool true) rfl (by exact (.tmp (AF_ev rfl hs6) .nil)) ?_
                have hst := hst.take (.there (.there .here))
                have hst := hst.take (.there (.there .here))
                have hst := (hst.take (.there (.there .here))).drop
                rw [show opStep ks o = ks from by unfold opStep; rw [if_neg (by omega), if_neg (by omega), if_neg (by omega), if_neg (by omega), if_neg (by omega)]]
                exact ⟨rfl, hst⟩
end Go.Proofs.Ytdlcjoonhojpfaa
