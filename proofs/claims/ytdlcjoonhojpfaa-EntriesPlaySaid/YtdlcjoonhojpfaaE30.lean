/- The calls of the package entries, walked through operation by operation. -/
import Derived.Test.YtdlcjoonhojpfaaE0
import Derived.Test.YtdlcjoonhojpfaaT1
import Derived.Test.YtdlcjoonhojpfaaE1
import Derived.Test.YtdlcjoonhojpfaaE2
import Derived.Test.YtdlcjoonhojpfaaE3
import Derived.Test.YtdlcjoonhojpfaaE4
import Derived.Test.YtdlcjoonhojpfaaE5
import Derived.Test.YtdlcjoonhojpfaaE6
import Derived.Test.YtdlcjoonhojpfaaE9
import Derived.Test.YtdlcjoonhojpfaaE10
import Derived.Test.YtdlcjoonhojpfaaE11
import Derived.Test.YtdlcjoonhojpfaaE14
import Derived.Test.YtdlcjoonhojpfaaE15
import Derived.Test.YtdlcjoonhojpfaaE16
import Derived.Test.YtdlcjoonhojpfaaE22
import Derived.Test.YtdlcjoonhojpfaaE23
import Derived.Test.YtdlcjoonhojpfaaE24
import Derived.Test.YtdlcjoonhojpfaaE25
import Derived.Test.YtdlcjoonhojpfaaE26
import Derived.Test.YtdlcjoonhojpfaaE27
import Derived.Test.YtdlcjoonhojpfaaE28
import Derived.Test.YtdlcjoonhojpfaaE29
namespace Go.Proofs.Ytdlcjoonhojpfaa
open Go.RowKit Go.SL Go.E17
attribute [local irreducible] Go.SL.RW Go.SL.CW Go.SL.RD Go.SL.Hd Go.SL.St
set_option linter.unusedVariables false
set_option linter.unusedSimpArgs false

theorem nm53 : (Try.f53.name == "runtime.NumGoroutine") = false := by kernel_rfl
theorem nm80 : (Try.f80.name == "runtime.NumGoroutine") = false := by kernel_rfl
theorem nm81 : (Try.f81.name == "runtime.NumGoroutine") = false := by kernel_rfl
theorem nm82 : (Try.f82.name == "runtime.NumGoroutine") = false := by kernel_rfl
theorem nm83 : (Try.f83.name == "runtime.NumGoroutine") = false := by kernel_rfl

set_option maxHeartbeats 2000000 in
theorem ent_does {p : Pers} {w : World} {R : List Assn} {p0 : Pers} {bg br : Nat} {i t : Int} {es ys z : List Ent} {Z : Option Addr} {d : Nat} (hp0 : p0.le p) (kd ix tm : Int) (hkd : -9223372036854775808 ≤ kd ∧ kd ≤ 9223372036854775807) (hix : -9223372036854775808 ≤ ix ∧ ix ≤ 9223372036854775807) (hv : vs es = vs ys) (hes : es.length ≤ 900000) (hzm : z.length ≤ 9223372036854775807) (hL2 : Las p 4 (.slice Z z.length d) z.length (flat z)) (hEL2 : EsLas p z) (hst : St p w (LogB p bg i t es :: RefB p br i t ys :: R)) :
    Calls Try.prog 55 #[.pointer (some ⟨bg, 0, none⟩), .pointer (some ⟨br, 0, none⟩), .agg #[.int .i64 kd, .int .i64 ix, .int .i64 tm, .slice Z z.length d]] w fun e w => ∃ q i2 t2 es2 ys2, p0.le q ∧ vs es2 = vs ys2 ∧ es2.length ≤ es.length + 20 ∧ e = .returned (.bool true) ∧ St q w (LogB q bg i2 t2 es2 :: RefB q br i2 t2 ys2 :: R) := by
  refine enter Try.func55 rfl (by simp) (n := 119) rfl fun τ hτ => ?_
  have hs0 : τ 0 = .pointer (some ⟨bg, 0, none⟩) := hτ 0 (by simp)
  have hs1 : τ 1 = .pointer (some ⟨br, 0, none⟩) := hτ 1 (by simp)
  have hs2 : τ 2 = .agg #[.int .i64 kd, .int .i64 ix, .int .i64 tm, .slice Z z.length d] := hτ 2 (by simp)
  clear hτ
  refine CW.seq ?_
  have hlen := vs_len hv
  have hT := ts_eq hv
  refine CW.region ?_
  refine RW.hard Wd.a ?_
  refine H.box (v := .agg #[.int .i64 kd, .int .i64 ix, .int .i64 tm, .slice Z z.length d]) (AF_ev rfl hs2) hst fun b1 w hst => ?_
  refine RW.soft Wd.a (v := .bool false) (by exact E.assign rfl) ?_
  refine RW.fin (fun τ => τ 0 = .pointer (some ⟨bg, 0, none⟩) ∧ τ 1 = .pointer (some ⟨br, 0, none⟩) ∧ τ 2 = .agg #[.int .i64 kd, .int .i64 ix, .int .i64 tm, .slice Z z.length d] ∧ τ 5 = .pointer (some ⟨b1, 0, none⟩) ∧ τ 6 = .bool false) ⟨up rfl (up rfl hs0), up rfl (up rfl hs1), up rfl (up rfl hs2), up rfl tp, tp⟩ ?_
  rintro τ ⟨hs0, hs1, hs2, hs5, hs6⟩
  refine CW.seq ?_
  refine CW.region ?_
  refine RW.soft Wd.a (v := .pointer (some ⟨b1, 3, none⟩)) (by exact E.fieldAddr (b := b1) (o := 0) (f := { name := "L", type := 44, offset := 3, embedded := false, tag := "", pkgPath := "", byteOffset := 24 }) (AF_ev rfl hs5) Try.underlying46 rfl sz44 rfl) ?_
  refine RW.soft Wd.a (v := .slice Z z.length d) (by exact E.load (a := ⟨b1, 3, none⟩) Try.underlying44 rfl (AF_ev rfl tp) (hst.cell .here rfl)) ?_
  have hst := hst.emp
  refine RW.hard Wd.a ?_
  refine H.call0 Try.func27 nm27 rfl (map1 (AF_ev rfl tp)) (Calls.mono (ent_few2 (Las.tells hL2) hEL2 (by omega) p.le_refl hst) ?_)
  rintro _ w ⟨p, vX2, es4, hle, rfl, hokes4, hl20es4, hfwes4, hst⟩
  obtain ⟨X2, c3, rfl, hcX2, hmX2, hlX2, hbX2⟩ := hst.shape
  have hp0 := hp0.le hle
  have hL2 := hL2.le hle
  have hEL2 := hEL2.le hle
  have hst := logLe hle (hst.take (.there (.there (.there .here))))
  have hst := refLe hle (hst.take (.there (.there (.there (.there .here)))))
  refine ⟨_, rfl, ?_⟩
  show RW _ _ _ _ _ _ _
  refine RW.soft Wd.a (v := .slice X2 es4.length c3) (by exact E.assign (AF_ev rfl tp)) ?_
  refine RW.fin (fun τ => τ 0 = .pointer (some ⟨bg, 0, none⟩) ∧ τ 1 = .pointer (some ⟨br, 0, none⟩) ∧ τ 2 = .agg #[.int .i64 kd, .int .i64 ix, .int .i64 tm, .slice Z z.length d] ∧ τ 5 = .pointer (some ⟨b1, 0, none⟩) ∧ τ 6 = .bool false ∧ τ 7 = .slice X2 es4.length c3) ⟨up rfl (up rfl (up rfl (up rfl hs0))), up rfl (up rfl (up rfl (up rfl hs1))), up rfl (up rfl (up rfl (up rfl hs2))), up rfl (up rfl (up rfl (up rfl hs5))), up rfl (up rfl (up rfl (up rfl hs6))), tp⟩ ?_
  rintro τ ⟨hs0, hs1, hs2, hs5, hs6, hs7⟩
  refine CW.seq ?_
  refine CW.region ?_
  refine RW.soft Wd.a (v := .pointer (some ⟨b1, 1, none⟩)) (by exact E.fieldAddr (b := b1) (o := 0) (f := { name := "Index", type := 3, offset := 1, embedded := false, tag := "", pkgPath := "", byteOffset := 8 }) (AF_ev rfl hs5) Try.underlying46 rfl sz3 rfl) ?_
  refine RW.soft Wd.a (v := .int .i64 ix) (by exact E.load (a := ⟨b1, 1, none⟩) Try.underlying3 rfl (AF_ev rfl tp) (hst.cell (.there (.there (.there (.there .here)))) rfl)) ?_
  obtain ⟨kk5, hkk5⟩ : ∃ z, z = nearF ix := ⟨_, rfl⟩
  have hrkk5 := nearF_range ix
  rw [← hkk5] at hrkk5
  refine RW.hard Wd.a ?_
  refine H.call0 Try.func26 nm26 rfl (map1 (AF_ev rfl tp)) (Calls.mono (near17C (v := kk5) ix (by omega) hkk5.symm hst) ?_)
  rintro _ w ⟨rfl, hst⟩
  refine ⟨_, rfl, ?_⟩
  show RW _ _ _ _ _ _ _
  refine RW.soft Wd.a (v := .int .i64 kk5) (by exact E.assign (AF_ev rfl tp)) ?_
  refine RW.fin (fun τ => τ 0 = .pointer (some ⟨bg, 0, none⟩) ∧ τ 1 = .pointer (some ⟨br, 0, none⟩) ∧ τ 2 = .agg #[.int .i64 kd, .int .i64 ix, .int .i64 tm, .slice Z z.length d] ∧ τ 5 = .pointer (some ⟨b1, 0, none⟩) ∧ τ 6 = .bool false ∧ τ 7 = .slice X2 es4.length c3 ∧ τ 8 = .int .i64 kk5) ⟨up rfl (up rfl (up rfl (up rfl hs0))), up rfl (up rfl (up rfl (up rfl hs1))), up rfl (up rfl (up rfl (up rfl hs2))), up rfl (up rfl (up rfl (up rfl hs5))), up rfl (up rfl (up rfl (up rfl hs6))), up rfl (up rfl (up rfl (up rfl hs7))), tp⟩ ?_
  rintro τ ⟨hs0, hs1, hs2, hs5, hs6, hs7, hs8⟩
  refine CW.seq ?_
  refine CW.seq ?_
  refine CW.region ?_
  refine RW.soft Wd.a (v := .pointer (some ⟨b1, 0, none⟩)) (by exact E.fieldAddr (b := b1) (o := 0) (f := { name := "Kind", type := 3, offset := 0, embedded := false, tag := "", pkgPath := "", byteOffset := 0 }) (AF_ev rfl hs5) Try.underlying46 rfl sz3 rfl) ?_
  refine RW.soft Wd.a (v := .int .i64 kd) (by exact E.load (a := ⟨b1, 0, none⟩) Try.underlying3 rfl (AF_ev rfl tp) (hst.cell (.there (.there (.there (.there .here)))) rfl)) ?_
  refine RW.hard Wd.a ?_
  refine H.call0 Try.func52 nm52 rfl (map2 (AF_ev rfl tp) rfl) (Calls.mono (kind17 kd 8 (by omega) (by omega) hst) ?_)
  rintro _ w ⟨rfl, hst⟩
  refine ⟨_, rfl, ?_⟩
  show RW _ _ _ _ _ _ _
  refine RW.fin (fun τ => τ 0 = .pointer (some ⟨bg, 0, none⟩) ∧ τ 1 = .pointer (some ⟨br, 0, none⟩) ∧ τ 2 = .agg #[.int .i64 kd, .int .i64 ix, .int .i64 tm, .slice Z z.length d] ∧ τ 5 = .pointer (some ⟨b1, 0, none⟩) ∧ τ 6 = .bool false ∧ τ 7 = .slice X2 es4.length c3 ∧ τ 8 = .int .i64 kk5 ∧ τ 24 = .int .i64 (kindF kd 8)) ⟨up rfl (up rfl (up rfl hs0)), up rfl (up rfl (up rfl hs1)), up rfl (up rfl (up rfl hs2)), up rfl (up rfl (up rfl hs5)), up rfl (up rfl (up rfl hs6)), up rfl (up rfl (up rfl hs7)), up rfl (up rfl (up rfl hs8)), tp⟩ ?_
  rintro τ ⟨hs0, hs1, hs2, hs5, hs6, hs7, hs8, hs24⟩
  refine CW.block ?_
  refine CW.seq ?_
  refine CW.seq ?_
  refine CW.region ?_
  refine RW.soft Wd.a (v := .bool ((kindF kd 8) == 0)) (by exact E.eql (k := .i64) (a := kindF kd 8) (b := 0) (AF_ev rfl hs24) rfl) ?_
  refine RW.soft Wd.a (v := .bool ((kindF kd 8) == 0)) (by exact E.assign (AF_ev rfl tp)) ?_
  refine RW.fin (fun τ => τ 0 = .pointer (some ⟨bg, 0, none⟩) ∧ τ 1 = .pointer (some ⟨br, 0, none⟩) ∧ τ 2 = .agg #[.int .i64 kd, .int .i64 ix, .int .i64 tm, .slice Z z.length d] ∧ τ 5 = .pointer (some ⟨b1, 0, none⟩) ∧ τ 6 = .bool false ∧ τ 7 = .slice X2 es4.length c3 ∧ τ 8 = .int .i64 kk5 ∧ τ 24 = .int .i64 (kindF kd 8) ∧ τ 25 = .bool ((kindF kd 8) == 0)) ⟨up rfl (up rfl hs0), up rfl (up rfl hs1), up rfl (up rfl hs2), up rfl (up rfl hs5), up rfl (up rfl hs6), up rfl (up rfl hs7), up rfl (up rfl hs8), up rfl (up rfl hs24), tp⟩ ?_
  rintro τ ⟨hs0, hs1, hs2, hs5, hs6, hs7, hs8, hs24, hs25⟩
  refine CW.cond (AF_ev rfl hs25) (fun hc6 => ?_) (fun hc6 => ?_)
  · have hc6_ := hc6
    try simp only [decide_eq_true_eq, decide_eq_false_iff_not, Bool.and_eq_true, Bool.or_eq_true, Bool.and_eq_false_iff, Bool.or_eq_false_iff, Bool.not_eq_true', Bool.not_eq_false', beq_iff_eq, beq_eq_false_iff_ne, bne_iff_ne, bne_eq_false_iff_eq, ne_eq, Int.not_lt, Int.not_le, gt_iff_lt, ge_iff_le] at hc6_
    refine CW.skip ?_
    refine Th.n ?_
    refine CW.condT (AF_ev rfl (Eq.trans hs25 (congrArg Value.bool hc6))) ?_
    refine CW.seq ?_
    refine CW.region ?_
    refine RW.soft Wd.a (v := .slice X2 es4.length c3) (by exact E.move (AF_ev rfl hs7)) ?_
    refine RW.soft Wd.a (v := .int .i64 ((es4.length : Nat) : Int)) (by exact E.lenS (p := X2) (l := es4.length) (c := c3) Try.underlying44 (AF_ev rfl tp)) ?_
    refine RW.soft Wd.a (v := .bool (decide (((es4.length : Nat) : Int) > 0))) (by exact E.gtr (k := .i64) (a := ((es4.length : Nat) : Int)) (b := 0) (AF_ev rfl tp) rfl) ?_
    refine RW.fin (fun τ => τ 0 = .pointer (some ⟨bg, 0, none⟩) ∧ τ 1 = .pointer (some ⟨br, 0, none⟩) ∧ τ 2 = .agg #[.int .i64 kd, .int .i64 ix, .int .i64 tm, .slice Z z.length d] ∧ τ 5 = .pointer (some ⟨b1, 0, none⟩) ∧ τ 6 = .bool false ∧ τ 7 = .slice X2 es4.length c3 ∧ τ 8 = .int .i64 kk5 ∧ τ 24 = .int .i64 (kindF kd 8) ∧ τ 25 = .bool true ∧ τ 30 = .bool (decide (((es4.length : Nat) : Int) > 0))) ⟨up rfl (up rfl (up rfl hs0)), up rfl (up rfl (up rfl hs1)), up rfl (up rfl (up rfl hs2)), up rfl (up rfl (up rfl hs5)), up rfl (up rfl (up rfl hs6)), up rfl (up rfl (up rfl hs7)), up rfl (up rfl (up rfl hs8)), up rfl (up rfl (up rfl hs24)), up rfl (up rfl (up rfl (Eq.trans hs25 (congrArg Value.bool hc6)))), tp⟩ ?_
    rintro τ ⟨hs0, hs1, hs2, hs5, hs6, hs7, hs8, hs24, hs25, hs30⟩
    refine CW.cond (AF_ev rfl hs30) (fun hc7 => ?_) (fun hc7 => ?_)
    · have hc7_ := hc7
      try simp only [decide_eq_true_eq, decide_eq_false_iff_not, Bool.and_eq_true, Bool.or_eq_true, Bool.and_eq_false_iff, Bool.or_eq_false_iff, Bool.not_eq_true', Bool.not_eq_false', beq_iff_eq, beq_eq_false_iff_ne, bne_iff_ne, bne_eq_false_iff_eq, ne_eq, Int.not_lt, Int.not_le, gt_iff_lt, ge_iff_le] at hc7_
      refine CW.seq ?_
      obtain ⟨g3, rfl⟩ := hbX2 (by omega)
      obtain ⟨x, hx⟩ : ∃ x, es4[0]? = some x := ⟨es4[0]'(by omega), List.getElem?_eq_getElem (by omega)⟩
      refine CW.regionD [0, 1, 2, 3, 5, 6, 7] (fun w => (∀ j_ v_, (x.enc : List Value)[j_]? = some v_ → w.cell? ⟨g3, 0 + j_, none⟩ = some v_) ∧ w.cell? ⟨b1, 3, none⟩ = some (.slice Z z.length d)) mixed ?_
      have hst := hst.drew
      generalize w.drew = w at hst ⊢
      have hS : (∀ j_ v_, (x.enc : List Value)[j_]? = some v_ → w.cell? ⟨g3, 0 + j_, none⟩ = some v_) ∧ w.cell? ⟨b1, 3, none⟩ = some (.slice Z z.length d) := ⟨(fun j_ u hu => by rw [Nat.zero_add]; exact hst.ocell (.there (.there .here)) (by have q := flat_get (sz := 4) Ent.enc_len hx hu; rwa [Nat.zero_mul, Nat.zero_add] at q)), hst.cell (.there (.there (.there (.there .here)))) rfl⟩
      refine RD.take 0 rfl (by kernel_rfl) Wd.a (v := .pointer (some ⟨bg, 0, none⟩)) (fun w hS => by exact E.move (AF_ev rfl hs0)) hS ?_
      refine RD.take 1 rfl (by kernel_rfl) Wd.a (v := .slice (some ⟨g3, 0, none⟩) es4.length c3) (fun w hS => by exact E.move (AF_ev rfl (up rfl hs7))) hS ?_
      refine RD.take 2 rfl (by kernel_rfl) Wd.a (v := .pointer (some ⟨g3, 0, none⟩)) (fun w hS => by exact E.indexAddr (b := g3) (o := 0) (l := es4.length) (c := c3) (i := 0) Try.underlying44 sz58 (AF_ev rfl tp) rfl (by omega) (by omega) (by simp)) hS ?_
      refine RD.take 3 rfl (by kernel_rfl) Wd.a (v := .agg #[.int .i64 x.term, .int .i64 x.kind, .slice x.X x.ns.length x.xc, .slice x.Y x.ms.length x.yc]) (fun w hS => by exact E.loadN (cs := x.enc) Try.underlying58 rfl sz58 (AF_ev rfl tp) rfl hS.1) hS ?_
      refine RD.take 5 rfl (by kernel_rfl) Wd.a (v := .pointer (some ⟨br, 0, none⟩)) (fun w hS => by exact E.move (AF_ev rfl (up rfl (up rfl (up rfl (up rfl hs1)))))) hS ?_
      refine RD.take 6 rfl (by kernel_rfl) Wd.a (v := .pointer (some ⟨b1, 3, none⟩)) (fun w hS => by exact E.fieldAddr (b := b1) (o := 0) (f := { name := "L", type := 44, offset := 3, embedded := false, tag := "", pkgPath := "", byteOffset := 24 }) (AF_ev rfl (up rfl (up rfl (up rfl (up rfl (up rfl hs5)))))) Try.underlying46 rfl sz44 rfl) hS ?_
      refine RD.take 7 rfl (by kernel_rfl) Wd.a (v := .slice Z z.length d) (fun w hS => by exact E.load (a := ⟨b1, 3, none⟩) Try.underlying44 rfl (AF_ev rfl tp) hS.2) hS ?_
      refine RD.only 4 rfl (by kernel_rfl) Wd.a ?_
      have hst := hst.take (.there .here)
      refine H.call0 Try.func53 nm53 rfl (map2 (AF_ev rfl (up rfl (up rfl (up rfl (up rfl (up rfl (up rfl tp))))))) (AF_ev rfl (up rfl (up rfl (up rfl tp))))) (Calls.mono (ent_Append (hokes4 x (List.mem_of_getElem? hx)) (by omega) hst) ?_)
      rintro _ w ⟨p, y, hle, hvy, hoky, rfl, hst⟩
      have hp0 := hp0.le hle
      have hL2 := hL2.le hle
      have hEL2 := hEL2.le hle
      have hokes4 := hokes4.le hle
      have hst := refLe hle (hst.take (.there .here))
      refine ⟨_, rfl, ?_⟩
      have hS : (∀ j_ v_, (x.enc : List Value)[j_]? = some v_ → w.cell? ⟨g3, 0 + j_, none⟩ = some v_) ∧ w.cell? ⟨b1, 3, none⟩ = some (.slice Z z.length d) := ⟨(fun j_ u hu => by rw [Nat.zero_add]; exact hst.ocell (.there (.there .here)) (by have q := flat_get (sz := 4) Ent.enc_len hx hu; rwa [Nat.zero_mul, Nat.zero_add] at q)), hst.cell (.there (.there (.there (.there .here)))) rfl⟩
      refine ⟨fun _ => hS, ?_⟩
      refine RD.only 8 rfl (by kernel_rfl) Wd.a ?_
      have hst := hst.emp
      refine H.call0 Try.func27 nm27 rfl (map1 (AF_ev rfl (up rfl tp))) (Calls.mono (ent_few2 (Las.tells hL2) hEL2 (by omega) p.le_refl hst) ?_)
      rintro _ w ⟨p, vX8, es10, hle, rfl, hokes10, hl20es10, hfwes10, hst⟩
      obtain ⟨X8, c9, rfl, hcX8, hmX8, hlX8, hbX8⟩ := hst.shape
      have hp0 := hp0.le hle
      have hL2 := hL2.le hle
      have hEL2 := hEL2.le hle
      have hokes4 := hokes4.le hle
      have hlz := vs_len (hfwes10.trans hfwes4.symm)
      obtain ⟨g4, rfl⟩ := hbX8 (by omega)
      obtain ⟨x2, hx2⟩ : ∃ x2, es10[0]? = some x2 := ⟨es10[0]'(by omega), List.getElem?_eq_getElem (by omega)⟩
      have hxx : x.view = x2.view := by
        have h1 : (vs es4)[0]? = some x.view := by simp [vs, hx]
        rw [hfwes4, ← hfwes10] at h1; simp only [vs, List.getElem?_map, hx2, Option.map_some, Option.some.injEq] at h1; exact h1.symm
      have hst := refLe hle (hst.take (.there (.there .here)))
      have hst := logLe hle (hst.take (.there (.there (.there .here))))
      refine ⟨_, rfl, ?_⟩
      have hS : (∀ j_ v_, (x.enc : List Value)[j_]? = some v_ → w.cell? ⟨g3, 0 + j_, none⟩ = some v_) ∧ w.cell? ⟨b1, 3, none⟩ = some (.slice Z z.length d) := ⟨(fun j_ u hu => by rw [Nat.zero_add]; exact hst.ocell (.there (.there (.there (.there .here)))) (by have q := flat_get (sz := 4) Ent.enc_len hx hu; rwa [Nat.zero_mul, Nat.zero_add] at q)), hst.cell (.there (.there (.there (.there (.there (.there .here)))))) rfl⟩
      refine ⟨fun _ => hS, ?_⟩
      refine RD.only 9 rfl (by kernel_rfl) Wd.a (Hd.value (v := .pointer (some ⟨g4, 0, none⟩)) (by exact E.indexAddr (b := g4) (o := 0) (l := es10.length) (c := c9) (i := 0) Try.underlying44 sz58 (AF_ev rfl tp) rfl (by omega) (by omega) (by simp)) ⟨fun _ => hS, ?_⟩)
      refine RD.only 10 rfl (by kernel_rfl) Wd.a (Hd.value (v := .agg #[.int .i64 x2.term, .int .i64 x2.kind, .slice x2.X x2.ns.length x2.xc, .slice x2.Y x2.ms.length x2.yc]) (by exact E.loadN (cs := x2.enc) Try.underlying58 rfl sz58 (AF_ev rfl tp) rfl (fun j_ u hu => by rw [Nat.zero_add]; exact hst.ocell (.there (.there .here)) (by have q := flat_get (sz := 4) Ent.enc_len hx2 hu; rwa [Nat.zero_mul, Nat.zero_add] at q))) ⟨fun _ => hS, ?_⟩)
      refine RD.only 11 rfl (by kernel_rfl) Wd.a ?_
      have hst := hst.take (.there .here)
      refine H.call0 Try.func80 nm80 rfl (map2 (AF_ev rfl (up rfl (up rfl (up rfl (up rfl (up rfl (up rfl tp))))))) (AF_ev rfl tp)) (Calls.mono (ref_Append (hokes10 x2 (List.mem_of_getElem? hx2)) (by omega) hst) ?_)
      rintro _ w ⟨rfl, hst⟩
      refine ⟨_, rfl, ?_⟩
      have hS : (∀ j_ v_, (x.enc : List Value)[j_]? = some v_ → w.cell? ⟨g3, 0 + j_, none⟩ = some v_) ∧ w.cell? ⟨b1, 3, none⟩ = some (.slice Z z.length d) := ⟨(fun j_ u hu => by rw [Nat.zero_add]; exact hst.ocell (.there (.there (.there (.there .here)))) (by have q := flat_get (sz := 4) Ent.enc_len hx hu; rwa [Nat.zero_mul, Nat.zero_add] at q)), hst.cell (.there (.there (.there (.there (.there (.there .here)))))) rfl⟩
      refine ⟨fun _ => hS, ?_⟩
      refine RD.only 12 rfl (by kernel_rfl) Wd.a (Hd.value (v := .bool true) (by exact E.b (a := (i + (((es ++ [y]).length : Nat) : Int)) == (i + (((ys ++ [x2]).length : Nat) : Int))) (E.eql (k := .i64) (a := i + (((es ++ [y]).length : Nat) : Int)) (b := i + (((ys ++ [x2]).length : Nat) : Int)) (AF_ev rfl (up rfl (up rfl (up rfl (up rfl tp))))) (AF_ev rfl tp)) (by rw [beq_iff_eq]; simp only [List.length_append, List.length_cons, List.length_nil]; omega)) ⟨fun _ => hS, ?_⟩)
      refine RD.only 13 rfl (by kernel_rfl) Wd.a (Hd.value (v := .bool true) (by exact E.assign (AF_ev rfl tp)) ⟨fun h => Bool.noConfusion ((show needs _ _ _ = false by kernel_rfl).symm.trans h), ?_⟩)
      refine RD.fin (by kernel_rfl) (fun τ => τ 0 = .pointer (some ⟨bg, 0, none⟩) ∧ τ 1 = .pointer (some ⟨br, 0, none⟩) ∧ τ 2 = .agg #[.int .i64 kd, .int .i64 ix, .int .i64 tm, .slice Z z.length d] ∧ τ 5 = .pointer (some ⟨b1, 0, none⟩) ∧ τ 6 = .bool true ∧ τ 7 = .slice (some ⟨g3, 0, none⟩) es4.length c3 ∧ τ 8 = .int .i64 kk5 ∧ τ 24 = .int .i64 (kindF kd 8) ∧ τ 25 = .bool true ∧ τ 30 = .bool true) ⟨up rfl (up rfl (up rfl (up rfl (up rfl (up rfl (up rfl (up rfl (up rfl (up rfl (up rfl (up rfl (up rfl (up rfl hs0))))))))))))), up rfl (up rfl (up rfl (up rfl (up rfl (up rfl (up rfl (up rfl (up rfl (up rfl (up rfl (up rfl (up rfl (up rfl hs1))))))))))))), up rfl (up rfl (up rfl (up rfl (up rfl (up rfl (up rfl (up rfl (up rfl (up rfl (up rfl (up rfl (up rfl (up rfl hs2))))))))))))), up rfl (up rfl (up rfl (up rfl (up rfl (up rfl (up rfl (up rfl (up rfl (up rfl (up rfl (up rfl (up rfl (up rfl hs5))))))))))))), tp, up rfl (up rfl (up rfl (up rfl (up rfl (up rfl (up rfl (up rfl (up rfl (up rfl (up rfl (up rfl (up rfl (up rfl hs7))))))))))))), up rfl (up rfl (up rfl (up rfl (up rfl (up rfl (up rfl (up rfl (up rfl (up rfl (up rfl (up rfl (up rfl (up rfl hs8))))))))))))), up rfl (up rfl (up rfl (up rfl (up rfl (up rfl (up rfl (up rfl (up rfl (up rfl (up rfl (up rfl (up rfl (up rfl hs24))))))))))))), up rfl (up rfl (up rfl (up rfl (up rfl (up rfl (up rfl (up rfl (up rfl (up rfl (up rfl (up rfl (up rfl (up rfl hs25))))))))))))), up rfl (up rfl (up rfl (up rfl (up rfl (up rfl (up rfl (up rfl (up rfl (up rfl (up rfl (up rfl (up rfl (up rfl (Eq.trans hs30 (congrArg Value.bool hc7)))))))))))))))⟩ ?_
      rintro τ ⟨hs0, hs1, hs2, hs5, hs6, hs7, hs8, hs24, hs25, hs30⟩
      refine CW.ret ?_
      refine Bl.r ?_
      refine Th.r ?_
      refine ret1 (v := .bool true) rfl (by exact (.tmp (AF_ev rfl hs6) .nil)) ?_
      have hst := hst.take (.there .here)
      have hst := (hst.take (.there (.there .here))).drop
      have hst := (hst.take (.there (.there .here))).drop
      have hst := (hst.take (.there (.there .here))).drop
      have hst := (hst.take (.there (.there .here))).drop
      have hst := (hst.take (.there (.there .here))).drop
      exact ⟨p, _, _, _, _, hp0, (by simp only [vs, List.map_append, List.map_cons, List.map_nil] at hv ⊢; rw [hv, hvy, hxx]), (by simp only [List.length_append, List.length_cons, List.length_nil]; omega), rfl, hst⟩
    · have hc7_ := hc7
      try simp only [decide_eq_true_eq, decide_eq_false_iff_not, Bool.and_eq_true, Bool.or_eq_true, Bool.and_eq_false_iff, Bool.or_eq_false_iff, Bool.not_eq_true', Bool.not_eq_false', beq_iff_eq, beq_eq_false_iff_ne, bne_iff_ne, bne_eq_false_iff_eq, ne_eq, Int.not_lt, Int.not_le, gt_iff_lt, ge_iff_le] at hc7_
      refine CW.skip ?_
      refine Bl.n ?_
      refine Th.n ?_
      refine CW.seq ?_
      refine CW.region ?_
      refine RW.soft Wd.a (v := .bool true) (by exact E.assign rfl) ?_
      refine RW.fin (fun τ => τ 0 = .pointer (some ⟨bg, 0, none⟩) ∧ τ 1 = .pointer (some ⟨br, 0, none⟩) ∧ τ 2 = .agg #[.int .i64 kd, .int .i64 ix, .int .i64 tm, .slice Z z.length d] ∧ τ 5 = .pointer (some ⟨b1, 0, none⟩) ∧ τ 6 = .bool true ∧ τ 7 = .slice X2 es4.length c3 ∧ τ 8 = .int .i64 kk5 ∧ τ 24 = .int .i64 (kindF kd 8) ∧ τ 25 = .bool true ∧ τ 30 = .bool false) ⟨up rfl hs0, up rfl hs1, up rfl hs2, up rfl hs5, tp, up rfl hs7, up rfl hs8, up rfl hs24, up rfl hs25, up rfl (Eq.trans hs30 (congrArg Value.bool hc7))⟩ ?_
      rintro τ ⟨hs0, hs1, hs2, hs5, hs6, hs7, hs8, hs24, hs25, hs30⟩
      refine CW.ret ?_
      refine ret1 (v := .bool true) rfl (by exact (.tmp (AF_ev rfl hs6) .nil)) ?_
      have hst := hst.take (.there .here)
      have hst := (hst.take (.there (.there .here))).drop
      have hst := (hst.take (.there (.there .here))).drop
      have hst := (hst.take (.there (.there .here))).drop
      exact ⟨p, _, _, _, _, hp0, hv, (by omega), rfl, hst⟩
  · have hc6_ := hc6
    try simp only [decide_eq_true_eq, decide_eq_false_iff_not, Bool.and_eq_true, Bool.or_eq_true, Bool.and_eq_false_iff, Bool.or_eq_false_iff, Bool.not_eq_true', Bool.not_eq_false', beq_iff_eq, beq_eq_false_iff_ne, bne_iff_ne, bne_eq_false_iff_eq, ne_eq, Int.not_lt, Int.not_le, gt_iff_lt, ge_iff_le] at hc6_
    refine CW.region ?_
    refine RW.soft Wd.a (v := .bool ((kindF kd 8) == 1)) (by exact E.eql (k := .i64) (a := kindF kd 8) (b := 1) (AF_ev rfl hs24) rfl) ?_
    refine RW.soft Wd.a (v := .bool ((kindF kd 8) == 1)) (by exact E.assign (AF_ev rfl tp)) ?_
    refine RW.fin (fun τ => τ 0 = .pointer (some ⟨bg, 0, none⟩) ∧ τ 1 = .pointer (some ⟨br, 0, none⟩) ∧ τ 2 = .agg #[.int .i64 kd, .int .i64 ix, .int .i64 tm, .slice Z z.length d] ∧ τ 5 = .pointer (some ⟨b1, 0, none⟩) ∧ τ 6 = .bool false ∧ τ 7 = .slice X2 es4.length c3 ∧ τ 8 = .int .i64 kk5 ∧ τ 24 = .int .i64 (kindF kd 8) ∧ τ 25 = .bool ((kindF kd 8) == 1)) ⟨up rfl (up rfl hs0), up rfl (up rfl hs1), up rfl (up rfl hs2), up rfl (up rfl hs5), up rfl (up rfl hs6), up rfl (up rfl hs7), up rfl (up rfl hs8), up rfl (up rfl hs24), tp⟩ ?_
    rintro τ ⟨hs0, hs1, hs2, hs5, hs6, hs7, hs8, hs24, hs25⟩
    refine CW.cond (AF_ev rfl hs25) (fun hc11 => ?_) (fun hc11 => ?_)
    · have hc11_ := hc11
      try simp only [decide_eq_true_eq, decide_eq_false_iff_not, Bool.and_eq_true, Bool.or_eq_true, Bool.and_eq_false_iff, Bool.or_eq_false_iff, Bool.not_eq_true', Bool.not_eq_false', beq_iff_eq, beq_eq_false_iff_ne, bne_iff_ne, bne_eq_false_iff_eq, ne_eq, Int.not_lt, Int.not_le, gt_iff_lt, ge_iff_le] at hc11_
      refine CW.seq ?_
      refine CW.region ?_
      refine RW.soft Wd.a (v := .slice X2 es4.length c3) (by exact E.move (AF_ev rfl hs7)) ?_
      refine RW.soft Wd.a (v := .int .i64 ((es4.length : Nat) : Int)) (by exact E.lenS (p := X2) (l := es4.length) (c := c3) Try.underlying44 (AF_ev rfl tp)) ?_
      refine RW.soft Wd.a (v := .bool (decide (((es4.length : Nat) : Int) > 0))) (by exact E.gtr (k := .i64) (a := ((es4.length : Nat) : Int)) (b := 0) (AF_ev rfl tp) rfl) ?_
      refine RW.fin (fun τ => τ 0 = .pointer (some ⟨bg, 0, none⟩) ∧ τ 1 = .pointer (some ⟨br, 0, none⟩) ∧ τ 2 = .agg #[.int .i64 kd, .int .i64 ix, .int .i64 tm, .slice Z z.length d] ∧ τ 5 = .pointer (some ⟨b1, 0, none⟩) ∧ τ 6 = .bool false ∧ τ 7 = .slice X2 es4.length c3 ∧ τ 8 = .int .i64 kk5 ∧ τ 24 = .int .i64 (kindF kd 8) ∧ τ 25 = .bool true ∧ τ 30 = .bool (decide (((es4.length : Nat) : Int) > 0))) ⟨up rfl (up rfl (up rfl hs0)), up rfl (up rfl (up rfl hs1)), up rfl (up rfl (up rfl hs2)), up rfl (up rfl (up rfl hs5)), up rfl (up rfl (up rfl hs6)), up rfl (up rfl (up rfl hs7)), up rfl (up rfl (up rfl hs8)), up rfl (up rfl (up rfl hs24)), up rfl (up rfl (up rfl (Eq.trans hs25 (congrArg Value.bool hc11)))), tp⟩ ?_
      rintro τ ⟨hs0, hs1, hs2, hs5, hs6, hs7, hs8, hs24, hs25, hs30⟩
      refine CW.cond (AF_ev rfl hs30) (fun hc12 => ?_) (fun hc12 => ?_)
      · have hc12_ := hc12
        try simp only [decide_eq_true_eq, decide_eq_false_iff_not, Bool.and_eq_true, Bool.or_eq_true, Bool.and_eq_false_iff, Bool.or_eq_false_iff, Bool.not_eq_true', Bool.not_eq_false', beq_iff_eq, beq_eq_false_iff_ne, bne_iff_ne, bne_eq_false_iff_eq, ne_eq, Int.not_lt, Int.not_le, gt_iff_lt, ge_iff_le] at hc12_
        refine CW.seq ?_
        obtain ⟨g3, rfl⟩ := hbX2 (by omega)
        obtain ⟨x, hx⟩ : ∃ x, es4[0]? = some x := ⟨es4[0]'(by omega), List.getElem?_eq_getElem (by omega)⟩
        refine CW.regionD [0, 1, 2, 3, 5, 6, 7] (fun w => (∀ j_ v_, (x.enc : List Value)[j_]? = some v_ → w.cell? ⟨g3, 0 + j_, none⟩ = some v_) ∧ w.cell? ⟨b1, 3, none⟩ = some (.slice Z z.length d)) mixed ?_
        have hst := hst.drew
        generalize w.drew = w at hst ⊢
        have hS : (∀ j_ v_, (x.enc : List Value)[j_]? = some v_ → w.cell? ⟨g3, 0 + j_, none⟩ = some v_) ∧ w.cell? ⟨b1, 3, none⟩ = some (.slice Z z.length d) := ⟨(fun j_ u hu => by rw [Nat.zero_add]; exact hst.ocell (.there (.there .here)) (by have q := flat_get (sz := 4) Ent.enc_len hx hu; rwa [Nat.zero_mul, Nat.zero_add] at q)), hst.cell (.there (.there (.there (.there .here)))) rfl⟩
        refine RD.take 0 rfl (by kernel_rfl) Wd.a (v := .pointer (some ⟨bg, 0, none⟩)) (fun w hS => by exact E.move (AF_ev rfl hs0)) hS ?_
        refine RD.take 1 rfl (by kernel_rfl) Wd.a (v := .slice (some ⟨g3, 0, none⟩) es4.length c3) (fun w hS => by exact E.move (AF_ev rfl (up rfl hs7))) hS ?_
        refine RD.take 2 rfl (by kernel_rfl) Wd.a (v := .pointer (some ⟨g3, 0, none⟩)) (fun w hS => by exact E.indexAddr (b := g3) (o := 0) (l := es4.length) (c := c3) (i := 0) Try.underlying44 sz58 (AF_ev rfl tp) rfl (by omega) (by omega) (by simp)) hS ?_
        refine RD.take 3 rfl (by kernel_rfl) Wd.a (v := .agg #[.int .i64 x.term, .int .i64 x.kind, .slice x.X x.ns.length x.xc, .slice x.Y x.ms.length x.yc]) (fun w hS => by exact E.loadN (cs := x.enc) Try.underlying58 rfl sz58 (AF_ev rfl tp) rfl hS.1) hS ?_
        refine RD.take 5 rfl (by kernel_rfl) Wd.a (v := .pointer (some ⟨br, 0, none⟩)) (fun w hS => by exact E.move (AF_ev rfl (up rfl (up rfl (up rfl (up rfl hs1)))))) hS ?_
        refine RD.take 6 rfl (by kernel_rfl) Wd.a (v := .pointer (some ⟨b1, 3, none⟩)) (fun w hS => by exact E.fieldAddr (b := b1) (o := 0) (f := { name := "L", type := 44, offset := 3, embedded := false, tag := "", pkgPath := "", byteOffset := 24 }) (AF_ev rfl (up rfl (up rfl (up rfl (up rfl (up rfl hs5)))))) Try.underlying46 rfl sz44 rfl) hS ?_
        refine RD.take 7 rfl (by kernel_rfl) Wd.a (v := .slice Z z.length d) (fun w hS => by exact E.load (a := ⟨b1, 3, none⟩) Try.underlying44 rfl (AF_ev rfl tp) hS.2) hS ?_
        refine RD.only 4 rfl (by kernel_rfl) Wd.a ?_
        have hst := hst.take (.there .here)
        refine H.call0 Try.func53 nm53 rfl (map2 (AF_ev rfl (up rfl (up rfl (up rfl (up rfl (up rfl (up rfl tp))))))) (AF_ev rfl (up rfl (up rfl (up rfl tp))))) (Calls.mono (ent_Append (hokes4 x (List.mem_of_getElem? hx)) (by omega) hst) ?_)
        rintro _ w ⟨p, y, hle, hvy, hoky, rfl, hst⟩
        have hp0 := hp0.le hle
        have hL2 := hL2.le hle
        have hEL2 := hEL2.le hle
        have hokes4 := hokes4.le hle
        have hst := refLe hle (hst.take (.there .here))
        refine ⟨_, rfl, ?_⟩
        have hS : (∀ j_ v_, (x.enc : List Value)[j_]? = some v_ → w.cell? ⟨g3, 0 + j_, none⟩ = some v_) ∧ w.cell? ⟨b1, 3, none⟩ = some (.slice Z z.length d) := ⟨(fun j_ u hu => by rw [Nat.zero_add]; exact hst.ocell (.there (.there .here)) (by have q := flat_get (sz := 4) Ent.enc_len hx hu; rwa [Nat.zero_mul, Nat.zero_add] at q)), hst.cell (.there (.there (.there (.there .here)))) rfl⟩
        refine ⟨fun _ => hS, ?_⟩
        refine RD.only 8 rfl (by kernel_rfl) Wd.a ?_
        have hst := hst.emp
        refine H.call0 Try.func27 nm27 rfl (map1 (AF_ev rfl (up rfl tp))) (Calls.mono (ent_few2 (Las.tells hL2) hEL2 (by omega) p.le_refl hst) ?_)
        rintro _ w ⟨p, vX13, es15, hle, rfl, hokes15, hl20es15, hfwes15, hst⟩
        obtain ⟨X13, c14, rfl, hcX13, hmX13, hlX13, hbX13⟩ := hst.shape
        have hp0 := hp0.le hle
        have hL2 := hL2.le hle
        have hEL2 := hEL2.le hle
        have hokes4 := hokes4.le hle
        have hlz := vs_len (hfwes15.trans hfwes4.symm)
        obtain ⟨g4, rfl⟩ := hbX13 (by omega)
        obtain ⟨x2, hx2⟩ : ∃ x2, es15[0]? = some x2 := ⟨es15[0]'(by omega), List.getElem?_eq_getElem (by omega)⟩
        have hxx : x.view = x2.view := by
          have h1 : (vs es4)[0]? = some x.view := by simp [vs, hx]
          rw [hfwes4, ← hfwes15] at h1; simp only [vs, List.getElem?_map, hx2, Option.map_some, Option.some.injEq] at h1; exact h1.symm
        have hst := refLe hle (hst.take (.there (.there .here)))
        have hst := logLe hle (hst.take (.there (.there (.there .here))))
        refine ⟨_, rfl, ?_⟩
        have hS : (∀ j_ v_, (x.enc : List Value)[j_]? = some v_ → w.cell? ⟨g3, 0 + j_, none⟩ = some v_) ∧ w.cell? ⟨b1, 3, none⟩ = some (.slice Z z.length d) := ⟨(fun j_ u hu => by rw [Nat.zero_add]; exact hst.ocell (.there (.there (.there (.there .here)))) (by have q := flat_get (sz := 4) Ent.enc_len hx hu; rwa [Nat.zero_mul, Nat.zero_add] at q)), hst.cell (.there (.there (.there (.there (.there (.there .here)))))) rfl⟩
        refine ⟨fun _ => hS, ?_⟩
        refine RD.only 9 rfl (by kernel_rfl) Wd.a (Hd.value (v := .pointer (some ⟨g4, 0, none⟩)) (by exact E.indexAddr (b := g4) (o := 0) (l := es15.length) (c := c14) (i := 0) Try.underlying44 sz58 (AF_ev rfl tp) rfl (by omega) (by omega) (by simp)) ⟨fun _ => hS, ?_⟩)
        refine RD.only 10 rfl (by kernel_rfl) Wd.a (Hd.value (v := .agg #[.int .i64 x2.term, .int .i64 x2.kind, .slice x2.X x2.ns.length x2.xc, .slice x2.Y x2.ms.length x2.yc]) (by exact E.loadN (cs := x2.enc) Try.underlying58 rfl sz58 (AF_ev rfl tp) rfl (fun j_ u hu => by rw [Nat.zero_add]; exact hst.ocell (.there (.there .here)) (by have q := flat_get (sz := 4) Ent.enc_len hx2 hu; rwa [Nat.zero_mul, Nat.zero_add] at q))) ⟨fun _ => hS, ?_⟩)
        refine RD.only 11 rfl (by kernel_rfl) Wd.a ?_
        have hst := hst.take (.there .here)
        refine H.call0 Try.func80 nm80 rfl (map2 (AF_ev rfl (up rfl (up rfl (up rfl (up rfl (up rfl (up rfl tp))))))) (AF_ev rfl tp)) (Calls.mono (ref_Append (hokes15 x2 (List.mem_of_getElem? hx2)) (by omega) hst) ?_)
        rintro _ w ⟨rfl, hst⟩
        refine ⟨_, rfl, ?_⟩
        have hS : (∀ j_ v_, (x.enc : List Value)[j_]? = some v_ → w.cell? ⟨g3, 0 + j_, none⟩ = some v_) ∧ w.cell? ⟨b1, 3, none⟩ = some (.slice Z z.length d) := ⟨(fun j_ u hu => by rw [Nat.zero_add]; exact hst.ocell (.there (.there (.there (.there .here)))) (by have q := flat_get (sz := 4) Ent.enc_len hx hu; rwa [Nat.zero_mul, Nat.zero_add] at q)), hst.cell (.there (.there (.there (.there (.there (.there .here)))))) rfl⟩
        refine ⟨fun _ => hS, ?_⟩
        refine RD.only 12 rfl (by kernel_rfl) Wd.a (Hd.value (v := .bool true) (by exact E.b (a := (i + (((es ++ [y]).length : Nat) : Int)) == (i + (((ys ++ [x2]).length : Nat) : Int))) (E.eql (k := .i64) (a := i + (((es ++ [y]).length : Nat) : Int)) (b := i + (((ys ++ [x2]).length : Nat) : Int)) (AF_ev rfl (up rfl (up rfl (up rfl (up rfl tp))))) (AF_ev rfl tp)) (by rw [beq_iff_eq]; simp only [List.length_append, List.length_cons, List.length_nil]; omega)) ⟨fun _ => hS, ?_⟩)
        refine RD.only 13 rfl (by kernel_rfl) Wd.a (Hd.value (v := .bool true) (by exact E.assign (AF_ev rfl tp)) ⟨fun h => Bool.noConfusion ((show needs _ _ _ = false by kernel_rfl).symm.trans h), ?_⟩)
        refine RD.fin (by kernel_rfl) (fun τ => τ 0 = .pointer (some ⟨bg, 0, none⟩) ∧ τ 1 = .pointer (some ⟨br, 0, none⟩) ∧ τ 2 = .agg #[.int .i64 kd, .int .i64 ix, .int .i64 tm, .slice Z z.length d] ∧ τ 5 = .pointer (some ⟨b1, 0, none⟩) ∧ τ 6 = .bool true ∧ τ 7 = .slice (some ⟨g3, 0, none⟩) es4.length c3 ∧ τ 8 = .int .i64 kk5 ∧ τ 24 = .int .i64 (kindF kd 8) ∧ τ 25 = .bool true ∧ τ 30 = .bool true) ⟨up rfl (up rfl (up rfl (up rfl (up rfl (up rfl (up rfl (up rfl (up rfl (up rfl (up rfl (up rfl (up rfl (up rfl hs0))))))))))))), up rfl (up rfl (up rfl (up rfl (up rfl (up rfl (up rfl (up rfl (up rfl (up rfl (up rfl (up rfl (up rfl (up rfl hs1))))))))))))), up rfl (up rfl (up rfl (up rfl (up rfl (up rfl (up rfl (up rfl (up rfl (up rfl (up rfl (up rfl (up rfl (up rfl hs2))))))))))))), up rfl (up rfl (up rfl (up rfl (up rfl (up rfl (up rfl (up rfl (up rfl (up rfl (up rfl (up rfl (up rfl (up rfl hs5))))))))))))), tp, up rfl (up rfl (up rfl (up rfl (up rfl (up rfl (up rfl (up rfl (up rfl (up rfl (up rfl (up rfl (up rfl (up rfl hs7))))))))))))), up rfl (up rfl (up rfl (up rfl (up rfl (up rfl (up rfl (up rfl (up rfl (up rfl (up rfl (up rfl (up rfl (up rfl hs8))))))))))))), up rfl (up rfl (up rfl (up rfl (up rfl (up rfl (up rfl (up rfl (up rfl (up rfl (up rfl (up rfl (up rfl (up rfl hs24))))))))))))), up rfl (up rfl (up rfl (up rfl (up rfl (up rfl (up rfl (up rfl (up rfl (up rfl (up rfl (up rfl (up rfl (up rfl hs25))))))))))))), up rfl (up rfl (up rfl (up rfl (up rfl (up rfl (up rfl (up rfl (up rfl (up rfl (up rfl (up rfl (up rfl (up rfl (Eq.trans hs30 (congrArg Value.bool hc12)))))))))))))))⟩ ?_
        rintro τ ⟨hs0, hs1, hs2, hs5, hs6, hs7, hs8, hs24, hs25, hs30⟩
        refine CW.ret ?_
        refine Bl.r ?_
        refine Th.r ?_
        refine ret1 (v := .bool true) rfl (by exact (.tmp (AF_ev rfl hs6) .nil)) ?_
        have hst := hst.take (.there .here)
        have hst := (hst.take (.there (.there .here))).drop
        have hst := (hst.take (.there (.there .here))).drop
        have hst := (hst.take (.there (.there .here))).drop
        have hst := (hst.take (.there (.there .here))).drop
        have hst := (hst.take (.there (.there .here))).drop
        exact ⟨p, _, _, _, _, hp0, (by simp only [vs, List.map_append, List.map_cons, List.map_nil] at hv ⊢; rw [hv, hvy, hxx]), (by simp only [List.length_append, List.length_cons, List.length_nil]; omega), rfl, hst⟩
      · have hc12_ := hc12
        try simp only [decide_eq_true_eq, decide_eq_false_iff_not, Bool.and_eq_true, Bool.or_eq_true, Bool.and_eq_false_iff, Bool.or_eq_false_iff, Bool.not_eq_true', Bool.not_eq_false', beq_iff_eq, beq_eq_false_iff_ne, bne_iff_ne, bne_eq_false_iff_eq, ne_eq, Int.not_lt, Int.not_le, gt_iff_lt, ge_iff_le] at hc12_
        refine CW.skip ?_
        refine Bl.n ?_
        refine Th.n ?_
        refine CW.seq ?_
        refine CW.region ?_
        refine RW.soft Wd.a (v := .bool true) (by exact E.assign rfl) ?_
        refine RW.fin (fun τ => τ 0 = .pointer (some ⟨bg, 0, none⟩) ∧ τ 1 = .pointer (some ⟨br, 0, none⟩) ∧ τ 2 = .agg #[.int .i64 kd, .int .i64 ix, .int .i64 tm, .slice Z z.length d] ∧ τ 5 = .pointer (some ⟨b1, 0, none⟩) ∧ τ 6 = .bool true ∧ τ 7 = .slice X2 es4.length c3 ∧ τ 8 = .int .i64 kk5 ∧ τ 24 = .int .i64 (kindF kd 8) ∧ τ 25 = .bool true ∧ τ 30 = .bool false) ⟨up rfl hs0, up rfl hs1, up rfl hs2, up rfl hs5, tp, up rfl hs7, up rfl hs8, up rfl hs24, up rfl hs25, up rfl (Eq.trans hs30 (congrArg Value.bool hc12))⟩ ?_
        rintro τ ⟨hs0, hs1, hs2, hs5, hs6, hs7, hs8, hs24, hs25, hs30⟩
        refine CW.ret ?_
        refine ret1 (v := .bool true) rfl (by exact (.tmp (AF_ev rfl hs6) .nil)) ?_
        have hst := hst.take (.there .here)
        have hst := (hst.take (.there (.there .here))).drop
        have hst := (hst.take (.there (.there .here))).drop
        have hst := (hst.take (.there (.there .here))).drop
        exact ⟨p, _, _, _, _, hp0, hv, (by omega), rfl, hst⟩
    · have hc11_ := hc11
      try simp only [decide_eq_true_eq, decide_eq_false_iff_not, Bool.and_eq_true, Bool.or_eq_true, Bool.and_eq_false_iff, Bool.or_eq_false_iff, Bool.not_eq_true', Bool.not_eq_false', beq_iff_eq, beq_eq_false_iff_ne, bne_iff_ne, bne_eq_false_iff_eq, ne_eq, Int.not_lt, Int.not_le, gt_iff_lt, ge_iff_le] at hc11_
      refine CW.seq ?_
      refine CW.seq ?_
      refine CW.region ?_
      refine RW.soft Wd.a (v := .bool ((kindF kd 8) == 2)) (by exact E.eql (k := .i64) (a := kindF kd 8) (b := 2) (AF_ev rfl hs24) rfl) ?_
      refine RW.soft Wd.a (v := .bool ((kindF kd 8) == 2)) (by exact E.assign (AF_ev rfl tp)) ?_
      refine RW.fin (fun τ => τ 0 = .pointer (some ⟨bg, 0, none⟩) ∧ τ 1 = .pointer (some ⟨br, 0, none⟩) ∧ τ 2 = .agg #[.int .i64 kd, .int .i64 ix, .int .i64 tm, .slice Z z.length d] ∧ τ 5 = .pointer (some ⟨b1, 0, none⟩) ∧ τ 6 = .bool false ∧ τ 7 = .slice X2 es4.length c3 ∧ τ 8 = .int .i64 kk5 ∧ τ 24 = .int .i64 (kindF kd 8) ∧ τ 25 = .bool false ∧ τ 44 = .bool ((kindF kd 8) == 2)) ⟨up rfl (up rfl hs0), up rfl (up rfl hs1), up rfl (up rfl hs2), up rfl (up rfl hs5), up rfl (up rfl hs6), up rfl (up rfl hs7), up rfl (up rfl hs8), up rfl (up rfl hs24), up rfl (up rfl (Eq.trans hs25 (congrArg Value.bool hc11))), tp⟩ ?_
      rintro τ ⟨hs0, hs1, hs2, hs5, hs6, hs7, hs8, hs24, hs25, hs44⟩
      refine CW.cond (AF_ev rfl hs44) (fun hc16 => ?_) (fun hc16 => ?_)
      · have hc16_ := hc16
        try simp only [decide_eq_true_eq, decide_eq_false_iff_not, Bool.and_eq_true, Bool.or_eq_true, Bool.and_eq_false_iff, Bool.or_eq_false_iff, Bool.not_eq_true', Bool.not_eq_false', beq_iff_eq, beq_eq_false_iff_ne, bne_iff_ne, bne_eq_false_iff_eq, ne_eq, Int.not_lt, Int.not_le, gt_iff_lt, ge_iff_le] at hc16_
        refine CW.skip ?_
        refine Th.n ?_
        refine CW.condT (AF_ev rfl (Eq.trans hs44 (congrArg Value.bool hc16))) ?_
        refine CW.seq ?_
        refine CW.region ?_
        refine RW.soft Wd.a (v := .pointer (some ⟨bg, 0, none⟩)) (by exact E.move (AF_ev rfl hs0)) ?_
        refine RW.soft Wd.a (v := .int .i64 kk5) (by exact E.move (AF_ev rfl (up rfl hs8))) ?_
        refine RW.soft Wd.a (v := .pointer (some ⟨b1, 2, none⟩)) (by exact E.fieldAddr (b := b1) (o := 0) (f := { name := "Term", type := 3, offset := 2, embedded := false, tag := "", pkgPath := "", byteOffset := 16 }) (AF_ev rfl (up rfl (up rfl hs5))) Try.underlying46 rfl sz3 rfl) ?_
        refine RW.soft Wd.a (v := .int .i64 tm) (by exact E.load (a := ⟨b1, 2, none⟩) Try.underlying3 rfl (AF_ev rfl tp) (hst.cell (.there (.there (.there (.there .here)))) rfl)) ?_
        refine RW.soft Wd.a (v := .slice X2 es4.length c3) (by exact E.move (AF_ev rfl (up rfl (up rfl (up rfl (up rfl hs7)))))) ?_
        have hst := hst.take (.there (.there .here))
        have hst := hst.take (.there (.there .here))
        refine RW.hard Wd.a ?_
        refine H.call0 Try.func29 nm29 rfl (map4 (AF_ev rfl (up rfl (up rfl (up rfl (up rfl tp))))) (AF_ev rfl (up rfl (up rfl (up rfl tp)))) (AF_ev rfl (up rfl tp)) (AF_ev rfl tp)) (Calls.mono (ent_Join kk5 tm (by omega) (by omega) Own.tells hokes4 hst) ?_)
        rintro _ w ⟨p, es17, hle, rfl, hvses17, hst⟩
        have hp0 := hp0.le hle
        have hL2 := hL2.le hle
        have hEL2 := hEL2.le hle
        have hokes4 := hokes4.le hle
        have hjles17 := joinL_len (α := Int × Int × List Int × List Int) (i := i) (t := t) (idx := kk5) (tm := tm) (T := ts es) (U := ts es4) (a := vs es) (b := vs es4) (by simp [vs, ts]) (by simp [vs, ts])
        rw [← hvses17] at hjles17; simp only [vs, List.length_map] at hjles17
        have hst := refLe hle (hst.take (.there (.there .here)))
        refine ⟨_, rfl, ?_⟩
        show RW _ _ _ _ _ _ _
        refine RW.soft Wd.a (v := .tuple #[.int .i64 (joinA i t (ts es) kk5 tm (ts es4)), .int .i64 (joinF i t (ts es) kk5 tm (ts es4)), .bool (joinO i t (ts es) kk5 tm)]) (by exact E.move (AF_ev rfl tp)) ?_
        refine RW.soft Wd.a (v := .int .i64 (joinA i t (ts es) kk5 tm (ts es4))) (by exact E.extract (vs := #[.int .i64 (joinA i t (ts es) kk5 tm (ts es4)), .int .i64 (joinF i t (ts es) kk5 tm (ts es4)), .bool (joinO i t (ts es) kk5 tm)]) (AF_ev rfl tp) rfl) ?_
        refine RW.soft Wd.a (v := .int .i64 (joinF i t (ts es) kk5 tm (ts es4))) (by exact E.extract (vs := #[.int .i64 (joinA i t (ts es) kk5 tm (ts es4)), .int .i64 (joinF i t (ts es) kk5 tm (ts es4)), .bool (joinO i t (ts es) kk5 tm)]) (AF_ev rfl (up rfl tp)) rfl) ?_
        refine RW.soft Wd.a (v := .bool (joinO i t (ts es) kk5 tm)) (by exact E.extract (vs := #[.int .i64 (joinA i t (ts es) kk5 tm (ts es4)), .int .i64 (joinF i t (ts es) kk5 tm (ts es4)), .bool (joinO i t (ts es) kk5 tm)]) (AF_ev rfl (up rfl (up rfl tp))) rfl) ?_
        refine RW.soft Wd.a (v := .int .i64 (joinA i t (ts es) kk5 tm (ts es4))) (by exact E.assign (AF_ev rfl (up rfl (up rfl tp)))) ?_
        refine RW.soft Wd.a (v := .int .i64 (joinF i t (ts es) kk5 tm (ts es4))) (by exact E.assign (AF_ev rfl (up rfl (up rfl tp)))) ?_
        refine RW.soft Wd.a (v := .bool (joinO i t (ts es) kk5 tm)) (by exact E.assign (AF_ev rfl (up rfl (up rfl tp)))) ?_
        refine RW.fin (fun τ => τ 0 = .pointer (some ⟨bg, 0, none⟩) ∧ τ 1 = .pointer (some ⟨br, 0, none⟩) ∧ τ 2 = .agg #[.int .i64 kd, .int .i64 ix, .int .i64 tm, .slice Z z.length d] ∧ τ 5 = .pointer (some ⟨b1, 0, none⟩) ∧ τ 6 = .bool false ∧ τ 7 = .slice X2 es4.length c3 ∧ τ 8 = .int .i64 kk5 ∧ τ 9 = .int .i64 (joinA i t (ts es) kk5 tm (ts es4)) ∧ τ 10 = .int .i64 (joinF i t (ts es) kk5 tm (ts es4)) ∧ τ 11 = .bool (joinO i t (ts es) kk5 tm) ∧ τ 24 = .int .i64 (kindF kd 8) ∧ τ 25 = .bool false ∧ τ 44 = .bool true) ⟨up rfl (up rfl (up rfl (up rfl (up rfl (up rfl (up rfl (up rfl (up rfl (up rfl (up rfl (up rfl (up rfl hs0)))))))))))), up rfl (up rfl (up rfl (up rfl (up rfl (up rfl (up rfl (up rfl (up rfl (up rfl (up rfl (up rfl (up rfl hs1)))))))))))), up rfl (up rfl (up rfl (up rfl (up rfl (up rfl (up rfl (up rfl (up rfl (up rfl (up rfl (up rfl (up rfl hs2)))))))))))), up rfl (up rfl (up rfl (up rfl (up rfl (up rfl (up rfl (up rfl (up rfl (up rfl (up rfl (up rfl (up rfl hs5)))))))))))), up rfl (up rfl (up rfl (up rfl (up rfl (up rfl (up rfl (up rfl (up rfl (up rfl (up rfl (up rfl (up rfl hs6)))))))))))), up rfl (up rfl (up rfl (up rfl (up rfl (up rfl (up rfl (up rfl (up rfl (up rfl (up rfl (up rfl (up rfl hs7)))))))))))), up rfl (up rfl (up rfl (up rfl (up rfl (up rfl (up rfl (up rfl (up rfl (up rfl (up rfl (up rfl (up rfl hs8)))))))))))), up rfl (up rfl tp), up rfl tp, tp, up rfl (up rfl (up rfl (up rfl (up rfl (up rfl (up rfl (up rfl (up rfl (up rfl (up rfl (up rfl (up rfl hs24)))))))))))), up rfl (up rfl (up rfl (up rfl (up rfl (up rfl (up rfl (up rfl (up rfl (up rfl (up rfl (up rfl (up rfl hs25)))))))))))), up rfl (up rfl (up rfl (up rfl (up rfl (up rfl (up rfl (up rfl (up rfl (up rfl (up rfl (up rfl (up rfl (Eq.trans hs44 (congrArg Value.bool hc16))))))))))))))⟩ ?_
        rintro τ ⟨hs0, hs1, hs2, hs5, hs6, hs7, hs8, hs9, hs10, hs11, hs24, hs25, hs44⟩
        refine CW.seq ?_
        refine CW.regionD [0, 1, 2, 3, 4, 5, 9, 10, 11] (fun w => w.cell? ⟨b1, 2, none⟩ = some (.int .i64 tm) ∧ w.cell? ⟨b1, 3, none⟩ = some (.slice Z z.length d)) mixed ?_
        have hst := hst.drew
        generalize w.drew = w at hst ⊢
        have hS : w.cell? ⟨b1, 2, none⟩ = some (.int .i64 tm) ∧ w.cell? ⟨b1, 3, none⟩ = some (.slice Z z.length d) := ⟨hst.cell (.there (.there (.there (.there .here)))) rfl, hst.cell (.there (.there (.there (.there .here)))) rfl⟩
        refine RD.take 0 rfl (by kernel_rfl) Wd.a (v := .pointer (some ⟨br, 0, none⟩)) (fun w hS => by exact E.move (AF_ev rfl hs1)) hS ?_
        refine RD.take 1 rfl (by kernel_rfl) Wd.a (v := .int .i64 kk5) (fun w hS => by exact E.move (AF_ev rfl (up rfl hs8))) hS ?_
        refine RD.take 2 rfl (by kernel_rfl) Wd.a (v := .pointer (some ⟨b1, 2, none⟩)) (fun w hS => by exact E.fieldAddr (b := b1) (o := 0) (f := { name := "Term", type := 3, offset := 2, embedded := false, tag := "", pkgPath := "", byteOffset := 16 }) (AF_ev rfl (up rfl (up rfl hs5))) Try.underlying46 rfl sz3 rfl) hS ?_
        refine RD.take 3 rfl (by kernel_rfl) Wd.a (v := .int .i64 tm) (fun w hS => by exact E.load (a := ⟨b1, 2, none⟩) Try.underlying3 rfl (AF_ev rfl tp) hS.1) hS ?_
        refine RD.take 4 rfl (by kernel_rfl) Wd.a (v := .pointer (some ⟨b1, 3, none⟩)) (fun w hS => by exact E.fieldAddr (b := b1) (o := 0) (f := { name := "L", type := 44, offset := 3, embedded := false, tag := "", pkgPath := "", byteOffset := 24 }) (AF_ev rfl (up rfl (up rfl (up rfl (up rfl hs5))))) Try.underlying46 rfl sz44 rfl) hS ?_
        refine RD.take 5 rfl (by kernel_rfl) Wd.a (v := .slice Z z.length d) (fun w hS => by exact E.load (a := ⟨b1, 3, none⟩) Try.underlying44 rfl (AF_ev rfl tp) hS.2) hS ?_
        refine RD.only 6 rfl (by kernel_rfl) Wd.a ?_
        have hst := hst.emp
        refine H.call0 Try.func27 nm27 rfl (map1 (AF_ev rfl tp)) (Calls.mono (ent_few2 (Las.tells hL2) hEL2 (by omega) p.le_refl hst) ?_)
        rintro _ w ⟨p, vX18, es20, hle, rfl, hokes20, hl20es20, hfwes20, hst⟩
        obtain ⟨X18, c19, rfl, hcX18, hmX18, hlX18, hbX18⟩ := hst.shape
        have hp0 := hp0.le hle
        have hL2 := hL2.le hle
        have hEL2 := hEL2.le hle
        have hokes4 := hokes4.le hle
        have hst := refLe hle (hst.take (.there (.there .here)))
        have hst := logLe hle (hst.take (.there (.there (.there .here))))
        refine ⟨_, rfl, ?_⟩
        have hS : w.cell? ⟨b1, 2, none⟩ = some (.int .i64 tm) ∧ w.cell? ⟨b1, 3, none⟩ = some (.slice Z z.length d) := ⟨hst.cell (.there (.there (.there (.there (.there (.there .here)))))) rfl, hst.cell (.there (.there (.there (.there (.there (.there .here)))))) rfl⟩
        refine ⟨fun _ => hS, ?_⟩
        refine RD.only 7 rfl (by kernel_rfl) Wd.a ?_
        have hst := hst.take (.there (.there .here))
        have hst := hst.take (.there (.there .here))
        have hU : ts es4 = ts es20 := ts_eq (hfwes4.trans hfwes20.symm)
        refine H.call0 Try.func81 nm81 rfl (map4 (AF_ev rfl (up rfl (up rfl (up rfl (up rfl (up rfl (up rfl tp))))))) (AF_ev rfl (up rfl (up rfl (up rfl (up rfl (up rfl tp)))))) (AF_ev rfl (up rfl (up rfl (up rfl tp)))) (AF_ev rfl tp)) (Calls.mono (ref_Join kk5 tm (by omega) (by omega) Own.tells hokes20 hst) ?_)
        rintro _ w ⟨rfl, hst⟩
        refine ⟨_, rfl, ?_⟩
        have hS : w.cell? ⟨b1, 2, none⟩ = some (.int .i64 tm) ∧ w.cell? ⟨b1, 3, none⟩ = some (.slice Z z.length d) := ⟨hst.cell (.there (.there (.there (.there (.there (.there .here)))))) rfl, hst.cell (.there (.there (.there (.there (.there (.there .here)))))) rfl⟩
        refine ⟨fun _ => hS, ?_⟩
        refine RD.only 8 rfl (by kernel_rfl) Wd.a (Hd.value (v := .tuple #[.int .i64 (joinA i t (ts ys) kk5 tm (ts es20)), .int .i64 (joinF i t (ts ys) kk5 tm (ts es20)), .bool (joinO i t (ts ys) kk5 tm)]) (by exact E.move (AF_ev rfl tp)) ⟨fun _ => hS, ?_⟩)
        refine RD.take 9 rfl (by kernel_rfl) Wd.a (v := .int .i64 (joinA i t (ts ys) kk5 tm (ts es20))) (fun w hS => by exact E.extract (vs := #[.int .i64 (joinA i t (ts ys) kk5 tm (ts es20)), .int .i64 (joinF i t (ts ys) kk5 tm (ts es20)), .bool (joinO i t (ts ys) kk5 tm)]) (AF_ev rfl tp) rfl) hS ?_
        refine RD.take 10 rfl (by kernel_rfl) Wd.a (v := .int .i64 (joinF i t (ts ys) kk5 tm (ts es20))) (fun w hS => by exact E.extract (vs := #[.int .i64 (joinA i t (ts ys) kk5 tm (ts es20)), .int .i64 (joinF i t (ts ys) kk5 tm (ts es20)), .bool (joinO i t (ts ys) kk5 tm)]) (AF_ev rfl (up rfl tp)) rfl) hS ?_
        refine RD.take 11 rfl (by kernel_rfl) Wd.a (v := .bool (joinO i t (ts ys) kk5 tm)) (fun w hS => by exact E.extract (vs := #[.int .i64 (joinA i t (ts ys) kk5 tm (ts es20)), .int .i64 (joinF i t (ts ys) kk5 tm (ts es20)), .bool (joinO i t (ts ys) kk5 tm)]) (AF_ev rfl (up rfl (up rfl tp))) rfl) hS ?_
        refine RD.only 12 rfl (by kernel_rfl) Wd.a (Hd.value (v := .int .i64 (joinA i t (ts ys) kk5 tm (ts es20))) (by exact E.assign (AF_ev rfl (up rfl (up rfl tp)))) ⟨fun _ => hS, ?_⟩)
        refine RD.only 13 rfl (by kernel_rfl) Wd.a (Hd.value (v := .int .i64 (joinF i t (ts ys) kk5 tm (ts es20))) (by exact E.assign (AF_ev rfl (up rfl (up rfl tp)))) ⟨fun _ => hS, ?_⟩)
        refine RD.only 14 rfl (by kernel_rfl) Wd.a (Hd.value (v := .bool (joinO i t (ts ys) kk5 tm)) (by exact E.assign (AF_ev rfl (up rfl (up rfl tp)))) ⟨fun h => Bool.noConfusion ((show needs _ _ _ = false by kernel_rfl).symm.trans h), ?_⟩)
        refine RD.fin (by kernel_rfl) (fun τ => τ 0 = .pointer (some ⟨bg, 0, none⟩) ∧ τ 1 = .pointer (some ⟨br, 0, none⟩) ∧ τ 2 = .agg #[.int .i64 kd, .int .i64 ix, .int .i64 tm, .slice Z z.length d] ∧ τ 5 = .pointer (some ⟨b1, 0, none⟩) ∧ τ 6 = .bool false ∧ τ 7 = .slice X2 es4.length c3 ∧ τ 8 = .int .i64 kk5 ∧ τ 9 = .int .i64 (joinA i t (ts es) kk5 tm (ts es4)) ∧ τ 10 = .int .i64 (joinF i t (ts es) kk5 tm (ts es4)) ∧ τ 11 = .bool (joinO i t (ts es) kk5 tm) ∧ τ 12 = .int .i64 (joinA i t (ts ys) kk5 tm (ts es20)) ∧ τ 13 = .int .i64 (joinF i t (ts ys) kk5 tm (ts es20)) ∧ τ 14 = .bool (joinO i t (ts ys) kk5 tm) ∧ τ 24 = .int .i64 (kindF kd 8) ∧ τ 25 = .bool false ∧ τ 44 = .bool true) ⟨up rfl (up rfl (up rfl (up rfl (up rfl (up rfl (up rfl (up rfl (up rfl (up rfl (up rfl (up rfl (up rfl (up rfl (up rfl hs0)))))))))))))), up rfl (up rfl (up rfl (up rfl (up rfl (up rfl (up rfl (up rfl (up rfl (up rfl (up rfl (up rfl (up rfl (up rfl (up rfl hs1)))))))))))))), up rfl (up rfl (up rfl (up rfl (up rfl (up rfl (up rfl (up rfl (up rfl (up rfl (up rfl (up rfl (up rfl (up rfl (up rfl hs2)))))))))))))), up rfl (up rfl (up rfl (up rfl (up rfl (up rfl (up rfl (up rfl (up rfl (up rfl (up rfl (up rfl (up rfl (up rfl (up rfl hs5)))))))))))))), up rfl (up rfl (up rfl (up rfl (up rfl (up rfl (up rfl (up rfl (up rfl (up rfl (up rfl (up rfl (up rfl (up rfl (up rfl hs6)))))))))))))), up rfl (up rfl (up rfl (up rfl (up rfl (up rfl (up rfl (up rfl (up rfl (up rfl (up rfl (up rfl (up rfl (up rfl (up rfl hs7)))))))))))))), up rfl (up rfl (up rfl (up rfl (up rfl (up rfl (up rfl (up rfl (up rfl (up rfl (up rfl (up rfl (up rfl (up rfl (up rfl hs8)))))))))))))), up rfl (up rfl (up rfl (up rfl (up rfl (up rfl (up rfl (up rfl (up rfl (up rfl (up rfl (up rfl (up rfl (up rfl (up rfl hs9)))))))))))))), up rfl (up rfl (up rfl (up rfl (up rfl (up rfl (up rfl (up rfl (up rfl (up rfl (up rfl (up rfl (up rfl (up rfl (up rfl hs10)))))))))))))), up rfl (up rfl (up rfl (up rfl (up rfl (up rfl (up rfl (up rfl (up rfl (up rfl (up rfl (up rfl (up rfl (up rfl (up rfl hs11)))))))))))))), up rfl (up rfl tp), up rfl tp, tp, up rfl (up rfl (up rfl (up rfl (up rfl (up rfl (up rfl (up rfl (up rfl (up rfl (up rfl (up rfl (up rfl (up rfl (up rfl hs24)))))))))))))), up rfl (up rfl (up rfl (up rfl (up rfl (up rfl (up rfl (up rfl (up rfl (up rfl (up rfl (up rfl (up rfl (up rfl (up rfl hs25)))))))))))))), up rfl (up rfl (up rfl (up rfl (up rfl (up rfl (up rfl (up rfl (up rfl (up rfl (up rfl (up rfl (up rfl (up rfl (up rfl hs44))))))))))))))⟩ ?_
        rintro τ ⟨hs0, hs1, hs2, hs5, hs6, hs7, hs8, hs9, hs10, hs11, hs12, hs13, hs14, hs24, hs25, hs44⟩
        refine CW.seq ?_
        refine CW.seq ?_
        refine CW.region ?_
        refine RW.soft Wd.a (v := .int .i64 0) (by exact E.assign rfl) ?_
        refine RW.fin (fun τ => τ 0 = .pointer (some ⟨bg, 0, none⟩) ∧ τ 1 = .pointer (some ⟨br, 0, none⟩) ∧ τ 2 = .agg #[.int .i64 kd, .int .i64 ix, .int .i64 tm, .slice Z z.length d] ∧ τ 5 = .pointer (some ⟨b1, 0, none⟩) ∧ τ 6 = .bool false ∧ τ 7 = .slice X2 es4.length c3 ∧ τ 8 = .int .i64 kk5 ∧ τ 9 = .int .i64 (joinA i t (ts es) kk5 tm (ts es4)) ∧ τ 10 = .int .i64 (joinF i t (ts es) kk5 tm (ts es4)) ∧ τ 11 = .bool (joinO i t (ts es) kk5 tm) ∧ τ 12 = .int .i64 (joinA i t (ts ys) kk5 tm (ts es20)) ∧ τ 13 = .int .i64 (joinF i t (ts ys) kk5 tm (ts es20)) ∧ τ 14 = .bool (joinO i t (ts ys) kk5 tm) ∧ τ 15 = .int .i64 0 ∧ τ 24 = .int .i64 (kindF kd 8) ∧ τ 25 = .bool false ∧ τ 44 = .bool true) ⟨up rfl hs0, up rfl hs1, up rfl hs2, up rfl hs5, up rfl hs6, up rfl hs7, up rfl hs8, up rfl hs9, up rfl hs10, up rfl hs11, up rfl hs12, up rfl hs13, up rfl hs14, tp, up rfl hs24, up rfl hs25, up rfl hs44⟩ ?_
        rintro τ ⟨hs0, hs1, hs2, hs5, hs6, hs7, hs8, hs9, hs10, hs11, hs12, hs13, hs14, hs15, hs24, hs25, hs44⟩
        refine CW.block ?_
        have hst := hst.take (.there (.there (.there (.there .here))))
        have hst := hst.take (.there .here)
        have hst := hst.take (.there (.there (.there .here)))
        have hst := (hst.take (.there (.there (.there .here)))).drop
        have hst := (hst.take (.there (.there (.there .here)))).drop
        have hst := (hst.take (.there (.there (.there .here)))).drop
        have hst := (hst.take (.there (.there (.there .here)))).drop
        refine CW.loop (fun (k : Nat) (τ : Fr) (w : World) => ∃ (j : Nat) (xs : List Value), j ≤ es4.length ∧ k = es4.length - j ∧ τ 9 = .int .i64 (joinA i t (ts es) kk5 tm (ts es4)) ∧ τ 10 = .int .i64 (joinF i t (ts es) kk5 tm (ts es4)) ∧ τ 11 = .bool (joinO i t (ts es) kk5 tm) ∧ τ 12 = .int .i64 (joinA i t (ts ys) kk5 tm (ts es20)) ∧ τ 13 = .int .i64 (joinF i t (ts ys) kk5 tm (ts es20)) ∧ τ 14 = .bool (joinO i t (ts ys) kk5 tm) ∧ τ 7 = .slice X2 es4.length c3 ∧ τ 15 = .int .i64 ((j : Nat) : Int) ∧ St p w (LogB p bg i t es17 :: RefB p br i t (joinL i t (ts ys) kk5 tm (ts es20) ys es20) :: Own 58 4 (.slice X2 es4.length c3) es4.length xs :: R)) (es4.length - 0) ⟨0, _, by omega, rfl, hs9, hs10, hs11, hs12, hs13, hs14, hs7, (int_eq (a := 0) hs15 (by omega)), hst⟩ ?_
        clear hst
        rintro k τ w ⟨j, xs, hj, hkj, hs9, hs10, hs11, hs12, hs13, hs14, hs7, hs15, hst⟩
        refine CW.seq ?_
        refine CW.seq ?_
        refine CW.region ?_
        refine RW.soft Wd.a (v := .int .i64 ((j : Nat) : Int)) (by exact E.move (AF_ev rfl hs15)) ?_
        refine RW.soft Wd.a (v := .slice X2 es4.length c3) (by exact E.move (AF_ev rfl (up rfl hs7))) ?_
        refine RW.soft Wd.a (v := .int .i64 ((es4.length : Nat) : Int)) (by exact E.lenS (p := X2) (l := es4.length) (c := c3) Try.underlying44 (AF_ev rfl tp)) ?_
        refine RW.soft Wd.a (v := .bool (decide (((j : Nat) : Int) < ((es4.length : Nat) : Int)))) (by exact E.lss (k := .i64) (a := ((j : Nat) : Int)) (b := ((es4.length : Nat) : Int)) (AF_ev rfl (up rfl (up rfl tp))) (AF_ev rfl tp)) ?_
        refine RW.fin (fun τ => τ 7 = .slice X2 es4.length c3 ∧ τ 9 = .int .i64 (joinA i t (ts es) kk5 tm (ts es4)) ∧ τ 10 = .int .i64 (joinF i t (ts es) kk5 tm (ts es4)) ∧ τ 11 = .bool (joinO i t (ts es) kk5 tm) ∧ τ 12 = .int .i64 (joinA i t (ts ys) kk5 tm (ts es20)) ∧ τ 13 = .int .i64 (joinF i t (ts ys) kk5 tm (ts es20)) ∧ τ 14 = .bool (joinO i t (ts ys) kk5 tm) ∧ τ 15 = .int .i64 ((j : Nat) : Int) ∧ τ 73 = .bool (decide (((j : Nat) : Int) < ((es4.length : Nat) : Int)))) ⟨up rfl (up rfl (up rfl (up rfl hs7))), up rfl (up rfl (up rfl (up rfl hs9))), up rfl (up rfl (up rfl (up rfl hs10))), up rfl (up rfl (up rfl (up rfl hs11))), up rfl (up rfl (up rfl (up rfl hs12))), up rfl (up rfl (up rfl (up rfl hs13))), up rfl (up rfl (up rfl (up rfl hs14))), up rfl (up rfl (up rfl (up rfl hs15))), tp⟩ ?_
        rintro τ ⟨hs7, hs9, hs10, hs11, hs12, hs13, hs14, hs15, hs73⟩
        refine CW.cond (AF_ev rfl hs73) (fun hc21 => ?_) (fun hc21 => ?_)
        · have hc21_ := hc21
          try simp only [decide_eq_true_eq, decide_eq_false_iff_not, Bool.and_eq_true, Bool.or_eq_true, Bool.and_eq_false_iff, Bool.or_eq_false_iff, Bool.not_eq_true', Bool.not_eq_false', beq_iff_eq, beq_eq_false_iff_ne, bne_iff_ne, bne_eq_false_iff_eq, ne_eq, Int.not_lt, Int.not_le, gt_iff_lt, ge_iff_le] at hc21_
          refine CW.skip ?_
          refine Th.n ?_
          refine CW.seq ?_
          refine CW.block ?_
          obtain ⟨g3, rfl⟩ := hbX2 (by omega)
          refine CW.region ?_
          refine RW.soft Wd.a (v := .slice (some ⟨g3, 0, none⟩) es4.length c3) (by exact E.move (AF_ev rfl hs7)) ?_
          refine RW.soft Wd.a (v := .int .i64 ((j : Nat) : Int)) (by exact E.move (AF_ev rfl (up rfl hs15))) ?_
          refine RW.soft Wd.a (v := .agg #[.int .i64 77, .int .i64 0, .slice none 0 0, .slice none 0 0]) (by exact E.build (vs := #[(0, .int .i64 77)]) (bld1 rfl) (by kernel_rfl)) ?_
          refine RW.soft Wd.a (v := .pointer (some ⟨g3, j * 4, none⟩)) (by exact E.indexAddr (b := g3) (o := 0) (l := es4.length) (c := c3) (i := ((j : Nat) : Int)) Try.underlying44 sz58 (AF_ev rfl (up rfl (up rfl tp))) (AF_ev rfl (up rfl tp)) (by omega) (by omega) (by simp)) ?_
          refine RW.hard Wd.a ?_
          refine H.storeOwn (b := g3) (o := j * 4) (k := es4.length) (c := c3) (v := .agg #[.int .i64 77, .int .i64 0, .slice none 0 0, .slice none 0 0]) (AF_ev rfl tp) (AF_ev rfl (up rfl tp)) hst (.there (.there .here)) (by omega) sz58 (show j * 4 + 4 ≤ es4.length * 4 by omega) (by simp [Value.cells, Value.oneCell']) fun xs22 w hst => ?_
          refine RW.nil ?_
          refine Bl.n ?_
          refine Th.n ?_
          refine CW.region ?_
          refine RW.soft Wd.a (v := .int .i64 ((j : Nat) : Int)) (by exact E.move (AF_ev rfl (u0 (up rfl (up rfl (up rfl (up rfl hs15))))))) ?_
          refine RW.soft Wd.a (v := .int .i64 (((j : Nat) : Int) + 1)) (by exact E.add (k := .i64) (a := ((j : Nat) : Int)) (b := 1) (AF_ev rfl tp) rfl (show IntKind.i64.wrap (((j : Nat) : Int) + 1) = ((j : Nat) : Int) + 1 from (by rw [IntWalk.i64_in _ (by omega)]))) ?_
          refine RW.soft Wd.a (v := .int .i64 (((j : Nat) : Int) + 1)) (by exact E.assign (AF_ev rfl tp)) ?_
          refine RW.nil ?_
          refine Th.n ?_
          have hst := hst.take (.there (.there .here))
          have hst := hst.take (.there (.there .here))
          exact ⟨es4.length - (j + 1), by omega, j + 1, xs22, (by omega), (by omega), up rfl (up rfl (up rfl (u0 (up rfl (up rfl (up rfl (up rfl hs9))))))), up rfl (up rfl (up rfl (u0 (up rfl (up rfl (up rfl (up rfl hs10))))))), up rfl (up rfl (up rfl (u0 (up rfl (up rfl (up rfl (up rfl hs11))))))), up rfl (up rfl (up rfl (u0 (up rfl (up rfl (up rfl (up rfl hs12))))))), up rfl (up rfl (up rfl (u0 (up rfl (up rfl (up rfl (up rfl hs13))))))), up rfl (up rfl (up rfl (u0 (up rfl (up rfl (up rfl (up rfl hs14))))))), up rfl (up rfl (up rfl (u0 (up rfl (up rfl (up rfl (up rfl hs7))))))), (int_eq (a := ((j : Nat) : Int) + 1) tp (by omega)), hst⟩
        · have hc21_ := hc21
          try simp only [decide_eq_true_eq, decide_eq_false_iff_not, Bool.and_eq_true, Bool.or_eq_true, Bool.and_eq_false_iff, Bool.or_eq_false_iff, Bool.not_eq_true', Bool.not_eq_false', beq_iff_eq, beq_eq_false_iff_ne, bne_iff_ne, bne_eq_false_iff_eq, ne_eq, Int.not_lt, Int.not_le, gt_iff_lt, ge_iff_le] at hc21_
          refine CW.exit ?_
          refine Th.x ?_
          refine Th.x ?_
          refine Bl.x ?_
          refine Th.n ?_
          refine CW.seq ?_
          refine CW.region ?_
          refine RW.soft Wd.a (v := .int .i64 (joinA i t (ts es) kk5 tm (ts es4))) (by exact E.move (AF_ev rfl hs9)) ?_
          refine RW.soft Wd.a (v := .int .i64 (joinA i t (ts ys) kk5 tm (ts es20))) (by exact E.move (AF_ev rfl (up rfl hs12))) ?_
          refine RW.soft Wd.a (v := .bool true) (by exact E.b (a := (joinA i t (ts es) kk5 tm (ts es4)) == (joinA i t (ts ys) kk5 tm (ts es20))) (E.eql (k := .i64) (a := joinA i t (ts es) kk5 tm (ts es4)) (b := joinA i t (ts ys) kk5 tm (ts es20)) (AF_ev rfl (up rfl tp)) (AF_ev rfl tp)) (by rw [beq_iff_eq, hT, hU])) ?_
          refine RW.soft Wd.a (v := .bool true) (by exact E.move (AF_ev rfl tp)) ?_
          refine RW.soft (by exact Wd.yes (x := 83) rfl (AF_ev rfl tp)) (v := .int .i64 (joinF i t (ts es) kk5 tm (ts es4))) (by exact E.move (AF_ev rfl (up rfl (up rfl (up rfl (up rfl hs10)))))) ?_
          refine RW.soft (by exact Wd.yes (x := 83) rfl (AF_ev rfl (up rfl tp))) (v := .int .i64 (joinF i t (ts ys) kk5 tm (ts es20))) (by exact E.move (AF_ev rfl (up rfl (up rfl (up rfl (up rfl (up rfl hs13))))))) ?_
          refine RW.soft (by exact Wd.yes (x := 83) rfl (AF_ev rfl (up rfl (up rfl tp)))) (v := .bool true) (by exact E.b (a := (joinF i t (ts es) kk5 tm (ts es4)) == (joinF i t (ts ys) kk5 tm (ts es20))) (E.eql (k := .i64) (a := joinF i t (ts es) kk5 tm (ts es4)) (b := joinF i t (ts ys) kk5 tm (ts es20)) (AF_ev rfl (up rfl tp)) (AF_ev rfl tp)) (by rw [beq_iff_eq, hT, hU])) ?_
          refine RW.soft Wd.a (v := .bool true) (by exact E.pickT (AF_ev rfl (up rfl (up rfl (up rfl tp)))) (AF_ev rfl tp)) ?_
          refine RW.soft Wd.a (v := .bool true) (by exact E.move (AF_ev rfl tp)) ?_
          refine RW.soft (by exact Wd.yes (x := 88) rfl (AF_ev rfl tp)) (v := .bool (joinO i t (ts es) kk5 tm)) (by exact E.move (AF_ev rfl (up rfl (up rfl (up rfl (up rfl (up rfl (up rfl (up rfl (up rfl (up rfl hs11))))))))))) ?_
          refine RW.soft (by exact Wd.yes (x := 88) rfl (AF_ev rfl (up rfl tp))) (v := .bool (joinO i t (ts ys) kk5 tm)) (by exact E.move (AF_ev rfl (up rfl (up rfl (up rfl (up rfl (up rfl (up rfl (up rfl (up rfl (up rfl (up rfl hs14)))))))))))) ?_
          refine RW.soft (by exact Wd.yes (x := 88) rfl (AF_ev rfl (up rfl (up rfl tp)))) (v := .bool true) (by exact E.b (a := (joinO i t (ts es) kk5 tm) == (joinO i t (ts ys) kk5 tm)) (E.eqlB (a := joinO i t (ts es) kk5 tm) (b := joinO i t (ts ys) kk5 tm) Try.underlying4 (AF_ev rfl (up rfl tp)) (AF_ev rfl tp)) (by rw [beq_iff_eq, hT])) ?_
          refine RW.soft Wd.a (v := .bool true) (by exact E.pickT (AF_ev rfl (up rfl (up rfl (up rfl tp)))) (AF_ev rfl tp)) ?_
          refine RW.soft Wd.a (v := .bool true) (by exact E.assign (AF_ev rfl tp)) ?_
          refine RW.fin (fun τ => τ 6 = .bool true ∧ τ 7 = .slice X2 es4.length c3 ∧ τ 9 = .int .i64 (joinA i t (ts es) kk5 tm (ts es4)) ∧ τ 10 = .int .i64 (joinF i t (ts es) kk5 tm (ts es4)) ∧ τ 11 = .bool (joinO i t (ts es) kk5 tm) ∧ τ 12 = .int .i64 (joinA i t (ts ys) kk5 tm (ts es20)) ∧ τ 13 = .int .i64 (joinF i t (ts ys) kk5 tm (ts es20)) ∧ τ 14 = .bool (joinO i t (ts ys) kk5 tm) ∧ τ 15 = .int .i64 ((j : Nat) : Int) ∧ τ 73 = .bool false) ⟨tp, up rfl (up rfl (up rfl (up rfl (up rfl (up rfl (up rfl (up rfl (up rfl (up rfl (up rfl (up rfl (up rfl (up rfl hs7))))))))))))), up rfl (up rfl (up rfl (up rfl (up rfl (up rfl (up rfl (up rfl (up rfl (up rfl (up rfl (up rfl (up rfl (up rfl hs9))))))))))))), up rfl (up rfl (up rfl (up rfl (up rfl (up rfl (up rfl (up rfl (up rfl (up rfl (up rfl (up rfl (up rfl (up rfl hs10))))))))))))), up rfl (up rfl (up rfl (up rfl (up rfl (up rfl (up rfl (up rfl (up rfl (up rfl (up rfl (up rfl (up rfl (up rfl hs11))))))))))))), up rfl (up rfl (up rfl (up rfl (up rfl (up rfl (up rfl (up rfl (up rfl (up rfl (up rfl (up rfl (up rfl (up rfl hs12))))))))))))), up rfl (up rfl (up rfl (up rfl (up rfl (up rfl (up rfl (up rfl (up rfl (up rfl (up rfl (up rfl (up rfl (up rfl hs13))))))))))))), up rfl (up rfl (up rfl (up rfl (up rfl (up rfl (up rfl (up rfl (up rfl (up rfl (up rfl (up rfl (up rfl (up rfl hs14))))))))))))), up rfl (up rfl (up rfl (up rfl (up rfl (up rfl (up rfl (up rfl (up rfl (up rfl (up rfl (up rfl (up rfl (up rfl hs15))))))))))))), up rfl (up rfl (up rfl (up rfl (up rfl (up rfl (up rfl (up rfl (up rfl (up rfl (up rfl (up rfl (up rfl (up rfl (Eq.trans hs73 (congrArg Value.bool hc21)))))))))))))))⟩ ?_
          rintro τ ⟨hs6, hs7, hs9, hs10, hs11, hs12, hs13, hs14, hs15, hs73⟩
          refine CW.ret ?_
          refine Bl.r ?_
          refine Th.r ?_
          refine ret1 (v := .bool true) rfl (by exact (.tmp (AF_ev rfl hs6) .nil)) ?_
          have hst := hst.take (.there .here)
          have hst := hst.take (.there .here)
          have hst := (hst.take (.there (.there .here))).drop
          exact ⟨p, _, _, _, _, hp0, (by rw [hvses17, hT, hU, hv, hfwes4, ← hfwes20]; exact (joinL_map Ent.view).symm), (by omega), rfl, hst⟩
      · have hc16_ := hc16
        try simp only [decide_eq_true_eq, decide_eq_false_iff_not, Bool.and_eq_true, Bool.or_eq_true, Bool.and_eq_false_iff, Bool.or_eq_false_iff, Bool.not_eq_true', Bool.not_eq_false', beq_iff_eq, beq_eq_false_iff_ne, bne_iff_ne, bne_eq_false_iff_eq, ne_eq, Int.not_lt, Int.not_le, gt_iff_lt, ge_iff_le] at hc16_
        refine CW.seq ?_
        refine CW.region ?_
        refine RW.soft Wd.a (v := .bool ((kindF kd 8) == 3)) (by exact E.eql (k := .i64) (a := kindF kd 8) (b := 3) (AF_ev rfl hs24) rfl) ?_
        refine RW.soft Wd.a (v := .bool ((kindF kd 8) == 3)) (by exact E.assign (AF_ev rfl tp)) ?_
        refine RW.fin (fun τ => τ 0 = .pointer (some ⟨bg, 0, none⟩) ∧ τ 1 = .pointer (some ⟨br, 0, none⟩) ∧ τ 2 = .agg #[.int .i64 kd, .int .i64 ix, .int .i64 tm, .slice Z z.length d] ∧ τ 5 = .pointer (some ⟨b1, 0, none⟩) ∧ τ 6 = .bool false ∧ τ 7 = .slice X2 es4.length c3 ∧ τ 8 = .int .i64 kk5 ∧ τ 24 = .int .i64 (kindF kd 8) ∧ τ 25 = .bool false ∧ τ 44 = .bool ((kindF kd 8) == 3)) ⟨up rfl (up rfl hs0), up rfl (up rfl hs1), up rfl (up rfl hs2), up rfl (up rfl hs5), up rfl (up rfl hs6), up rfl (up rfl hs7), up rfl (up rfl hs8), up rfl (up rfl hs24), up rfl (up rfl hs25), tp⟩ ?_
        rintro τ ⟨hs0, hs1, hs2, hs5, hs6, hs7, hs8, hs24, hs25, hs44⟩
        refine CW.cond (AF_ev rfl hs44) (fun hc23 => ?_) (fun hc23 => ?_)
        · have hc23_ := hc23
          try simp only [decide_eq_true_eq, decide_eq_false_iff_not, Bool.and_eq_true, Bool.or_eq_true, Bool.and_eq_false_iff, Bool.or_eq_false_iff, Bool.not_eq_true', Bool.not_eq_false', beq_iff_eq, beq_eq_false_iff_ne, bne_iff_ne, bne_eq_false_iff_eq, ne_eq, Int.not_lt, Int.not_le, gt_iff_lt, ge_iff_le] at hc23_
          refine CW.skip ?_
          refine Th.n ?_
          refine CW.condT (AF_ev rfl (Eq.trans hs44 (congrArg Value.bool hc23))) ?_
          refine CW.seq ?_
          refine CW.region ?_
          refine RW.soft Wd.a (v := .pointer (some ⟨bg, 0, none⟩)) (by exact E.move (AF_ev rfl hs0)) ?_
          refine RW.soft Wd.a (v := .int .i64 kk5) (by exact E.move (AF_ev rfl (up rfl hs8))) ?_
          refine RW.soft Wd.a (v := .pointer (some ⟨b1, 2, none⟩)) (by exact E.fieldAddr (b := b1) (o := 0) (f := { name := "Term", type := 3, offset := 2, embedded := false, tag := "", pkgPath := "", byteOffset := 16 }) (AF_ev rfl (up rfl (up rfl hs5))) Try.underlying46 rfl sz3 rfl) ?_
          refine RW.soft Wd.a (v := .int .i64 tm) (by exact E.load (a := ⟨b1, 2, none⟩) Try.underlying3 rfl (AF_ev rfl tp) (hst.cell (.there (.there (.there (.there .here)))) rfl)) ?_
          refine RW.soft Wd.a (v := .slice X2 es4.length c3) (by exact E.move (AF_ev rfl (up rfl (up rfl (up rfl (up rfl hs7)))))) ?_
          have hst := hst.take (.there (.there .here))
          have hst := hst.take (.there (.there .here))
          refine RW.hard Wd.a ?_
          refine H.call0 Try.func29 nm29 rfl (map4 (AF_ev rfl (up rfl (up rfl (up rfl (up rfl tp))))) (AF_ev rfl (up rfl (up rfl (up rfl tp)))) (AF_ev rfl (up rfl tp)) (AF_ev rfl tp)) (Calls.mono (ent_Join kk5 tm (by omega) (by omega) Own.tells hokes4 hst) ?_)
          rintro _ w ⟨p, es24, hle, rfl, hvses24, hst⟩
          have hp0 := hp0.le hle
          have hL2 := hL2.le hle
          have hEL2 := hEL2.le hle
          have hokes4 := hokes4.le hle
          have hjles24 := joinL_len (α := Int × Int × List Int × List Int) (i := i) (t := t) (idx := kk5) (tm := tm) (T := ts es) (U := ts es4) (a := vs es) (b := vs es4) (by simp [vs, ts]) (by simp [vs, ts])
          rw [← hvses24] at hjles24; simp only [vs, List.length_map] at hjles24
          have hst := refLe hle (hst.take (.there (.there .here)))
          refine ⟨_, rfl, ?_⟩
          show RW _ _ _ _ _ _ _
          refine RW.soft Wd.a (v := .tuple #[.int .i64 (joinA i t (ts es) kk5 tm (ts es4)), .int .i64 (joinF i t (ts es) kk5 tm (ts es4)), .bool (joinO i t (ts es) kk5 tm)]) (by exact E.move (AF_ev rfl tp)) ?_
          refine RW.soft Wd.a (v := .int .i64 (joinA i t (ts es) kk5 tm (ts es4))) (by exact E.extract (vs := #[.int .i64 (joinA i t (ts es) kk5 tm (ts es4)), .int .i64 (joinF i t (ts es) kk5 tm (ts es4)), .bool (joinO i t (ts es) kk5 tm)]) (AF_ev rfl tp) rfl) ?_
          refine RW.soft Wd.a (v := .int .i64 (joinF i t (ts es) kk5 tm (ts es4))) (by exact E.extract (vs := #[.int .i64 (joinA i t (ts es) kk5 tm (ts es4)), .int .i64 (joinF i t (ts es) kk5 tm (ts es4)), .bool (joinO i t (ts es) kk5 tm)]) (AF_ev rfl (up rfl tp)) rfl) ?_
          refine RW.soft Wd.a (v := .bool (joinO i t (ts es) kk5 tm)) (by exact E.extract (vs := #[.int .i64 (joinA i t (ts es) kk5 tm (ts es4)), .int .i64 (joinF i t (ts es) kk5 tm (ts es4)), .bool (joinO i t (ts es) kk5 tm)]) (AF_ev rfl (up rfl (up rfl tp))) rfl) ?_
          refine RW.soft Wd.a (v := .int .i64 (joinA i t (ts es) kk5 tm (ts es4))) (by exact E.assign (AF_ev rfl (up rfl (up rfl tp)))) ?_
          refine RW.soft Wd.a (v := .int .i64 (joinF i t (ts es) kk5 tm (ts es4))) (by exact E.assign (AF_ev rfl (up rfl (up rfl tp)))) ?_
          refine RW.soft Wd.a (v := .bool (joinO i t (ts es) kk5 tm)) (by exact E.assign (AF_ev rfl (up rfl (up rfl tp)))) ?_
          refine RW.fin (fun τ => τ 0 = .pointer (some ⟨bg, 0, none⟩) ∧ τ 1 = .pointer (some ⟨br, 0, none⟩) ∧ τ 2 = .agg #[.int .i64 kd, .int .i64 ix, .int .i64 tm, .slice Z z.length d] ∧ τ 5 = .pointer (some ⟨b1, 0, none⟩) ∧ τ 6 = .bool false ∧ τ 7 = .slice X2 es4.length c3 ∧ τ 8 = .int .i64 kk5 ∧ τ 9 = .int .i64 (joinA i t (ts es) kk5 tm (ts es4)) ∧ τ 10 = .int .i64 (joinF i t (ts es) kk5 tm (ts es4)) ∧ τ 11 = .bool (joinO i t (ts es) kk5 tm) ∧ τ 24 = .int .i64 (kindF kd 8) ∧ τ 25 = .bool false ∧ τ 44 = .bool true) ⟨up rfl (up rfl (up rfl (up rfl (up rfl (up rfl (up rfl (up rfl (up rfl (up rfl (up rfl (up rfl (up rfl hs0)))))))))))), up rfl (up rfl (up rfl (up rfl (up rfl (up rfl (up rfl (up rfl (up rfl (up rfl (up rfl (up rfl (up rfl hs1)))))))))))), up rfl (up rfl (up rfl (up rfl (up rfl (up rfl (up rfl (up rfl (up rfl (up rfl (up rfl (up rfl (up rfl hs2)))))))))))), up rfl (up rfl (up rfl (up rfl (up rfl (up rfl (up rfl (up rfl (up rfl (up rfl (up rfl (up rfl (up rfl hs5)))))))))))), up rfl (up rfl (up rfl (up rfl (up rfl (up rfl (up rfl (up rfl (up rfl (up rfl (up rfl (up rfl (up rfl hs6)))))))))))), up rfl (up rfl (up rfl (up rfl (up rfl (up rfl (up rfl (up rfl (up rfl (up rfl (up rfl (up rfl (up rfl hs7)))))))))))), up rfl (up rfl (up rfl (up rfl (up rfl (up rfl (up rfl (up rfl (up rfl (up rfl (up rfl (up rfl (up rfl hs8)))))))))))), up rfl (up rfl tp), up rfl tp, tp, up rfl (up rfl (up rfl (up rfl (up rfl (up rfl (up rfl (up rfl (up rfl (up rfl (up rfl (up rfl (up rfl hs24)))))))))))), up rfl (up rfl (up rfl (up rfl (up rfl (up rfl (up rfl (up rfl (up rfl (up rfl (up rfl (up rfl (up rfl hs25)))))))))))), up rfl (up rfl (up rfl (up rfl (up rfl (up rfl (up rfl (up rfl (up rfl (up rfl (up rfl (up rfl (up rfl (Eq.trans hs44 (congrArg Value.bool hc23))))))))))))))⟩ ?_
          rintro τ ⟨hs0, hs1, hs2, hs5, hs6, hs7, hs8, hs9, hs10, hs11, hs24, hs25, hs44⟩
          refine CW.seq ?_
          refine CW.regionD [0, 1, 2, 3, 4, 5, 9, 10, 11] (fun w => w.cell? ⟨b1, 2, none⟩ = some (.int .i64 tm) ∧ w.cell? ⟨b1, 3, none⟩ = some (.slice Z z.length d)) mixed ?_
          have hst := hst.drew
          generalize w.drew = w at hst ⊢
          have hS : w.cell? ⟨b1, 2, none⟩ = some (.int .i64 tm) ∧ w.cell? ⟨b1, 3, none⟩ = some (.slice Z z.length d) := ⟨hst.cell (.there (.there (.there (.there .here)))) rfl, hst.cell (.there (.there (.there (.there .here)))) rfl⟩
          refine RD.take 0 rfl (by kernel_rfl) Wd.a (v := .pointer (some ⟨br, 0, none⟩)) (fun w hS => by exact E.move (AF_ev rfl hs1)) hS ?_
          refine RD.take 1 rfl (by kernel_rfl) Wd.a (v := .int .i64 kk5) (fun w hS => by exact E.move (AF_ev rfl (up rfl hs8))) hS ?_
          refine RD.take 2 rfl (by kernel_rfl) Wd.a (v := .pointer (some ⟨b1, 2, none⟩)) (fun w hS => by exact E.fieldAddr (b := b1) (o := 0) (f := { name := "Term", type := 3, offset := 2, embedded := false, tag := "", pkgPath := "", byteOffset := 16 }) (AF_ev rfl (up rfl (up rfl hs5))) Try.underlying46 rfl sz3 rfl) hS ?_
          refine RD.take 3 rfl (by kernel_rfl) Wd.a (v := .int .i64 tm) (fun w hS => by exact E.load (a := ⟨b1, 2, none⟩) Try.underlying3 rfl (AF_ev rfl tp) hS.1) hS ?_
          refine RD.take 4 rfl (by kernel_rfl) Wd.a (v := .pointer (some ⟨b1, 3, none⟩)) (fun w hS => by exact E.fieldAddr (b := b1) (o := 0) (f := { name := "L", type := 44, offset := 3, embedded := false, tag := "", pkgPath := "", byteOffset := 24 }) (AF_ev rfl (up rfl (up rfl (up rfl (up rfl hs5))))) Try.underlying46 rfl sz44 rfl) hS ?_
          refine RD.take 5 rfl (by kernel_rfl) Wd.a (v := .slice Z z.length d) (fun w hS => by exact E.load (a := ⟨b1, 3, none⟩) Try.underlying44 rfl (AF_ev rfl tp) hS.2) hS ?_
          refine RD.only 6 rfl (by kernel_rfl) Wd.a ?_
          have hst := hst.emp
          refine H.call0 Try.func27 nm27 rfl (map1 (AF_ev rfl tp)) (Calls.mono (ent_few2 (Las.tells hL2) hEL2 (by omega) p.le_refl hst) ?_)
          rintro _ w ⟨p, vX25, es27, hle, rfl, hokes27, hl20es27, hfwes27, hst⟩
          obtain ⟨X25, c26, rfl, hcX25, hmX25, hlX25, hbX25⟩ := hst.shape
          have hp0 := hp0.le hle
          have hL2 := hL2.le hle
          have hEL2 := hEL2.le hle
          have hokes4 := hokes4.le hle
          have hst := refLe hle (hst.take (.there (.there .here)))
          have hst := logLe hle (hst.take (.there (.there (.there .here))))
          refine ⟨_, rfl, ?_⟩
          have hS : w.cell? ⟨b1, 2, none⟩ = some (.int .i64 tm) ∧ w.cell? ⟨b1, 3, none⟩ = some (.slice Z z.length d) := ⟨hst.cell (.there (.there (.there (.there (.there (.there .here)))))) rfl, hst.cell (.there (.there (.there (.there (.there (.there .here)))))) rfl⟩
          refine ⟨fun _ => hS, ?_⟩
          refine RD.only 7 rfl (by kernel_rfl) Wd.a ?_
          have hst := hst.take (.there (.there .here))
          have hst := hst.take (.there (.there .here))
          have hU : ts es4 = ts es27 := ts_eq (hfwes4.trans hfwes27.symm)
          refine H.call0 Try.func81 nm81 rfl (map4 (AF_ev rfl (up rfl (up rfl (up rfl (up rfl (up rfl (up rfl tp))))))) (AF_ev rfl (up rfl (up rfl (up rfl (up rfl (up rfl tp)))))) (AF_ev rfl (up rfl (up rfl (up rfl tp)))) (AF_ev rfl tp)) (Calls.mono (ref_Join kk5 tm (by omega) (by omega) Own.tells hokes27 hst) ?_)
          rintro _ w ⟨rfl, hst⟩
          refine ⟨_, rfl, ?_⟩
          have hS : w.cell? ⟨b1, 2, none⟩ = some (.int .i64 tm) ∧ w.cell? ⟨b1, 3, none⟩ = some (.slice Z z.length d) := ⟨hst.cell (.there (.there (.there (.there (.there (.there .here)))))) rfl, hst.cell (.there (.there (.there (.there (.there (.there .here)))))) rfl⟩
          refine ⟨fun _ => hS, ?_⟩
          refine RD.only 8 rfl (by kernel_rfl) Wd.a (Hd.value (v := .tuple #[.int .i64 (joinA i t (ts ys) kk5 tm (ts es27)), .int .i64 (joinF i t (ts ys) kk5 tm (ts es27)), .bool (joinO i t (ts ys) kk5 tm)]) (by exact E.move (AF_ev rfl tp)) ⟨fun _ => hS, ?_⟩)
          refine RD.take 9 rfl (by kernel_rfl) Wd.a (v := .int .i64 (joinA i t (ts ys) kk5 tm (ts es27))) (fun w hS => by exact E.extract (vs := #[.int .i64 (joinA i t (ts ys) kk5 tm (ts es27)), .int .i64 (joinF i t (ts ys) kk5 tm (ts es27)), .bool (joinO i t (ts ys) kk5 tm)]) (AF_ev rfl tp) rfl) hS ?_
          refine RD.take 10 rfl (by kernel_rfl) Wd.a (v := .int .i64 (joinF i t (ts ys) kk5 tm (ts es27))) (fun w hS => by exact E.extract (vs := #[.int .i64 (joinA i t (ts ys) kk5 tm (ts es27)), .int .i64 (joinF i t (ts ys) kk5 tm (ts es27)), .bool (joinO i t (ts ys) kk5 tm)]) (AF_ev rfl (up rfl tp)) rfl) hS ?_
          refine RD.take 11 rfl (by kernel_rfl) Wd.a (v := .bool (joinO i t (ts ys) kk5 tm)) (fun w hS => by exact E.extract (vs := #[.int .i64 (joinA i t (ts ys) kk5 tm (ts es27)), .int .i64 (joinF i t (ts ys) kk5 tm (ts es27)), .bool (joinO i t (ts ys) kk5 tm)]) (AF_ev rfl (up rfl (up rfl tp))) rfl) hS ?_
          refine RD.only 12 rfl (by kernel_rfl) Wd.a (Hd.value (v := .int .i64 (joinA i t (ts ys) kk5 tm (ts es27))) (by exact E.assign (AF_ev rfl (up rfl (up rfl tp)))) ⟨fun _ => hS, ?_⟩)
          refine RD.only 13 rfl (by kernel_rfl) Wd.a (Hd.value (v := .int .i64 (joinF i t (ts ys) kk5 tm (ts es27))) (by exact E.assign (AF_ev rfl (up rfl (up rfl tp)))) ⟨fun _ => hS, ?_⟩)
          refine RD.only 14 rfl (by kernel_rfl) Wd.a (Hd.value (v := .bool (joinO i t (ts ys) kk5 tm)) (by exact E.assign (AF_ev rfl (up rfl (up rfl tp)))) ⟨fun h => Bool.noConfusion ((show needs _ _ _ = false by kernel_rfl).symm.trans h), ?_⟩)
          refine RD.fin (by kernel_rfl) (fun τ => τ 0 = .pointer (some ⟨bg, 0, none⟩) ∧ τ 1 = .pointer (some ⟨br, 0, none⟩) ∧ τ 2 = .agg #[.int .i64 kd, .int .i64 ix, .int .i64 tm, .slice Z z.length d] ∧ τ 5 = .pointer (some ⟨b1, 0, none⟩) ∧ τ 6 = .bool false ∧ τ 7 = .slice X2 es4.length c3 ∧ τ 8 = .int .i64 kk5 ∧ τ 9 = .int .i64 (joinA i t (ts es) kk5 tm (ts es4)) ∧ τ 10 = .int .i64 (joinF i t (ts es) kk5 tm (ts es4)) ∧ τ 11 = .bool (joinO i t (ts es) kk5 tm) ∧ τ 12 = .int .i64 (joinA i t (ts ys) kk5 tm (ts es27)) ∧ τ 13 = .int .i64 (joinF i t (ts ys) kk5 tm (ts es27)) ∧ τ 14 = .bool (joinO i t (ts ys) kk5 tm) ∧ τ 24 = .int .i64 (kindF kd 8) ∧ τ 25 = .bool false ∧ τ 44 = .bool true) ⟨up rfl (up rfl (up rfl (up rfl (up rfl (up rfl (up rfl (up rfl (up rfl (up rfl (up rfl (up rfl (up rfl (up rfl (up rfl hs0)))))))))))))), up rfl (up rfl (up rfl (up rfl (up rfl (up rfl (up rfl (up rfl (up rfl (up rfl (up rfl (up rfl (up rfl (up rfl (up rfl hs1)))))))))))))), up rfl (up rfl (up rfl (up rfl (up rfl (up rfl (up rfl (up rfl (up rfl (up rfl (up rfl (up rfl (up rfl (up rfl (up rfl hs2)))))))))))))), up rfl (up rfl (up rfl (up rfl (up rfl (up rfl (up rfl (up rfl (up rfl (up rfl (up rfl (up rfl (up rfl (up rfl (up rfl hs5)))))))))))))), up rfl (up rfl (up rfl (up rfl (up rfl (up rfl (up rfl (up rfl (up rfl (up rfl (up rfl (up rfl (up rfl (up rfl (up rfl hs6)))))))))))))), up rfl (up rfl (up rfl (up rfl (up rfl (up rfl (up rfl (up rfl (up rfl (up rfl (up rfl (up rfl (up rfl (up rfl (up rfl hs7)))))))))))))), up rfl (up rfl (up rfl (up rfl (up rfl (up rfl (up rfl (up rfl (up rfl (up rfl (up rfl (up rfl (up rfl (up rfl (up rfl hs8)))))))))))))), up rfl (up rfl (up rfl (up rfl (up rfl (up rfl (up rfl (up rfl (up rfl (up rfl (up rfl (up rfl (up rfl (up rfl (up rfl hs9)))))))))))))), up rfl (up rfl (up rfl (up rfl (up rfl (up rfl (up rfl (up rfl (up rfl (up rfl (up rfl (up rfl (up rfl (up rfl (up rfl hs10)))))))))))))), up rfl (up rfl (up rfl (up rfl (up rfl (up rfl (up rfl (up rfl (up rfl (up rfl (up rfl (up rfl (up rfl (up rfl (up rfl hs11)))))))))))))), up rfl (up rfl tp), up rfl tp, tp, up rfl (up rfl (up rfl (up rfl (up rfl (up rfl (up rfl (up rfl (up rfl (up rfl (up rfl (up rfl (up rfl (up rfl (up rfl hs24)))))))))))))), up rfl (up rfl (up rfl (up rfl (up rfl (up rfl (up rfl (up rfl (up rfl (up rfl (up rfl (up rfl (up rfl (up rfl (up rfl hs25)))))))))))))), up rfl (up rfl (up rfl (up rfl (up rfl (up rfl (up rfl (up rfl (up rfl (up rfl (up rfl (up rfl (up rfl (up rfl (up rfl hs44))))))))))))))⟩ ?_
          rintro τ ⟨hs0, hs1, hs2, hs5, hs6, hs7, hs8, hs9, hs10, hs11, hs12, hs13, hs14, hs24, hs25, hs44⟩
          refine CW.seq ?_
          refine CW.seq ?_
          refine CW.region ?_
          refine RW.soft Wd.a (v := .int .i64 0) (by exact E.assign rfl) ?_
          refine RW.fin (fun τ => τ 0 = .pointer (some ⟨bg, 0, none⟩) ∧ τ 1 = .pointer (some ⟨br, 0, none⟩) ∧ τ 2 = .agg #[.int .i64 kd, .int .i64 ix, .int .i64 tm, .slice Z z.length d] ∧ τ 5 = .pointer (some ⟨b1, 0, none⟩) ∧ τ 6 = .bool false ∧ τ 7 = .slice X2 es4.length c3 ∧ τ 8 = .int .i64 kk5 ∧ τ 9 = .int .i64 (joinA i t (ts es) kk5 tm (ts es4)) ∧ τ 10 = .int .i64 (joinF i t (ts es) kk5 tm (ts es4)) ∧ τ 11 = .bool (joinO i t (ts es) kk5 tm) ∧ τ 12 = .int .i64 (joinA i t (ts ys) kk5 tm (ts es27)) ∧ τ 13 = .int .i64 (joinF i t (ts ys) kk5 tm (ts es27)) ∧ τ 14 = .bool (joinO i t (ts ys) kk5 tm) ∧ τ 15 = .int .i64 0 ∧ τ 24 = .int .i64 (kindF kd 8) ∧ τ 25 = .bool false ∧ τ 44 = .bool true) ⟨up rfl hs0, up rfl hs1, up rfl hs2, up rfl hs5, up rfl hs6, up rfl hs7, up rfl hs8, up rfl hs9, up rfl hs10, up rfl hs11, up rfl hs12, up rfl hs13, up rfl hs14, tp, up rfl hs24, up rfl hs25, up rfl hs44⟩ ?_
          rintro τ ⟨hs0, hs1, hs2, hs5, hs6, hs7, hs8, hs9, hs10, hs11, hs12, hs13, hs14, hs15, hs24, hs25, hs44⟩
          refine CW.block ?_
          have hst := hst.take (.there (.there (.there (.there .here))))
          have hst := hst.take (.there .here)
          have hst := hst.take (.there (.there (.there .here)))
          have hst := (hst.take (.there (.there (.there .here)))).drop
          have hst := (hst.take (.there (.there (.there .here)))).drop
          have hst := (hst.take (.there (.there (.there .here)))).drop
          have hst := (hst.take (.there (.there (.there .here)))).drop
          refine CW.loop (fun (k : Nat) (τ : Fr) (w : World) => ∃ (j : Nat) (xs : List Value), j ≤ es4.length ∧ k = es4.length - j ∧ τ 9 = .int .i64 (joinA i t (ts es) kk5 tm (ts es4)) ∧ τ 10 = .int .i64 (joinF i t (ts es) kk5 tm (ts es4)) ∧ τ 11 = .bool (joinO i t (ts es) kk5 tm) ∧ τ 12 = .int .i64 (joinA i t (ts ys) kk5 tm (ts es27)) ∧ τ 13 = .int .i64 (joinF i t (ts ys) kk5 tm (ts es27)) ∧ τ 14 = .bool (joinO i t (ts ys) kk5 tm) ∧ τ 7 = .slice X2 es4.length c3 ∧ τ 15 = .int .i64 ((j : Nat) : Int) ∧ St p w (LogB p bg i t es24 :: RefB p br i t (joinL i t (ts ys) kk5 tm (ts es27) ys es27) :: Own 58 4 (.slice X2 es4.length c3) es4.length xs :: R)) (es4.length - 0) ⟨0, _, by omega, rfl, hs9, hs10, hs11, hs12, hs13, hs14, hs7, (int_eq (a := 0) hs15 (by omega)), hst⟩ ?_
          clear hst
          rintro k τ w ⟨j, xs, hj, hkj, hs9, hs10, hs11, hs12, hs13, hs14, hs7, hs15, hst⟩
          refine CW.seq ?_
          refine CW.seq ?_
          refine CW.region ?_
          refine RW.soft Wd.a (v := .int .i64 ((j : Nat) : Int)) (by exact E.move (AF_ev rfl hs15)) ?_
          refine RW.soft Wd.a (v := .slice X2 es4.length c3) (by exact E.move (AF_ev rfl (up rfl hs7))) ?_
          refine RW.soft Wd.a (v := .int .i64 ((es4.length : Nat) : Int)) (by exact E.lenS (p := X2) (l := es4.length) (c := c3) Try.underlying44 (AF_ev rfl tp)) ?_
          refine RW.soft Wd.a (v := .bool (decide (((j : Nat) : Int) < ((es4.length : Nat) : Int)))) (by exact E.lss (k := .i64) (a := ((j : Nat) : Int)) (b := ((es4.length : Nat) : Int)) (AF_ev rfl (up rfl (up rfl tp))) (AF_ev rfl tp)) ?_
          refine RW.fin (fun τ => τ 7 = .slice X2 es4.length c3 ∧ τ 9 = .int .i64 (joinA i t (ts es) kk5 tm (ts es4)) ∧ τ 10 = .int .i64 (joinF i t (ts es) kk5 tm (ts es4)) ∧ τ 11 = .bool (joinO i t (ts es) kk5 tm) ∧ τ 12 = .int .i64 (joinA i t (ts ys) kk5 tm (ts es27)) ∧ τ 13 = .int .i64 (joinF i t (ts ys) kk5 tm (ts es27)) ∧ τ 14 = .bool (joinO i t (ts ys) kk5 tm) ∧ τ 15 = .int .i64 ((j : Nat) : Int) ∧ τ 73 = .bool (decide (((j : Nat) : Int) < ((es4.length : Nat) : Int)))) ⟨up rfl (up rfl (up rfl (up rfl hs7))), up rfl (up rfl (up rfl (up rfl hs9))), up rfl (up rfl (up rfl (up rfl hs10))), up rfl (up rfl (up rfl (up rfl hs11))), up rfl (up rfl (up rfl (up rfl hs12))), up rfl (up rfl (up rfl (up rfl hs13))), up rfl (up rfl (up rfl (up rfl hs14))), up rfl (up rfl (up rfl (up rfl hs15))), tp⟩ ?_
          rintro τ ⟨hs7, hs9, hs10, hs11, hs12, hs13, hs14, hs15, hs73⟩
          refine CW.cond (AF_ev rfl hs73) (fun hc28 => ?_) (fun hc28 => ?_)
          · have hc28_ := hc28
            try simp only [decide_eq_true_eq, decide_eq_false_iff_not, Bool.and_eq_true, Bool.or_eq_true, Bool.and_eq_false_iff, Bool.or_eq_false_iff, Bool.not_eq_true', Bool.not_eq_false', beq_iff_eq, beq_eq_false_iff_ne, bne_iff_ne, bne_eq_false_iff_eq, ne_eq, Int.not_lt, Int.not_le, gt_iff_lt, ge_iff_le] at hc28_
            refine CW.skip ?_
            refine Th.n ?_
            refine CW.seq ?_
            refine CW.block ?_
            obtain ⟨g3, rfl⟩ := hbX2 (by omega)
            refine CW.region ?_
            refine RW.soft Wd.a (v := .slice (some ⟨g3, 0, none⟩) es4.length c3) (by exact E.move (AF_ev rfl hs7)) ?_
            refine RW.soft Wd.a (v := .int .i64 ((j : Nat) : Int)) (by exact E.move (AF_ev rfl (up rfl hs15))) ?_
            refine RW.soft Wd.a (v := .agg #[.int .i64 77, .int .i64 0, .slice none 0 0, .slice none 0 0]) (by exact E.build (vs := #[(0, .int .i64 77)]) (bld1 rfl) (by kernel_rfl)) ?_
            refine RW.soft Wd.a (v := .pointer (some ⟨g3, j * 4, none⟩)) (by exact E.indexAddr (b := g3) (o := 0) (l := es4.length) (c := c3) (i := ((j : Nat) : Int)) Try.underlying44 sz58 (AF_ev rfl (up rfl (up rfl tp))) (AF_ev rfl (up rfl tp)) (by omega) (by omega) (by simp)) ?_
            refine RW.hard Wd.a ?_
            refine H.storeOwn (b := g3) (o := j * 4) (k := es4.length) (c := c3) (v := .agg #[.int .i64 77, .int .i64 0, .slice none 0 0, .slice none 0 0]) (AF_ev rfl tp) (AF_ev rfl (up rfl tp)) hst (.there (.there .here)) (by omega) sz58 (show j * 4 + 4 ≤ es4.length * 4 by omega) (by simp [Value.cells, Value.oneCell']) fun xs29 w hst => ?_
            refine RW.nil ?_
            refine Bl.n ?_
            refine Th.n ?_
            refine CW.region ?_
            refine RW.soft Wd.a (v := .int .i64 ((j : Nat) : Int)) (by exact E.move (AF_ev rfl (u0 (up rfl (up rfl (up rfl (up rfl hs15))))))) ?_
            refine RW.soft Wd.a (v := .int .i64 (((j : Nat) : Int) + 1)) (by exact E.add (k := .i64) (a := ((j : Nat) : Int)) (b := 1) (AF_ev rfl tp) rfl (show IntKind.i64.wrap (((j : Nat) : Int) + 1) = ((j : Nat) : Int) + 1 from (by rw [IntWalk.i64_in _ (by omega)]))) ?_
            refine RW.soft Wd.a (v := .int .i64 (((j : Nat) : Int) + 1)) (by exact E.assign (AF_ev rfl tp)) ?_
            refine RW.nil ?_
            refine Th.n ?_
            have hst := hst.take (.there (.there .here))
            have hst := hst.take (.there (.there .here))
            exact ⟨es4.length - (j + 1), by omega, j + 1, xs29, (by omega), (by omega), up rfl (up rfl (up rfl (u0 (up rfl (up rfl (up rfl (up rfl hs9))))))), up rfl (up rfl (up rfl (u0 (up rfl (up rfl (up rfl (up rfl hs10))))))), up rfl (up rfl (up rfl (u0 (up rfl (up rfl (up rfl (up rfl hs11))))))), up rfl (up rfl (up rfl (u0 (up rfl (up rfl (up rfl (up rfl hs12))))))), up rfl (up rfl (up rfl (u0 (up rfl (up rfl (up rfl (up rfl hs13))))))), up rfl (up rfl (up rfl (u0 (up rfl (up rfl (up rfl (up rfl hs14))))))), up rfl (up rfl (up rfl (u0 (up rfl (up rfl (up rfl (up rfl hs7))))))), (int_eq (a := ((j : Nat) : Int) + 1) tp (by omega)), hst⟩
          · have hc28_ := hc28
            try simp only [decide_eq_true_eq, decide_eq_false_iff_not, Bool.and_eq_true, Bool.or_eq_true, Bool.and_eq_false_iff, Bool.or_eq_false_iff, Bool.not_eq_true', Bool.not_eq_false', beq_iff_eq, beq_eq_false_iff_ne, bne_iff_ne, bne_eq_false_iff_eq, ne_eq, Int.not_lt, Int.not_le, gt_iff_lt, ge_iff_le] at hc28_
            refine CW.exit ?_
            refine Th.x ?_
            refine Th.x ?_
            refine Bl.x ?_
            refine Th.n ?_
            refine CW.seq ?_
            refine CW.region ?_
            refine RW.soft Wd.a (v := .int .i64 (joinA i t (ts es) kk5 tm (ts es4))) (by exact E.move (AF_ev rfl hs9)) ?_
            refine RW.soft Wd.a (v := .int .i64 (joinA i t (ts ys) kk5 tm (ts es27))) (by exact E.move (AF_ev rfl (up rfl hs12))) ?_
            refine RW.soft Wd.a (v := .bool true) (by exact E.b (a := (joinA i t (ts es) kk5 tm (ts es4)) == (joinA i t (ts ys) kk5 tm (ts es27))) (E.eql (k := .i64) (a := joinA i t (ts es) kk5 tm (ts es4)) (b := joinA i t (ts ys) kk5 tm (ts es27)) (AF_ev rfl (up rfl tp)) (AF_ev rfl tp)) (by rw [beq_iff_eq, hT, hU])) ?_
            refine RW.soft Wd.a (v := .bool true) (by exact E.move (AF_ev rfl tp)) ?_
            refine RW.soft (by exact Wd.yes (x := 83) rfl (AF_ev rfl tp)) (v := .int .i64 (joinF i t (ts es) kk5 tm (ts es4))) (by exact E.move (AF_ev rfl (up rfl (up rfl (up rfl (up rfl hs10)))))) ?_
            refine RW.soft (by exact Wd.yes (x := 83) rfl (AF_ev rfl (up rfl tp))) (v := .int .i64 (joinF i t (ts ys) kk5 tm (ts es27))) (by exact E.move (AF_ev rfl (up rfl (up rfl (up rfl (up rfl (up rfl hs13))))))) ?_
            refine RW.soft (by exact Wd.yes (x := 83) rfl (AF_ev rfl (up rfl (up rfl tp)))) (v := .bool true) (by exact E.b (a := (joinF i t (ts es) kk5 tm (ts es4)) == (joinF i t (ts ys) kk5 tm (ts es27))) (E.eql (k := .i64) (a := joinF i t (ts es) kk5 tm (ts es4)) (b := joinF i t (ts ys) kk5 tm (ts es27)) (AF_ev rfl (up rfl tp)) (AF_ev rfl tp)) (by rw [beq_iff_eq, hT, hU])) ?_
            refine RW.soft Wd.a (v := .bool true) (by exact E.pickT (AF_ev rfl (up rfl (up rfl (up rfl tp)))) (AF_ev rfl tp)) ?_
            refine RW.soft Wd.a (v := .bool true) (by exact E.move (AF_ev rfl tp)) ?_
            refine RW.soft (by exact Wd.yes (x := 88) rfl (AF_ev rfl tp)) (v := .bool (joinO i t (ts es) kk5 tm)) (by exact E.move (AF_ev rfl (up rfl (up rfl (up rfl (up rfl (up rfl (up rfl (up rfl (up rfl (up rfl hs11))))))))))) ?_
            refine RW.soft (by exact Wd.yes (x := 88) rfl (AF_ev rfl (up rfl tp))) (v := .bool (joinO i t (ts ys) kk5 tm)) (by exact E.move (AF_ev rfl (up rfl (up rfl (up rfl (up rfl (up rfl (up rfl (up rfl (up rfl (up rfl (up rfl hs14)))))))))))) ?_
            refine RW.soft (by exact Wd.yes (x := 88) rfl (AF_ev rfl (up rfl (up rfl tp)))) (v := .bool true) (by exact E.b (a := (joinO i t (ts es) kk5 tm) == (joinO i t (ts ys) kk5 tm)) (E.eqlB (a := joinO i t (ts es) kk5 tm) (b := joinO i t (ts ys) kk5 tm) Try.underlying4 (AF_ev rfl (up rfl tp)) (AF_ev rfl tp)) (by rw [beq_iff_eq, hT])) ?_
            refine RW.soft Wd.a (v := .bool true) (by exact E.pickT (AF_ev rfl (up rfl (up rfl (up rfl tp)))) (AF_ev rfl tp)) ?_
            refine RW.soft Wd.a (v := .bool true) (by exact E.assign (AF_ev rfl tp)) ?_
            refine RW.fin (fun τ => τ 6 = .bool true ∧ τ 7 = .slice X2 es4.length c3 ∧ τ 9 = .int .i64 (joinA i t (ts es) kk5 tm (ts es4)) ∧ τ 10 = .int .i64 (joinF i t (ts es) kk5 tm (ts es4)) ∧ τ 11 = .bool (joinO i t (ts es) kk5 tm) ∧ τ 12 = .int .i64 (joinA i t (ts ys) kk5 tm (ts es27)) ∧ τ 13 = .int .i64 (joinF i t (ts ys) kk5 tm (ts es27)) ∧ τ 14 = .bool (joinO i t (ts ys) kk5 tm) ∧ τ 15 = .int .i64 ((j : Nat) : Int) ∧ τ 73 = .bool false) ⟨tp, up rfl (up rfl (up rfl (up rfl (up rfl (up rfl (up rfl (up rfl (up rfl (up rfl (up rfl (up rfl (up rfl (up rfl hs7))))))))))))), up rfl (up rfl (up rfl (up rfl (up rfl (up rfl (up rfl (up rfl (up rfl (up rfl (up rfl (up rfl (up rfl (up rfl hs9))))))))))))), up rfl (up rfl (up rfl (up rfl (up rfl (up rfl (up rfl (up rfl (up rfl (up rfl (up rfl (up rfl (up rfl (up rfl hs10))))))))))))), up rfl (up rfl (up rfl (up rfl (up rfl (up rfl (up rfl (up rfl (up rfl (up rfl (up rfl (up rfl (up rfl (up rfl hs11))))))))))))), up rfl (up rfl (up rfl (up rfl (up rfl (up rfl (up rfl (up rfl (up rfl (up rfl (up rfl (up rfl (up rfl (up rfl hs12))))))))))))), up rfl (up rfl (up rfl (up rfl (up rfl (up rfl (up rfl (up rfl (up rfl (up rfl (up rfl (up rfl (up rfl (up rfl hs13))))))))))))), up rfl (up rfl (up rfl (up rfl (up rfl (up rfl (up rfl (up rfl (up rfl (up rfl (up rfl (up rfl (up rfl (up rfl hs14))))))))))))), up rfl (up rfl (up rfl (up rfl (up rfl (up rfl (up rfl (up rfl (up rfl (up rfl (up rfl (up rfl (up rfl (up rfl hs15))))))))))))), up rfl (up rfl (up rfl (up rfl (up rfl (up rfl (up rfl (up rfl (up rfl (up rfl (up rfl (up rfl (up rfl (up rfl (Eq.trans hs73 (congrArg Value.bool hc28)))))))))))))))⟩ ?_
            rintro τ ⟨hs6, hs7, hs9, hs10, hs11, hs12, hs13, hs14, hs15, hs73⟩
            refine CW.ret ?_
            refine Bl.r ?_
            refine Th.r ?_
            refine ret1 (v := .bool true) rfl (by exact (.tmp (AF_ev rfl hs6) .nil)) ?_
            have hst := hst.take (.there .here)
            have hst := hst.take (.there .here)
            have hst := (hst.take (.there (.there .here))).drop
            exact ⟨p, _, _, _, _, hp0, (by rw [hvses24, hT, hU, hv, hfwes4, ← hfwes27]; exact (joinL_map Ent.view).symm), (by omega), rfl, hst⟩
        · have hc23_ := hc23
          try simp only [decide_eq_true_eq, decide_eq_false_iff_not, Bool.and_eq_true, Bool.or_eq_true, Bool.and_eq_false_iff, Bool.or_eq_false_iff, Bool.not_eq_true', Bool.not_eq_false', beq_iff_eq, beq_eq_false_iff_ne, bne_iff_ne, bne_eq_false_iff_eq, ne_eq, Int.not_lt, Int.not_le, gt_iff_lt, ge_iff_le] at hc23_
          refine CW.region ?_
          refine RW.soft Wd.a (v := .bool ((kindF kd 8) == 4)) (by exact E.eql (k := .i64) (a := kindF kd 8) (b := 4) (AF_ev rfl hs24) rfl) ?_
          refine RW.soft Wd.a (v := .bool ((kindF kd 8) == 4)) (by exact E.assign (AF_ev rfl tp)) ?_
          refine RW.fin (fun τ => τ 0 = .pointer (some ⟨bg, 0, none⟩) ∧ τ 1 = .pointer (some ⟨br, 0, none⟩) ∧ τ 2 = .agg #[.int .i64 kd, .int .i64 ix, .int .i64 tm, .slice Z z.length d] ∧ τ 5 = .pointer (some ⟨b1, 0, none⟩) ∧ τ 6 = .bool false ∧ τ 7 = .slice X2 es4.length c3 ∧ τ 8 = .int .i64 kk5 ∧ τ 24 = .int .i64 (kindF kd 8) ∧ τ 25 = .bool false ∧ τ 44 = .bool ((kindF kd 8) == 4)) ⟨up rfl (up rfl hs0), up rfl (up rfl hs1), up rfl (up rfl hs2), up rfl (up rfl hs5), up rfl (up rfl hs6), up rfl (up rfl hs7), up rfl (up rfl hs8), up rfl (up rfl hs24), up rfl (up rfl hs25), tp⟩ ?_
          rintro τ ⟨hs0, hs1, hs2, hs5, hs6, hs7, hs8, hs24, hs25, hs44⟩
          refine CW.cond (AF_ev rfl hs44) (fun hc30 => ?_) (fun hc30 => ?_)
          · have hc30_ := hc30
            try simp only [decide_eq_true_eq, decide_eq_false_iff_not, Bool.and_eq_true, Bool.or_eq_true, Bool.and_eq_false_iff, Bool.or_eq_false_iff, Bool.not_eq_true', Bool.not_eq_false', beq_iff_eq, beq_eq_false_iff_ne, bne_iff_ne, bne_eq_false_iff_eq, ne_eq, Int.not_lt, Int.not_le, gt_iff_lt, ge_iff_le] at hc30_
            refine CW.seq ?_
            refine CW.region ?_
            refine RW.soft Wd.a (v := .pointer (some ⟨bg, 0, none⟩)) (by exact E.move (AF_ev rfl hs0)) ?_
            refine RW.soft Wd.a (v := .int .i64 kk5) (by exact E.move (AF_ev rfl (up rfl hs8))) ?_
            refine RW.soft Wd.a (v := .pointer (some ⟨b1, 2, none⟩)) (by exact E.fieldAddr (b := b1) (o := 0) (f := { name := "Term", type := 3, offset := 2, embedded := false, tag := "", pkgPath := "", byteOffset := 16 }) (AF_ev rfl (up rfl (up rfl hs5))) Try.underlying46 rfl sz3 rfl) ?_
            refine RW.soft Wd.a (v := .int .i64 tm) (by exact E.load (a := ⟨b1, 2, none⟩) Try.underlying3 rfl (AF_ev rfl tp) (hst.cell (.there (.there (.there (.there .here)))) rfl)) ?_
            refine RW.soft Wd.a (v := .slice X2 es4.length c3) (by exact E.move (AF_ev rfl (up rfl (up rfl (up rfl (up rfl hs7)))))) ?_
            have hst := hst.take (.there (.there .here))
            have hst := hst.take (.there (.there .here))
            refine RW.hard Wd.a ?_
            refine H.call0 Try.func29 nm29 rfl (map4 (AF_ev rfl (up rfl (up rfl (up rfl (up rfl tp))))) (AF_ev rfl (up rfl (up rfl (up rfl tp)))) (AF_ev rfl (up rfl tp)) (AF_ev rfl tp)) (Calls.mono (ent_Join kk5 tm (by omega) (by omega) Own.tells hokes4 hst) ?_)
            rintro _ w ⟨p, es31, hle, rfl, hvses31, hst⟩
            have hp0 := hp0.le hle
            have hL2 := hL2.le hle
            have hEL2 := hEL2.le hle
            have hokes4 := hokes4.le hle
            have hjles31 := joinL_len (α := Int × Int × List Int × List Int) (i := i) (t := t) (idx := kk5) (tm := tm) (T := ts es) (U := ts es4) (a := vs es) (b := vs es4) (by simp [vs, ts]) (by simp [vs, ts])
            rw [← hvses31] at hjles31; simp only [vs, List.length_map] at hjles31
            have hst := refLe hle (hst.take (.there (.there .here)))
            refine ⟨_, rfl, ?_⟩
            show RW _ _ _ _ _ _ _
            refine RW.soft Wd.a (v := .tuple #[.int .i64 (joinA i t (ts es) kk5 tm (ts es4)), .int .i64 (joinF i t (ts es) kk5 tm (ts es4)), .bool (joinO i t (ts es) kk5 tm)]) (by exact E.move (AF_ev rfl tp)) ?_
            refine RW.soft Wd.a (v := .int .i64 (joinA i t (ts es) kk5 tm (ts es4))) (by exact E.extract (vs := #[.int .i64 (joinA i t (ts es) kk5 tm (ts es4)), .int .i64 (joinF i t (ts es) kk5 tm (ts es4)), .bool (joinO i t (ts es) kk5 tm)]) (AF_ev rfl tp) rfl) ?_
            refine RW.soft Wd.a (v := .int .i64 (joinF i t (ts es) kk5 tm (ts es4))) (by exact E.extract (vs := #[.int .i64 (joinA i t (ts es) kk5 tm (ts es4)), .int .i64 (joinF i t (ts es) kk5 tm (ts es4)), .bool (joinO i t (ts es) kk5 tm)]) (AF_ev rfl (up rfl tp)) rfl) ?_
            refine RW.soft Wd.a (v := .bool (joinO i t (ts es) kk5 tm)) (by exact E.extract (vs := #[.int .i64 (joinA i t (ts es) kk5 tm (ts es4)), .int .i64 (joinF i t (ts es) kk5 tm (ts es4)), .bool (joinO i t (ts es) kk5 tm)]) (AF_ev rfl (up rfl (up rfl tp))) rfl) ?_
            refine RW.soft Wd.a (v := .int .i64 (joinA i t (ts es) kk5 tm (ts es4))) (by exact E.assign (AF_ev rfl (up rfl (up rfl tp)))) ?_
            refine RW.soft Wd.a (v := .int .i64 (joinF i t (ts es) kk5 tm (ts es4))) (by exact E.assign (AF_ev rfl (up rfl (up rfl tp)))) ?_
            refine RW.soft Wd.a (v := .bool (joinO i t (ts es) kk5 tm)) (by exact E.assign (AF_ev rfl (up rfl (up rfl tp)))) ?_
            refine RW.fin (fun τ => τ 0 = .pointer (some ⟨bg, 0, none⟩) ∧ τ 1 = .pointer (some ⟨br, 0, none⟩) ∧ τ 2 = .agg #[.int .i64 kd, .int .i64 ix, .int .i64 tm, .slice Z z.length d] ∧ τ 5 = .pointer (some ⟨b1, 0, none⟩) ∧ τ 6 = .bool false ∧ τ 7 = .slice X2 es4.length c3 ∧ τ 8 = .int .i64 kk5 ∧ τ 9 = .int .i64 (joinA i t (ts es) kk5 tm (ts es4)) ∧ τ 10 = .int .i64 (joinF i t (ts es) kk5 tm (ts es4)) ∧ τ 11 = .bool (joinO i t (ts es) kk5 tm) ∧ τ 24 = .int .i64 (kindF kd 8) ∧ τ 25 = .bool false ∧ τ 44 = .bool true) ⟨up rfl (up rfl (up rfl (up rfl (up rfl (up rfl (up rfl (up rfl (up rfl (up rfl (up rfl (up rfl (up rfl hs0)))))))))))), up rfl (up rfl (up rfl (up rfl (up rfl (up rfl (up rfl (up rfl (up rfl (up rfl (up rfl (up rfl (up rfl hs1)))))))))))), up rfl (up rfl (up rfl (up rfl (up rfl (up rfl (up rfl (up rfl (up rfl (up rfl (up rfl (up rfl (up rfl hs2)))))))))))), up rfl (up rfl (up rfl (up rfl (up rfl (up rfl (up rfl (up rfl (up rfl (up rfl (up rfl (up rfl (up rfl hs5)))))))))))), up rfl (up rfl (up rfl (up rfl (up rfl (up rfl (up rfl (up rfl (up rfl (up rfl (up rfl (up rfl (up rfl hs6)))))))))))), up rfl (up rfl (up rfl (up rfl (up rfl (up rfl (up rfl (up rfl (up rfl (up rfl (up rfl (up rfl (up rfl hs7)))))))))))), up rfl (up rfl (up rfl (up rfl (up rfl (up rfl (up rfl (up rfl (up rfl (up rfl (up rfl (up rfl (up rfl hs8)))))))))))), up rfl (up rfl tp), up rfl tp, tp, up rfl (up rfl (up rfl (up rfl (up rfl (up rfl (up rfl (up rfl (up rfl (up rfl (up rfl (up rfl (up rfl hs24)))))))))))), up rfl (up rfl (up rfl (up rfl (up rfl (up rfl (up rfl (up rfl (up rfl (up rfl (up rfl (up rfl (up rfl hs25)))))))))))), up rfl (up rfl (up rfl (up rfl (up rfl (up rfl (up rfl (up rfl (up rfl (up rfl (up rfl (up rfl (up rfl (Eq.trans hs44 (congrArg Value.bool hc30))))))))))))))⟩ ?_
            rintro τ ⟨hs0, hs1, hs2, hs5, hs6, hs7, hs8, hs9, hs10, hs11, hs24, hs25, hs44⟩
            refine CW.seq ?_
            refine CW.regionD [0, 1, 2, 3, 4, 5, 9, 10, 11] (fun w => w.cell? ⟨b1, 2, none⟩ = some (.int .i64 tm) ∧ w.cell? ⟨b1, 3, none⟩ = some (.slice Z z.length d)) mixed ?_
            have hst := hst.drew
            generalize w.drew = w at hst ⊢
            have hS : w.cell? ⟨b1, 2, none⟩ = some (.int .i64 tm) ∧ w.cell? ⟨b1, 3, none⟩ = some (.slice Z z.length d) := ⟨hst.cell (.there (.there (.there (.there .here)))) rfl, hst.cell (.there (.there (.there (.there .here)))) rfl⟩
            refine RD.take 0 rfl (by kernel_rfl) Wd.a (v := .pointer (some ⟨br, 0, none⟩)) (fun w hS => by exact E.move (AF_ev rfl hs1)) hS ?_
            refine RD.take 1 rfl (by kernel_rfl) Wd.a (v := .int .i64 kk5) (fun w hS => by exact E.move (AF_ev rfl (up rfl hs8))) hS ?_
            refine RD.take 2 rfl (by kernel_rfl) Wd.a (v := .pointer (some ⟨b1, 2, none⟩)) (fun w hS => by exact E.fieldAddr (b := b1) (o := 0) (f := { name := "Term", type := 3, offset := 2, embedded := false, tag := "", pkgPath := "", byteOffset := 16 }) (AF_ev rfl (up rfl (up rfl hs5))) Try.underlying46 rfl sz3 rfl) hS ?_
            refine RD.take 3 rfl (by kernel_rfl) Wd.a (v := .int .i64 tm) (fun w hS => by exact E.load (a := ⟨b1, 2, none⟩) Try.underlying3 rfl (AF_ev rfl tp) hS.1) hS ?_
            refine RD.take 4 rfl (by kernel_rfl) Wd.a (v := .pointer (some ⟨b1, 3, none⟩)) (fun w hS => by exact E.fieldAddr (b := b1) (o := 0) (f := { name := "L", type := 44, offset := 3, embedded := false, tag := "", pkgPath := "", byteOffset := 24 }) (AF_ev rfl (up rfl (up rfl (up rfl (up rfl hs5))))) Try.underlying46 rfl sz44 rfl) hS ?_
            refine RD.take 5 rfl (by kernel_rfl) Wd.a (v := .slice Z z.length d) (fun w hS => by exact E.load (a := ⟨b1, 3, none⟩) Try.underlying44 rfl (AF_ev rfl tp) hS.2) hS ?_
            refine RD.only 6 rfl (by kernel_rfl) Wd.a ?_
            have hst := hst.emp
            refine H.call0 Try.func27 nm27 rfl (map1 (AF_ev rfl tp)) (Calls.mono (ent_few2 (Las.tells hL2) hEL2 (by omega) p.le_refl hst) ?_)
            rintro _ w ⟨p, vX32, es34, hle, rfl, hokes34, hl20es34, hfwes34, hst⟩
            obtain ⟨X32, c33, rfl, hcX32, hmX32, hlX32, hbX32⟩ := hst.shape
            have hp0 := hp0.le hle
            have hL2 := hL2.le hle
            have hEL2 := hEL2.le hle
            have hokes4 := hokes4.le hle
            have hst := refLe hle (hst.take (.there (.there .here)))
            have hst := logLe hle (hst.take (.there (.there (.there .here))))
            refine ⟨_, rfl, ?_⟩
            have hS : w.cell? ⟨b1, 2, none⟩ = some (.int .i64 tm) ∧ w.cell? ⟨b1, 3, none⟩ = some (.slice Z z.length d) := ⟨hst.cell (.there (.there (.there (.there (.there (.there .here)))))) rfl, hst.cell (.there (.there (.there (.there (.there (.there .here)))))) rfl⟩
            refine ⟨fun _ => hS, ?_⟩
            refine RD.only 7 rfl (by kernel_rfl) Wd.a ?_
            have hst := hst.take (.there (.there .here))
            have hst := hst.take (.there (.there .here))
            have hU : ts es4 = ts es34 := ts_eq (hfwes4.trans hfwes34.symm)
            refine H.call0 Try.func81 nm81 rfl (map4 (AF_ev rfl (up rfl (up rfl (up rfl (up rfl (up rfl (up rfl tp))))))) (AF_ev rfl (up rfl (up rfl (up rfl (up rfl (up rfl tp)))))) (AF_ev rfl (up rfl (up rfl (up rfl tp)))) (AF_ev rfl tp)) (Calls.mono (ref_Join kk5 tm (by omega) (by omega) Own.tells hokes34 hst) ?_)
            rintro _ w ⟨rfl, hst⟩
            refine ⟨_, rfl, ?_⟩
            have hS : w.cell? ⟨b1, 2, none⟩ = some (.int .i64 tm) ∧ w.cell? ⟨b1, 3, none⟩ = some (.slice Z z.length d) := ⟨hst.cell (.there (.there (.there (.there (.there (.there .here)))))) rfl, hst.cell (.there (.there (.there (.there (.there (.there .here)))))) rfl⟩
            refine ⟨fun _ => hS, ?_⟩
            refine RD.only 8 rfl (by kernel_rfl) Wd.a (Hd.value (v := .tuple #[.int .i64 (joinA i t (ts ys) kk5 tm (ts es34)), .int .i64 (joinF i t (ts ys) kk5 tm (ts es34)), .bool (joinO i t (ts ys) kk5 tm)]) (by exact E.move (AF_ev rfl tp)) ⟨fun _ => hS, ?_⟩)
            refine RD.take 9 rfl (by kernel_rfl) Wd.a (v := .int .i64 (joinA i t (ts ys) kk5 tm (ts es34))) (fun w hS => by exact E.extract (vs := #[.int .i64 (joinA i t (ts ys) kk5 tm (ts es34)), .int .i64 (joinF i t (ts ys) kk5 tm (ts es34)), .bool (joinO i t (ts ys) kk5 tm)]) (AF_ev rfl tp) rfl) hS ?_
            refine RD.take 10 rfl (by kernel_rfl) Wd.a (v := .int .i64 (joinF i t (ts ys) kk5 tm (ts es34))) (fun w hS => by exact E.extract (vs := #[.int .i64 (joinA i t (ts ys) kk5 tm (ts es34)), .int .i64 (joinF i t (ts ys) kk5 tm (ts es34)), .bool (joinO i t (ts ys) kk5 tm)]) (AF_ev rfl (up rfl tp)) rfl) hS ?_
            refine RD.take 11 rfl (by kernel_rfl) Wd.a (v := .bool (joinO i t (ts ys) kk5 tm)) (fun w hS => by exact E.extract (vs := #[.int .i64 (joinA i t (ts ys) kk5 tm (ts es34)), .int .i64 (joinF i t (ts ys) kk5 tm (ts es34)), .bool (joinO i t (ts ys) kk5 tm)]) (AF_ev rfl (up rfl (up rfl tp))) rfl) hS ?_
            refine RD.only 12 rfl (by kernel_rfl) Wd.a (Hd.value (v := .int .i64 (joinA i t (ts ys) kk5 tm (ts es34))) (by exact E.assign (AF_ev rfl (up rfl (up rfl tp)))) ⟨fun _ => hS, ?_⟩)
            refine RD.only 13 rfl (by kernel_rfl) Wd.a (Hd.value (v := .int .i64 (joinF i t (ts ys) kk5 tm (ts es34))) (by exact E.assign (AF_ev rfl (up rfl (up rfl tp)))) ⟨fun _ => hS, ?_⟩)
            refine RD.only 14 rfl (by kernel_rfl) Wd.a (Hd.value (v := .bool (joinO i t (ts ys) kk5 tm)) (by exact E.assign (AF_ev rfl (up rfl (up rfl tp)))) ⟨fun h => Bool.noConfusion ((show needs _ _ _ = false by kernel_rfl).symm.trans h), ?_⟩)
            refine RD.fin (by kernel_rfl) (fun τ => τ 0 = .pointer (some ⟨bg, 0, none⟩) ∧ τ 1 = .pointer (some ⟨br, 0, none⟩) ∧ τ 2 = .agg #[.int .i64 kd, .int .i64 ix, .int .i64 tm, .slice Z z.length d] ∧ τ 5 = .pointer (some ⟨b1, 0, none⟩) ∧ τ 6 = .bool false ∧ τ 7 = .slice X2 es4.length c3 ∧ τ 8 = .int .i64 kk5 ∧ τ 9 = .int .i64 (joinA i t (ts es) kk5 tm (ts es4)) ∧ τ 10 = .int .i64 (joinF i t (ts es) kk5 tm (ts es4)) ∧ τ 11 = .bool (joinO i t (ts es) kk5 tm) ∧ τ 12 = .int .i64 (joinA i t (ts ys) kk5 tm (ts es34)) ∧ τ 13 = .int .i64 (joinF i t (ts ys) kk5 tm (ts es34)) ∧ τ 14 = .bool (joinO i t (ts ys) kk5 tm) ∧ τ 24 = .int .i64 (kindF kd 8) ∧ τ 25 = .bool false ∧ τ 44 = .bool true) ⟨up rfl (up rfl (up rfl (up rfl (up rfl (up rfl (up rfl (up rfl (up rfl (up rfl (up rfl (up rfl (up rfl (up rfl (up rfl hs0)))))))))))))), up rfl (up rfl (up rfl (up rfl (up rfl (up rfl (up rfl (up rfl (up rfl (up rfl (up rfl (up rfl (up rfl (up rfl (up rfl hs1)))))))))))))), up rfl (up rfl (up rfl (up rfl (up rfl (up rfl (up rfl (up rfl (up rfl (up rfl (up rfl (up rfl (up rfl (up rfl (up rfl hs2)))))))))))))), up rfl (up rfl (up rfl (up rfl (up rfl (up rfl (up rfl (up rfl (up rfl (up rfl (up rfl (up rfl (up rfl (up rfl (up rfl hs5)))))))))))))), up rfl (up rfl (up rfl (up rfl (up rfl (up rfl (up rfl (up rfl (up rfl (up rfl (up rfl (up rfl (up rfl (up rfl (up rfl hs6)))))))))))))), up rfl (up rfl (up rfl (up rfl (up rfl (up rfl (up rfl (up rfl (up rfl (up rfl (up rfl (up rfl (up rfl (up rfl (up rfl hs7)))))))))))))), up rfl (up rfl (up rfl (up rfl (up rfl (up rfl (up rfl (up rfl (up rfl (up rfl (up rfl (up rfl (up rfl (up rfl (up rfl hs8)))))))))))))), up rfl (up rfl (up rfl (up rfl (up rfl (up rfl (up rfl (up rfl (up rfl (up rfl (up rfl (up rfl (up rfl (up rfl (up rfl hs9)))))))))))))), up rfl (up rfl (up rfl (up rfl (up rfl (up rfl (up rfl (up rfl (up rfl (up rfl (up rfl (up rfl (up rfl (up rfl (up rfl hs10)))))))))))))), up rfl (up rfl (up rfl (up rfl (up rfl (up rfl (up rfl (up rfl (up rfl (up rfl (up rfl (up rfl (up rfl (up rfl (up rfl hs11)))))))))))))), up rfl (up rfl tp), up rfl tp, tp, up rfl (up rfl (up rfl (up rfl (up rfl (up rfl (up rfl (up rfl (up rfl (up rfl (up rfl (up rfl (up rfl (up rfl (up rfl hs24)))))))))))))), up rfl (up rfl (up rfl (up rfl (up rfl (up rfl (up rfl (up rfl (up rfl (up rfl (up rfl (up rfl (up rfl (up rfl (up rfl hs25)))))))))))))), up rfl (up rfl (up rfl (up rfl (up rfl (up rfl (up rfl (up rfl (up rfl (up rfl (up rfl (up rfl (up rfl (up rfl (up rfl hs44))))))))))))))⟩ ?_
            rintro τ ⟨hs0, hs1, hs2, hs5, hs6, hs7, hs8, hs9, hs10, hs11, hs12, hs13, hs14, hs24, hs25, hs44⟩
            refine CW.seq ?_
            refine CW.seq ?_
            refine CW.region ?_
            refine RW.soft Wd.a (v := .int .i64 0) (by exact E.assign rfl) ?_
            refine RW.fin (fun τ => τ 0 = .pointer (some ⟨bg, 0, none⟩) ∧ τ 1 = .pointer (some ⟨br, 0, none⟩) ∧ τ 2 = .agg #[.int .i64 kd, .int .i64 ix, .int .i64 tm, .slice Z z.length d] ∧ τ 5 = .pointer (some ⟨b1, 0, none⟩) ∧ τ 6 = .bool false ∧ τ 7 = .slice X2 es4.length c3 ∧ τ 8 = .int .i64 kk5 ∧ τ 9 = .int .i64 (joinA i t (ts es) kk5 tm (ts es4)) ∧ τ 10 = .int .i64 (joinF i t (ts es) kk5 tm (ts es4)) ∧ τ 11 = .bool (joinO i t (ts es) kk5 tm) ∧ τ 12 = .int .i64 (joinA i t (ts ys) kk5 tm (ts es34)) ∧ τ 13 = .int .i64 (joinF i t (ts ys) kk5 tm (ts es34)) ∧ τ 14 = .bool (joinO i t (ts ys) kk5 tm) ∧ τ 15 = .int .i64 0 ∧ τ 24 = .int .i64 (kindF kd 8) ∧ τ 25 = .bool false ∧ τ 44 = .bool true) ⟨up rfl hs0, up rfl hs1, up rfl hs2, up rfl hs5, up rfl hs6, up rfl hs7, up rfl hs8, up rfl hs9, up rfl hs10, up rfl hs11, up rfl hs12, up rfl hs13, up rfl hs14, tp, up rfl hs24, up rfl hs25, up rfl hs44⟩ ?_
            rintro τ ⟨hs0, hs1, hs2, hs5, hs6, hs7, hs8, hs9, hs10, hs11, hs12, hs13, hs14, hs15, hs24, hs25, hs44⟩
            refine CW.block ?_
            have hst := hst.take (.there (.there (.there (.there .here))))
            have hst := hst.take (.there .here)
            have hst := hst.take (.there (.there (.there .here)))
            have hst := (hst.take (.there (.there (.there .here)))).drop
            have hst := (hst.take (.there (.there (.there .here)))).drop
            have hst := (hst.take (.there (.there (.there .here)))).drop
            have hst := (hst.take (.there (.there (.there .here)))).drop
            refine CW.loop (fun (k : Nat) (τ : Fr) (w : World) => ∃ (j : Nat) (xs : List Value), j ≤ es4.length ∧ k = es4.length - j ∧ τ 9 = .int .i64 (joinA i t (ts es) kk5 tm (ts es4)) ∧ τ 10 = .int .i64 (joinF i t (ts es) kk5 tm (ts es4)) ∧ τ 11 = .bool (joinO i t (ts es) kk5 tm) ∧ τ 12 = .int .i64 (joinA i t (ts ys) kk5 tm (ts es34)) ∧ τ 13 = .int .i64 (joinF i t (ts ys) kk5 tm (ts es34)) ∧ τ 14 = .bool (joinO i t (ts ys) kk5 tm) ∧ τ 7 = .slice X2 es4.length c3 ∧ τ 15 = .int .i64 ((j : Nat) : Int) ∧ St p w (LogB p bg i t es31 :: RefB p br i t (joinL i t (ts ys) kk5 tm (ts es34) ys es34) :: Own 58 4 (.slice X2 es4.length c3) es4.length xs :: R)) (es4.length - 0) ⟨0, _, by omega, rfl, hs9, hs10, hs11, hs12, hs13, hs14, hs7, (int_eq (a := 0) hs15 (by omega)), hst⟩ ?_
            clear hst
            rintro k τ w ⟨j, xs, hj, hkj, hs9, hs10, hs11, hs12, hs13, hs14, hs7, hs15, hst⟩
            refine CW.seq ?_
            refine CW.seq ?_
            refine CW.region ?_
            refine RW.soft Wd.a (v := .int .i64 ((j : Nat) : Int)) (by exact E.move (AF_ev rfl hs15)) ?_
            refine RW.soft Wd.a (v := .slice X2 es4.length c3) (by exact E.move (AF_ev rfl (up rfl hs7))) ?_
            refine RW.soft Wd.a (v := .int .i64 ((es4.length : Nat) : Int)) (by exact E.lenS (p := X2) (l := es4.length) (c := c3) Try.underlying44 (AF_ev rfl tp)) ?_
            refine RW.soft Wd.a (v := .bool (decide (((j : Nat) : Int) < ((es4.length : Nat) : Int)))) (by exact E.lss (k := .i64) (a := ((j : Nat) : Int)) (b := ((es4.length : Nat) : Int)) (AF_ev rfl (up rfl (up rfl tp))) (AF_ev rfl tp)) ?_
            refine RW.fin (fun τ => τ 7 = .slice X2 es4.length c3 ∧ τ 9 = .int .i64 (joinA i t (ts es) kk5 tm (ts es4)) ∧ τ 10 = .int .i64 (joinF i t (ts es) kk5 tm (ts es4)) ∧ τ 11 = .bool (joinO i t (ts es) kk5 tm) ∧ τ 12 = .int .i64 (joinA i t (ts ys) kk5 tm (ts es34)) ∧ τ 13 = .int .i64 (joinF i t (ts ys) kk5 tm (ts es34)) ∧ τ 14 = .bool (joinO i t (ts ys) kk5 tm) ∧ τ 15 = .int .i64 ((j : Nat) : Int) ∧ τ 73 = .bool (decide (((j : Nat) : Int) < ((es4.length : Nat) : Int)))) ⟨up rfl (up rfl (up rfl (up rfl hs7))), up rfl (up rfl (up rfl (up rfl hs9))), up rfl (up rfl (up rfl (up rfl hs10))), up rfl (up rfl (up rfl (up rfl hs11))), up rfl (up rfl (up rfl (up rfl hs12))), up rfl (up rfl (up rfl (up rfl hs13))), up rfl (up rfl (up rfl (up rfl hs14))), up rfl (up rfl (up rfl (up rfl hs15))), tp⟩ ?_
            rintro τ ⟨hs7, hs9, hs10, hs11, hs12, hs13, hs14, hs15, hs73⟩
            refine CW.cond (AF_ev rfl hs73) (fun hc35 => ?_) (fun hc35 => ?_)
            · have hc35_ := hc35
              try simp only [decide_eq_true_eq, decide_eq_false_iff_not, Bool.and_eq_true, Bool.or_eq_true, Bool.and_eq_false_iff, Bool.or_eq_false_iff, Bool.not_eq_true', Bool.not_eq_false', beq_iff_eq, beq_eq_false_iff_ne, bne_iff_ne, bne_eq_false_iff_eq, ne_eq, Int.not_lt, Int.not_le, gt_iff_lt, ge_iff_le] at hc35_
              refine CW.skip ?_
              refine Th.n ?_
              refine CW.seq ?_
              refine CW.block ?_
              obtain ⟨g3, rfl⟩ := hbX2 (by omega)
              refine CW.region ?_
              refine RW.soft Wd.a (v := .slice (some ⟨g3, 0, none⟩) es4.length c3) (by exact E.move (AF_ev rfl hs7)) ?_
              refine RW.soft Wd.a (v := .int .i64 ((j : Nat) : Int)) (by exact E.move (AF_ev rfl (up rfl hs15))) ?_
              refine RW.soft Wd.a (v := .agg #[.int .i64 77, .int .i64 0, .slice none 0 0, .slice none 0 0]) (by exact E.build (vs := #[(0, .int .i64 77)]) (bld1 rfl) (by kernel_rfl)) ?_
              refine RW.soft Wd.a (v := .pointer (some ⟨g3, j * 4, none⟩)) (by exact E.indexAddr (b := g3) (o := 0) (l := es4.length) (c := c3) (i := ((j : Nat) : Int)) Try.underlying44 sz58 (AF_ev rfl (up rfl (up rfl tp))) (AF_ev rfl (up rfl tp)) (by omega) (by omega) (by simp)) ?_
              refine RW.hard Wd.a ?_
              refine H.storeOwn (b := g3) (o := j * 4) (k := es4.length) (c := c3) (v := .agg #[.int .i64 77, .int .i64 0, .slice none 0 0, .slice none 0 0]) (AF_ev rfl tp) (AF_ev rfl (up rfl tp)) hst (.there (.there .here)) (by omega) sz58 (show j * 4 + 4 ≤ es4.length * 4 by omega) (by simp [Value.cells, Value.oneCell']) fun xs36 w hst => ?_
              refine RW.nil ?_
              refine Bl.n ?_
              refine Th.n ?_
              refine CW.region ?_
              refine RW.soft Wd.a (v := .int .i64 ((j : Nat) : Int)) (by exact E.move (AF_ev rfl (u0 (up rfl (up rfl (up rfl (up rfl hs15))))))) ?_
              refine RW.soft Wd.a (v := .int .i64 (((j : Nat) : Int) + 1)) (by exact E.add (k := .i64) (a := ((j : Nat) : Int)) (b := 1) (AF_ev rfl tp) rfl (show IntKind.i64.wrap (((j : Nat) : Int) + 1) = ((j : Nat) : Int) + 1 from (by rw [IntWalk.i64_in _ (by omega)]))) ?_
              refine RW.soft Wd.a (v := .int .i64 (((j : Nat) : Int) + 1)) (by exact E.assign (AF_ev rfl tp)) ?_
              refine RW.nil ?_
              refine Th.n ?_
              have hst := hst.take (.there (.there .here))
              have hst := hst.take (.there (.there .here))
              exact ⟨es4.length - (j + 1), by omega, j + 1, xs36, (by omega), (by omega), up rfl (up rfl (up rfl (u0 (up rfl (up rfl (up rfl (up rfl hs9))))))), up rfl (up rfl (up rfl (u0 (up rfl (up rfl (up rfl (up rfl hs10))))))), up rfl (up rfl (up rfl (u0 (up rfl (up rfl (up rfl (up rfl hs11))))))), up rfl (up rfl (up rfl (u0 (up rfl (up rfl (up rfl (up rfl hs12))))))), up rfl (up rfl (up rfl (u0 (up rfl (up rfl (up rfl (up rfl hs13))))))), up rfl (up rfl (up rfl (u0 (up rfl (up rfl (up rfl (up rfl hs14))))))), up rfl (up rfl (up rfl (u0 (up rfl (up rfl (up rfl (up rfl hs7))))))), (int_eq (a := ((j : Nat) : Int) + 1) tp (by omega)), hst⟩
            · have hc35_ := hc35
              try simp only [decide_eq_true_eq, decide_eq_false_iff_not, Bool.and_eq_true, Bool.or_eq_true, Bool.and_eq_false_iff, Bool.or_eq_false_iff, Bool.not_eq_true', Bool.not_eq_false', beq_iff_eq, beq_eq_false_iff_ne, bne_iff_ne, bne_eq_false_iff_eq, ne_eq, Int.not_lt, Int.not_le, gt_iff_lt, ge_iff_le] at hc35_
              refine CW.exit ?_
              refine Th.x ?_
              refine Th.x ?_
              refine Bl.x ?_
              refine Th.n ?_
              refine CW.seq ?_
              refine CW.region ?_
              refine RW.soft Wd.a (v := .int .i64 (joinA i t (ts es) kk5 tm (ts es4))) (by exact E.move (AF_ev rfl hs9)) ?_
              refine RW.soft Wd.a (v := .int .i64 (joinA i t (ts ys) kk5 tm (ts es34))) (by exact E.move (AF_ev rfl (up rfl hs12))) ?_
              refine RW.soft Wd.a (v := .bool true) (by exact E.b (a := (joinA i t (ts es) kk5 tm (ts es4)) == (joinA i t (ts ys) kk5 tm (ts es34))) (E.eql (k := .i64) (a := joinA i t (ts es) kk5 tm (ts es4)) (b := joinA i t (ts ys) kk5 tm (ts es34)) (AF_ev rfl (up rfl tp)) (AF_ev rfl tp)) (by rw [beq_iff_eq, hT, hU])) ?_
              refine RW.soft Wd.a (v := .bool true) (by exact E.move (AF_ev rfl tp)) ?_
              refine RW.soft (by exact Wd.yes (x := 83) rfl (AF_ev rfl tp)) (v := .int .i64 (joinF i t (ts es) kk5 tm (ts es4))) (by exact E.move (AF_ev rfl (up rfl (up rfl (up rfl (up rfl hs10)))))) ?_
              refine RW.soft (by exact Wd.yes (x := 83) rfl (AF_ev rfl (up rfl tp))) (v := .int .i64 (joinF i t (ts ys) kk5 tm (ts es34))) (by exact E.move (AF_ev rfl (up rfl (up rfl (up rfl (up rfl (up rfl hs13))))))) ?_
              refine RW.soft (by exact Wd.yes (x := 83) rfl (AF_ev rfl (up rfl (up rfl tp)))) (v := .bool true) (by exact E.b (a := (joinF i t (ts es) kk5 tm (ts es4)) == (joinF i t (ts ys) kk5 tm (ts es34))) (E.eql (k := .i64) (a := joinF i t (ts es) kk5 tm (ts es4)) (b := joinF i t (ts ys) kk5 tm (ts es34)) (AF_ev rfl (up rfl tp)) (AF_ev rfl tp)) (by rw [beq_iff_eq, hT, hU])) ?_
              refine RW.soft Wd.a (v := .bool true) (by exact E.pickT (AF_ev rfl (up rfl (up rfl (up rfl tp)))) (AF_ev rfl tp)) ?_
              refine RW.soft Wd.a (v := .bool true) (by exact E.move (AF_ev rfl tp)) ?_
              refine RW.soft (by exact Wd.yes (x := 88) rfl (AF_ev rfl tp)) (v := .bool (joinO i t (ts es) kk5 tm)) (by exact E.move (AF_ev rfl (up rfl (up rfl (up rfl (up rfl (up rfl (up rfl (up rfl (up rfl (up rfl hs11))))))))))) ?_
              refine RW.soft (by exact Wd.yes (x := 88) rfl (AF_ev rfl (up rfl tp))) (v := .bool (joinO i t (ts ys) kk5 tm)) (by exact E.move (AF_ev rfl (up rfl (up rfl (up rfl (up rfl (up rfl (up rfl (up rfl (up rfl (up rfl (up rfl hs14)))))))))))) ?_
              refine RW.soft (by exact Wd.yes (x := 88) rfl (AF_ev rfl (up rfl (up rfl tp)))) (v := .bool true) (by exact E.b (a := (joinO i t (ts es) kk5 tm) == (joinO i t (ts ys) kk5 tm)) (E.eqlB (a := joinO i t (ts es) kk5 tm) (b := joinO i t (ts ys) kk5 tm) Try.underlying4 (AF_ev rfl (up rfl tp)) (AF_ev rfl tp)) (by rw [beq_iff_eq, hT])) ?_
              refine RW.soft Wd.a (v := .bool true) (by exact E.pickT (AF_ev rfl (up rfl (up rfl (up rfl tp)))) (AF_ev rfl tp)) ?_
              refine RW.soft Wd.a (v := .bool true) (by exact E.assign (AF_ev rfl tp)) ?_
              refine RW.fin (fun τ => τ 6 = .bool true ∧ τ 7 = .slice X2 es4.length c3 ∧ τ 9 = .int .i64 (joinA i t (ts es) kk5 tm (ts es4)) ∧ τ 10 = .int .i64 (joinF i t (ts es) kk5 tm (ts es4)) ∧ τ 11 = .bool (joinO i t (ts es) kk5 tm) ∧ τ 12 = .int .i64 (joinA i t (ts ys) kk5 tm (ts es34)) ∧ τ 13 = .int .i64 (joinF i t (ts ys) kk5 tm (ts es34)) ∧ τ 14 = .bool (joinO i t (ts ys) kk5 tm) ∧ τ 15 = .int .i64 ((j : Nat) : Int) ∧ τ 73 = .bool false) ⟨tp, up rfl (up rfl (up rfl (up rfl (up rfl (up rfl (up rfl (up rfl (up rfl (up rfl (up rfl (up rfl (up rfl (up rfl hs7))))))))))))), up rfl (up rfl (up rfl (up rfl (up rfl (up rfl (up rfl (up rfl (up rfl (up rfl (up rfl (up rfl (up rfl (up rfl hs9))))))))))))), up rfl (up rfl (up rfl (up rfl (up rfl (up rfl (up rfl (up rfl (up rfl (up rfl (up rfl (up rfl (up rfl (up rfl hs10))))))))))))), up rfl (up rfl (up rfl (up rfl (up rfl (up rfl (up rfl (up rfl (up rfl (up rfl (up rfl (up rfl (up rfl (up rfl hs11))))))))))))), up rfl (up rfl (up rfl (up rfl (up rfl (up rfl (up rfl (up rfl (up rfl (up rfl (up rfl (up rfl (up rfl (up rfl hs12))))))))))))), up rfl (up rfl (up rfl (up rfl (up rfl (up rfl (up rfl (up rfl (up rfl (up rfl (up rfl (up rfl (up rfl (up rfl hs13))))))))))))), up rfl (up rfl (up rfl (up rfl (up rfl (up rfl (up rfl (up rfl (up rfl (up rfl (up rfl (up rfl (up rfl (up rfl hs14))))))))))))), up rfl (up rfl (up rfl (up rfl (up rfl (up rfl (up rfl (up rfl (up rfl (up rfl (up rfl (up rfl (up rfl (up rfl hs15))))))))))))), up rfl (up rfl (up rfl (up rfl (up rfl (up rfl (up rfl (up rfl (up rfl (up rfl (up rfl (up rfl (up rfl (up rfl (Eq.trans hs73 (congrArg Value.bool hc35)))))))))))))))⟩ ?_
              rintro τ ⟨hs6, hs7, hs9, hs10, hs11, hs12, hs13, hs14, hs15, hs73⟩
              refine CW.ret ?_
              refine Bl.r ?_
              refine Th.r ?_
              refine ret1 (v := .bool true) rfl (by exact (.tmp (AF_ev rfl hs6) .nil)) ?_
              have hst := hst.take (.there .here)
              have hst := hst.take (.there .here)
              have hst := (hst.take (.there (.there .here))).drop
              exact ⟨p, _, _, _, _, hp0, (by rw [hvses31, hT, hU, hv, hfwes4, ← hfwes34]; exact (joinL_map Ent.view).symm), (by omega), rfl, hst⟩
          · have hc30_ := hc30
            try simp only [decide_eq_true_eq, decide_eq_false_iff_not, Bool.and_eq_true, Bool.or_eq_true, Bool.and_eq_false_iff, Bool.or_eq_false_iff, Bool.not_eq_true', Bool.not_eq_false', beq_iff_eq, beq_eq_false_iff_ne, bne_iff_ne, bne_eq_false_iff_eq, ne_eq, Int.not_lt, Int.not_le, gt_iff_lt, ge_iff_le] at hc30_
            refine CW.seq ?_
            refine CW.region ?_
            refine RW.soft Wd.a (v := .bool ((kindF kd 8) == 5)) (by exact E.eql (k := .i64) (a := kindF kd 8) (b := 5) (AF_ev rfl hs24) rfl) ?_
            refine RW.soft Wd.a (v := .bool ((kindF kd 8) == 5)) (by exact E.assign (AF_ev rfl tp)) ?_
            refine RW.fin (fun τ => τ 0 = .pointer (some ⟨bg, 0, none⟩) ∧ τ 1 = .pointer (some ⟨br, 0, none⟩) ∧ τ 2 = .agg #[.int .i64 kd, .int .i64 ix, .int .i64 tm, .slice Z z.length d] ∧ τ 5 = .pointer (some ⟨b1, 0, none⟩) ∧ τ 6 = .bool false ∧ τ 7 = .slice X2 es4.length c3 ∧ τ 8 = .int .i64 kk5 ∧ τ 24 = .int .i64 (kindF kd 8) ∧ τ 25 = .bool false ∧ τ 44 = .bool false ∧ τ 93 = .bool ((kindF kd 8) == 5)) ⟨up rfl (up rfl hs0), up rfl (up rfl hs1), up rfl (up rfl hs2), up rfl (up rfl hs5), up rfl (up rfl hs6), up rfl (up rfl hs7), up rfl (up rfl hs8), up rfl (up rfl hs24), up rfl (up rfl hs25), up rfl (up rfl (Eq.trans hs44 (congrArg Value.bool hc30))), tp⟩ ?_
            rintro τ ⟨hs0, hs1, hs2, hs5, hs6, hs7, hs8, hs24, hs25, hs44, hs93⟩
            refine CW.cond (AF_ev rfl hs93) (fun hc37 => ?_) (fun hc37 => ?_)
            · have hc37_ := hc37
              try simp only [decide_eq_true_eq, decide_eq_false_iff_not, Bool.and_eq_true, Bool.or_eq_true, Bool.and_eq_false_iff, Bool.or_eq_false_iff, Bool.not_eq_true', Bool.not_eq_false', beq_iff_eq, beq_eq_false_iff_ne, bne_iff_ne, bne_eq_false_iff_eq, ne_eq, Int.not_lt, Int.not_le, gt_iff_lt, ge_iff_le] at hc37_
              refine CW.seq ?_
              refine Or.elim (Bool.eq_false_or_eq_true (decide (kk5 < i))) (fun hki => ?_) (fun hki => ?_)
              · skip
                have hki_ := of_decide_eq_true hki
                refine CW.regionD [0, 1, 2, 3, 5, 6, 7, 8] (fun w => w.cell? ⟨b1, 2, none⟩ = some (.int .i64 tm)) mixed ?_
                have hst := hst.drew
                generalize w.drew = w at hst ⊢
                have hS : w.cell? ⟨b1, 2, none⟩ = some (.int .i64 tm) := hst.cell (.there (.there (.there (.there .here)))) rfl
                refine RD.take 0 rfl (by kernel_rfl) Wd.a (v := .pointer (some ⟨bg, 0, none⟩)) (fun w hS => by exact E.move (AF_ev rfl hs0)) hS ?_
                refine RD.take 1 rfl (by kernel_rfl) Wd.a (v := .int .i64 kk5) (fun w hS => by exact E.move (AF_ev rfl (up rfl hs8))) hS ?_
                refine RD.take 2 rfl (by kernel_rfl) Wd.a (v := .pointer (some ⟨b1, 2, none⟩)) (fun w hS => by exact E.fieldAddr (b := b1) (o := 0) (f := { name := "Term", type := 3, offset := 2, embedded := false, tag := "", pkgPath := "", byteOffset := 16 }) (AF_ev rfl (up rfl (up rfl hs5))) Try.underlying46 rfl sz3 rfl) hS ?_
                refine RD.take 3 rfl (by kernel_rfl) Wd.a (v := .int .i64 tm) (fun w hS => by exact E.load (a := ⟨b1, 2, none⟩) Try.underlying3 rfl (AF_ev rfl tp) hS) hS ?_
                refine RD.take 5 rfl (by kernel_rfl) Wd.a (v := .pointer (some ⟨br, 0, none⟩)) (fun w hS => by exact E.move (AF_ev rfl (up rfl (up rfl (up rfl (up rfl hs1)))))) hS ?_
                refine RD.take 6 rfl (by kernel_rfl) Wd.a (v := .int .i64 kk5) (fun w hS => by exact E.move (AF_ev rfl (up rfl (up rfl (up rfl (up rfl (up rfl hs8))))))) hS ?_
                refine RD.take 7 rfl (by kernel_rfl) Wd.a (v := .pointer (some ⟨b1, 2, none⟩)) (fun w hS => by exact E.fieldAddr (b := b1) (o := 0) (f := { name := "Term", type := 3, offset := 2, embedded := false, tag := "", pkgPath := "", byteOffset := 16 }) (AF_ev rfl (up rfl (up rfl (up rfl (up rfl (up rfl (up rfl hs5))))))) Try.underlying46 rfl sz3 rfl) hS ?_
                refine RD.take 8 rfl (by kernel_rfl) Wd.a (v := .int .i64 tm) (fun w hS => by exact E.load (a := ⟨b1, 2, none⟩) Try.underlying3 rfl (AF_ev rfl tp) hS) hS ?_
                refine RD.only 4 rfl (by kernel_rfl) Wd.a ?_
                have hst := hst.take (.there .here)
                refine H.call0 Try.func37 nm37 rfl (map3 (AF_ev rfl (up rfl (up rfl (up rfl (up rfl (up rfl (up rfl (up rfl tp)))))))) (AF_ev rfl (up rfl (up rfl (up rfl (up rfl (up rfl (up rfl tp))))))) (AF_ev rfl (up rfl (up rfl (up rfl (up rfl tp)))))) (Calls.mono (ent_Base_no kk5 tm (by omega) hst) ?_)
                rintro _ w ⟨rfl, hst⟩
                refine ⟨_, rfl, ?_⟩
                have hS : w.cell? ⟨b1, 2, none⟩ = some (.int .i64 tm) := hst.cell (.there (.there (.there (.there .here)))) rfl
                refine ⟨fun _ => hS, ?_⟩
                refine RD.only 9 rfl (by kernel_rfl) Wd.a ?_
                have hst := hst.take (.there .here)
                refine H.call0 Try.func82 nm82 rfl (map3 (AF_ev rfl (up rfl (up rfl (up rfl (up rfl tp))))) (AF_ev rfl (up rfl (up rfl (up rfl tp)))) (AF_ev rfl (up rfl tp))) (Calls.mono (ref_Rebase_no kk5 tm (by omega) hst) ?_)
                rintro _ w ⟨rfl, hst⟩
                refine ⟨_, rfl, ?_⟩
                have hS : w.cell? ⟨b1, 2, none⟩ = some (.int .i64 tm) := hst.cell (.there (.there (.there (.there .here)))) rfl
                refine ⟨fun _ => hS, ?_⟩
                refine RD.only 10 rfl (by kernel_rfl) Wd.a (Hd.value (v := .bool true) (by exact E.eql (k := .i64) (a := 1) (b := 1) (AF_ev rfl (up rfl tp)) (AF_ev rfl tp)) ⟨fun _ => hS, ?_⟩)
                refine RD.only 11 rfl (by kernel_rfl) Wd.a (Hd.value (v := .bool true) (by exact E.assign (AF_ev rfl tp)) ⟨fun h => Bool.noConfusion ((show needs _ _ _ = false by kernel_rfl).symm.trans h), ?_⟩)
                refine RD.fin (by kernel_rfl) (fun τ => τ 0 = .pointer (some ⟨bg, 0, none⟩) ∧ τ 1 = .pointer (some ⟨br, 0, none⟩) ∧ τ 2 = .agg #[.int .i64 kd, .int .i64 ix, .int .i64 tm, .slice Z z.length d] ∧ τ 5 = .pointer (some ⟨b1, 0, none⟩) ∧ τ 6 = .bool true ∧ τ 7 = .slice X2 es4.length c3 ∧ τ 8 = .int .i64 kk5 ∧ τ 24 = .int .i64 (kindF kd 8) ∧ τ 25 = .bool false ∧ τ 44 = .bool false ∧ τ 93 = .bool true) ⟨up rfl (up rfl (up rfl (up rfl (up rfl (up rfl (up rfl (up rfl (up rfl (up rfl (up rfl (up rfl hs0))))))))))), up rfl (up rfl (up rfl (up rfl (up rfl (up rfl (up rfl (up rfl (up rfl (up rfl (up rfl (up rfl hs1))))))))))), up rfl (up rfl (up rfl (up rfl (up rfl (up rfl (up rfl (up rfl (up rfl (up rfl (up rfl (up rfl hs2))))))))))), up rfl (up rfl (up rfl (up rfl (up rfl (up rfl (up rfl (up rfl (up rfl (up rfl (up rfl (up rfl hs5))))))))))), tp, up rfl (up rfl (up rfl (up rfl (up rfl (up rfl (up rfl (up rfl (up rfl (up rfl (up rfl (up rfl hs7))))))))))), up rfl (up rfl (up rfl (up rfl (up rfl (up rfl (up rfl (up rfl (up rfl (up rfl (up rfl (up rfl hs8))))))))))), up rfl (up rfl (up rfl (up rfl (up rfl (up rfl (up rfl (up rfl (up rfl (up rfl (up rfl (up rfl hs24))))))))))), up rfl (up rfl (up rfl (up rfl (up rfl (up rfl (up rfl (up rfl (up rfl (up rfl (up rfl (up rfl hs25))))))))))), up rfl (up rfl (up rfl (up rfl (up rfl (up rfl (up rfl (up rfl (up rfl (up rfl (up rfl (up rfl hs44))))))))))), up rfl (up rfl (up rfl (up rfl (up rfl (up rfl (up rfl (up rfl (up rfl (up rfl (up rfl (up rfl (Eq.trans hs93 (congrArg Value.bool hc37)))))))))))))⟩ ?_
                rintro τ ⟨hs0, hs1, hs2, hs5, hs6, hs7, hs8, hs24, hs25, hs44, hs93⟩
                refine CW.ret ?_
                refine Bl.r ?_
                refine Th.r ?_
                refine ret1 (v := .bool true) rfl (by exact (.tmp (AF_ev rfl hs6) .nil)) ?_
                have hst := hst.take (.there .here)
                have hst := (hst.take (.there (.there .here))).drop
                have hst := (hst.take (.there (.there .here))).drop
                have hst := (hst.take (.there (.there .here))).drop
                exact ⟨p, _, _, _, _, hp0, hv, (by omega), rfl, hst⟩
              · skip
                have hki_ := of_decide_eq_false hki
                refine CW.regionD [0, 1, 2, 3, 5, 6, 7, 8] (fun w => w.cell? ⟨b1, 2, none⟩ = some (.int .i64 tm)) mixed ?_
                have hst := hst.drew
                generalize w.drew = w at hst ⊢
                have hS : w.cell? ⟨b1, 2, none⟩ = some (.int .i64 tm) := hst.cell (.there (.there (.there (.there .here)))) rfl
                refine RD.take 0 rfl (by kernel_rfl) Wd.a (v := .pointer (some ⟨bg, 0, none⟩)) (fun w hS => by exact E.move (AF_ev rfl hs0)) hS ?_
                refine RD.take 1 rfl (by kernel_rfl) Wd.a (v := .int .i64 kk5) (fun w hS => by exact E.move (AF_ev rfl (up rfl hs8))) hS ?_
                refine RD.take 2 rfl (by kernel_rfl) Wd.a (v := .pointer (some ⟨b1, 2, none⟩)) (fun w hS => by exact E.fieldAddr (b := b1) (o := 0) (f := { name := "Term", type := 3, offset := 2, embedded := false, tag := "", pkgPath := "", byteOffset := 16 }) (AF_ev rfl (up rfl (up rfl hs5))) Try.underlying46 rfl sz3 rfl) hS ?_
                refine RD.take 3 rfl (by kernel_rfl) Wd.a (v := .int .i64 tm) (fun w hS => by exact E.load (a := ⟨b1, 2, none⟩) Try.underlying3 rfl (AF_ev rfl tp) hS) hS ?_
                refine RD.take 5 rfl (by kernel_rfl) Wd.a (v := .pointer (some ⟨br, 0, none⟩)) (fun w hS => by exact E.move (AF_ev rfl (up rfl (up rfl (up rfl (up rfl hs1)))))) hS ?_
                refine RD.take 6 rfl (by kernel_rfl) Wd.a (v := .int .i64 kk5) (fun w hS => by exact E.move (AF_ev rfl (up rfl (up rfl (up rfl (up rfl (up rfl hs8))))))) hS ?_
                refine RD.take 7 rfl (by kernel_rfl) Wd.a (v := .pointer (some ⟨b1, 2, none⟩)) (fun w hS => by exact E.fieldAddr (b := b1) (o := 0) (f := { name := "Term", type := 3, offset := 2, embedded := false, tag := "", pkgPath := "", byteOffset := 16 }) (AF_ev rfl (up rfl (up rfl (up rfl (up rfl (up rfl (up rfl hs5))))))) Try.underlying46 rfl sz3 rfl) hS ?_
                refine RD.take 8 rfl (by kernel_rfl) Wd.a (v := .int .i64 tm) (fun w hS => by exact E.load (a := ⟨b1, 2, none⟩) Try.underlying3 rfl (AF_ev rfl tp) hS) hS ?_
                refine RD.only 4 rfl (by kernel_rfl) Wd.a ?_
                have hst := hst.take (.there .here)
                refine H.call0 Try.func37 nm37 rfl (map3 (AF_ev rfl (up rfl (up rfl (up rfl (up rfl (up rfl (up rfl (up rfl tp)))))))) (AF_ev rfl (up rfl (up rfl (up rfl (up rfl (up rfl (up rfl tp))))))) (AF_ev rfl (up rfl (up rfl (up rfl (up rfl tp)))))) (Calls.mono (ent_Base_yes kk5 tm (by omega) hst) ?_)
                rintro _ w ⟨rfl, hst⟩
                refine ⟨_, rfl, ?_⟩
                have hS : w.cell? ⟨b1, 2, none⟩ = some (.int .i64 tm) := hst.cell (.there (.there (.there (.there .here)))) rfl
                refine ⟨fun _ => hS, ?_⟩
                refine RD.only 9 rfl (by kernel_rfl) Wd.a ?_
                have hst := hst.take (.there .here)
                refine H.call0 Try.func82 nm82 rfl (map3 (AF_ev rfl (up rfl (up rfl (up rfl (up rfl tp))))) (AF_ev rfl (up rfl (up rfl (up rfl tp)))) (AF_ev rfl (up rfl tp))) (Calls.mono (ref_Rebase_yes kk5 tm (by omega) hst) ?_)
                rintro _ w ⟨rfl, hst⟩
                refine ⟨_, rfl, ?_⟩
                have hS : w.cell? ⟨b1, 2, none⟩ = some (.int .i64 tm) := hst.cell (.there (.there (.there (.there .here)))) rfl
                refine ⟨fun _ => hS, ?_⟩
                refine RD.only 10 rfl (by kernel_rfl) Wd.a (Hd.value (v := .bool true) (by exact E.eql (k := .i64) (a := 0) (b := 0) (AF_ev rfl (up rfl tp)) (AF_ev rfl tp)) ⟨fun _ => hS, ?_⟩)
                refine RD.only 11 rfl (by kernel_rfl) Wd.a (Hd.value (v := .bool true) (by exact E.assign (AF_ev rfl tp)) ⟨fun h => Bool.noConfusion ((show needs _ _ _ = false by kernel_rfl).symm.trans h), ?_⟩)
                refine RD.fin (by kernel_rfl) (fun τ => τ 0 = .pointer (some ⟨bg, 0, none⟩) ∧ τ 1 = .pointer (some ⟨br, 0, none⟩) ∧ τ 2 = .agg #[.int .i64 kd, .int .i64 ix, .int .i64 tm, .slice Z z.length d] ∧ τ 5 = .pointer (some ⟨b1, 0, none⟩) ∧ τ 6 = .bool true ∧ τ 7 = .slice X2 es4.length c3 ∧ τ 8 = .int .i64 kk5 ∧ τ 24 = .int .i64 (kindF kd 8) ∧ τ 25 = .bool false ∧ τ 44 = .bool false ∧ τ 93 = .bool true) ⟨up rfl (up rfl (up rfl (up rfl (up rfl (up rfl (up rfl (up rfl (up rfl (up rfl (up rfl (up rfl hs0))))))))))), up rfl (up rfl (up rfl (up rfl (up rfl (up rfl (up rfl (up rfl (up rfl (up rfl (up rfl (up rfl hs1))))))))))), up rfl (up rfl (up rfl (up rfl (up rfl (up rfl (up rfl (up rfl (up rfl (up rfl (up rfl (up rfl hs2))))))))))), up rfl (up rfl (up rfl (up rfl (up rfl (up rfl (up rfl (up rfl (up rfl (up rfl (up rfl (up rfl hs5))))))))))), tp, up rfl (up rfl (up rfl (up rfl (up rfl (up rfl (up rfl (up rfl (up rfl (up rfl (up rfl (up rfl hs7))))))))))), up rfl (up rfl (up rfl (up rfl (up rfl (up rfl (up rfl (up rfl (up rfl (up rfl (up rfl (up rfl hs8))))))))))), up rfl (up rfl (up rfl (up rfl (up rfl (up rfl (up rfl (up rfl (up rfl (up rfl (up rfl (up rfl hs24))))))))))), up rfl (up rfl (up rfl (up rfl (up rfl (up rfl (up rfl (up rfl (up rfl (up rfl (up rfl (up rfl hs25))))))))))), up rfl (up rfl (up rfl (up rfl (up rfl (up rfl (up rfl (up rfl (up rfl (up rfl (up rfl (up rfl hs44))))))))))), up rfl (up rfl (up rfl (up rfl (up rfl (up rfl (up rfl (up rfl (up rfl (up rfl (up rfl (up rfl (Eq.trans hs93 (congrArg Value.bool hc37)))))))))))))⟩ ?_
                rintro τ ⟨hs0, hs1, hs2, hs5, hs6, hs7, hs8, hs24, hs25, hs44, hs93⟩
                refine CW.ret ?_
                refine Bl.r ?_
                refine Th.r ?_
                refine ret1 (v := .bool true) rfl (by exact (.tmp (AF_ev rfl hs6) .nil)) ?_
                have hst := hst.take (.there .here)
                have hst := (hst.take (.there (.there .here))).drop
                have hst := (hst.take (.there (.there .here))).drop
                have hst := (hst.take (.there (.there .here))).drop
                exact ⟨p, _, _, _, _, hp0, (by rw [hT]; split <;> simp only [vs, List.map_drop] at hv ⊢; rw [hv]), (by split <;> simp only [List.length_drop, List.length_nil] <;> omega), rfl, hst⟩
            · have hc37_ := hc37
              try simp only [decide_eq_true_eq, decide_eq_false_iff_not, Bool.and_eq_true, Bool.or_eq_true, Bool.and_eq_false_iff, Bool.or_eq_false_iff, Bool.not_eq_true', Bool.not_eq_false', beq_iff_eq, beq_eq_false_iff_ne, bne_iff_ne, bne_eq_false_iff_eq, ne_eq, Int.not_lt, Int.not_le, gt_iff_lt, ge_iff_le] at hc37_
              refine CW.seq ?_
              refine CW.region ?_
              refine RW.soft Wd.a (v := .bool ((kindF kd 8) == 6)) (by exact E.eql (k := .i64) (a := kindF kd 8) (b := 6) (AF_ev rfl hs24) rfl) ?_
              refine RW.soft Wd.a (v := .bool ((kindF kd 8) == 6)) (by exact E.assign (AF_ev rfl tp)) ?_
              refine RW.fin (fun τ => τ 0 = .pointer (some ⟨bg, 0, none⟩) ∧ τ 1 = .pointer (some ⟨br, 0, none⟩) ∧ τ 2 = .agg #[.int .i64 kd, .int .i64 ix, .int .i64 tm, .slice Z z.length d] ∧ τ 5 = .pointer (some ⟨b1, 0, none⟩) ∧ τ 6 = .bool false ∧ τ 7 = .slice X2 es4.length c3 ∧ τ 8 = .int .i64 kk5 ∧ τ 24 = .int .i64 (kindF kd 8) ∧ τ 25 = .bool false ∧ τ 44 = .bool false ∧ τ 93 = .bool false ∧ τ 106 = .bool ((kindF kd 8) == 6)) ⟨up rfl (up rfl hs0), up rfl (up rfl hs1), up rfl (up rfl hs2), up rfl (up rfl hs5), up rfl (up rfl hs6), up rfl (up rfl hs7), up rfl (up rfl hs8), up rfl (up rfl hs24), up rfl (up rfl hs25), up rfl (up rfl hs44), up rfl (up rfl (Eq.trans hs93 (congrArg Value.bool hc37))), tp⟩ ?_
              rintro τ ⟨hs0, hs1, hs2, hs5, hs6, hs7, hs8, hs24, hs25, hs44, hs93, hs106⟩
              refine CW.cond (AF_ev rfl hs106) (fun hc38 => ?_) (fun hc38 => ?_)
              · have hc38_ := hc38
                try simp only [decide_eq_true_eq, decide_eq_false_iff_not, Bool.and_eq_true, Bool.or_eq_true, Bool.and_eq_false_iff, Bool.or_eq_false_iff, Bool.not_eq_true', Bool.not_eq_false', beq_iff_eq, beq_eq_false_iff_ne, bne_iff_ne, bne_eq_false_iff_eq, ne_eq, Int.not_lt, Int.not_le, gt_iff_lt, ge_iff_le] at hc38_
                refine CW.seq ?_
                refine CW.regionD [0, 1, 2, 3, 5, 6, 7, 8] (fun w => w.cell? ⟨b1, 2, none⟩ = some (.int .i64 tm)) mixed ?_
                have hst := hst.drew
                generalize w.drew = w at hst ⊢
                have hS : w.cell? ⟨b1, 2, none⟩ = some (.int .i64 tm) := hst.cell (.there (.there (.there (.there .here)))) rfl
                refine RD.take 0 rfl (by kernel_rfl) Wd.a (v := .pointer (some ⟨bg, 0, none⟩)) (fun w hS => by exact E.move (AF_ev rfl hs0)) hS ?_
                refine RD.take 1 rfl (by kernel_rfl) Wd.a (v := .int .i64 kk5) (fun w hS => by exact E.move (AF_ev rfl (up rfl hs8))) hS ?_
                refine RD.take 2 rfl (by kernel_rfl) Wd.a (v := .pointer (some ⟨b1, 2, none⟩)) (fun w hS => by exact E.fieldAddr (b := b1) (o := 0) (f := { name := "Term", type := 3, offset := 2, embedded := false, tag := "", pkgPath := "", byteOffset := 16 }) (AF_ev rfl (up rfl (up rfl hs5))) Try.underlying46 rfl sz3 rfl) hS ?_
                refine RD.take 3 rfl (by kernel_rfl) Wd.a (v := .int .i64 tm) (fun w hS => by exact E.load (a := ⟨b1, 2, none⟩) Try.underlying3 rfl (AF_ev rfl tp) hS) hS ?_
                refine RD.take 5 rfl (by kernel_rfl) Wd.a (v := .pointer (some ⟨br, 0, none⟩)) (fun w hS => by exact E.move (AF_ev rfl (up rfl (up rfl (up rfl (up rfl hs1)))))) hS ?_
                refine RD.take 6 rfl (by kernel_rfl) Wd.a (v := .int .i64 kk5) (fun w hS => by exact E.move (AF_ev rfl (up rfl (up rfl (up rfl (up rfl (up rfl hs8))))))) hS ?_
                refine RD.take 7 rfl (by kernel_rfl) Wd.a (v := .pointer (some ⟨b1, 2, none⟩)) (fun w hS => by exact E.fieldAddr (b := b1) (o := 0) (f := { name := "Term", type := 3, offset := 2, embedded := false, tag := "", pkgPath := "", byteOffset := 16 }) (AF_ev rfl (up rfl (up rfl (up rfl (up rfl (up rfl (up rfl hs5))))))) Try.underlying46 rfl sz3 rfl) hS ?_
                refine RD.take 8 rfl (by kernel_rfl) Wd.a (v := .int .i64 tm) (fun w hS => by exact E.load (a := ⟨b1, 2, none⟩) Try.underlying3 rfl (AF_ev rfl tp) hS) hS ?_
                refine RD.only 4 rfl (by kernel_rfl) Wd.a ?_
                have hst := hst.take (.there .here)
                refine H.call0 Try.func33 nm33 rfl (map3 (AF_ev rfl (up rfl (up rfl (up rfl (up rfl (up rfl (up rfl (up rfl tp)))))))) (AF_ev rfl (up rfl (up rfl (up rfl (up rfl (up rfl (up rfl tp))))))) (AF_ev rfl (up rfl (up rfl (up rfl (up rfl tp)))))) (Calls.mono (ent_BehindL (v := behB i t es kk5 tm) kk5 tm rfl hst) ?_)
                rintro _ w ⟨rfl, hst⟩
                refine ⟨_, rfl, ?_⟩
                have hS : w.cell? ⟨b1, 2, none⟩ = some (.int .i64 tm) := hst.cell (.there (.there (.there (.there .here)))) rfl
                refine ⟨fun _ => hS, ?_⟩
                refine RD.only 9 rfl (by kernel_rfl) Wd.a ?_
                have hst := hst.take (.there .here)
                refine H.call0 Try.func83 nm83 rfl (map3 (AF_ev rfl (up rfl (up rfl (up rfl (up rfl tp))))) (AF_ev rfl (up rfl (up rfl (up rfl tp)))) (AF_ev rfl (up rfl tp))) (Calls.mono (ref_Behind kk5 tm hst) ?_)
                rintro _ w ⟨rfl, hst⟩
                refine ⟨_, rfl, ?_⟩
                have hS : w.cell? ⟨b1, 2, none⟩ = some (.int .i64 tm) := hst.cell (.there (.there (.there (.there .here)))) rfl
                refine ⟨fun _ => hS, ?_⟩
                refine RD.only 10 rfl (by kernel_rfl) Wd.a (Hd.value (v := .bool true) (by exact E.b (a := (behB i t es kk5 tm) == (behB i t ys kk5 tm)) (E.eqlB (a := behB i t es kk5 tm) (b := behB i t ys kk5 tm) Try.underlying4 (AF_ev rfl (up rfl tp)) (AF_ev rfl tp)) (by rw [beq_iff_eq]; unfold behB; rw [hT, hlen])) ⟨fun _ => hS, ?_⟩)
                refine RD.only 11 rfl (by kernel_rfl) Wd.a (Hd.value (v := .bool true) (by exact E.assign (AF_ev rfl tp)) ⟨fun h => Bool.noConfusion ((show needs _ _ _ = false by kernel_rfl).symm.trans h), ?_⟩)
                refine RD.fin (by kernel_rfl) (fun τ => τ 0 = .pointer (some ⟨bg, 0, none⟩) ∧ τ 1 = .pointer (some ⟨br, 0, none⟩) ∧ τ 2 = .agg #[.int .i64 kd, .int .i64 ix, .int .i64 tm, .slice Z z.length d] ∧ τ 5 = .pointer (some ⟨b1, 0, none⟩) ∧ τ 6 = .bool true ∧ τ 7 = .slice X2 es4.length c3 ∧ τ 8 = .int .i64 kk5 ∧ τ 24 = .int .i64 (kindF kd 8) ∧ τ 25 = .bool false ∧ τ 44 = .bool false ∧ τ 93 = .bool false ∧ τ 106 = .bool true) ⟨up rfl (up rfl (up rfl (up rfl (up rfl (up rfl (up rfl (up rfl (up rfl (up rfl (up rfl (up rfl hs0))))))))))), up rfl (up rfl (up rfl (up rfl (up rfl (up rfl (up rfl (up rfl (up rfl (up rfl (up rfl (up rfl hs1))))))))))), up rfl (up rfl (up rfl (up rfl (up rfl (up rfl (up rfl (up rfl (up rfl (up rfl (up rfl (up rfl hs2))))))))))), up rfl (up rfl (up rfl (up rfl (up rfl (up rfl (up rfl (up rfl (up rfl (up rfl (up rfl (up rfl hs5))))))))))), tp, up rfl (up rfl (up rfl (up rfl (up rfl (up rfl (up rfl (up rfl (up rfl (up rfl (up rfl (up rfl hs7))))))))))), up rfl (up rfl (up rfl (up rfl (up rfl (up rfl (up rfl (up rfl (up rfl (up rfl (up rfl (up rfl hs8))))))))))), up rfl (up rfl (up rfl (up rfl (up rfl (up rfl (up rfl (up rfl (up rfl (up rfl (up rfl (up rfl hs24))))))))))), up rfl (up rfl (up rfl (up rfl (up rfl (up rfl (up rfl (up rfl (up rfl (up rfl (up rfl (up rfl hs25))))))))))), up rfl (up rfl (up rfl (up rfl (up rfl (up rfl (up rfl (up rfl (up rfl (up rfl (up rfl (up rfl hs44))))))))))), up rfl (up rfl (up rfl (up rfl (up rfl (up rfl (up rfl (up rfl (up rfl (up rfl (up rfl (up rfl hs93))))))))))), up rfl (up rfl (up rfl (up rfl (up rfl (up rfl (up rfl (up rfl (up rfl (up rfl (up rfl (up rfl (Eq.trans hs106 (congrArg Value.bool hc38)))))))))))))⟩ ?_
                rintro τ ⟨hs0, hs1, hs2, hs5, hs6, hs7, hs8, hs24, hs25, hs44, hs93, hs106⟩
                refine CW.ret ?_
                refine Bl.r ?_
                refine Th.r ?_
                refine ret1 (v := .bool true) rfl (by exact (.tmp (AF_ev rfl hs6) .nil)) ?_
                have hst := hst.take (.there .here)
                have hst := (hst.take (.there (.there .here))).drop
                have hst := (hst.take (.there (.there .here))).drop
                have hst := (hst.take (.there (.there .here))).drop
                exact ⟨p, _, _, _, _, hp0, hv, (by omega), rfl, hst⟩
              · have hc38_ := hc38
                try simp only [decide_eq_true_eq, decide_eq_false_iff_not, Bool.and_eq_true, Bool.or_eq_true, Bool.and_eq_false_iff, Bool.or_eq_false_iff, Bool.not_eq_true', Bool.not_eq_false', beq_iff_eq, beq_eq_false_iff_ne, bne_iff_ne, bne_eq_false_iff_eq, ne_eq, Int.not_lt, Int.not_le, gt_iff_lt, ge_iff_le] at hc38_
                refine CW.skip ?_
                refine Bl.n ?_
                refine Th.n ?_
                refine CW.seq ?_
                refine CW.region ?_
                refine RW.soft Wd.a (v := .bool true) (by exact E.assign rfl) ?_
                refine RW.fin (fun τ => τ 0 = .pointer (some ⟨bg, 0, none⟩) ∧ τ 1 = .pointer (some ⟨br, 0, none⟩) ∧ τ 2 = .agg #[.int .i64 kd, .int .i64 ix, .int .i64 tm, .slice Z z.length d] ∧ τ 5 = .pointer (some ⟨b1, 0, none⟩) ∧ τ 6 = .bool true ∧ τ 7 = .slice X2 es4.length c3 ∧ τ 8 = .int .i64 kk5 ∧ τ 24 = .int .i64 (kindF kd 8) ∧ τ 25 = .bool false ∧ τ 44 = .bool false ∧ τ 93 = .bool false ∧ τ 106 = .bool false) ⟨up rfl hs0, up rfl hs1, up rfl hs2, up rfl hs5, tp, up rfl hs7, up rfl hs8, up rfl hs24, up rfl hs25, up rfl hs44, up rfl hs93, up rfl (Eq.trans hs106 (congrArg Value.bool hc38))⟩ ?_
                rintro τ ⟨hs0, hs1, hs2, hs5, hs6, hs7, hs8, hs24, hs25, hs44, hs93, hs106⟩
                refine CW.ret ?_
                refine ret1 (v := .bool true) rfl (by exact (.tmp (AF_ev rfl hs6) .nil)) ?_
                have hst := hst.take (.there .here)
                have hst := (hst.take (.there (.there .here))).drop
                have hst := (hst.take (.there (.there .here))).drop
                have hst := (hst.take (.there (.there .here))).drop
                exact ⟨p, _, _, _, _, hp0, hv, (by omega), rfl, hst⟩
end Go.Proofs.Ytdlcjoonhojpfaa
