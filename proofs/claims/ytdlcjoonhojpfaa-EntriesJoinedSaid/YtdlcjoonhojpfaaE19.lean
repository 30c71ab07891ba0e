/- The calls of the package entries, walked through operation by operation. -/
import Derived.Test.YtdlcjoonhojpfaaE0
import Derived.Test.YtdlcjoonhojpfaaT1
import Derived.Test.YtdlcjoonhojpfaaE1
import Derived.Test.YtdlcjoonhojpfaaE2
import Derived.Test.YtdlcjoonhojpfaaE3
import Derived.Test.YtdlcjoonhojpfaaE4
import Derived.Test.YtdlcjoonhojpfaaE5
import Derived.Test.YtdlcjoonhojpfaaE6
import Derived.Test.YtdlcjoonhojpfaaE9
import Derived.Test.YtdlcjoonhojpfaaE10
import Derived.Test.YtdlcjoonhojpfaaE11
import Derived.Test.YtdlcjoonhojpfaaE18
namespace Go.Proofs.Ytdlcjoonhojpfaa
open Go.RowKit Go.SL Go.E17
attribute [local irreducible] Go.SL.RW Go.SL.CW Go.SL.RD Go.SL.Hd Go.SL.St
set_option linter.unusedVariables false
set_option linter.unusedSimpArgs false

theorem nm34 : (Try.f34.name == "runtime.NumGoroutine") = false := by kernel_rfl
theorem nm35 : (Try.f35.name == "runtime.NumGoroutine") = false := by kernel_rfl
theorem nm36 : (Try.f36.name == "runtime.NumGoroutine") = false := by kernel_rfl

theorem joined_walk {p : Pers} {w : World} {R : List Assn} {p0 : Pers} {X Z : Option Addr} {c d : Nat} {l z : List Ent} (hp0 : p0.le p) (i0 t0 kd ix tm : Int) (hi0 : -9223372036854775808 ≤ i0 ∧ i0 ≤ 9223372036854775807) (hix : -9223372036854775808 ≤ ix ∧ ix ≤ 9223372036854775807) (hlm : l.length ≤ 9223372036854775807) (hzm : z.length ≤ 9223372036854775807) (hL : Las p 4 (.slice X l.length c) l.length (flat l)) (hEL : EsLas p l) (hL2 : Las p 4 (.slice Z z.length d) z.length (flat z)) (hEL2 : EsLas p z) (hst : St p w (R)) :
    Calls Try.prog 5 #[.agg #[.int .i64 i0, .int .i64 t0], .slice X l.length c, .agg #[.int .i64 kd, .int .i64 ix, .int .i64 tm, .slice Z z.length d]] w fun e w => ∃ q, p0.le q ∧ e = .returned (.bool true) ∧ St q w R := by
  refine enter Try.func5 rfl (by simp) (n := 194) rfl fun τ hτ => ?_
  have hs0 : τ 0 = .agg #[.int .i64 i0, .int .i64 t0] := hτ 0 (by simp)
  have hs1 : τ 1 = .slice X l.length c := hτ 1 (by simp)
  have hs2 : τ 2 = .agg #[.int .i64 kd, .int .i64 ix, .int .i64 tm, .slice Z z.length d] := hτ 2 (by simp)
  clear hτ
  refine CW.seq ?_
  refine CW.region ?_
  refine RW.hard Wd.a ?_
  refine H.box (v := .agg #[.int .i64 i0, .int .i64 t0]) (AF_ev rfl hs0) hst fun b1 w hst => ?_
  refine RW.hard Wd.a ?_
  refine H.box (v := .agg #[.int .i64 kd, .int .i64 ix, .int .i64 tm, .slice Z z.length d]) (AF_ev rfl (up rfl hs2)) hst fun b2 w hst => ?_
  refine RW.soft Wd.a (v := .bool false) (by exact E.assign rfl) ?_
  refine RW.fin (fun τ => τ 0 = .agg #[.int .i64 i0, .int .i64 t0] ∧ τ 1 = .slice X l.length c ∧ τ 2 = .agg #[.int .i64 kd, .int .i64 ix, .int .i64 tm, .slice Z z.length d] ∧ τ 3 = .pointer (some ⟨b1, 0, none⟩) ∧ τ 5 = .pointer (some ⟨b2, 0, none⟩) ∧ τ 6 = .bool false) ⟨up rfl (up rfl (up rfl hs0)), up rfl (up rfl (up rfl hs1)), up rfl (up rfl (up rfl hs2)), up rfl (up rfl tp), up rfl tp, tp⟩ ?_
  rintro τ ⟨hs0, hs1, hs2, hs3, hs5, hs6⟩
  refine CW.seq ?_
  refine CW.region ?_
  refine RW.hard Wd.a ?_
  refine H.call0 Try.func24 nm24 rfl map0 (Calls.mono (ent_shown p.le_refl hst) ?_)
  rintro _ w ⟨p, hle, rfl, hst⟩
  have hp0 := hp0.le hle
  have hL := hL.le hle
  have hEL := hEL.le hle
  have hL2 := hL2.le hle
  have hEL2 := hEL2.le hle
  refine ⟨_, rfl, ?_⟩
  show RW _ _ _ _ _ _ _
  refine RW.soft Wd.a (v := .bool true) (by exact E.assign (AF_ev rfl tp)) ?_
  refine RW.fin (fun τ => τ 0 = .agg #[.int .i64 i0, .int .i64 t0] ∧ τ 1 = .slice X l.length c ∧ τ 2 = .agg #[.int .i64 kd, .int .i64 ix, .int .i64 tm, .slice Z z.length d] ∧ τ 3 = .pointer (some ⟨b1, 0, none⟩) ∧ τ 5 = .pointer (some ⟨b2, 0, none⟩) ∧ τ 6 = .bool false ∧ τ 7 = .bool true) ⟨up rfl (up rfl hs0), up rfl (up rfl hs1), up rfl (up rfl hs2), up rfl (up rfl hs3), up rfl (up rfl hs5), up rfl (up rfl hs6), tp⟩ ?_
  rintro τ ⟨hs0, hs1, hs2, hs3, hs5, hs6, hs7⟩
  refine CW.seq ?_
  refine CW.regionD [0, 1, 3, 4, 5] (fun w => w.cell? ⟨b1, 0, none⟩ = some (.int .i64 i0) ∧ w.cell? ⟨b1, 1, none⟩ = some (.int .i64 t0)) mixed ?_
  have hst := hst.drew
  generalize w.drew = w at hst ⊢
  have hS : w.cell? ⟨b1, 0, none⟩ = some (.int .i64 i0) ∧ w.cell? ⟨b1, 1, none⟩ = some (.int .i64 t0) := ⟨hst.cell (.there .here) rfl, hst.cell (.there .here) rfl⟩
  refine RD.take 0 rfl (by kernel_rfl) Wd.a (v := .pointer (some ⟨b1, 0, none⟩)) (fun w hS => by exact E.indexAddrA (b := b1) (o := 0) (i := 0) Try.underlying43 sz3 (AF_ev rfl hs3) rfl (by omega) (by omega) (by simp)) hS ?_
  refine RD.take 1 rfl (by kernel_rfl) Wd.a (v := .int .i64 i0) (fun w hS => by exact E.load (a := ⟨b1, 0, none⟩) Try.underlying3 rfl (AF_ev rfl tp) hS.1) hS ?_
  refine RD.take 3 rfl (by kernel_rfl) Wd.a (v := .pointer (some ⟨b1, 1, none⟩)) (fun w hS => by exact E.indexAddrA (b := b1) (o := 0) (i := 1) Try.underlying43 sz3 (AF_ev rfl (up rfl (up rfl hs3))) rfl (by omega) (by omega) (by simp)) hS ?_
  refine RD.take 4 rfl (by kernel_rfl) Wd.a (v := .int .i64 t0) (fun w hS => by exact E.load (a := ⟨b1, 1, none⟩) Try.underlying3 rfl (AF_ev rfl tp) hS.2) hS ?_
  refine RD.take 5 rfl (by kernel_rfl) Wd.a (v := .slice X l.length c) (fun w hS => by exact E.move (AF_ev rfl (up rfl (up rfl (up rfl (up rfl hs1)))))) hS ?_
  obtain ⟨kk3, hkk3⟩ : ∃ z, z = nearF i0 := ⟨_, rfl⟩
  have hrkk3 := nearF_range i0
  rw [← hkk3] at hrkk3
  refine RD.only 2 rfl (by kernel_rfl) Wd.a ?_
  refine H.call0 Try.func26 nm26 rfl (map1 (AF_ev rfl (up rfl (up rfl (up rfl tp))))) (Calls.mono (near17C (v := kk3) i0 (by omega) hkk3.symm hst) ?_)
  rintro _ w ⟨rfl, hst⟩
  refine ⟨_, rfl, ?_⟩
  have hS : w.cell? ⟨b1, 0, none⟩ = some (.int .i64 i0) ∧ w.cell? ⟨b1, 1, none⟩ = some (.int .i64 t0) := ⟨hst.cell (.there .here) rfl, hst.cell (.there .here) rfl⟩
  refine ⟨fun _ => hS, ?_⟩
  have hst := hst.emp
  refine RD.only 6 rfl (by kernel_rfl) Wd.a ?_
  refine H.call0 Try.func27 nm27 rfl (map1 (AF_ev rfl (up rfl tp))) (Calls.mono (ent_few (Las.tells hL) hEL (by omega) p.le_refl hst) ?_)
  rintro _ w ⟨p, vX4, es6, hle, rfl, hokes6, hl20es6, hst⟩
  obtain ⟨X4, c5, rfl, hcX4, hmX4, hlX4, hbX4⟩ := hst.shape
  have hp0 := hp0.le hle
  have hL := hL.le hle
  have hEL := hEL.le hle
  have hL2 := hL2.le hle
  have hEL2 := hEL2.le hle
  refine ⟨_, rfl, ?_⟩
  have hS : w.cell? ⟨b1, 0, none⟩ = some (.int .i64 i0) ∧ w.cell? ⟨b1, 1, none⟩ = some (.int .i64 t0) := ⟨hst.cell (.there (.there (.there .here))) rfl, hst.cell (.there (.there (.there .here))) rfl⟩
  refine ⟨fun _ => hS, ?_⟩
  obtain ⟨ia7, hia7⟩ : ∃ z, z = max 0 (min kk3 1099511627776) := ⟨_, rfl⟩
  have hria7 : 0 ≤ ia7 ∧ ia7 ≤ 1099511627776 := by omega
  refine RD.only 7 rfl (by kernel_rfl) Wd.a ?_
  refine H.call0 Try.func25 nm25 rfl (map3 (AF_ev rfl (up rfl tp)) (AF_ev rfl (up rfl (up rfl (up rfl tp)))) (AF_ev rfl tp)) (Calls.mono (ent_NewC (i' := ia7) kk3 t0 Own.tells hokes6 (by first | simp | omega) (by omega) hia7.symm hst) ?_)
  rintro _ w ⟨p, b8, es9, hle, rfl, hvses9, hst⟩
  have hp0 := hp0.le hle
  have hL := hL.le hle
  have hEL := hEL.le hle
  have hL2 := hL2.le hle
  have hEL2 := hEL2.le hle
  have hokes6 := hokes6.le hle
  have htses9 := ts_eq hvses9
  have hvles9 := vs_len hvses9
  refine ⟨_, rfl, ?_⟩
  have hS : w.cell? ⟨b1, 0, none⟩ = some (.int .i64 i0) ∧ w.cell? ⟨b1, 1, none⟩ = some (.int .i64 t0) := ⟨hst.cell (.there (.there (.there (.there .here)))) rfl, hst.cell (.there (.there (.there (.there .here)))) rfl⟩
  refine ⟨fun _ => hS, ?_⟩
  refine RD.only 8 rfl (by kernel_rfl) Wd.a (Hd.value (v := .pointer (some ⟨b8, 0, none⟩)) (by exact E.assign (AF_ev rfl tp)) ⟨fun h => Bool.noConfusion ((show needs _ _ _ = false by kernel_rfl).symm.trans h), ?_⟩)
  refine RD.fin (by kernel_rfl) (fun τ => τ 0 = .agg #[.int .i64 i0, .int .i64 t0] ∧ τ 1 = .slice X l.length c ∧ τ 2 = .agg #[.int .i64 kd, .int .i64 ix, .int .i64 tm, .slice Z z.length d] ∧ τ 3 = .pointer (some ⟨b1, 0, none⟩) ∧ τ 5 = .pointer (some ⟨b2, 0, none⟩) ∧ τ 6 = .bool false ∧ τ 7 = .bool true ∧ τ 8 = .pointer (some ⟨b8, 0, none⟩)) ⟨up rfl (up rfl (up rfl (up rfl (up rfl (up rfl (up rfl (up rfl (up rfl hs0)))))))), up rfl (up rfl (up rfl (up rfl (up rfl (up rfl (up rfl (up rfl (up rfl hs1)))))))), up rfl (up rfl (up rfl (up rfl (up rfl (up rfl (up rfl (up rfl (up rfl hs2)))))))), up rfl (up rfl (up rfl (up rfl (up rfl (up rfl (up rfl (up rfl (up rfl hs3)))))))), up rfl (up rfl (up rfl (up rfl (up rfl (up rfl (up rfl (up rfl (up rfl hs5)))))))), up rfl (up rfl (up rfl (up rfl (up rfl (up rfl (up rfl (up rfl (up rfl hs6)))))))), up rfl (up rfl (up rfl (up rfl (up rfl (up rfl (up rfl (up rfl (up rfl hs7)))))))), tp⟩ ?_
  rintro τ ⟨hs0, hs1, hs2, hs3, hs5, hs6, hs7, hs8⟩
  refine CW.seq ?_
  refine CW.seq ?_
  refine CW.region ?_
  refine RW.soft Wd.a (v := .bool true) (by exact E.move (AF_ev rfl hs7)) ?_
  refine RW.soft Wd.a (v := .bool false) (by exact E.not (b := true) (AF_ev rfl tp)) ?_
  refine RW.soft Wd.a (v := .bool false) (by exact E.move (AF_ev rfl tp)) ?_
  refine RW.soft (by exact Wd.yes (x := 34) rfl (AF_ev rfl tp)) (v := .pointer (some ⟨b8, 0, none⟩)) (by exact E.move (AF_ev rfl (up rfl (up rfl (up rfl hs8))))) ?_
  refine RW.soft (by exact Wd.yes (x := 34) rfl (AF_ev rfl (up rfl tp))) (v := .bool false) (by exact E.eqlP (p := (some ⟨b8, 0, none⟩)) Try.underlying47 (AF_ev rfl tp) rfl) ?_
  refine RW.soft Wd.a (v := .bool false) (by exact E.pickF (AF_ev rfl (up rfl (up rfl tp))) (AF_ev rfl tp)) ?_
  refine RW.fin (fun τ => τ 0 = .agg #[.int .i64 i0, .int .i64 t0] ∧ τ 1 = .slice X l.length c ∧ τ 2 = .agg #[.int .i64 kd, .int .i64 ix, .int .i64 tm, .slice Z z.length d] ∧ τ 3 = .pointer (some ⟨b1, 0, none⟩) ∧ τ 5 = .pointer (some ⟨b2, 0, none⟩) ∧ τ 6 = .bool false ∧ τ 7 = .bool true ∧ τ 8 = .pointer (some ⟨b8, 0, none⟩) ∧ τ 37 = .bool false) ⟨up rfl (up rfl (up rfl (up rfl (up rfl (up rfl hs0))))), up rfl (up rfl (up rfl (up rfl (up rfl (up rfl hs1))))), up rfl (up rfl (up rfl (up rfl (up rfl (up rfl hs2))))), up rfl (up rfl (up rfl (up rfl (up rfl (up rfl hs3))))), up rfl (up rfl (up rfl (up rfl (up rfl (up rfl hs5))))), up rfl (up rfl (up rfl (up rfl (up rfl (up rfl hs6))))), up rfl (up rfl (up rfl (up rfl (up rfl (up rfl hs7))))), up rfl (up rfl (up rfl (up rfl (up rfl (up rfl hs8))))), tp⟩ ?_
  rintro τ ⟨hs0, hs1, hs2, hs3, hs5, hs6, hs7, hs8, hs37⟩
  refine CW.condF (AF_ev rfl hs37) ?_
  refine CW.skip ?_
  refine Th.n ?_
  refine CW.seq ?_
  refine CW.region ?_
  refine RW.soft Wd.a (v := .pointer (some ⟨b8, 0, none⟩)) (by exact E.move (AF_ev rfl hs8)) ?_
  refine RW.hard Wd.a ?_
  refine H.call0 Try.func28 nm28 rfl (map1 (AF_ev rfl tp)) (Calls.mono (ent_Clone hst) ?_)
  rintro _ w ⟨b10, rfl, hst⟩
  refine ⟨_, rfl, ?_⟩
  show RW _ _ _ _ _ _ _
  refine RW.soft Wd.a (v := .pointer (some ⟨b10, 0, none⟩)) (by exact E.assign (AF_ev rfl tp)) ?_
  refine RW.fin (fun τ => τ 0 = .agg #[.int .i64 i0, .int .i64 t0] ∧ τ 1 = .slice X l.length c ∧ τ 2 = .agg #[.int .i64 kd, .int .i64 ix, .int .i64 tm, .slice Z z.length d] ∧ τ 3 = .pointer (some ⟨b1, 0, none⟩) ∧ τ 5 = .pointer (some ⟨b2, 0, none⟩) ∧ τ 6 = .bool false ∧ τ 7 = .bool true ∧ τ 8 = .pointer (some ⟨b8, 0, none⟩) ∧ τ 9 = .pointer (some ⟨b10, 0, none⟩) ∧ τ 37 = .bool false) ⟨up rfl (up rfl (up rfl hs0)), up rfl (up rfl (up rfl hs1)), up rfl (up rfl (up rfl hs2)), up rfl (up rfl (up rfl hs3)), up rfl (up rfl (up rfl hs5)), up rfl (up rfl (up rfl hs6)), up rfl (up rfl (up rfl hs7)), up rfl (up rfl (up rfl hs8)), tp, up rfl (up rfl (up rfl hs37))⟩ ?_
  rintro τ ⟨hs0, hs1, hs2, hs3, hs5, hs6, hs7, hs8, hs9, hs37⟩
  refine CW.seq ?_
  refine CW.seq ?_
  refine CW.region ?_
  refine RW.soft Wd.a (v := .pointer (some ⟨b10, 0, none⟩)) (by exact E.move (AF_ev rfl hs9)) ?_
  refine RW.soft Wd.a (v := .bool false) (by exact E.eqlP (p := (some ⟨b10, 0, none⟩)) Try.underlying47 (AF_ev rfl tp) rfl) ?_
  refine RW.fin (fun τ => τ 0 = .agg #[.int .i64 i0, .int .i64 t0] ∧ τ 1 = .slice X l.length c ∧ τ 2 = .agg #[.int .i64 kd, .int .i64 ix, .int .i64 tm, .slice Z z.length d] ∧ τ 3 = .pointer (some ⟨b1, 0, none⟩) ∧ τ 5 = .pointer (some ⟨b2, 0, none⟩) ∧ τ 6 = .bool false ∧ τ 7 = .bool true ∧ τ 8 = .pointer (some ⟨b8, 0, none⟩) ∧ τ 9 = .pointer (some ⟨b10, 0, none⟩) ∧ τ 37 = .bool false ∧ τ 41 = .bool false) ⟨up rfl (up rfl hs0), up rfl (up rfl hs1), up rfl (up rfl hs2), up rfl (up rfl hs3), up rfl (up rfl hs5), up rfl (up rfl hs6), up rfl (up rfl hs7), up rfl (up rfl hs8), up rfl (up rfl hs9), up rfl (up rfl hs37), tp⟩ ?_
  rintro τ ⟨hs0, hs1, hs2, hs3, hs5, hs6, hs7, hs8, hs9, hs37, hs41⟩
  refine CW.condF (AF_ev rfl hs41) ?_
  refine CW.skip ?_
  refine Th.n ?_
  refine CW.seq ?_
  refine CW.region ?_
  refine RW.soft Wd.a (v := .pointer (some ⟨b2, 3, none⟩)) (by exact E.fieldAddr (b := b2) (o := 0) (f := { name := "L", type := 44, offset := 3, embedded := false, tag := "", pkgPath := "", byteOffset := 24 }) (AF_ev rfl hs5) Try.underlying46 rfl sz44 rfl) ?_
  refine RW.soft Wd.a (v := .slice Z z.length d) (by exact E.load (a := ⟨b2, 3, none⟩) Try.underlying44 rfl (AF_ev rfl tp) (hst.cell (.there (.there (.there (.there .here)))) rfl)) ?_
  have hst := hst.emp
  refine RW.hard Wd.a ?_
  refine H.call0 Try.func27 nm27 rfl (map1 (AF_ev rfl tp)) (Calls.mono (ent_few (Las.tells hL2) hEL2 (by omega) p.le_refl hst) ?_)
  rintro _ w ⟨p, vX11, es13, hle, rfl, hokes13, hl20es13, hst⟩
  obtain ⟨X11, c12, rfl, hcX11, hmX11, hlX11, hbX11⟩ := hst.shape
  have hp0 := hp0.le hle
  have hL := hL.le hle
  have hEL := hEL.le hle
  have hL2 := hL2.le hle
  have hEL2 := hEL2.le hle
  have hokes6 := hokes6.le hle
  have hst := logLe hle (hst.take (.there (.there .here)))
  have hst := logLe hle (hst.take (.there (.there (.there .here))))
  refine ⟨_, rfl, ?_⟩
  show RW _ _ _ _ _ _ _
  refine RW.soft Wd.a (v := .slice X11 es13.length c12) (by exact E.assign (AF_ev rfl tp)) ?_
  refine RW.fin (fun τ => τ 0 = .agg #[.int .i64 i0, .int .i64 t0] ∧ τ 1 = .slice X l.length c ∧ τ 2 = .agg #[.int .i64 kd, .int .i64 ix, .int .i64 tm, .slice Z z.length d] ∧ τ 3 = .pointer (some ⟨b1, 0, none⟩) ∧ τ 5 = .pointer (some ⟨b2, 0, none⟩) ∧ τ 6 = .bool false ∧ τ 7 = .bool true ∧ τ 8 = .pointer (some ⟨b8, 0, none⟩) ∧ τ 9 = .pointer (some ⟨b10, 0, none⟩) ∧ τ 10 = .slice X11 es13.length c12 ∧ τ 37 = .bool false ∧ τ 41 = .bool false) ⟨up rfl (up rfl (up rfl (up rfl hs0))), up rfl (up rfl (up rfl (up rfl hs1))), up rfl (up rfl (up rfl (up rfl hs2))), up rfl (up rfl (up rfl (up rfl hs3))), up rfl (up rfl (up rfl (up rfl hs5))), up rfl (up rfl (up rfl (up rfl hs6))), up rfl (up rfl (up rfl (up rfl hs7))), up rfl (up rfl (up rfl (up rfl hs8))), up rfl (up rfl (up rfl (up rfl hs9))), tp, up rfl (up rfl (up rfl (up rfl hs37))), up rfl (up rfl (up rfl (up rfl hs41)))⟩ ?_
  rintro τ ⟨hs0, hs1, hs2, hs3, hs5, hs6, hs7, hs8, hs9, hs10, hs37, hs41⟩
  refine CW.seq ?_
  refine CW.region ?_
  refine RW.soft Wd.a (v := .pointer (some ⟨b2, 1, none⟩)) (by exact E.fieldAddr (b := b2) (o := 0) (f := { name := "Index", type := 3, offset := 1, embedded := false, tag := "", pkgPath := "", byteOffset := 8 }) (AF_ev rfl hs5) Try.underlying46 rfl sz3 rfl) ?_
  refine RW.soft Wd.a (v := .int .i64 ix) (by exact E.load (a := ⟨b2, 1, none⟩) Try.underlying3 rfl (AF_ev rfl tp) (hst.cell (.there (.there (.there (.there (.there (.there .here)))))) rfl)) ?_
  obtain ⟨kk14, hkk14⟩ : ∃ z, z = nearF ix := ⟨_, rfl⟩
  have hrkk14 := nearF_range ix
  rw [← hkk14] at hrkk14
  refine RW.hard Wd.a ?_
  refine H.call0 Try.func26 nm26 rfl (map1 (AF_ev rfl tp)) (Calls.mono (near17C (v := kk14) ix (by omega) hkk14.symm hst) ?_)
  rintro _ w ⟨rfl, hst⟩
  refine ⟨_, rfl, ?_⟩
  show RW _ _ _ _ _ _ _
  refine RW.soft Wd.a (v := .int .i64 kk14) (by exact E.assign (AF_ev rfl tp)) ?_
  refine RW.fin (fun τ => τ 0 = .agg #[.int .i64 i0, .int .i64 t0] ∧ τ 1 = .slice X l.length c ∧ τ 2 = .agg #[.int .i64 kd, .int .i64 ix, .int .i64 tm, .slice Z z.length d] ∧ τ 3 = .pointer (some ⟨b1, 0, none⟩) ∧ τ 5 = .pointer (some ⟨b2, 0, none⟩) ∧ τ 6 = .bool false ∧ τ 7 = .bool true ∧ τ 8 = .pointer (some ⟨b8, 0, none⟩) ∧ τ 9 = .pointer (some ⟨b10, 0, none⟩) ∧ τ 10 = .slice X11 es13.length c12 ∧ τ 11 = .int .i64 kk14 ∧ τ 37 = .bool false ∧ τ 41 = .bool false) ⟨up rfl (up rfl (up rfl (up rfl hs0))), up rfl (up rfl (up rfl (up rfl hs1))), up rfl (up rfl (up rfl (up rfl hs2))), up rfl (up rfl (up rfl (up rfl hs3))), up rfl (up rfl (up rfl (up rfl hs5))), up rfl (up rfl (up rfl (up rfl hs6))), up rfl (up rfl (up rfl (up rfl hs7))), up rfl (up rfl (up rfl (up rfl hs8))), up rfl (up rfl (up rfl (up rfl hs9))), up rfl (up rfl (up rfl (up rfl hs10))), tp, up rfl (up rfl (up rfl (up rfl hs37))), up rfl (up rfl (up rfl (up rfl hs41)))⟩ ?_
  rintro τ ⟨hs0, hs1, hs2, hs3, hs5, hs6, hs7, hs8, hs9, hs10, hs11, hs37, hs41⟩
  refine CW.seq ?_
  refine Or.elim (Bool.eq_false_or_eq_true (decide (kk14 > ia7 + ((es9.length : Nat) : Int)))) (fun hfar => ?_) (fun hfar => ?_)
  · skip
    have hfar_ := of_decide_eq_true hfar
    refine CW.region ?_
    refine RW.soft Wd.a (v := .pointer (some ⟨b8, 0, none⟩)) (by exact E.move (AF_ev rfl hs8)) ?_
    refine RW.soft Wd.a (v := .int .i64 kk14) (by exact E.move (AF_ev rfl (up rfl hs11))) ?_
    refine RW.soft Wd.a (v := .pointer (some ⟨b2, 2, none⟩)) (by exact E.fieldAddr (b := b2) (o := 0) (f := { name := "Term", type := 3, offset := 2, embedded := false, tag := "", pkgPath := "", byteOffset := 16 }) (AF_ev rfl (up rfl (up rfl hs5))) Try.underlying46 rfl sz3 rfl) ?_
    refine RW.soft Wd.a (v := .int .i64 tm) (by exact E.load (a := ⟨b2, 2, none⟩) Try.underlying3 rfl (AF_ev rfl tp) (hst.cell (.there (.there (.there (.there (.there (.there .here)))))) rfl)) ?_
    refine RW.soft Wd.a (v := .slice X11 es13.length c12) (by exact E.move (AF_ev rfl (up rfl (up rfl (up rfl (up rfl hs10)))))) ?_
    have hst := hst.take (.there (.there .here))
    have hst := hst.take (.there .here)
    refine RW.hard Wd.a ?_
    refine H.call0 Try.func29 nm29 rfl (map4 (AF_ev rfl (up rfl (up rfl (up rfl (up rfl tp))))) (AF_ev rfl (up rfl (up rfl (up rfl tp)))) (AF_ev rfl (up rfl tp)) (AF_ev rfl tp)) (Calls.mono (ent_Join_far kk14 tm (by omega) (by omega) Own.tells hokes13 hfar_ hst) ?_)
    rintro _ w ⟨p, es15, hle, rfl, hle2, hst⟩
    have hp0 := hp0.le hle
    have hL := hL.le hle
    have hEL := hEL.le hle
    have hL2 := hL2.le hle
    have hEL2 := hEL2.le hle
    have hokes6 := hokes6.le hle
    have hokes13 := hokes13.le hle
    have hst := logLe hle (hst.take (.there (.there .here)))
    refine ⟨_, rfl, ?_⟩
    show RW _ _ _ _ _ _ _
    refine RW.soft Wd.a (v := .tuple #[.int .i64 (ia7 + ((es9.length : Nat) : Int)), .int .i64 0, .bool false]) (by exact E.move (AF_ev rfl tp)) ?_
    refine RW.soft Wd.a (v := .int .i64 (ia7 + ((es9.length : Nat) : Int))) (by exact E.extract (vs := #[.int .i64 (ia7 + ((es9.length : Nat) : Int)), .int .i64 0, .bool false]) (AF_ev rfl tp) rfl) ?_
    refine RW.soft Wd.a (v := .int .i64 0) (by exact E.extract (vs := #[.int .i64 (ia7 + ((es9.length : Nat) : Int)), .int .i64 0, .bool false]) (AF_ev rfl (up rfl tp)) rfl) ?_
    refine RW.soft Wd.a (v := .bool false) (by exact E.extract (vs := #[.int .i64 (ia7 + ((es9.length : Nat) : Int)), .int .i64 0, .bool false]) (AF_ev rfl (up rfl (up rfl tp))) rfl) ?_
    refine RW.soft Wd.a (v := .int .i64 (ia7 + ((es9.length : Nat) : Int))) (by exact E.assign (AF_ev rfl (up rfl (up rfl tp)))) ?_
    refine RW.soft Wd.a (v := .int .i64 0) (by exact E.assign (AF_ev rfl (up rfl (up rfl tp)))) ?_
    refine RW.soft Wd.a (v := .bool false) (by exact E.assign (AF_ev rfl (up rfl (up rfl tp)))) ?_
    refine RW.fin (fun τ => τ 0 = .agg #[.int .i64 i0, .int .i64 t0] ∧ τ 1 = .slice X l.length c ∧ τ 2 = .agg #[.int .i64 kd, .int .i64 ix, .int .i64 tm, .slice Z z.length d] ∧ τ 3 = .pointer (some ⟨b1, 0, none⟩) ∧ τ 5 = .pointer (some ⟨b2, 0, none⟩) ∧ τ 6 = .bool false ∧ τ 7 = .bool true ∧ τ 8 = .pointer (some ⟨b8, 0, none⟩) ∧ τ 9 = .pointer (some ⟨b10, 0, none⟩) ∧ τ 10 = .slice X11 es13.length c12 ∧ τ 11 = .int .i64 kk14 ∧ τ 12 = .int .i64 (ia7 + ((es9.length : Nat) : Int)) ∧ τ 13 = .int .i64 0 ∧ τ 14 = .bool false ∧ τ 37 = .bool false ∧ τ 41 = .bool false) ⟨up rfl (up rfl (up rfl (up rfl (up rfl (up rfl (up rfl (up rfl (up rfl (up rfl (up rfl (up rfl (up rfl hs0)))))))))))), up rfl (up rfl (up rfl (up rfl (up rfl (up rfl (up rfl (up rfl (up rfl (up rfl (up rfl (up rfl (up rfl hs1)))))))))))), up rfl (up rfl (up rfl (up rfl (up rfl (up rfl (up rfl (up rfl (up rfl (up rfl (up rfl (up rfl (up rfl hs2)))))))))))), up rfl (up rfl (up rfl (up rfl (up rfl (up rfl (up rfl (up rfl (up rfl (up rfl (up rfl (up rfl (up rfl hs3)))))))))))), up rfl (up rfl (up rfl (up rfl (up rfl (up rfl (up rfl (up rfl (up rfl (up rfl (up rfl (up rfl (up rfl hs5)))))))))))), up rfl (up rfl (up rfl (up rfl (up rfl (up rfl (up rfl (up rfl (up rfl (up rfl (up rfl (up rfl (up rfl hs6)))))))))))), up rfl (up rfl (up rfl (up rfl (up rfl (up rfl (up rfl (up rfl (up rfl (up rfl (up rfl (up rfl (up rfl hs7)))))))))))), up rfl (up rfl (up rfl (up rfl (up rfl (up rfl (up rfl (up rfl (up rfl (up rfl (up rfl (up rfl (up rfl hs8)))))))))))), up rfl (up rfl (up rfl (up rfl (up rfl (up rfl (up rfl (up rfl (up rfl (up rfl (up rfl (up rfl (up rfl hs9)))))))))))), up rfl (up rfl (up rfl (up rfl (up rfl (up rfl (up rfl (up rfl (up rfl (up rfl (up rfl (up rfl (up rfl hs10)))))))))))), up rfl (up rfl (up rfl (up rfl (up rfl (up rfl (up rfl (up rfl (up rfl (up rfl (up rfl (up rfl (up rfl hs11)))))))))))), up rfl (up rfl tp), up rfl tp, tp, up rfl (up rfl (up rfl (up rfl (up rfl (up rfl (up rfl (up rfl (up rfl (up rfl (up rfl (up rfl (up rfl hs37)))))))))))), up rfl (up rfl (up rfl (up rfl (up rfl (up rfl (up rfl (up rfl (up rfl (up rfl (up rfl (up rfl (up rfl hs41))))))))))))⟩ ?_
    rintro τ ⟨hs0, hs1, hs2, hs3, hs5, hs6, hs7, hs8, hs9, hs10, hs11, hs12, hs13, hs14, hs37, hs41⟩
    refine CW.seq ?_
    refine CW.seq ?_
    refine CW.region ?_
    refine RW.soft Wd.a (v := .bool false) (by exact E.move (AF_ev rfl hs14)) ?_
    refine RW.soft Wd.a (v := .bool true) (by exact E.not (b := false) (AF_ev rfl tp)) ?_
    refine RW.fin (fun τ => τ 0 = .agg #[.int .i64 i0, .int .i64 t0] ∧ τ 1 = .slice X l.length c ∧ τ 2 = .agg #[.int .i64 kd, .int .i64 ix, .int .i64 tm, .slice Z z.length d] ∧ τ 3 = .pointer (some ⟨b1, 0, none⟩) ∧ τ 5 = .pointer (some ⟨b2, 0, none⟩) ∧ τ 6 = .bool false ∧ τ 7 = .bool true ∧ τ 8 = .pointer (some ⟨b8, 0, none⟩) ∧ τ 9 = .pointer (some ⟨b10, 0, none⟩) ∧ τ 10 = .slice X11 es13.length c12 ∧ τ 11 = .int .i64 kk14 ∧ τ 12 = .int .i64 (ia7 + ((es9.length : Nat) : Int)) ∧ τ 13 = .int .i64 0 ∧ τ 14 = .bool false ∧ τ 37 = .bool false ∧ τ 41 = .bool false ∧ τ 59 = .bool true) ⟨up rfl (up rfl hs0), up rfl (up rfl hs1), up rfl (up rfl hs2), up rfl (up rfl hs3), up rfl (up rfl hs5), up rfl (up rfl hs6), up rfl (up rfl hs7), up rfl (up rfl hs8), up rfl (up rfl hs9), up rfl (up rfl hs10), up rfl (up rfl hs11), up rfl (up rfl hs12), up rfl (up rfl hs13), up rfl (up rfl hs14), up rfl (up rfl hs37), up rfl (up rfl hs41), tp⟩ ?_
    rintro τ ⟨hs0, hs1, hs2, hs3, hs5, hs6, hs7, hs8, hs9, hs10, hs11, hs12, hs13, hs14, hs37, hs41, hs59⟩
    refine CW.condT (AF_ev rfl hs59) ?_
    refine CW.seq ?_
    refine CW.region ?_
    refine RW.soft Wd.a (v := .int .i64 0) (by exact E.move (AF_ev rfl hs13)) ?_
    refine RW.soft Wd.a (v := .bool true) (by exact E.eql (k := .i64) (a := 0) (b := 0) (AF_ev rfl tp) rfl) ?_
    refine RW.soft Wd.a (v := .bool true) (by exact E.move (AF_ev rfl tp)) ?_
    refine RW.soft (by exact Wd.yes (x := 62) rfl (AF_ev rfl tp)) (v := .pointer (some ⟨b8, 0, none⟩)) (by exact E.move (AF_ev rfl (up rfl (up rfl (up rfl hs8))))) ?_
    have hst := hst.take (.there .here)
    refine RW.hard (by exact Wd.yes (x := 62) rfl (AF_ev rfl (up rfl tp))) ?_
    refine H.call0 Try.func30 nm30 rfl (map1 (AF_ev rfl tp)) (Calls.mono (ent_LastL (v := ia7 + ((es15.length : Nat) : Int)) rfl hst) ?_)
    rintro _ w ⟨rfl, hst⟩
    refine ⟨_, rfl, ?_⟩
    show RW _ _ _ _ _ _ _
    refine RW.soft (by exact Wd.yes (x := 62) rfl (AF_ev rfl (up rfl (up rfl tp)))) (v := .pointer (some ⟨b10, 0, none⟩)) (by exact E.move (AF_ev rfl (up rfl (up rfl (up rfl (up rfl (up rfl hs9))))))) ?_
    have hst := hst.take (.there .here)
    refine RW.hard (by exact Wd.yes (x := 62) rfl (AF_ev rfl (up rfl (up rfl (up rfl tp))))) ?_
    refine H.call0 Try.func30 nm30 rfl (map1 (AF_ev rfl tp)) (Calls.mono (ent_LastL (v := ia7 + ((es9.length : Nat) : Int)) rfl hst) ?_)
    rintro _ w ⟨rfl, hst⟩
    refine ⟨_, rfl, ?_⟩
    show RW _ _ _ _ _ _ _
    refine RW.soft (by exact Wd.yes (x := 62) rfl (AF_ev rfl (up rfl (up rfl (up rfl (up rfl tp)))))) (v := .bool true) (by exact E.b (a := (ia7 + ((es15.length : Nat) : Int)) == (ia7 + ((es9.length : Nat) : Int))) (E.eql (k := .i64) (a := ia7 + ((es15.length : Nat) : Int)) (b := ia7 + ((es9.length : Nat) : Int)) (AF_ev rfl (up rfl (up rfl tp))) (AF_ev rfl tp)) (by rw [beq_iff_eq]; omega)) ?_
    refine RW.soft Wd.a (v := .bool true) (by exact E.pickT (AF_ev rfl (up rfl (up rfl (up rfl (up rfl (up rfl tp)))))) (AF_ev rfl tp)) ?_
    refine RW.soft Wd.a (v := .bool true) (by exact E.move (AF_ev rfl tp)) ?_
    refine RW.soft (by exact Wd.yes (x := 69) rfl (AF_ev rfl tp)) (v := .int .i64 (ia7 + ((es9.length : Nat) : Int))) (by exact E.move (AF_ev rfl (up rfl (up rfl (up rfl (up rfl (up rfl (up rfl (up rfl (up rfl (up rfl (up rfl hs12)))))))))))) ?_
    refine RW.soft (by exact Wd.yes (x := 69) rfl (AF_ev rfl (up rfl tp))) (v := .pointer (some ⟨b10, 0, none⟩)) (by exact E.move (AF_ev rfl (up rfl (up rfl (up rfl (up rfl (up rfl (up rfl (up rfl (up rfl (up rfl (up rfl (up rfl hs9))))))))))))) ?_
    refine RW.hard (by exact Wd.yes (x := 69) rfl (AF_ev rfl (up rfl (up rfl tp)))) ?_
    refine H.call0 Try.func30 nm30 rfl (map1 (AF_ev rfl tp)) (Calls.mono (ent_LastL (v := ia7 + ((es9.length : Nat) : Int)) rfl hst) ?_)
    rintro _ w ⟨rfl, hst⟩
    refine ⟨_, rfl, ?_⟩
    show RW _ _ _ _ _ _ _
    refine RW.soft (by exact Wd.yes (x := 69) rfl (AF_ev rfl (up rfl (up rfl (up rfl tp))))) (v := .bool true) (by exact E.b (a := decide ((ia7 + ((es9.length : Nat) : Int)) ≤ (ia7 + ((es9.length : Nat) : Int)))) (E.leq (k := .i64) (a := ia7 + ((es9.length : Nat) : Int)) (b := ia7 + ((es9.length : Nat) : Int)) (AF_ev rfl (up rfl (up rfl tp))) (AF_ev rfl tp)) (decide_eq_true (by omega))) ?_
    refine RW.soft Wd.a (v := .bool true) (by exact E.pickT (AF_ev rfl (up rfl (up rfl (up rfl (up rfl tp))))) (AF_ev rfl tp)) ?_
    refine RW.soft Wd.a (v := .bool true) (by exact E.move (AF_ev rfl tp)) ?_
    refine RW.soft (by exact Wd.yes (x := 75) rfl (AF_ev rfl tp)) (v := .int .i64 kk14) (by exact E.move (AF_ev rfl (up rfl (up rfl (up rfl (up rfl (up rfl (up rfl (up rfl (up rfl (up rfl (up rfl (up rfl (up rfl (up rfl (up rfl (up rfl (up rfl hs11)))))))))))))))))) ?_
    refine RW.soft (by exact Wd.yes (x := 75) rfl (AF_ev rfl (up rfl tp))) (v := .pointer (some ⟨b10, 0, none⟩)) (by exact E.move (AF_ev rfl (up rfl (up rfl (up rfl (up rfl (up rfl (up rfl (up rfl (up rfl (up rfl (up rfl (up rfl (up rfl (up rfl (up rfl (up rfl (up rfl (up rfl hs9))))))))))))))))))) ?_
    refine RW.hard (by exact Wd.yes (x := 75) rfl (AF_ev rfl (up rfl (up rfl tp)))) ?_
    refine H.call0 Try.func30 nm30 rfl (map1 (AF_ev rfl tp)) (Calls.mono (ent_LastL (v := ia7 + ((es9.length : Nat) : Int)) rfl hst) ?_)
    rintro _ w ⟨rfl, hst⟩
    refine ⟨_, rfl, ?_⟩
    show RW _ _ _ _ _ _ _
    refine RW.soft (by exact Wd.yes (x := 75) rfl (AF_ev rfl (up rfl (up rfl (up rfl tp))))) (v := .bool true) (by exact E.b (a := decide (kk14 > (ia7 + ((es9.length : Nat) : Int)))) (E.gtr (k := .i64) (a := kk14) (b := ia7 + ((es9.length : Nat) : Int)) (AF_ev rfl (up rfl (up rfl tp))) (AF_ev rfl tp)) (decide_eq_true (by omega))) ?_
    refine RW.soft (by exact Wd.yes (x := 75) rfl (AF_ev rfl (up rfl (up rfl (up rfl (up rfl tp)))))) (v := .bool true) (by exact E.move (AF_ev rfl tp)) ?_
    refine RW.pass (by exact Wd.no (x := 80) (b := true) rfl (AF_ev rfl tp) rfl) ?_
    refine RW.pass (by exact Wd.no (x := 80) (b := true) rfl (AF_ev rfl (up rfl tp)) rfl) ?_
    refine RW.pass (by exact Wd.no (x := 80) (b := true) rfl (AF_ev rfl (up rfl (up rfl tp))) rfl) ?_
    refine RW.pass (by exact Wd.no (x := 80) (b := true) rfl (AF_ev rfl (up rfl (up rfl (up rfl tp)))) rfl) ?_
    refine RW.pass (by exact Wd.no (x := 80) (b := true) rfl (AF_ev rfl (up rfl (up rfl (up rfl (up rfl tp))))) rfl) ?_
    refine RW.soft (by exact Wd.yes (x := 75) rfl (AF_ev rfl (up rfl (up rfl (up rfl (up rfl (up rfl (up rfl (up rfl (up rfl (up rfl (up rfl tp)))))))))))) (v := .bool true) (by exact E.pickT (AF_ev rfl (up rfl (up rfl (up rfl (up rfl (up rfl tp)))))) rfl) ?_
    refine RW.soft Wd.a (v := .bool true) (by exact E.pickT (AF_ev rfl (up rfl (up rfl (up rfl (up rfl (up rfl (up rfl (up rfl (up rfl (up rfl (up rfl (up rfl tp)))))))))))) (AF_ev rfl tp)) ?_
    refine RW.soft Wd.a (v := .bool true) (by exact E.assign (AF_ev rfl tp)) ?_
    refine RW.fin (fun τ => τ 0 = .agg #[.int .i64 i0, .int .i64 t0] ∧ τ 1 = .slice X l.length c ∧ τ 2 = .agg #[.int .i64 kd, .int .i64 ix, .int .i64 tm, .slice Z z.length d] ∧ τ 3 = .pointer (some ⟨b1, 0, none⟩) ∧ τ 5 = .pointer (some ⟨b2, 0, none⟩) ∧ τ 6 = .bool true ∧ τ 7 = .bool true ∧ τ 8 = .pointer (some ⟨b8, 0, none⟩) ∧ τ 9 = .pointer (some ⟨b10, 0, none⟩) ∧ τ 10 = .slice X11 es13.length c12 ∧ τ 11 = .int .i64 kk14 ∧ τ 12 = .int .i64 (ia7 + ((es9.length : Nat) : Int)) ∧ τ 13 = .int .i64 0 ∧ τ 14 = .bool false ∧ τ 37 = .bool false ∧ τ 41 = .bool false ∧ τ 59 = .bool true) ⟨up rfl (up rfl (up rfl (up rfl (up rfl (up rfl (up rfl (up rfl (up rfl (up rfl (up rfl (up rfl (up rfl (up rfl (up rfl (up rfl (up rfl (up rfl (up rfl (up rfl (up rfl (up rfl (up rfl (up rfl (up rfl (up rfl (up rfl (up rfl (up rfl hs0)))))))))))))))))))))))))))), up rfl (up rfl (up rfl (up rfl (up rfl (up rfl (up rfl (up rfl (up rfl (up rfl (up rfl (up rfl (up rfl (up rfl (up rfl (up rfl (up rfl (up rfl (up rfl (up rfl (up rfl (up rfl (up rfl (up rfl (up rfl (up rfl (up rfl (up rfl (up rfl hs1)))))))))))))))))))))))))))), up rfl (up rfl (up rfl (up rfl (up rfl (up rfl (up rfl (up rfl (up rfl (up rfl (up rfl (up rfl (up rfl (up rfl (up rfl (up rfl (up rfl (up rfl (up rfl (up rfl (up rfl (up rfl (up rfl (up rfl (up rfl (up rfl (up rfl (up rfl (up rfl hs2)))))))))))))))))))))))))))), up rfl (up rfl (up rfl (up rfl (up rfl (up rfl (up rfl (up rfl (up rfl (up rfl (up rfl (up rfl (up rfl (up rfl (up rfl (up rfl (up rfl (up rfl (up rfl (up rfl (up rfl (up rfl (up rfl (up rfl (up rfl (up rfl (up rfl (up rfl (up rfl hs3)))))))))))))))))))))))))))), up rfl (up rfl (up rfl (up rfl (up rfl (up rfl (up rfl (up rfl (up rfl (up rfl (up rfl (up rfl (up rfl (up rfl (up rfl (up rfl (up rfl (up rfl (up rfl (up rfl (up rfl (up rfl (up rfl (up rfl (up rfl (up rfl (up rfl (up rfl (up rfl hs5)))))))))))))))))))))))))))), tp, up rfl (up rfl (up rfl (up rfl (up rfl (up rfl (up rfl (up rfl (up rfl (up rfl (up rfl (up rfl (up rfl (up rfl (up rfl (up rfl (up rfl (up rfl (up rfl (up rfl (up rfl (up rfl (up rfl (up rfl (up rfl (up rfl (up rfl (up rfl (up rfl hs7)))))))))))))))))))))))))))), up rfl (up rfl (up rfl (up rfl (up rfl (up rfl (up rfl (up rfl (up rfl (up rfl (up rfl (up rfl (up rfl (up rfl (up rfl (up rfl (up rfl (up rfl (up rfl (up rfl (up rfl (up rfl (up rfl (up rfl (up rfl (up rfl (up rfl (up rfl (up rfl hs8)))))))))))))))))))))))))))), up rfl (up rfl (up rfl (up rfl (up rfl (up rfl (up rfl (up rfl (up rfl (up rfl (up rfl (up rfl (up rfl (up rfl (up rfl (up rfl (up rfl (up rfl (up rfl (up rfl (up rfl (up rfl (up rfl (up rfl (up rfl (up rfl (up rfl (up rfl (up rfl hs9)))))))))))))))))))))))))))), up rfl (up rfl (up rfl (up rfl (up rfl (up rfl (up rfl (up rfl (up rfl (up rfl (up rfl (up rfl (up rfl (up rfl (up rfl (up rfl (up rfl (up rfl (up rfl (up rfl (up rfl (up rfl (up rfl (up rfl (up rfl (up rfl (up rfl (up rfl (up rfl hs10)))))))))))))))))))))))))))), up rfl (up rfl (up rfl (up rfl (up rfl (up rfl (up rfl (up rfl (up rfl (up rfl (up rfl (up rfl (up rfl (up rfl (up rfl (up rfl (up rfl (up rfl (up rfl (up rfl (up rfl (up rfl (up rfl (up rfl (up rfl (up rfl (up rfl (up rfl (up rfl hs11)))))))))))))))))))))))))))), up rfl (up rfl (up rfl (up rfl (up rfl (up rfl (up rfl (up rfl (up rfl (up rfl (up rfl (up rfl (up rfl (up rfl (up rfl (up rfl (up rfl (up rfl (up rfl (up rfl (up rfl (up rfl (up rfl (up rfl (up rfl (up rfl (up rfl (up rfl (up rfl hs12)))))))))))))))))))))))))))), up rfl (up rfl (up rfl (up rfl (up rfl (up rfl (up rfl (up rfl (up rfl (up rfl (up rfl (up rfl (up rfl (up rfl (up rfl (up rfl (up rfl (up rfl (up rfl (up rfl (up rfl (up rfl (up rfl (up rfl (up rfl (up rfl (up rfl (up rfl (up rfl hs13)))))))))))))))))))))))))))), up rfl (up rfl (up rfl (up rfl (up rfl (up rfl (up rfl (up rfl (up rfl (up rfl (up rfl (up rfl (up rfl (up rfl (up rfl (up rfl (up rfl (up rfl (up rfl (up rfl (up rfl (up rfl (up rfl (up rfl (up rfl (up rfl (up rfl (up rfl (up rfl hs14)))))))))))))))))))))))))))), up rfl (up rfl (up rfl (up rfl (up rfl (up rfl (up rfl (up rfl (up rfl (up rfl (up rfl (up rfl (up rfl (up rfl (up rfl (up rfl (up rfl (up rfl (up rfl (up rfl (up rfl (up rfl (up rfl (up rfl (up rfl (up rfl (up rfl (up rfl (up rfl hs37)))))))))))))))))))))))))))), up rfl (up rfl (up rfl (up rfl (up rfl (up rfl (up rfl (up rfl (up rfl (up rfl (up rfl (up rfl (up rfl (up rfl (up rfl (up rfl (up rfl (up rfl (up rfl (up rfl (up rfl (up rfl (up rfl (up rfl (up rfl (up rfl (up rfl (up rfl (up rfl hs41)))))))))))))))))))))))))))), up rfl (up rfl (up rfl (up rfl (up rfl (up rfl (up rfl (up rfl (up rfl (up rfl (up rfl (up rfl (up rfl (up rfl (up rfl (up rfl (up rfl (up rfl (up rfl (up rfl (up rfl (up rfl (up rfl (up rfl (up rfl (up rfl (up rfl (up rfl (up rfl hs59))))))))))))))))))))))))))))⟩ ?_
    rintro τ ⟨hs0, hs1, hs2, hs3, hs5, hs6, hs7, hs8, hs9, hs10, hs11, hs12, hs13, hs14, hs37, hs41, hs59⟩
    refine CW.ret ?_
    refine Th.r ?_
    refine ret1 (v := .bool true) rfl (by exact (.tmp (AF_ev rfl hs6) .nil)) ?_
    have hst := hst.drop
    have hst := hst.drop
    have hst := hst.drop
    have hst := hst.drop
    have hst := hst.drop
    have hst := hst.drop
    have hst := hst.drop
    have hst := hst.drop
    exact ⟨p, hp0, rfl, hst⟩
  · skip
    refine Or.elim (Bool.eq_false_or_eq_true (clash ia7 t0 (ts es9) kk14 tm)) (fun hcl => ?_) (fun hcl => ?_)
    · skip
      have hfar_ := of_decide_eq_false hfar
      refine CW.region ?_
      refine RW.soft Wd.a (v := .pointer (some ⟨b8, 0, none⟩)) (by exact E.move (AF_ev rfl hs8)) ?_
      refine RW.soft Wd.a (v := .int .i64 kk14) (by exact E.move (AF_ev rfl (up rfl hs11))) ?_
      refine RW.soft Wd.a (v := .pointer (some ⟨b2, 2, none⟩)) (by exact E.fieldAddr (b := b2) (o := 0) (f := { name := "Term", type := 3, offset := 2, embedded := false, tag := "", pkgPath := "", byteOffset := 16 }) (AF_ev rfl (up rfl (up rfl hs5))) Try.underlying46 rfl sz3 rfl) ?_
      refine RW.soft Wd.a (v := .int .i64 tm) (by exact E.load (a := ⟨b2, 2, none⟩) Try.underlying3 rfl (AF_ev rfl tp) (hst.cell (.there (.there (.there (.there (.there (.there .here)))))) rfl)) ?_
      refine RW.soft Wd.a (v := .slice X11 es13.length c12) (by exact E.move (AF_ev rfl (up rfl (up rfl (up rfl (up rfl hs10)))))) ?_
      have hst := hst.take (.there (.there .here))
      have hst := hst.take (.there .here)
      refine RW.hard Wd.a ?_
      refine H.call0 Try.func29 nm29 rfl (map4 (AF_ev rfl (up rfl (up rfl (up rfl (up rfl tp))))) (AF_ev rfl (up rfl (up rfl (up rfl tp)))) (AF_ev rfl (up rfl tp)) (AF_ev rfl tp)) (Calls.mono (ent_Join_clash kk14 tm (by omega) (by omega) Own.tells hokes13 hfar_ hcl hst) ?_)
      rintro _ w ⟨p, es16, BB, hle, rfl, hle2, hBB, hst⟩
      have hp0 := hp0.le hle
      have hL := hL.le hle
      have hEL := hEL.le hle
      have hL2 := hL2.le hle
      have hEL2 := hEL2.le hle
      have hokes6 := hokes6.le hle
      have hokes13 := hokes13.le hle
      have hst := logLe hle (hst.take (.there (.there .here)))
      refine ⟨_, rfl, ?_⟩
      show RW _ _ _ _ _ _ _
      refine RW.soft Wd.a (v := .tuple #[.int .i64 BB, .int .i64 0, .bool false]) (by exact E.move (AF_ev rfl tp)) ?_
      refine RW.soft Wd.a (v := .int .i64 BB) (by exact E.extract (vs := #[.int .i64 BB, .int .i64 0, .bool false]) (AF_ev rfl tp) rfl) ?_
      refine RW.soft Wd.a (v := .int .i64 0) (by exact E.extract (vs := #[.int .i64 BB, .int .i64 0, .bool false]) (AF_ev rfl (up rfl tp)) rfl) ?_
      refine RW.soft Wd.a (v := .bool false) (by exact E.extract (vs := #[.int .i64 BB, .int .i64 0, .bool false]) (AF_ev rfl (up rfl (up rfl tp))) rfl) ?_
      refine RW.soft Wd.a (v := .int .i64 BB) (by exact E.assign (AF_ev rfl (up rfl (up rfl tp)))) ?_
      refine RW.soft Wd.a (v := .int .i64 0) (by exact E.assign (AF_ev rfl (up rfl (up rfl tp)))) ?_
      refine RW.soft Wd.a (v := .bool false) (by exact E.assign (AF_ev rfl (up rfl (up rfl tp)))) ?_
      refine RW.fin (fun τ => τ 0 = .agg #[.int .i64 i0, .int .i64 t0] ∧ τ 1 = .slice X l.length c ∧ τ 2 = .agg #[.int .i64 kd, .int .i64 ix, .int .i64 tm, .slice Z z.length d] ∧ τ 3 = .pointer (some ⟨b1, 0, none⟩) ∧ τ 5 = .pointer (some ⟨b2, 0, none⟩) ∧ τ 6 = .bool false ∧ τ 7 = .bool true ∧ τ 8 = .pointer (some ⟨b8, 0, none⟩) ∧ τ 9 = .pointer (some ⟨b10, 0, none⟩) ∧ τ 10 = .slice X11 es13.length c12 ∧ τ 11 = .int .i64 kk14 ∧ τ 12 = .int .i64 BB ∧ τ 13 = .int .i64 0 ∧ τ 14 = .bool false ∧ τ 37 = .bool false ∧ τ 41 = .bool false) ⟨up rfl (up rfl (up rfl (up rfl (up rfl (up rfl (up rfl (up rfl (up rfl (up rfl (up rfl (up rfl (up rfl hs0)))))))))))), up rfl (up rfl (up rfl (up rfl (up rfl (up rfl (up rfl (up rfl (up rfl (up rfl (up rfl (up rfl (up rfl hs1)))))))))))), up rfl (up rfl (up rfl (up rfl (up rfl (up rfl (up rfl (up rfl (up rfl (up rfl (up rfl (up rfl (up rfl hs2)))))))))))), up rfl (up rfl (up rfl (up rfl (up rfl (up rfl (up rfl (up rfl (up rfl (up rfl (up rfl (up rfl (up rfl hs3)))))))))))), up rfl (up rfl (up rfl (up rfl (up rfl (up rfl (up rfl (up rfl (up rfl (up rfl (up rfl (up rfl (up rfl hs5)))))))))))), up rfl (up rfl (up rfl (up rfl (up rfl (up rfl (up rfl (up rfl (up rfl (up rfl (up rfl (up rfl (up rfl hs6)))))))))))), up rfl (up rfl (up rfl (up rfl (up rfl (up rfl (up rfl (up rfl (up rfl (up rfl (up rfl (up rfl (up rfl hs7)))))))))))), up rfl (up rfl (up rfl (up rfl (up rfl (up rfl (up rfl (up rfl (up rfl (up rfl (up rfl (up rfl (up rfl hs8)))))))))))), up rfl (up rfl (up rfl (up rfl (up rfl (up rfl (up rfl (up rfl (up rfl (up rfl (up rfl (up rfl (up rfl hs9)))))))))))), up rfl (up rfl (up rfl (up rfl (up rfl (up rfl (up rfl (up rfl (up rfl (up rfl (up rfl (up rfl (up rfl hs10)))))))))))), up rfl (up rfl (up rfl (up rfl (up rfl (up rfl (up rfl (up rfl (up rfl (up rfl (up rfl (up rfl (up rfl hs11)))))))))))), up rfl (up rfl tp), up rfl tp, tp, up rfl (up rfl (up rfl (up rfl (up rfl (up rfl (up rfl (up rfl (up rfl (up rfl (up rfl (up rfl (up rfl hs37)))))))))))), up rfl (up rfl (up rfl (up rfl (up rfl (up rfl (up rfl (up rfl (up rfl (up rfl (up rfl (up rfl (up rfl hs41))))))))))))⟩ ?_
      rintro τ ⟨hs0, hs1, hs2, hs3, hs5, hs6, hs7, hs8, hs9, hs10, hs11, hs12, hs13, hs14, hs37, hs41⟩
      refine CW.seq ?_
      refine CW.seq ?_
      refine CW.region ?_
      refine RW.soft Wd.a (v := .bool false) (by exact E.move (AF_ev rfl hs14)) ?_
      refine RW.soft Wd.a (v := .bool true) (by exact E.not (b := false) (AF_ev rfl tp)) ?_
      refine RW.fin (fun τ => τ 0 = .agg #[.int .i64 i0, .int .i64 t0] ∧ τ 1 = .slice X l.length c ∧ τ 2 = .agg #[.int .i64 kd, .int .i64 ix, .int .i64 tm, .slice Z z.length d] ∧ τ 3 = .pointer (some ⟨b1, 0, none⟩) ∧ τ 5 = .pointer (some ⟨b2, 0, none⟩) ∧ τ 6 = .bool false ∧ τ 7 = .bool true ∧ τ 8 = .pointer (some ⟨b8, 0, none⟩) ∧ τ 9 = .pointer (some ⟨b10, 0, none⟩) ∧ τ 10 = .slice X11 es13.length c12 ∧ τ 11 = .int .i64 kk14 ∧ τ 12 = .int .i64 BB ∧ τ 13 = .int .i64 0 ∧ τ 14 = .bool false ∧ τ 37 = .bool false ∧ τ 41 = .bool false ∧ τ 59 = .bool true) ⟨up rfl (up rfl hs0), up rfl (up rfl hs1), up rfl (up rfl hs2), up rfl (up rfl hs3), up rfl (up rfl hs5), up rfl (up rfl hs6), up rfl (up rfl hs7), up rfl (up rfl hs8), up rfl (up rfl hs9), up rfl (up rfl hs10), up rfl (up rfl hs11), up rfl (up rfl hs12), up rfl (up rfl hs13), up rfl (up rfl hs14), up rfl (up rfl hs37), up rfl (up rfl hs41), tp⟩ ?_
      rintro τ ⟨hs0, hs1, hs2, hs3, hs5, hs6, hs7, hs8, hs9, hs10, hs11, hs12, hs13, hs14, hs37, hs41, hs59⟩
      refine CW.condT (AF_ev rfl hs59) ?_
      refine CW.seq ?_
      refine CW.region ?_
      refine RW.soft Wd.a (v := .int .i64 0) (by exact E.move (AF_ev rfl hs13)) ?_
      refine RW.soft Wd.a (v := .bool true) (by exact E.eql (k := .i64) (a := 0) (b := 0) (AF_ev rfl tp) rfl) ?_
      refine RW.soft Wd.a (v := .bool true) (by exact E.move (AF_ev rfl tp)) ?_
      refine RW.soft (by exact Wd.yes (x := 62) rfl (AF_ev rfl tp)) (v := .pointer (some ⟨b8, 0, none⟩)) (by exact E.move (AF_ev rfl (up rfl (up rfl (up rfl hs8))))) ?_
      have hst := hst.take (.there .here)
      refine RW.hard (by exact Wd.yes (x := 62) rfl (AF_ev rfl (up rfl tp))) ?_
      refine H.call0 Try.func30 nm30 rfl (map1 (AF_ev rfl tp)) (Calls.mono (ent_LastL (v := ia7 + ((es16.length : Nat) : Int)) rfl hst) ?_)
      rintro _ w ⟨rfl, hst⟩
      refine ⟨_, rfl, ?_⟩
      show RW _ _ _ _ _ _ _
      refine RW.soft (by exact Wd.yes (x := 62) rfl (AF_ev rfl (up rfl (up rfl tp)))) (v := .pointer (some ⟨b10, 0, none⟩)) (by exact E.move (AF_ev rfl (up rfl (up rfl (up rfl (up rfl (up rfl hs9))))))) ?_
      have hst := hst.take (.there .here)
      refine RW.hard (by exact Wd.yes (x := 62) rfl (AF_ev rfl (up rfl (up rfl (up rfl tp))))) ?_
      refine H.call0 Try.func30 nm30 rfl (map1 (AF_ev rfl tp)) (Calls.mono (ent_LastL (v := ia7 + ((es9.length : Nat) : Int)) rfl hst) ?_)
      rintro _ w ⟨rfl, hst⟩
      refine ⟨_, rfl, ?_⟩
      show RW _ _ _ _ _ _ _
      refine RW.soft (by exact Wd.yes (x := 62) rfl (AF_ev rfl (up rfl (up rfl (up rfl (up rfl tp)))))) (v := .bool true) (by exact E.b (a := (ia7 + ((es16.length : Nat) : Int)) == (ia7 + ((es9.length : Nat) : Int))) (E.eql (k := .i64) (a := ia7 + ((es16.length : Nat) : Int)) (b := ia7 + ((es9.length : Nat) : Int)) (AF_ev rfl (up rfl (up rfl tp))) (AF_ev rfl tp)) (by rw [beq_iff_eq]; omega)) ?_
      refine RW.soft Wd.a (v := .bool true) (by exact E.pickT (AF_ev rfl (up rfl (up rfl (up rfl (up rfl (up rfl tp)))))) (AF_ev rfl tp)) ?_
      refine RW.soft Wd.a (v := .bool true) (by exact E.move (AF_ev rfl tp)) ?_
      refine RW.soft (by exact Wd.yes (x := 69) rfl (AF_ev rfl tp)) (v := .int .i64 BB) (by exact E.move (AF_ev rfl (up rfl (up rfl (up rfl (up rfl (up rfl (up rfl (up rfl (up rfl (up rfl (up rfl hs12)))))))))))) ?_
      refine RW.soft (by exact Wd.yes (x := 69) rfl (AF_ev rfl (up rfl tp))) (v := .pointer (some ⟨b10, 0, none⟩)) (by exact E.move (AF_ev rfl (up rfl (up rfl (up rfl (up rfl (up rfl (up rfl (up rfl (up rfl (up rfl (up rfl (up rfl hs9))))))))))))) ?_
      refine RW.hard (by exact Wd.yes (x := 69) rfl (AF_ev rfl (up rfl (up rfl tp)))) ?_
      refine H.call0 Try.func30 nm30 rfl (map1 (AF_ev rfl tp)) (Calls.mono (ent_LastL (v := ia7 + ((es9.length : Nat) : Int)) rfl hst) ?_)
      rintro _ w ⟨rfl, hst⟩
      refine ⟨_, rfl, ?_⟩
      show RW _ _ _ _ _ _ _
      refine RW.soft (by exact Wd.yes (x := 69) rfl (AF_ev rfl (up rfl (up rfl (up rfl tp))))) (v := .bool true) (by exact E.b (a := decide (BB ≤ (ia7 + ((es9.length : Nat) : Int)))) (E.leq (k := .i64) (a := BB) (b := ia7 + ((es9.length : Nat) : Int)) (AF_ev rfl (up rfl (up rfl tp))) (AF_ev rfl tp)) (decide_eq_true (by omega))) ?_
      refine RW.soft Wd.a (v := .bool true) (by exact E.pickT (AF_ev rfl (up rfl (up rfl (up rfl (up rfl tp))))) (AF_ev rfl tp)) ?_
      refine RW.soft Wd.a (v := .bool true) (by exact E.move (AF_ev rfl tp)) ?_
      refine RW.soft (by exact Wd.yes (x := 75) rfl (AF_ev rfl tp)) (v := .int .i64 kk14) (by exact E.move (AF_ev rfl (up rfl (up rfl (up rfl (up rfl (up rfl (up rfl (up rfl (up rfl (up rfl (up rfl (up rfl (up rfl (up rfl (up rfl (up rfl (up rfl hs11)))))))))))))))))) ?_
      refine RW.soft (by exact Wd.yes (x := 75) rfl (AF_ev rfl (up rfl tp))) (v := .pointer (some ⟨b10, 0, none⟩)) (by exact E.move (AF_ev rfl (up rfl (up rfl (up rfl (up rfl (up rfl (up rfl (up rfl (up rfl (up rfl (up rfl (up rfl (up rfl (up rfl (up rfl (up rfl (up rfl (up rfl hs9))))))))))))))))))) ?_
      refine RW.hard (by exact Wd.yes (x := 75) rfl (AF_ev rfl (up rfl (up rfl tp)))) ?_
      refine H.call0 Try.func30 nm30 rfl (map1 (AF_ev rfl tp)) (Calls.mono (ent_LastL (v := ia7 + ((es9.length : Nat) : Int)) rfl hst) ?_)
      rintro _ w ⟨rfl, hst⟩
      refine ⟨_, rfl, ?_⟩
      show RW _ _ _ _ _ _ _
      refine RW.soft (by exact Wd.yes (x := 75) rfl (AF_ev rfl (up rfl (up rfl (up rfl tp))))) (v := .bool false) (by exact E.b (a := decide (kk14 > (ia7 + ((es9.length : Nat) : Int)))) (E.gtr (k := .i64) (a := kk14) (b := ia7 + ((es9.length : Nat) : Int)) (AF_ev rfl (up rfl (up rfl tp))) (AF_ev rfl tp)) (decide_eq_false (by omega))) ?_
      refine RW.soft (by exact Wd.yes (x := 75) rfl (AF_ev rfl (up rfl (up rfl (up rfl (up rfl tp)))))) (v := .bool false) (by exact E.move (AF_ev rfl tp)) ?_
      refine RW.soft (by exact Wd.yes (x := 80) rfl (AF_ev rfl tp)) (v := .int .i64 BB) (by exact E.move (AF_ev rfl (up rfl (up rfl (up rfl (up rfl (up rfl (up rfl (up rfl (up rfl (up rfl (up rfl (up rfl (up rfl (up rfl (up rfl (up rfl (up rfl (up rfl (up rfl (up rfl (up rfl (up rfl hs12))))))))))))))))))))))) ?_
      refine RW.soft (by exact Wd.yes (x := 80) rfl (AF_ev rfl (up rfl tp))) (v := .pointer (some ⟨b10, 0, none⟩)) (by exact E.move (AF_ev rfl (up rfl (up rfl (up rfl (up rfl (up rfl (up rfl (up rfl (up rfl (up rfl (up rfl (up rfl (up rfl (up rfl (up rfl (up rfl (up rfl (up rfl (up rfl (up rfl (up rfl (up rfl (up rfl hs9)))))))))))))))))))))))) ?_
      refine RW.hard (by exact Wd.yes (x := 80) rfl (AF_ev rfl (up rfl (up rfl tp)))) ?_
      refine H.call0 Try.func31 nm31 rfl (map1 (AF_ev rfl tp)) (Calls.mono (ent_FirstL hst) ?_)
      rintro _ w ⟨rfl, hst⟩
      refine ⟨_, rfl, ?_⟩
      show RW _ _ _ _ _ _ _
      refine RW.soft (by exact Wd.yes (x := 80) rfl (AF_ev rfl (up rfl (up rfl (up rfl tp))))) (v := .int .i64 (ia7 + 1 - 1)) (by exact E.sub (k := .i64) (a := ia7 + 1) (b := 1) (AF_ev rfl tp) rfl (show IntKind.i64.wrap ((ia7 + 1) - 1) = ia7 + 1 - 1 from (by rw [IntWalk.i64_in _ (by omega)] <;> omega))) ?_
      refine RW.soft (by exact Wd.yes (x := 80) rfl (AF_ev rfl (up rfl (up rfl (up rfl (up rfl tp)))))) (v := .bool true) (by exact E.b (a := decide (BB ≥ (ia7 + 1 - 1))) (E.geq (k := .i64) (a := BB) (b := ia7 + 1 - 1) (AF_ev rfl (up rfl (up rfl (up rfl tp)))) (AF_ev rfl tp)) (decide_eq_true (by omega))) ?_
      refine RW.soft (by exact Wd.yes (x := 75) rfl (AF_ev rfl (up rfl (up rfl (up rfl (up rfl (up rfl (up rfl (up rfl (up rfl (up rfl (up rfl tp)))))))))))) (v := .bool true) (by exact E.pickF (AF_ev rfl (up rfl (up rfl (up rfl (up rfl (up rfl tp)))))) (AF_ev rfl tp)) ?_
      refine RW.soft Wd.a (v := .bool true) (by exact E.pickT (AF_ev rfl (up rfl (up rfl (up rfl (up rfl (up rfl (up rfl (up rfl (up rfl (up rfl (up rfl (up rfl tp)))))))))))) (AF_ev rfl tp)) ?_
      refine RW.soft Wd.a (v := .bool true) (by exact E.assign (AF_ev rfl tp)) ?_
      refine RW.fin (fun τ => τ 0 = .agg #[.int .i64 i0, .int .i64 t0] ∧ τ 1 = .slice X l.length c ∧ τ 2 = .agg #[.int .i64 kd, .int .i64 ix, .int .i64 tm, .slice Z z.length d] ∧ τ 3 = .pointer (some ⟨b1, 0, none⟩) ∧ τ 5 = .pointer (some ⟨b2, 0, none⟩) ∧ τ 6 = .bool true ∧ τ 7 = .bool true ∧ τ 8 = .pointer (some ⟨b8, 0, none⟩) ∧ τ 9 = .pointer (some ⟨b10, 0, none⟩) ∧ τ 10 = .slice X11 es13.length c12 ∧ τ 11 = .int .i64 kk14 ∧ τ 12 = .int .i64 BB ∧ τ 13 = .int .i64 0 ∧ τ 14 = .bool false ∧ τ 37 = .bool false ∧ τ 41 = .bool false ∧ τ 59 = .bool true) ⟨up rfl (up rfl (up rfl (up rfl (up rfl (up rfl (up rfl (up rfl (up rfl (up rfl (up rfl (up rfl (up rfl (up rfl (up rfl (up rfl (up rfl (up rfl (up rfl (up rfl (up rfl (up rfl (up rfl (up rfl (up rfl (up rfl (up rfl (up rfl (up rfl hs0)))))))))))))))))))))))))))), up rfl (up rfl (up rfl (up rfl (up rfl (up rfl (up rfl (up rfl (up rfl (up rfl (up rfl (up rfl (up rfl (up rfl (up rfl (up rfl (up rfl (up rfl (up rfl (up rfl (up rfl (up rfl (up rfl (up rfl (up rfl (up rfl (up rfl (up rfl (up rfl hs1)))))))))))))))))))))))))))), up rfl (up rfl (up rfl (up rfl (up rfl (up rfl (up rfl (up rfl (up rfl (up rfl (up rfl (up rfl (up rfl (up rfl (up rfl (up rfl (up rfl (up rfl (up rfl (up rfl (up rfl (up rfl (up rfl (up rfl (up rfl (up rfl (up rfl (up rfl (up rfl hs2)))))))))))))))))))))))))))), up rfl (up rfl (up rfl (up rfl (up rfl (up rfl (up rfl (up rfl (up rfl (up rfl (up rfl (up rfl (up rfl (up rfl (up rfl (up rfl (up rfl (up rfl (up rfl (up rfl (up rfl (up rfl (up rfl (up rfl (up rfl (up rfl (up rfl (up rfl (up rfl hs3)))))))))))))))))))))))))))), up rfl (up rfl (up rfl (up rfl (up rfl (up rfl (up rfl (up rfl (up rfl (up rfl (up rfl (up rfl (up rfl (up rfl (up rfl (up rfl (up rfl (up rfl (up rfl (up rfl (up rfl (up rfl (up rfl (up rfl (up rfl (up rfl (up rfl (up rfl (up rfl hs5)))))))))))))))))))))))))))), tp, up rfl (up rfl (up rfl (up rfl (up rfl (up rfl (up rfl (up rfl (up rfl (up rfl (up rfl (up rfl (up rfl (up rfl (up rfl (up rfl (up rfl (up rfl (up rfl (up rfl (up rfl (up rfl (up rfl (up rfl (up rfl (up rfl (up rfl (up rfl (up rfl hs7)))))))))))))))))))))))))))), up rfl (up rfl (up rfl (up rfl (up rfl (up rfl (up rfl (up rfl (up rfl (up rfl (up rfl (up rfl (up rfl (up rfl (up rfl (up rfl (up rfl (up rfl (up rfl (up rfl (up rfl (up rfl (up rfl (up rfl (up rfl (up rfl (up rfl (up rfl (up rfl hs8)))))))))))))))))))))))))))), up rfl (up rfl (up rfl (up rfl (up rfl (up rfl (up rfl (up rfl (up rfl (up rfl (up rfl (up rfl (up rfl (up rfl (up rfl (up rfl (up rfl (up rfl (up rfl (up rfl (up rfl (up rfl (up rfl (up rfl (up rfl (up rfl (up rfl (up rfl (up rfl hs9)))))))))))))))))))))))))))), up rfl (up rfl (up rfl (up rfl (up rfl (up rfl (up rfl (up rfl (up rfl (up rfl (up rfl (up rfl (up rfl (up rfl (up rfl (up rfl (up rfl (up rfl (up rfl (up rfl (up rfl (up rfl (up rfl (up rfl (up rfl (up rfl (up rfl (up rfl (up rfl hs10)))))))))))))))))))))))))))), up rfl (up rfl (up rfl (up rfl (up rfl (up rfl (up rfl (up rfl (up rfl (up rfl (up rfl (up rfl (up rfl (up rfl (up rfl (up rfl (up rfl (up rfl (up rfl (up rfl (up rfl (up rfl (up rfl (up rfl (up rfl (up rfl (up rfl (up rfl (up rfl hs11)))))))))))))))))))))))))))), up rfl (up rfl (up rfl (up rfl (up rfl (up rfl (up rfl (up rfl (up rfl (up rfl (up rfl (up rfl (up rfl (up rfl (up rfl (up rfl (up rfl (up rfl (up rfl (up rfl (up rfl (up rfl (up rfl (up rfl (up rfl (up rfl (up rfl (up rfl (up rfl hs12)))))))))))))))))))))))))))), up rfl (up rfl (up rfl (up rfl (up rfl (up rfl (up rfl (up rfl (up rfl (up rfl (up rfl (up rfl (up rfl (up rfl (up rfl (up rfl (up rfl (up rfl (up rfl (up rfl (up rfl (up rfl (up rfl (up rfl (up rfl (up rfl (up rfl (up rfl (up rfl hs13)))))))))))))))))))))))))))), up rfl (up rfl (up rfl (up rfl (up rfl (up rfl (up rfl (up rfl (up rfl (up rfl (up rfl (up rfl (up rfl (up rfl (up rfl (up rfl (up rfl (up rfl (up rfl (up rfl (up rfl (up rfl (up rfl (up rfl (up rfl (up rfl (up rfl (up rfl (up rfl hs14)))))))))))))))))))))))))))), up rfl (up rfl (up rfl (up rfl (up rfl (up rfl (up rfl (up rfl (up rfl (up rfl (up rfl (up rfl (up rfl (up rfl (up rfl (up rfl (up rfl (up rfl (up rfl (up rfl (up rfl (up rfl (up rfl (up rfl (up rfl (up rfl (up rfl (up rfl (up rfl hs37)))))))))))))))))))))))))))), up rfl (up rfl (up rfl (up rfl (up rfl (up rfl (up rfl (up rfl (up rfl (up rfl (up rfl (up rfl (up rfl (up rfl (up rfl (up rfl (up rfl (up rfl (up rfl (up rfl (up rfl (up rfl (up rfl (up rfl (up rfl (up rfl (up rfl (up rfl (up rfl hs41)))))))))))))))))))))))))))), up rfl (up rfl (up rfl (up rfl (up rfl (up rfl (up rfl (up rfl (up rfl (up rfl (up rfl (up rfl (up rfl (up rfl (up rfl (up rfl (up rfl (up rfl (up rfl (up rfl (up rfl (up rfl (up rfl (up rfl (up rfl (up rfl (up rfl (up rfl (up rfl hs59))))))))))))))))))))))))))))⟩ ?_
      rintro τ ⟨hs0, hs1, hs2, hs3, hs5, hs6, hs7, hs8, hs9, hs10, hs11, hs12, hs13, hs14, hs37, hs41, hs59⟩
      refine CW.ret ?_
      refine Th.r ?_
      refine ret1 (v := .bool true) rfl (by exact (.tmp (AF_ev rfl hs6) .nil)) ?_
      have hst := hst.drop
      have hst := hst.drop
      have hst := hst.drop
      have hst := hst.drop
      have hst := hst.drop
      have hst := hst.drop
      have hst := hst.drop
      have hst := hst.drop
      exact ⟨p, hp0, rfl, hst⟩
    · skip
      refine Or.elim (Bool.eq_false_or_eq_true (decide (findJ ia7 t0 (ts es9) kk14 (ts es13) 0 < 0))) (fun hfj => ?_) (fun hfj => ?_)
      · skip
        have hfar_ := of_decide_eq_false hfar
        have hcl_ := ne_true_of_eq_false hcl
        have hfj_ := of_decide_eq_true hfj
        refine CW.region ?_
        refine RW.soft Wd.a (v := .pointer (some ⟨b8, 0, none⟩)) (by exact E.move (AF_ev rfl hs8)) ?_
        refine RW.soft Wd.a (v := .int .i64 kk14) (by exact E.move (AF_ev rfl (up rfl hs11))) ?_
        refine RW.soft Wd.a (v := .pointer (some ⟨b2, 2, none⟩)) (by exact E.fieldAddr (b := b2) (o := 0) (f := { name := "Term", type := 3, offset := 2, embedded := false, tag := "", pkgPath := "", byteOffset := 16 }) (AF_ev rfl (up rfl (up rfl hs5))) Try.underlying46 rfl sz3 rfl) ?_
        refine RW.soft Wd.a (v := .int .i64 tm) (by exact E.load (a := ⟨b2, 2, none⟩) Try.underlying3 rfl (AF_ev rfl tp) (hst.cell (.there (.there (.there (.there (.there (.there .here)))))) rfl)) ?_
        refine RW.soft Wd.a (v := .slice X11 es13.length c12) (by exact E.move (AF_ev rfl (up rfl (up rfl (up rfl (up rfl hs10)))))) ?_
        have hst := hst.take (.there (.there .here))
        have hst := hst.take (.there .here)
        refine RW.hard Wd.a ?_
        refine H.call0 Try.func29 nm29 rfl (map4 (AF_ev rfl (up rfl (up rfl (up rfl (up rfl tp))))) (AF_ev rfl (up rfl (up rfl (up rfl tp)))) (AF_ev rfl (up rfl tp)) (AF_ev rfl tp)) (Calls.mono (ent_Join_none kk14 tm (by omega) (by omega) Own.tells hokes13 hfar_ hcl_ hfj_ hst) ?_)
        rintro _ w ⟨p, es17, hle, rfl, hvj, hle2, hst⟩
        have hp0 := hp0.le hle
        have hL := hL.le hle
        have hEL := hEL.le hle
        have hL2 := hL2.le hle
        have hEL2 := hEL2.le hle
        have hokes6 := hokes6.le hle
        have hokes13 := hokes13.le hle
        have hst := logLe hle (hst.take (.there (.there .here)))
        refine ⟨_, rfl, ?_⟩
        show RW _ _ _ _ _ _ _
        refine RW.soft Wd.a (v := .tuple #[.int .i64 (kk14 + ((es13.length : Nat) : Int)), .int .i64 0, .bool true]) (by exact E.move (AF_ev rfl tp)) ?_
        refine RW.soft Wd.a (v := .int .i64 (kk14 + ((es13.length : Nat) : Int))) (by exact E.extract (vs := #[.int .i64 (kk14 + ((es13.length : Nat) : Int)), .int .i64 0, .bool true]) (AF_ev rfl tp) rfl) ?_
        refine RW.soft Wd.a (v := .int .i64 0) (by exact E.extract (vs := #[.int .i64 (kk14 + ((es13.length : Nat) : Int)), .int .i64 0, .bool true]) (AF_ev rfl (up rfl tp)) rfl) ?_
        refine RW.soft Wd.a (v := .bool true) (by exact E.extract (vs := #[.int .i64 (kk14 + ((es13.length : Nat) : Int)), .int .i64 0, .bool true]) (AF_ev rfl (up rfl (up rfl tp))) rfl) ?_
        refine RW.soft Wd.a (v := .int .i64 (kk14 + ((es13.length : Nat) : Int))) (by exact E.assign (AF_ev rfl (up rfl (up rfl tp)))) ?_
        refine RW.soft Wd.a (v := .int .i64 0) (by exact E.assign (AF_ev rfl (up rfl (up rfl tp)))) ?_
        refine RW.soft Wd.a (v := .bool true) (by exact E.assign (AF_ev rfl (up rfl (up rfl tp)))) ?_
        refine RW.fin (fun τ => τ 0 = .agg #[.int .i64 i0, .int .i64 t0] ∧ τ 1 = .slice X l.length c ∧ τ 2 = .agg #[.int .i64 kd, .int .i64 ix, .int .i64 tm, .slice Z z.length d] ∧ τ 3 = .pointer (some ⟨b1, 0, none⟩) ∧ τ 5 = .pointer (some ⟨b2, 0, none⟩) ∧ τ 6 = .bool false ∧ τ 7 = .bool true ∧ τ 8 = .pointer (some ⟨b8, 0, none⟩) ∧ τ 9 = .pointer (some ⟨b10, 0, none⟩) ∧ τ 10 = .slice X11 es13.length c12 ∧ τ 11 = .int .i64 kk14 ∧ τ 12 = .int .i64 (kk14 + ((es13.length : Nat) : Int)) ∧ τ 13 = .int .i64 0 ∧ τ 14 = .bool true ∧ τ 37 = .bool false ∧ τ 41 = .bool false) ⟨up rfl (up rfl (up rfl (up rfl (up rfl (up rfl (up rfl (up rfl (up rfl (up rfl (up rfl (up rfl (up rfl hs0)))))))))))), up rfl (up rfl (up rfl (up rfl (up rfl (up rfl (up rfl (up rfl (up rfl (up rfl (up rfl (up rfl (up rfl hs1)))))))))))), up rfl (up rfl (up rfl (up rfl (up rfl (up rfl (up rfl (up rfl (up rfl (up rfl (up rfl (up rfl (up rfl hs2)))))))))))), up rfl (up rfl (up rfl (up rfl (up rfl (up rfl (up rfl (up rfl (up rfl (up rfl (up rfl (up rfl (up rfl hs3)))))))))))), up rfl (up rfl (up rfl (up rfl (up rfl (up rfl (up rfl (up rfl (up rfl (up rfl (up rfl (up rfl (up rfl hs5)))))))))))), up rfl (up rfl (up rfl (up rfl (up rfl (up rfl (up rfl (up rfl (up rfl (up rfl (up rfl (up rfl (up rfl hs6)))))))))))), up rfl (up rfl (up rfl (up rfl (up rfl (up rfl (up rfl (up rfl (up rfl (up rfl (up rfl (up rfl (up rfl hs7)))))))))))), up rfl (up rfl (up rfl (up rfl (up rfl (up rfl (up rfl (up rfl (up rfl (up rfl (up rfl (up rfl (up rfl hs8)))))))))))), up rfl (up rfl (up rfl (up rfl (up rfl (up rfl (up rfl (up rfl (up rfl (up rfl (up rfl (up rfl (up rfl hs9)))))))))))), up rfl (up rfl (up rfl (up rfl (up rfl (up rfl (up rfl (up rfl (up rfl (up rfl (up rfl (up rfl (up rfl hs10)))))))))))), up rfl (up rfl (up rfl (up rfl (up rfl (up rfl (up rfl (up rfl (up rfl (up rfl (up rfl (up rfl (up rfl hs11)))))))))))), up rfl (up rfl tp), up rfl tp, tp, up rfl (up rfl (up rfl (up rfl (up rfl (up rfl (up rfl (up rfl (up rfl (up rfl (up rfl (up rfl (up rfl hs37)))))))))))), up rfl (up rfl (up rfl (up rfl (up rfl (up rfl (up rfl (up rfl (up rfl (up rfl (up rfl (up rfl (up rfl hs41))))))))))))⟩ ?_
        rintro τ ⟨hs0, hs1, hs2, hs3, hs5, hs6, hs7, hs8, hs9, hs10, hs11, hs12, hs13, hs14, hs37, hs41⟩
        refine CW.seq ?_
        refine CW.seq ?_
        refine CW.region ?_
        refine RW.soft Wd.a (v := .bool true) (by exact E.move (AF_ev rfl hs14)) ?_
        refine RW.soft Wd.a (v := .bool false) (by exact E.not (b := true) (AF_ev rfl tp)) ?_
        refine RW.fin (fun τ => τ 0 = .agg #[.int .i64 i0, .int .i64 t0] ∧ τ 1 = .slice X l.length c ∧ τ 2 = .agg #[.int .i64 kd, .int .i64 ix, .int .i64 tm, .slice Z z.length d] ∧ τ 3 = .pointer (some ⟨b1, 0, none⟩) ∧ τ 5 = .pointer (some ⟨b2, 0, none⟩) ∧ τ 6 = .bool false ∧ τ 7 = .bool true ∧ τ 8 = .pointer (some ⟨b8, 0, none⟩) ∧ τ 9 = .pointer (some ⟨b10, 0, none⟩) ∧ τ 10 = .slice X11 es13.length c12 ∧ τ 11 = .int .i64 kk14 ∧ τ 12 = .int .i64 (kk14 + ((es13.length : Nat) : Int)) ∧ τ 13 = .int .i64 0 ∧ τ 14 = .bool true ∧ τ 37 = .bool false ∧ τ 41 = .bool false ∧ τ 59 = .bool false) ⟨up rfl (up rfl hs0), up rfl (up rfl hs1), up rfl (up rfl hs2), up rfl (up rfl hs3), up rfl (up rfl hs5), up rfl (up rfl hs6), up rfl (up rfl hs7), up rfl (up rfl hs8), up rfl (up rfl hs9), up rfl (up rfl hs10), up rfl (up rfl hs11), up rfl (up rfl hs12), up rfl (up rfl hs13), up rfl (up rfl hs14), up rfl (up rfl hs37), up rfl (up rfl hs41), tp⟩ ?_
        rintro τ ⟨hs0, hs1, hs2, hs3, hs5, hs6, hs7, hs8, hs9, hs10, hs11, hs12, hs13, hs14, hs37, hs41, hs59⟩
        refine CW.condF (AF_ev rfl hs59) ?_
        refine CW.skip ?_
        refine Th.n ?_
        refine CW.seq ?_
        refine CW.seq ?_
        refine CW.region ?_
        refine RW.soft Wd.a (v := .int .i64 (kk14 + ((es13.length : Nat) : Int))) (by exact E.move (AF_ev rfl hs12)) ?_
        refine RW.soft Wd.a (v := .int .i64 kk14) (by exact E.move (AF_ev rfl (up rfl hs11))) ?_
        refine RW.soft Wd.a (v := .slice X11 es13.length c12) (by exact E.move (AF_ev rfl (up rfl (up rfl hs10)))) ?_
        refine RW.soft Wd.a (v := .int .i64 ((es13.length : Nat) : Int)) (by exact E.lenS (p := X11) (l := es13.length) (c := c12) Try.underlying44 (AF_ev rfl tp)) ?_
        refine RW.soft Wd.a (v := .int .i64 (kk14 + ((es13.length : Nat) : Int))) (by exact E.add (k := .i64) (a := kk14) (b := ((es13.length : Nat) : Int)) (AF_ev rfl (up rfl (up rfl tp))) (AF_ev rfl tp) (show IntKind.i64.wrap (kk14 + ((es13.length : Nat) : Int)) = kk14 + ((es13.length : Nat) : Int) from (by rw [IntWalk.i64_in _ (by omega)]))) ?_
        refine RW.soft Wd.a (v := .bool false) (by exact E.b (a := (kk14 + ((es13.length : Nat) : Int)) != (kk14 + ((es13.length : Nat) : Int))) (E.neq (k := .i64) (a := kk14 + ((es13.length : Nat) : Int)) (b := kk14 + ((es13.length : Nat) : Int)) (AF_ev rfl (up rfl (up rfl (up rfl (up rfl tp))))) (AF_ev rfl tp)) (by simp)) ?_
        refine RW.soft Wd.a (v := .bool false) (by exact E.move (AF_ev rfl tp)) ?_
        refine RW.soft (by exact Wd.yes (x := 94) rfl (AF_ev rfl tp)) (v := .int .i64 0) (by exact E.move (AF_ev rfl (up rfl (up rfl (up rfl (up rfl (up rfl (up rfl (up rfl hs13))))))))) ?_
        refine RW.soft (by exact Wd.yes (x := 94) rfl (AF_ev rfl (up rfl tp))) (v := .bool false) (by exact E.neq (k := .i64) (a := 0) (b := 0) (AF_ev rfl tp) rfl) ?_
        refine RW.soft (by exact Wd.yes (x := 94) rfl (AF_ev rfl (up rfl (up rfl tp)))) (v := .bool false) (by exact E.move (AF_ev rfl tp)) ?_
        refine RW.pass (by exact Wd.no (x := 97) (b := false) rfl (AF_ev rfl tp) rfl) ?_
        refine RW.pass (by exact Wd.no (x := 97) (b := false) rfl (AF_ev rfl (up rfl tp)) rfl) ?_
        refine RW.pass (by exact Wd.no (x := 97) (b := false) rfl (AF_ev rfl (up rfl (up rfl tp))) rfl) ?_
        refine RW.pass (by exact Wd.no (x := 97) (b := false) rfl (AF_ev rfl (up rfl (up rfl (up rfl tp)))) rfl) ?_
        refine RW.pass (by exact Wd.u (x := 101) rfl (AF_ev rfl tp)) ?_
        refine RW.pass (by exact Wd.u (x := 101) rfl (AF_ev rfl (up rfl tp))) ?_
        refine RW.pass (by exact Wd.u (x := 101) rfl (AF_ev rfl (up rfl (up rfl tp)))) ?_
        refine RW.pass (by exact Wd.no (x := 97) (b := false) rfl (AF_ev rfl (up rfl (up rfl (up rfl (up rfl (up rfl (up rfl (up rfl tp)))))))) rfl) ?_
        refine RW.pass (by exact Wd.no (x := 97) (b := false) rfl (AF_ev rfl (up rfl (up rfl (up rfl (up rfl (up rfl (up rfl (up rfl (up rfl tp))))))))) rfl) ?_
        refine RW.pass (by exact Wd.u (x := 106) rfl (AF_ev rfl tp)) ?_
        refine RW.pass (by exact Wd.u (x := 106) rfl (AF_ev rfl (up rfl tp))) ?_
        refine RW.pass (by exact Wd.u (x := 106) rfl (AF_ev rfl (up rfl (up rfl tp)))) ?_
        refine RW.pass (by exact Wd.u (x := 106) rfl (AF_ev rfl (up rfl (up rfl (up rfl tp))))) ?_
        refine RW.pass (by exact Wd.no (x := 97) (b := false) rfl (AF_ev rfl (up rfl (up rfl (up rfl (up rfl (up rfl (up rfl (up rfl (up rfl (up rfl (up rfl (up rfl (up rfl (up rfl tp)))))))))))))) rfl) ?_
        refine RW.soft (by exact Wd.yes (x := 94) rfl (AF_ev rfl (up rfl (up rfl (up rfl (up rfl (up rfl (up rfl (up rfl (up rfl (up rfl (up rfl (up rfl (up rfl (up rfl (up rfl (up rfl (up rfl (up rfl tp))))))))))))))))))) (v := .bool false) (by exact E.pickF (AF_ev rfl (up rfl (up rfl (up rfl (up rfl (up rfl (up rfl (up rfl (up rfl (up rfl (up rfl (up rfl (up rfl (up rfl (up rfl tp))))))))))))))) rfl) ?_
        refine RW.soft Wd.a (v := .bool false) (by exact E.pickF (AF_ev rfl (up rfl (up rfl (up rfl (up rfl (up rfl (up rfl (up rfl (up rfl (up rfl (up rfl (up rfl (up rfl (up rfl (up rfl (up rfl (up rfl (up rfl (up rfl tp))))))))))))))))))) (AF_ev rfl tp)) ?_
        refine RW.soft Wd.a (v := .bool false) (by exact E.move (AF_ev rfl tp)) ?_
        refine RW.soft (by exact Wd.yes (x := 114) rfl (AF_ev rfl tp)) (v := .int .i64 0) (by exact E.move (AF_ev rfl (up rfl (up rfl (up rfl (up rfl (up rfl (up rfl (up rfl (up rfl (up rfl (up rfl (up rfl (up rfl (up rfl (up rfl (up rfl (up rfl (up rfl (up rfl (up rfl (up rfl (up rfl (up rfl (up rfl (up rfl (up rfl (up rfl (up rfl hs13))))))))))))))))))))))))))))) ?_
        refine RW.soft (by exact Wd.yes (x := 114) rfl (AF_ev rfl (up rfl tp))) (v := .bool true) (by exact E.eql (k := .i64) (a := 0) (b := 0) (AF_ev rfl tp) rfl) ?_
        refine RW.soft (by exact Wd.yes (x := 114) rfl (AF_ev rfl (up rfl (up rfl tp)))) (v := .bool true) (by exact E.move (AF_ev rfl tp)) ?_
        refine RW.soft (by exact Wd.yes (x := 117) rfl (AF_ev rfl tp)) (v := .pointer (some ⟨b8, 0, none⟩)) (by exact E.move (AF_ev rfl (up rfl (up rfl (up rfl (up rfl (up rfl (up rfl (up rfl (up rfl (up rfl (up rfl (up rfl (up rfl (up rfl (up rfl (up rfl (up rfl (up rfl (up rfl (up rfl (up rfl (up rfl (up rfl (up rfl (up rfl (up rfl (up rfl (up rfl (up rfl (up rfl (up rfl hs8)))))))))))))))))))))))))))))))) ?_
        have hst := hst.take (.there .here)
        refine RW.hard (by exact Wd.yes (x := 117) rfl (AF_ev rfl (up rfl tp))) ?_
        refine H.call0 Try.func30 nm30 rfl (map1 (AF_ev rfl tp)) (Calls.mono (ent_LastL (v := ia7 + ((es17.length : Nat) : Int)) rfl hst) ?_)
        rintro _ w ⟨rfl, hst⟩
        refine ⟨_, rfl, ?_⟩
        show RW _ _ _ _ _ _ _
        refine RW.soft (by exact Wd.yes (x := 117) rfl (AF_ev rfl (up rfl (up rfl tp)))) (v := .pointer (some ⟨b10, 0, none⟩)) (by exact E.move (AF_ev rfl (up rfl (up rfl (up rfl (up rfl (up rfl (up rfl (up rfl (up rfl (up rfl (up rfl (up rfl (up rfl (up rfl (up rfl (up rfl (up rfl (up rfl (up rfl (up rfl (up rfl (up rfl (up rfl (up rfl (up rfl (up rfl (up rfl (up rfl (up rfl (up rfl (up rfl (up rfl (up rfl hs9)))))))))))))))))))))))))))))))))) ?_
        have hst := hst.take (.there .here)
        refine RW.hard (by exact Wd.yes (x := 117) rfl (AF_ev rfl (up rfl (up rfl (up rfl tp))))) ?_
        refine H.call0 Try.func30 nm30 rfl (map1 (AF_ev rfl tp)) (Calls.mono (ent_LastL (v := ia7 + ((es9.length : Nat) : Int)) rfl hst) ?_)
        rintro _ w ⟨rfl, hst⟩
        refine ⟨_, rfl, ?_⟩
        show RW _ _ _ _ _ _ _
        refine RW.soft (by exact Wd.yes (x := 117) rfl (AF_ev rfl (up rfl (up rfl (up rfl (up rfl tp)))))) (v := .bool false) (by exact E.b (a := (ia7 + ((es17.length : Nat) : Int)) != (ia7 + ((es9.length : Nat) : Int))) (E.neq (k := .i64) (a := ia7 + ((es17.length : Nat) : Int)) (b := ia7 + ((es9.length : Nat) : Int)) (AF_ev rfl (up rfl (up rfl tp))) (AF_ev rfl tp)) (by rw [bne_eq_false_iff_eq]; omega)) ?_
        refine RW.soft (by exact Wd.yes (x := 114) rfl (AF_ev rfl (up rfl (up rfl (up rfl (up rfl (up rfl (up rfl (up rfl (up rfl tp)))))))))) (v := .bool false) (by exact E.pickT (AF_ev rfl (up rfl (up rfl (up rfl (up rfl (up rfl tp)))))) (AF_ev rfl tp)) ?_
        refine RW.soft Wd.a (v := .bool false) (by exact E.pickF (AF_ev rfl (up rfl (up rfl (up rfl (up rfl (up rfl (up rfl (up rfl (up rfl (up rfl tp)))))))))) (AF_ev rfl tp)) ?_
        refine RW.fin (fun τ => τ 0 = .agg #[.int .i64 i0, .int .i64 t0] ∧ τ 1 = .slice X l.length c ∧ τ 2 = .agg #[.int .i64 kd, .int .i64 ix, .int .i64 tm, .slice Z z.length d] ∧ τ 3 = .pointer (some ⟨b1, 0, none⟩) ∧ τ 5 = .pointer (some ⟨b2, 0, none⟩) ∧ τ 6 = .bool false ∧ τ 7 = .bool true ∧ τ 8 = .pointer (some ⟨b8, 0, none⟩) ∧ τ 9 = .pointer (some ⟨b10, 0, none⟩) ∧ τ 10 = .slice X11 es13.length c12 ∧ τ 11 = .int .i64 kk14 ∧ τ 12 = .int .i64 (kk14 + ((es13.length : Nat) : Int)) ∧ τ 13 = .int .i64 0 ∧ τ 14 = .bool true ∧ τ 37 = .bool false ∧ τ 41 = .bool false ∧ τ 59 = .bool false ∧ τ 124 = .bool false) ⟨up rfl (up rfl (up rfl (up rfl (up rfl (up rfl (up rfl (up rfl (up rfl (up rfl (up rfl (up rfl (up rfl (up rfl (up rfl (up rfl (up rfl (up rfl (up rfl (up rfl (up rfl (up rfl (up rfl (up rfl (up rfl (up rfl (up rfl (up rfl (up rfl (up rfl (up rfl (up rfl (up rfl (up rfl (up rfl (up rfl (up rfl hs0)))))))))))))))))))))))))))))))))))), up rfl (up rfl (up rfl (up rfl (up rfl (up rfl (up rfl (up rfl (up rfl (up rfl (up rfl (up rfl (up rfl (up rfl (up rfl (up rfl (up rfl (up rfl (up rfl (up rfl (up rfl (up rfl (up rfl (up rfl (up rfl (up rfl (up rfl (up rfl (up rfl (up rfl (up rfl (up rfl (up rfl (up rfl (up rfl (up rfl (up rfl hs1)))))))))))))))))))))))))))))))))))), up rfl (up rfl (up rfl (up rfl (up rfl (up rfl (up rfl (up rfl (up rfl (up rfl (up rfl (up rfl (up rfl (up rfl (up rfl (up rfl (up rfl (up rfl (up rfl (up rfl (up rfl (up rfl (up rfl (up rfl (up rfl (up rfl (up rfl (up rfl (up rfl (up rfl (up rfl (up rfl (up rfl (up rfl (up rfl (up rfl (up rfl hs2)))))))))))))))))))))))))))))))))))), up rfl (up rfl (up rfl (up rfl (up rfl (up rfl (up rfl (up rfl (up rfl (up rfl (up rfl (up rfl (up rfl (up rfl (up rfl (up rfl (up rfl (up rfl (up rfl (up rfl (up rfl (up rfl (up rfl (up rfl (up rfl (up rfl (up rfl (up rfl (up rfl (up rfl (up rfl (up rfl (up rfl (up rfl (up rfl (up rfl (up rfl hs3)))))))))))))))))))))))))))))))))))), up rfl (up rfl (up rfl (up rfl (up rfl (up rfl (up rfl (up rfl (up rfl (up rfl (up rfl (up rfl (up rfl (up rfl (up rfl (up rfl (up rfl (up rfl (up rfl (up rfl (up rfl (up rfl (up rfl (up rfl (up rfl (up rfl (up rfl (up rfl (up rfl (up rfl (up rfl (up rfl (up rfl (up rfl (up rfl (up rfl (up rfl hs5)))))))))))))))))))))))))))))))))))), up rfl (up rfl (up rfl (up rfl (up rfl (up rfl (up rfl (up rfl (up rfl (up rfl (up rfl (up rfl (up rfl (up rfl (up rfl (up rfl (up rfl (up rfl (up rfl (up rfl (up rfl (up rfl (up rfl (up rfl (up rfl (up rfl (up rfl (up rfl (up rfl (up rfl (up rfl (up rfl (up rfl (up rfl (up rfl (up rfl (up rfl hs6)))))))))))))))))))))))))))))))))))), up rfl (up rfl (up rfl (up rfl (up rfl (up rfl (up rfl (up rfl (up rfl (up rfl (up rfl (up rfl (up rfl (up rfl (up rfl (up rfl (up rfl (up rfl (up rfl (up rfl (up rfl (up rfl (up rfl (up rfl (up rfl (up rfl (up rfl (up rfl (up rfl (up rfl (up rfl (up rfl (up rfl (up rfl (up rfl (up rfl (up rfl hs7)))))))))))))))))))))))))))))))))))), up rfl (up rfl (up rfl (up rfl (up rfl (up rfl (up rfl (up rfl (up rfl (up rfl (up rfl (up rfl (up rfl (up rfl (up rfl (up rfl (up rfl (up rfl (up rfl (up rfl (up rfl (up rfl (up rfl (up rfl (up rfl (up rfl (up rfl (up rfl (up rfl (up rfl (up rfl (up rfl (up rfl (up rfl (up rfl (up rfl (up rfl hs8)))))))))))))))))))))))))))))))))))), up rfl (up rfl (up rfl (up rfl (up rfl (up rfl (up rfl (up rfl (up rfl (up rfl (up rfl (up rfl (up rfl (up rfl (up rfl (up rfl (up rfl (up rfl (up rfl (up rfl (up rfl (up rfl (up rfl (up rfl (up rfl (up rfl (up rfl (up rfl (up rfl (up rfl (up rfl (up rfl (up rfl (up rfl (up rfl (up rfl (up rfl hs9)))))))))))))))))))))))))))))))))))), up rfl (up rfl (up rfl (up rfl (up rfl (up rfl (up rfl (up rfl (up rfl (up rfl (up rfl (up rfl (up rfl (up rfl (up rfl (up rfl (up rfl (up rfl (up rfl (up rfl (up rfl (up rfl (up rfl (up rfl (up rfl (up rfl (up rfl (up rfl (up rfl (up rfl (up rfl (up rfl (up rfl (up rfl (up rfl (up rfl (up rfl hs10)))))))))))))))))))))))))))))))))))), up rfl (up rfl (up rfl (up rfl (up rfl (up rfl (up rfl (up rfl (up rfl (up rfl (up rfl (up rfl (up rfl (up rfl (up rfl (up rfl (up rfl (up rfl (up rfl (up rfl (up rfl (up rfl (up rfl (up rfl (up rfl (up rfl (up rfl (up rfl (up rfl (up rfl (up rfl (up rfl (up rfl (up rfl (up rfl (up rfl (up rfl hs11)))))))))))))))))))))))))))))))))))), up rfl (up rfl (up rfl (up rfl (up rfl (up rfl (up rfl (up rfl (up rfl (up rfl (up rfl (up rfl (up rfl (up rfl (up rfl (up rfl (up rfl (up rfl (up rfl (up rfl (up rfl (up rfl (up rfl (up rfl (up rfl (up rfl (up rfl (up rfl (up rfl (up rfl (up rfl (up rfl (up rfl (up rfl (up rfl (up rfl (up rfl hs12)))))))))))))))))))))))))))))))))))), up rfl (up rfl (up rfl (up rfl (up rfl (up rfl (up rfl (up rfl (up rfl (up rfl (up rfl (up rfl (up rfl (up rfl (up rfl (up rfl (up rfl (up rfl (up rfl (up rfl (up rfl (up rfl (up rfl (up rfl (up rfl (up rfl (up rfl (up rfl (up rfl (up rfl (up rfl (up rfl (up rfl (up rfl (up rfl (up rfl (up rfl hs13)))))))))))))))))))))))))))))))))))), up rfl (up rfl (up rfl (up rfl (up rfl (up rfl (up rfl (up rfl (up rfl (up rfl (up rfl (up rfl (up rfl (up rfl (up rfl (up rfl (up rfl (up rfl (up rfl (up rfl (up rfl (up rfl (up rfl (up rfl (up rfl (up rfl (up rfl (up rfl (up rfl (up rfl (up rfl (up rfl (up rfl (up rfl (up rfl (up rfl (up rfl hs14)))))))))))))))))))))))))))))))))))), up rfl (up rfl (up rfl (up rfl (up rfl (up rfl (up rfl (up rfl (up rfl (up rfl (up rfl (up rfl (up rfl (up rfl (up rfl (up rfl (up rfl (up rfl (up rfl (up rfl (up rfl (up rfl (up rfl (up rfl (up rfl (up rfl (up rfl (up rfl (up rfl (up rfl (up rfl (up rfl (up rfl (up rfl (up rfl (up rfl (up rfl hs37)))))))))))))))))))))))))))))))))))), up rfl (up rfl (up rfl (up rfl (up rfl (up rfl (up rfl (up rfl (up rfl (up rfl (up rfl (up rfl (up rfl (up rfl (up rfl (up rfl (up rfl (up rfl (up rfl (up rfl (up rfl (up rfl (up rfl (up rfl (up rfl (up rfl (up rfl (up rfl (up rfl (up rfl (up rfl (up rfl (up rfl (up rfl (up rfl (up rfl (up rfl hs41)))))))))))))))))))))))))))))))))))), up rfl (up rfl (up rfl (up rfl (up rfl (up rfl (up rfl (up rfl (up rfl (up rfl (up rfl (up rfl (up rfl (up rfl (up rfl (up rfl (up rfl (up rfl (up rfl (up rfl (up rfl (up rfl (up rfl (up rfl (up rfl (up rfl (up rfl (up rfl (up rfl (up rfl (up rfl (up rfl (up rfl (up rfl (up rfl (up rfl (up rfl hs59)))))))))))))))))))))))))))))))))))), tp⟩ ?_
        rintro τ ⟨hs0, hs1, hs2, hs3, hs5, hs6, hs7, hs8, hs9, hs10, hs11, hs12, hs13, hs14, hs37, hs41, hs59, hs124⟩
        refine CW.condF (AF_ev rfl hs124) ?_
        refine CW.skip ?_
        refine Th.n ?_
        refine CW.seq ?_
        refine CW.seq ?_
        refine CW.region ?_
        refine RW.soft Wd.a (v := .int .i64 0) (by exact E.assign rfl) ?_
        refine RW.fin (fun τ => τ 0 = .agg #[.int .i64 i0, .int .i64 t0] ∧ τ 1 = .slice X l.length c ∧ τ 2 = .agg #[.int .i64 kd, .int .i64 ix, .int .i64 tm, .slice Z z.length d] ∧ τ 3 = .pointer (some ⟨b1, 0, none⟩) ∧ τ 5 = .pointer (some ⟨b2, 0, none⟩) ∧ τ 6 = .bool false ∧ τ 7 = .bool true ∧ τ 8 = .pointer (some ⟨b8, 0, none⟩) ∧ τ 9 = .pointer (some ⟨b10, 0, none⟩) ∧ τ 10 = .slice X11 es13.length c12 ∧ τ 11 = .int .i64 kk14 ∧ τ 12 = .int .i64 (kk14 + ((es13.length : Nat) : Int)) ∧ τ 13 = .int .i64 0 ∧ τ 14 = .bool true ∧ τ 15 = .int .i64 0 ∧ τ 37 = .bool false ∧ τ 41 = .bool false ∧ τ 59 = .bool false ∧ τ 124 = .bool false) ⟨up rfl hs0, up rfl hs1, up rfl hs2, up rfl hs3, up rfl hs5, up rfl hs6, up rfl hs7, up rfl hs8, up rfl hs9, up rfl hs10, up rfl hs11, up rfl hs12, up rfl hs13, up rfl hs14, tp, up rfl hs37, up rfl hs41, up rfl hs59, up rfl hs124⟩ ?_
        rintro τ ⟨hs0, hs1, hs2, hs3, hs5, hs6, hs7, hs8, hs9, hs10, hs11, hs12, hs13, hs14, hs15, hs37, hs41, hs59, hs124⟩
        refine CW.block ?_
        have hst := hst.take (.there (.there .here))
        have hst := hst.take (.there .here)
        have hst := hst.take (.there (.there .here))
        have hst := (hst.take (.there (.there (.there .here)))).drop
        have hst := (hst.take (.there (.there (.there .here)))).drop
        have hst := (hst.take (.there (.there (.there .here)))).drop
        have hst := (hst.take (.there (.there (.there .here)))).drop
        have hst := (hst.take (.there (.there (.there .here)))).drop
        refine CW.loop (fun (k : Nat) (τ : Fr) (w : World) => ∃ (j : Nat), j ≤ es13.length ∧ k = es13.length - j ∧ τ 8 = .pointer (some ⟨b8, 0, none⟩) ∧ τ 9 = .pointer (some ⟨b10, 0, none⟩) ∧ τ 10 = .slice X11 es13.length c12 ∧ τ 11 = .int .i64 kk14 ∧ τ 15 = .int .i64 ((j : Nat) : Int) ∧ St p w (LogB p b8 ia7 t0 es17 :: LogB p b10 ia7 t0 es9 :: Own 58 4 (.slice X11 es13.length c12) es13.length (flat es13) :: R)) (es13.length - 0) ⟨0, by omega, rfl, hs8, hs9, hs10, hs11, (int_eq (a := 0) hs15 (by omega)), hst⟩ ?_
        clear hst
        rintro k τ w ⟨j, hj, hkj, hs8, hs9, hs10, hs11, hs15, hst⟩
        refine CW.seq ?_
        refine CW.seq ?_
        refine CW.region ?_
        refine RW.soft Wd.a (v := .int .i64 ((j : Nat) : Int)) (by exact E.move (AF_ev rfl hs15)) ?_
        refine RW.soft Wd.a (v := .slice X11 es13.length c12) (by exact E.move (AF_ev rfl (up rfl hs10))) ?_
        refine RW.soft Wd.a (v := .int .i64 ((es13.length : Nat) : Int)) (by exact E.lenS (p := X11) (l := es13.length) (c := c12) Try.underlying44 (AF_ev rfl tp)) ?_
        refine RW.soft Wd.a (v := .bool (decide (((j : Nat) : Int) < ((es13.length : Nat) : Int)))) (by exact E.lss (k := .i64) (a := ((j : Nat) : Int)) (b := ((es13.length : Nat) : Int)) (AF_ev rfl (up rfl (up rfl tp))) (AF_ev rfl tp)) ?_
        refine RW.fin (fun τ => τ 8 = .pointer (some ⟨b8, 0, none⟩) ∧ τ 9 = .pointer (some ⟨b10, 0, none⟩) ∧ τ 10 = .slice X11 es13.length c12 ∧ τ 11 = .int .i64 kk14 ∧ τ 15 = .int .i64 ((j : Nat) : Int) ∧ τ 128 = .bool (decide (((j : Nat) : Int) < ((es13.length : Nat) : Int)))) ⟨up rfl (up rfl (up rfl (up rfl hs8))), up rfl (up rfl (up rfl (up rfl hs9))), up rfl (up rfl (up rfl (up rfl hs10))), up rfl (up rfl (up rfl (up rfl hs11))), up rfl (up rfl (up rfl (up rfl hs15))), tp⟩ ?_
        rintro τ ⟨hs8, hs9, hs10, hs11, hs15, hs128⟩
        refine CW.cond (AF_ev rfl hs128) (fun hc18 => ?_) (fun hc18 => ?_)
        · have hc18_ := hc18
          try simp only [decide_eq_true_eq, decide_eq_false_iff_not, Bool.and_eq_true, Bool.or_eq_true, Bool.and_eq_false_iff, Bool.or_eq_false_iff, Bool.not_eq_true', Bool.not_eq_false', beq_iff_eq, beq_eq_false_iff_ne, bne_iff_ne, bne_eq_false_iff_eq, ne_eq, Int.not_lt, Int.not_le, gt_iff_lt, ge_iff_le] at hc18_
          refine CW.skip ?_
          refine Th.n ?_
          refine CW.seq ?_
          refine CW.block ?_
          refine CW.seq ?_
          obtain ⟨z, hz⟩ : ∃ z, es13[j]? = some z := ⟨es13[j]'(by omega), List.getElem?_eq_getElem (by omega)⟩
          have hzt : (ts es13)[j]? = some z.term := by simp [ts, hz]
          have hnf2 : ¬ kk14 > ia7 + ((ts es9).length : Nat) := by rw [ts_len]; omega
          refine CW.region ?_
          refine RW.soft Wd.a (v := .pointer (some ⟨b8, 0, none⟩)) (by exact E.move (AF_ev rfl hs8)) ?_
          refine RW.soft Wd.a (v := .int .i64 kk14) (by exact E.move (AF_ev rfl (up rfl hs11))) ?_
          refine RW.soft Wd.a (v := .int .i64 (kk14 + 1)) (by exact E.add (k := .i64) (a := kk14) (b := 1) (AF_ev rfl tp) rfl (show IntKind.i64.wrap (kk14 + 1) = kk14 + 1 from (by rw [IntWalk.i64_in _ (by omega)]))) ?_
          refine RW.soft Wd.a (v := .int .i64 ((j : Nat) : Int)) (by exact E.move (AF_ev rfl (up rfl (up rfl (up rfl hs15))))) ?_
          refine RW.soft Wd.a (v := .int .i64 (kk14 + 1 + ((j : Nat) : Int))) (by exact E.add (k := .i64) (a := kk14 + 1) (b := ((j : Nat) : Int)) (AF_ev rfl (up rfl tp)) (AF_ev rfl tp) (show IntKind.i64.wrap ((kk14 + 1) + ((j : Nat) : Int)) = kk14 + 1 + ((j : Nat) : Int) from (by rw [IntWalk.i64_in _ (by omega)] <;> omega))) ?_
          refine RW.hard Wd.a ?_
          refine H.call0 Try.func32 nm32 rfl (map2 (AF_ev rfl (up rfl (up rfl (up rfl (up rfl tp))))) (AF_ev rfl tp)) (Calls.mono (ent_TermL (v := termT ia7 t0 (ts es17) (kk14 + 1 + ((j : Nat) : Int))) (u := termE ia7 (ts es17) (kk14 + 1 + ((j : Nat) : Int))) (kk14 + 1 + ((j : Nat) : Int)) (by omega) rfl rfl hst) ?_)
          rintro _ w ⟨rfl, hst⟩
          refine ⟨_, rfl, ?_⟩
          show RW _ _ _ _ _ _ _
          refine RW.soft Wd.a (v := .tuple #[.int .i64 (termT ia7 t0 (ts es17) (kk14 + 1 + ((j : Nat) : Int))), .int .i64 (termE ia7 (ts es17) (kk14 + 1 + ((j : Nat) : Int)))]) (by exact E.move (AF_ev rfl tp)) ?_
          refine RW.soft Wd.a (v := .int .i64 (termT ia7 t0 (ts es17) (kk14 + 1 + ((j : Nat) : Int)))) (by exact E.extract (vs := #[.int .i64 (termT ia7 t0 (ts es17) (kk14 + 1 + ((j : Nat) : Int))), .int .i64 (termE ia7 (ts es17) (kk14 + 1 + ((j : Nat) : Int)))]) (AF_ev rfl tp) rfl) ?_
          refine RW.soft Wd.a (v := .int .i64 (termE ia7 (ts es17) (kk14 + 1 + ((j : Nat) : Int)))) (by exact E.extract (vs := #[.int .i64 (termT ia7 t0 (ts es17) (kk14 + 1 + ((j : Nat) : Int))), .int .i64 (termE ia7 (ts es17) (kk14 + 1 + ((j : Nat) : Int)))]) (AF_ev rfl (up rfl tp)) rfl) ?_
          refine RW.soft Wd.a (v := .int .i64 (termT ia7 t0 (ts es17) (kk14 + 1 + ((j : Nat) : Int)))) (by exact E.assign (AF_ev rfl (up rfl tp))) ?_
          refine RW.soft Wd.a (v := .int .i64 (termE ia7 (ts es17) (kk14 + 1 + ((j : Nat) : Int)))) (by exact E.assign (AF_ev rfl (up rfl tp))) ?_
          refine RW.fin (fun τ => τ 8 = .pointer (some ⟨b8, 0, none⟩) ∧ τ 9 = .pointer (some ⟨b10, 0, none⟩) ∧ τ 10 = .slice X11 es13.length c12 ∧ τ 11 = .int .i64 kk14 ∧ τ 15 = .int .i64 ((j : Nat) : Int) ∧ τ 16 = .int .i64 (termT ia7 t0 (ts es17) (kk14 + 1 + ((j : Nat) : Int))) ∧ τ 17 = .int .i64 (termE ia7 (ts es17) (kk14 + 1 + ((j : Nat) : Int))) ∧ τ 128 = .bool true) ⟨up rfl (up rfl (up rfl (up rfl (up rfl (up rfl (up rfl (up rfl (up rfl (up rfl (up rfl hs8)))))))))), up rfl (up rfl (up rfl (up rfl (up rfl (up rfl (up rfl (up rfl (up rfl (up rfl (up rfl hs9)))))))))), up rfl (up rfl (up rfl (up rfl (up rfl (up rfl (up rfl (up rfl (up rfl (up rfl (up rfl hs10)))))))))), up rfl (up rfl (up rfl (up rfl (up rfl (up rfl (up rfl (up rfl (up rfl (up rfl (up rfl hs11)))))))))), up rfl (up rfl (up rfl (up rfl (up rfl (up rfl (up rfl (up rfl (up rfl (up rfl (up rfl hs15)))))))))), up rfl tp, tp, up rfl (up rfl (up rfl (up rfl (up rfl (up rfl (up rfl (up rfl (up rfl (up rfl (up rfl (Eq.trans hs128 (congrArg Value.bool hc18))))))))))))⟩ ?_
          rintro τ ⟨hs8, hs9, hs10, hs11, hs15, hs16, hs17, hs128⟩
          refine CW.seq ?_
          refine Or.elim (Bool.eq_false_or_eq_true (decide ((kk14 + 1 + ((j : Nat) : Int)) ≥ (ia7 + 1)))) (fun hge => ?_) (fun hge => ?_)
          · skip
            have hge_ := of_decide_eq_true hge
            have hin := joined_in hvj hnf2 hcl_ hzt (by omega)
            obtain ⟨g3, rfl⟩ := hbX11 (by omega)
            refine CW.region ?_
            refine RW.soft Wd.a (v := .int .i64 kk14) (by exact E.move (AF_ev rfl hs11)) ?_
            refine RW.soft Wd.a (v := .int .i64 (kk14 + 1)) (by exact E.add (k := .i64) (a := kk14) (b := 1) (AF_ev rfl tp) rfl (show IntKind.i64.wrap (kk14 + 1) = kk14 + 1 from (by rw [IntWalk.i64_in _ (by omega)]))) ?_
            refine RW.soft Wd.a (v := .int .i64 ((j : Nat) : Int)) (by exact E.move (AF_ev rfl (up rfl (up rfl hs15)))) ?_
            refine RW.soft Wd.a (v := .int .i64 (kk14 + 1 + ((j : Nat) : Int))) (by exact E.add (k := .i64) (a := kk14 + 1) (b := ((j : Nat) : Int)) (AF_ev rfl (up rfl tp)) (AF_ev rfl tp) (show IntKind.i64.wrap ((kk14 + 1) + ((j : Nat) : Int)) = kk14 + 1 + ((j : Nat) : Int) from (by rw [IntWalk.i64_in _ (by omega)] <;> omega))) ?_
            refine RW.soft Wd.a (v := .pointer (some ⟨b8, 0, none⟩)) (by exact E.move (AF_ev rfl (up rfl (up rfl (up rfl (up rfl hs8)))))) ?_
            refine RW.hard Wd.a ?_
            refine H.call0 Try.func31 nm31 rfl (map1 (AF_ev rfl tp)) (Calls.mono (ent_FirstL hst) ?_)
            rintro _ w ⟨rfl, hst⟩
            refine ⟨_, rfl, ?_⟩
            show RW _ _ _ _ _ _ _
            refine RW.soft Wd.a (v := .bool true) (by exact E.b (a := decide ((kk14 + 1 + ((j : Nat) : Int)) ≥ (ia7 + 1))) (E.geq (k := .i64) (a := kk14 + 1 + ((j : Nat) : Int)) (b := ia7 + 1) (AF_ev rfl (up rfl (up rfl tp))) (AF_ev rfl tp)) hge) ?_
            refine RW.soft Wd.a (v := .bool true) (by exact E.move (AF_ev rfl tp)) ?_
            refine RW.soft (by exact Wd.yes (x := 147) rfl (AF_ev rfl tp)) (v := .int .i64 (termE ia7 (ts es17) (kk14 + 1 + ((j : Nat) : Int)))) (by exact E.move (AF_ev rfl (up rfl (up rfl (up rfl (up rfl (up rfl (up rfl (up rfl (up rfl hs17)))))))))) ?_
            refine RW.soft (by exact Wd.yes (x := 147) rfl (AF_ev rfl (up rfl tp))) (v := .bool false) (by exact E.b (a := (termE ia7 (ts es17) (kk14 + 1 + ((j : Nat) : Int))) != 0) (E.neq (k := .i64) (a := termE ia7 (ts es17) (kk14 + 1 + ((j : Nat) : Int))) (b := 0) (AF_ev rfl tp) rfl) (by rw [bne_eq_false_iff_eq]; exact hin.1)) ?_
            refine RW.soft (by exact Wd.yes (x := 147) rfl (AF_ev rfl (up rfl (up rfl tp)))) (v := .bool false) (by exact E.move (AF_ev rfl tp)) ?_
            refine RW.soft (by exact Wd.yes (x := 150) rfl (AF_ev rfl tp)) (v := .int .i64 (termT ia7 t0 (ts es17) (kk14 + 1 + ((j : Nat) : Int)))) (by exact E.move (AF_ev rfl (up rfl (up rfl (up rfl (up rfl (up rfl (up rfl (up rfl (up rfl (up rfl (up rfl (up rfl hs16))))))))))))) ?_
            refine RW.soft (by exact Wd.yes (x := 150) rfl (AF_ev rfl (up rfl tp))) (v := .slice (some ⟨g3, 0, none⟩) es13.length c12) (by exact E.move (AF_ev rfl (up rfl (up rfl (up rfl (up rfl (up rfl (up rfl (up rfl (up rfl (up rfl (up rfl (up rfl (up rfl hs10)))))))))))))) ?_
            refine RW.soft (by exact Wd.yes (x := 150) rfl (AF_ev rfl (up rfl (up rfl tp)))) (v := .int .i64 ((j : Nat) : Int)) (by exact E.move (AF_ev rfl (up rfl (up rfl (up rfl (up rfl (up rfl (up rfl (up rfl (up rfl (up rfl (up rfl (up rfl (up rfl (up rfl hs15))))))))))))))) ?_
            refine RW.soft (by exact Wd.yes (x := 150) rfl (AF_ev rfl (up rfl (up rfl (up rfl tp))))) (v := .pointer (some ⟨g3, j * 4, none⟩)) (by exact E.indexAddr (b := g3) (o := 0) (l := es13.length) (c := c12) (i := ((j : Nat) : Int)) Try.underlying44 sz58 (AF_ev rfl (up rfl tp)) (AF_ev rfl tp) (by omega) (by omega) (by simp)) ?_
            refine RW.soft (by exact Wd.yes (x := 150) rfl (AF_ev rfl (up rfl (up rfl (up rfl (up rfl tp)))))) (v := .pointer (some ⟨g3, j * 4, none⟩)) (by exact E.fieldAddr (b := g3) (o := j * 4) (f := { name := "Term", type := 3, offset := 0, embedded := false, tag := "", pkgPath := "", byteOffset := 0 }) (AF_ev rfl tp) Try.underlying58 rfl sz3 rfl) ?_
            refine RW.soft (by exact Wd.yes (x := 150) rfl (AF_ev rfl (up rfl (up rfl (up rfl (up rfl (up rfl tp))))))) (v := .int .i64 z.term) (by exact E.load (a := ⟨g3, j * 4, none⟩) Try.underlying3 rfl (AF_ev rfl tp) (hst.ocell (.there (.there .here)) (flat_get Ent.enc_len hz (j := 0) rfl))) ?_
            refine RW.soft (by exact Wd.yes (x := 150) rfl (AF_ev rfl (up rfl (up rfl (up rfl (up rfl (up rfl (up rfl tp)))))))) (v := .bool false) (by exact E.b (a := (termT ia7 t0 (ts es17) (kk14 + 1 + ((j : Nat) : Int))) != z.term) (E.neq (k := .i64) (a := termT ia7 t0 (ts es17) (kk14 + 1 + ((j : Nat) : Int))) (b := z.term) (AF_ev rfl (up rfl (up rfl (up rfl (up rfl (up rfl tp)))))) (AF_ev rfl tp)) (by rw [bne_eq_false_iff_eq]; exact hin.2)) ?_
            refine RW.soft (by exact Wd.yes (x := 147) rfl (AF_ev rfl (up rfl (up rfl (up rfl (up rfl (up rfl (up rfl (up rfl (up rfl (up rfl (up rfl tp)))))))))))) (v := .bool false) (by exact E.pickF (AF_ev rfl (up rfl (up rfl (up rfl (up rfl (up rfl (up rfl (up rfl tp)))))))) (AF_ev rfl tp)) ?_
            refine RW.soft Wd.a (v := .bool false) (by exact E.pickT (AF_ev rfl (up rfl (up rfl (up rfl (up rfl (up rfl (up rfl (up rfl (up rfl (up rfl (up rfl (up rfl tp)))))))))))) (AF_ev rfl tp)) ?_
            refine RW.fin (fun τ => τ 8 = .pointer (some ⟨b8, 0, none⟩) ∧ τ 9 = .pointer (some ⟨b10, 0, none⟩) ∧ τ 10 = .slice (some ⟨g3, 0, none⟩) es13.length c12 ∧ τ 11 = .int .i64 kk14 ∧ τ 15 = .int .i64 ((j : Nat) : Int) ∧ τ 16 = .int .i64 (termT ia7 t0 (ts es17) (kk14 + 1 + ((j : Nat) : Int))) ∧ τ 17 = .int .i64 (termE ia7 (ts es17) (kk14 + 1 + ((j : Nat) : Int))) ∧ τ 128 = .bool true ∧ τ 159 = .bool false) ⟨up rfl (up rfl (up rfl (up rfl (up rfl (up rfl (up rfl (up rfl (up rfl (up rfl (up rfl (up rfl (up rfl (up rfl (up rfl (up rfl (up rfl (up rfl (up rfl (up rfl hs8))))))))))))))))))), up rfl (up rfl (up rfl (up rfl (up rfl (up rfl (up rfl (up rfl (up rfl (up rfl (up rfl (up rfl (up rfl (up rfl (up rfl (up rfl (up rfl (up rfl (up rfl (up rfl hs9))))))))))))))))))), up rfl (up rfl (up rfl (up rfl (up rfl (up rfl (up rfl (up rfl (up rfl (up rfl (up rfl (up rfl (up rfl (up rfl (up rfl (up rfl (up rfl (up rfl (up rfl (up rfl hs10))))))))))))))))))), up rfl (up rfl (up rfl (up rfl (up rfl (up rfl (up rfl (up rfl (up rfl (up rfl (up rfl (up rfl (up rfl (up rfl (up rfl (up rfl (up rfl (up rfl (up rfl (up rfl hs11))))))))))))))))))), up rfl (up rfl (up rfl (up rfl (up rfl (up rfl (up rfl (up rfl (up rfl (up rfl (up rfl (up rfl (up rfl (up rfl (up rfl (up rfl (up rfl (up rfl (up rfl (up rfl hs15))))))))))))))))))), up rfl (up rfl (up rfl (up rfl (up rfl (up rfl (up rfl (up rfl (up rfl (up rfl (up rfl (up rfl (up rfl (up rfl (up rfl (up rfl (up rfl (up rfl (up rfl (up rfl hs16))))))))))))))))))), up rfl (up rfl (up rfl (up rfl (up rfl (up rfl (up rfl (up rfl (up rfl (up rfl (up rfl (up rfl (up rfl (up rfl (up rfl (up rfl (up rfl (up rfl (up rfl (up rfl hs17))))))))))))))))))), up rfl (up rfl (up rfl (up rfl (up rfl (up rfl (up rfl (up rfl (up rfl (up rfl (up rfl (up rfl (up rfl (up rfl (up rfl (up rfl (up rfl (up rfl (up rfl (up rfl hs128))))))))))))))))))), tp⟩ ?_
            rintro τ ⟨hs8, hs9, hs10, hs11, hs15, hs16, hs17, hs128, hs159⟩
            refine CW.condF (AF_ev rfl hs159) ?_
            refine CW.skip ?_
            refine Bl.n ?_
            refine Th.n ?_
            refine CW.region ?_
            refine RW.soft Wd.a (v := .int .i64 ((j : Nat) : Int)) (by exact E.move (AF_ev rfl hs15)) ?_
            refine RW.soft Wd.a (v := .int .i64 (((j : Nat) : Int) + 1)) (by exact E.add (k := .i64) (a := ((j : Nat) : Int)) (b := 1) (AF_ev rfl tp) rfl (show IntKind.i64.wrap (((j : Nat) : Int) + 1) = ((j : Nat) : Int) + 1 from (by rw [IntWalk.i64_in _ (by omega)]))) ?_
            refine RW.soft Wd.a (v := .int .i64 (((j : Nat) : Int) + 1)) (by exact E.assign (AF_ev rfl tp)) ?_
            refine RW.nil ?_
            refine Th.n ?_
            have hst := hst.take (.there (.there .here))
            have hst := hst.take (.there (.there .here))
            have hst := hst.take (.there (.there .here))
            exact ⟨es13.length - (j + 1), by omega, j + 1, (by omega), (by omega), up rfl (up rfl (up rfl hs8)), up rfl (up rfl (up rfl hs9)), up rfl (up rfl (up rfl hs10)), up rfl (up rfl (up rfl hs11)), (int_eq (a := ((j : Nat) : Int) + 1) tp (by omega)), hst⟩
          · skip
            refine CW.region ?_
            refine RW.soft Wd.a (v := .int .i64 kk14) (by exact E.move (AF_ev rfl hs11)) ?_
            refine RW.soft Wd.a (v := .int .i64 (kk14 + 1)) (by exact E.add (k := .i64) (a := kk14) (b := 1) (AF_ev rfl tp) rfl (show IntKind.i64.wrap (kk14 + 1) = kk14 + 1 from (by rw [IntWalk.i64_in _ (by omega)]))) ?_
            refine RW.soft Wd.a (v := .int .i64 ((j : Nat) : Int)) (by exact E.move (AF_ev rfl (up rfl (up rfl hs15)))) ?_
            refine RW.soft Wd.a (v := .int .i64 (kk14 + 1 + ((j : Nat) : Int))) (by exact E.add (k := .i64) (a := kk14 + 1) (b := ((j : Nat) : Int)) (AF_ev rfl (up rfl tp)) (AF_ev rfl tp) (show IntKind.i64.wrap ((kk14 + 1) + ((j : Nat) : Int)) = kk14 + 1 + ((j : Nat) : Int) from (by rw [IntWalk.i64_in _ (by omega)] <;> omega))) ?_
            refine RW.soft Wd.a (v := .pointer (some ⟨b8, 0, none⟩)) (by exact E.move (AF_ev rfl (up rfl (up rfl (up rfl (up rfl hs8)))))) ?_
            refine RW.hard Wd.a ?_
            refine H.call0 Try.func31 nm31 rfl (map1 (AF_ev rfl tp)) (Calls.mono (ent_FirstL hst) ?_)
            rintro _ w ⟨rfl, hst⟩
            refine ⟨_, rfl, ?_⟩
            show RW _ _ _ _ _ _ _
            refine RW.soft Wd.a (v := .bool false) (by exact E.b (a := decide ((kk14 + 1 + ((j : Nat) : Int)) ≥ (ia7 + 1))) (E.geq (k := .i64) (a := kk14 + 1 + ((j : Nat) : Int)) (b := ia7 + 1) (AF_ev rfl (up rfl (up rfl tp))) (AF_ev rfl tp)) hge) ?_
            refine RW.soft Wd.a (v := .bool false) (by exact E.move (AF_ev rfl tp)) ?_
            refine RW.pass (by exact Wd.no (x := 147) (b := false) rfl (AF_ev rfl tp) rfl) ?_
            refine RW.pass (by exact Wd.no (x := 147) (b := false) rfl (AF_ev rfl (up rfl tp)) rfl) ?_
            refine RW.pass (by exact Wd.no (x := 147) (b := false) rfl (AF_ev rfl (up rfl (up rfl tp))) rfl) ?_
            refine RW.pass (by exact Wd.u (x := 150) rfl (AF_ev rfl tp)) ?_
            refine RW.pass (by exact Wd.u (x := 150) rfl (AF_ev rfl (up rfl tp))) ?_
            refine RW.pass (by exact Wd.u (x := 150) rfl (AF_ev rfl (up rfl (up rfl tp)))) ?_
            refine RW.pass (by exact Wd.u (x := 150) rfl (AF_ev rfl (up rfl (up rfl (up rfl tp))))) ?_
            refine RW.pass (by exact Wd.u (x := 150) rfl (AF_ev rfl (up rfl (up rfl (up rfl (up rfl tp)))))) ?_
            refine RW.pass (by exact Wd.u (x := 150) rfl (AF_ev rfl (up rfl (up rfl (up rfl (up rfl (up rfl tp))))))) ?_
            refine RW.pass (by exact Wd.u (x := 150) rfl (AF_ev rfl (up rfl (up rfl (up rfl (up rfl (up rfl (up rfl tp)))))))) ?_
            refine RW.pass (by exact Wd.no (x := 147) (b := false) rfl (AF_ev rfl (up rfl (up rfl (up rfl (up rfl (up rfl (up rfl (up rfl (up rfl (up rfl (up rfl tp))))))))))) rfl) ?_
            refine RW.soft Wd.a (v := .bool false) (by exact E.pickF (AF_ev rfl (up rfl (up rfl (up rfl (up rfl (up rfl (up rfl (up rfl (up rfl (up rfl (up rfl (up rfl tp)))))))))))) rfl) ?_
            refine RW.fin (fun τ => τ 8 = .pointer (some ⟨b8, 0, none⟩) ∧ τ 9 = .pointer (some ⟨b10, 0, none⟩) ∧ τ 10 = .slice X11 es13.length c12 ∧ τ 11 = .int .i64 kk14 ∧ τ 15 = .int .i64 ((j : Nat) : Int) ∧ τ 16 = .int .i64 (termT ia7 t0 (ts es17) (kk14 + 1 + ((j : Nat) : Int))) ∧ τ 17 = .int .i64 (termE ia7 (ts es17) (kk14 + 1 + ((j : Nat) : Int))) ∧ τ 128 = .bool true ∧ τ 159 = .bool false) ⟨up rfl (up rfl (up rfl (up rfl (up rfl (up rfl (up rfl (up rfl (up rfl (up rfl (up rfl (up rfl (up rfl (up rfl (up rfl (up rfl (up rfl (up rfl (up rfl (up rfl hs8))))))))))))))))))), up rfl (up rfl (up rfl (up rfl (up rfl (up rfl (up rfl (up rfl (up rfl (up rfl (up rfl (up rfl (up rfl (up rfl (up rfl (up rfl (up rfl (up rfl (up rfl (up rfl hs9))))))))))))))))))), up rfl (up rfl (up rfl (up rfl (up rfl (up rfl (up rfl (up rfl (up rfl (up rfl (up rfl (up rfl (up rfl (up rfl (up rfl (up rfl (up rfl (up rfl (up rfl (up rfl hs10))))))))))))))))))), up rfl (up rfl (up rfl (up rfl (up rfl (up rfl (up rfl (up rfl (up rfl (up rfl (up rfl (up rfl (up rfl (up rfl (up rfl (up rfl (up rfl (up rfl (up rfl (up rfl hs11))))))))))))))))))), up rfl (up rfl (up rfl (up rfl (up rfl (up rfl (up rfl (up rfl (up rfl (up rfl (up rfl (up rfl (up rfl (up rfl (up rfl (up rfl (up rfl (up rfl (up rfl (up rfl hs15))))))))))))))))))), up rfl (up rfl (up rfl (up rfl (up rfl (up rfl (up rfl (up rfl (up rfl (up rfl (up rfl (up rfl (up rfl (up rfl (up rfl (up rfl (up rfl (up rfl (up rfl (up rfl hs16))))))))))))))))))), up rfl (up rfl (up rfl (up rfl (up rfl (up rfl (up rfl (up rfl (up rfl (up rfl (up rfl (up rfl (up rfl (up rfl (up rfl (up rfl (up rfl (up rfl (up rfl (up rfl hs17))))))))))))))))))), up rfl (up rfl (up rfl (up rfl (up rfl (up rfl (up rfl (up rfl (up rfl (up rfl (up rfl (up rfl (up rfl (up rfl (up rfl (up rfl (up rfl (up rfl (up rfl (up rfl hs128))))))))))))))))))), tp⟩ ?_
            rintro τ ⟨hs8, hs9, hs10, hs11, hs15, hs16, hs17, hs128, hs159⟩
            refine CW.condF (AF_ev rfl hs159) ?_
            refine CW.skip ?_
            refine Bl.n ?_
            refine Th.n ?_
            refine CW.region ?_
            refine RW.soft Wd.a (v := .int .i64 ((j : Nat) : Int)) (by exact E.move (AF_ev rfl hs15)) ?_
            refine RW.soft Wd.a (v := .int .i64 (((j : Nat) : Int) + 1)) (by exact E.add (k := .i64) (a := ((j : Nat) : Int)) (b := 1) (AF_ev rfl tp) rfl (show IntKind.i64.wrap (((j : Nat) : Int) + 1) = ((j : Nat) : Int) + 1 from (by rw [IntWalk.i64_in _ (by omega)]))) ?_
            refine RW.soft Wd.a (v := .int .i64 (((j : Nat) : Int) + 1)) (by exact E.assign (AF_ev rfl tp)) ?_
            refine RW.nil ?_
            refine Th.n ?_
            have hst := hst.take (.there (.there .here))
            have hst := hst.take (.there (.there .here))
            have hst := hst.take (.there (.there .here))
            exact ⟨es13.length - (j + 1), by omega, j + 1, (by omega), (by omega), up rfl (up rfl (up rfl hs8)), up rfl (up rfl (up rfl hs9)), up rfl (up rfl (up rfl hs10)), up rfl (up rfl (up rfl hs11)), (int_eq (a := ((j : Nat) : Int) + 1) tp (by omega)), hst⟩
        · have hc18_ := hc18
          try simp only [decide_eq_true_eq, decide_eq_false_iff_not, Bool.and_eq_true, Bool.or_eq_true, Bool.and_eq_false_iff, Bool.or_eq_false_iff, Bool.not_eq_true', Bool.not_eq_false', beq_iff_eq, beq_eq_false_iff_ne, bne_iff_ne, bne_eq_false_iff_eq, ne_eq, Int.not_lt, Int.not_le, gt_iff_lt, ge_iff_le] at hc18_
          refine CW.exit ?_
          refine Th.x ?_
          refine Th.x ?_
          refine Bl.x ?_
          refine Th.n ?_
          refine CW.seq ?_
          refine CW.seq ?_
          refine CW.region ?_
          refine RW.soft Wd.a (v := .pointer (some ⟨b10, 0, none⟩)) (by exact E.move (AF_ev rfl hs9)) ?_
          have hst := hst.take (.there .here)
          refine RW.hard Wd.a ?_
          refine H.call0 Try.func31 nm31 rfl (map1 (AF_ev rfl tp)) (Calls.mono (ent_FirstL hst) ?_)
          rintro _ w ⟨rfl, hst⟩
          refine ⟨_, rfl, ?_⟩
          show RW _ _ _ _ _ _ _
          refine RW.soft Wd.a (v := .int .i64 (ia7 + 1 - 1)) (by exact E.sub (k := .i64) (a := ia7 + 1) (b := 1) (AF_ev rfl tp) rfl (show IntKind.i64.wrap ((ia7 + 1) - 1) = ia7 + 1 - 1 from (by rw [IntWalk.i64_in _ (by omega)] <;> omega))) ?_
          refine RW.soft Wd.a (v := .int .i64 (ia7 + 1 - 1)) (by exact E.assign (AF_ev rfl tp)) ?_
          refine RW.fin (fun τ => τ 8 = .pointer (some ⟨b8, 0, none⟩) ∧ τ 9 = .pointer (some ⟨b10, 0, none⟩) ∧ τ 10 = .slice X11 es13.length c12 ∧ τ 11 = .int .i64 kk14 ∧ τ 15 = .int .i64 ((j : Nat) : Int) ∧ τ 18 = .int .i64 (ia7 + 1 - 1) ∧ τ 128 = .bool false) ⟨up rfl (up rfl (up rfl (up rfl hs8))), up rfl (up rfl (up rfl (up rfl hs9))), up rfl (up rfl (up rfl (up rfl hs10))), up rfl (up rfl (up rfl (up rfl hs11))), up rfl (up rfl (up rfl (up rfl hs15))), tp, up rfl (up rfl (up rfl (up rfl (Eq.trans hs128 (congrArg Value.bool hc18)))))⟩ ?_
          rintro τ ⟨hs8, hs9, hs10, hs11, hs15, hs18, hs128⟩
          refine CW.block ?_
          have hst := hst.take (.there .here)
          have hst := (hst.take (.there (.there .here))).drop
          refine CW.loop (fun (k : Nat) (τ : Fr) (w : World) => ∃ (m : Nat), m ≤ es9.length + 1 ∧ k = es9.length + 1 - m ∧ τ 8 = .pointer (some ⟨b8, 0, none⟩) ∧ τ 9 = .pointer (some ⟨b10, 0, none⟩) ∧ τ 11 = .int .i64 kk14 ∧ τ 18 = .int .i64 (ia7 + ((m : Nat) : Int)) ∧ St p w (LogB p b8 ia7 t0 es17 :: LogB p b10 ia7 t0 es9 :: R)) (es9.length + 1 - 0) ⟨0, by omega, rfl, hs8, hs9, hs11, (int_eq (a := ia7 + 1 - 1) hs18 (by omega)), hst⟩ ?_
          clear hst
          rintro k τ w ⟨m, hm, hkm, hs8, hs9, hs11, hs18, hst⟩
          refine CW.seq ?_
          refine CW.seq ?_
          refine Or.elim (Bool.eq_false_or_eq_true (decide ((ia7 + ((m : Nat) : Int)) ≤ kk14))) (fun hle1 => ?_) (fun hle1 => ?_)
          · skip
            refine Or.elim (Bool.eq_false_or_eq_true (decide ((ia7 + ((m : Nat) : Int)) ≤ (ia7 + ((es9.length : Nat) : Int))))) (fun hle3 => ?_) (fun hle3 => ?_)
            · skip
              refine CW.region ?_
              refine RW.soft Wd.a (v := .int .i64 (ia7 + ((m : Nat) : Int))) (by exact E.move (AF_ev rfl hs18)) ?_
              refine RW.soft Wd.a (v := .int .i64 kk14) (by exact E.move (AF_ev rfl (up rfl hs11))) ?_
              refine RW.soft Wd.a (v := .bool true) (by exact E.b (a := decide ((ia7 + ((m : Nat) : Int)) ≤ kk14)) (E.leq (k := .i64) (a := ia7 + ((m : Nat) : Int)) (b := kk14) (AF_ev rfl (up rfl tp)) (AF_ev rfl tp)) hle1) ?_
              refine RW.soft Wd.a (v := .bool true) (by exact E.move (AF_ev rfl tp)) ?_
              refine RW.soft (by exact Wd.yes (x := 166) rfl (AF_ev rfl tp)) (v := .int .i64 (ia7 + ((m : Nat) : Int))) (by exact E.move (AF_ev rfl (up rfl (up rfl (up rfl (up rfl hs18)))))) ?_
              refine RW.soft (by exact Wd.yes (x := 166) rfl (AF_ev rfl (up rfl tp))) (v := .pointer (some ⟨b10, 0, none⟩)) (by exact E.move (AF_ev rfl (up rfl (up rfl (up rfl (up rfl (up rfl hs9))))))) ?_
              have hst := hst.take (.there .here)
              refine RW.hard (by exact Wd.yes (x := 166) rfl (AF_ev rfl (up rfl (up rfl tp)))) ?_
              refine H.call0 Try.func30 nm30 rfl (map1 (AF_ev rfl tp)) (Calls.mono (ent_LastL (v := ia7 + ((es9.length : Nat) : Int)) rfl hst) ?_)
              rintro _ w ⟨rfl, hst⟩
              refine ⟨_, rfl, ?_⟩
              show RW _ _ _ _ _ _ _
              refine RW.soft (by exact Wd.yes (x := 166) rfl (AF_ev rfl (up rfl (up rfl (up rfl tp))))) (v := .bool true) (by exact E.b (a := decide ((ia7 + ((m : Nat) : Int)) ≤ (ia7 + ((es9.length : Nat) : Int)))) (E.leq (k := .i64) (a := ia7 + ((m : Nat) : Int)) (b := ia7 + ((es9.length : Nat) : Int)) (AF_ev rfl (up rfl (up rfl tp))) (AF_ev rfl tp)) hle3) ?_
              refine RW.soft Wd.a (v := .bool true) (by exact E.pickT (AF_ev rfl (up rfl (up rfl (up rfl (up rfl tp))))) (AF_ev rfl tp)) ?_
              refine RW.fin (fun τ => τ 8 = .pointer (some ⟨b8, 0, none⟩) ∧ τ 9 = .pointer (some ⟨b10, 0, none⟩) ∧ τ 11 = .int .i64 kk14 ∧ τ 18 = .int .i64 (ia7 + ((m : Nat) : Int)) ∧ τ 171 = .bool true) ⟨up rfl (up rfl (up rfl (up rfl (up rfl (up rfl (up rfl (up rfl (up rfl hs8)))))))), up rfl (up rfl (up rfl (up rfl (up rfl (up rfl (up rfl (up rfl (up rfl hs9)))))))), up rfl (up rfl (up rfl (up rfl (up rfl (up rfl (up rfl (up rfl (up rfl hs11)))))))), up rfl (up rfl (up rfl (up rfl (up rfl (up rfl (up rfl (up rfl (up rfl hs18)))))))), tp⟩ ?_
              rintro τ ⟨hs8, hs9, hs11, hs18, hs171⟩
              refine CW.condT (AF_ev rfl hs171) ?_
              refine CW.skip ?_
              refine Th.n ?_
              refine CW.seq ?_
              refine CW.block ?_
              refine CW.seq ?_
              have hle1_ := of_decide_eq_true hle1
              have hle3_ := of_decide_eq_true hle3
              have hnf2 : ¬ kk14 > ia7 + ((ts es9).length : Nat) := by rw [ts_len]; omega
              have hkept := joined_kept hvj hnf2 hcl_ (k := ia7 + ((m : Nat) : Int)) (by omega) (by omega) (by rw [ts_len]; omega)
              refine CW.region ?_
              refine RW.soft Wd.a (v := .pointer (some ⟨b8, 0, none⟩)) (by exact E.move (AF_ev rfl hs8)) ?_
              refine RW.soft Wd.a (v := .int .i64 (ia7 + ((m : Nat) : Int))) (by exact E.move (AF_ev rfl (up rfl hs18))) ?_
              have hst := hst.take (.there .here)
              refine RW.hard Wd.a ?_
              refine H.call0 Try.func32 nm32 rfl (map2 (AF_ev rfl (up rfl tp)) (AF_ev rfl tp)) (Calls.mono (ent_TermL (v := termT ia7 t0 (ts es17) (ia7 + ((m : Nat) : Int))) (u := termE ia7 (ts es17) (ia7 + ((m : Nat) : Int))) (ia7 + ((m : Nat) : Int)) (by omega) rfl rfl hst) ?_)
              rintro _ w ⟨rfl, hst⟩
              refine ⟨_, rfl, ?_⟩
              show RW _ _ _ _ _ _ _
              refine RW.soft Wd.a (v := .tuple #[.int .i64 (termT ia7 t0 (ts es17) (ia7 + ((m : Nat) : Int))), .int .i64 (termE ia7 (ts es17) (ia7 + ((m : Nat) : Int)))]) (by exact E.move (AF_ev rfl tp)) ?_
              refine RW.soft Wd.a (v := .int .i64 (termT ia7 t0 (ts es17) (ia7 + ((m : Nat) : Int)))) (by exact E.extract (vs := #[.int .i64 (termT ia7 t0 (ts es17) (ia7 + ((m : Nat) : Int))), .int .i64 (termE ia7 (ts es17) (ia7 + ((m : Nat) : Int)))]) (AF_ev rfl tp) rfl) ?_
              refine RW.soft Wd.a (v := .int .i64 (termE ia7 (ts es17) (ia7 + ((m : Nat) : Int)))) (by exact E.extract (vs := #[.int .i64 (termT ia7 t0 (ts es17) (ia7 + ((m : Nat) : Int))), .int .i64 (termE ia7 (ts es17) (ia7 + ((m : Nat) : Int)))]) (AF_ev rfl (up rfl tp)) rfl) ?_
              refine RW.soft Wd.a (v := .int .i64 (termT ia7 t0 (ts es17) (ia7 + ((m : Nat) : Int)))) (by exact E.assign (AF_ev rfl (up rfl tp))) ?_
              refine RW.soft Wd.a (v := .int .i64 (termE ia7 (ts es17) (ia7 + ((m : Nat) : Int)))) (by exact E.assign (AF_ev rfl (up rfl tp))) ?_
              refine RW.fin (fun τ => τ 8 = .pointer (some ⟨b8, 0, none⟩) ∧ τ 9 = .pointer (some ⟨b10, 0, none⟩) ∧ τ 11 = .int .i64 kk14 ∧ τ 18 = .int .i64 (ia7 + ((m : Nat) : Int)) ∧ τ 19 = .int .i64 (termT ia7 t0 (ts es17) (ia7 + ((m : Nat) : Int))) ∧ τ 20 = .int .i64 (termE ia7 (ts es17) (ia7 + ((m : Nat) : Int))) ∧ τ 171 = .bool true) ⟨up rfl (up rfl (up rfl (up rfl (up rfl (up rfl (up rfl (up rfl hs8))))))), up rfl (up rfl (up rfl (up rfl (up rfl (up rfl (up rfl (up rfl hs9))))))), up rfl (up rfl (up rfl (up rfl (up rfl (up rfl (up rfl (up rfl hs11))))))), up rfl (up rfl (up rfl (up rfl (up rfl (up rfl (up rfl (up rfl hs18))))))), up rfl tp, tp, up rfl (up rfl (up rfl (up rfl (up rfl (up rfl (up rfl (up rfl hs171)))))))⟩ ?_
              rintro τ ⟨hs8, hs9, hs11, hs18, hs19, hs20, hs171⟩
              refine CW.seq ?_
              refine CW.region ?_
              refine RW.soft Wd.a (v := .pointer (some ⟨b10, 0, none⟩)) (by exact E.move (AF_ev rfl hs9)) ?_
              refine RW.soft Wd.a (v := .int .i64 (ia7 + ((m : Nat) : Int))) (by exact E.move (AF_ev rfl (up rfl hs18))) ?_
              have hst := hst.take (.there .here)
              refine RW.hard Wd.a ?_
              refine H.call0 Try.func32 nm32 rfl (map2 (AF_ev rfl (up rfl tp)) (AF_ev rfl tp)) (Calls.mono (ent_TermL (v := termT ia7 t0 (ts es9) (ia7 + ((m : Nat) : Int))) (u := termE ia7 (ts es9) (ia7 + ((m : Nat) : Int))) (ia7 + ((m : Nat) : Int)) (by omega) rfl rfl hst) ?_)
              rintro _ w ⟨rfl, hst⟩
              refine ⟨_, rfl, ?_⟩
              show RW _ _ _ _ _ _ _
              refine RW.soft Wd.a (v := .tuple #[.int .i64 (termT ia7 t0 (ts es9) (ia7 + ((m : Nat) : Int))), .int .i64 (termE ia7 (ts es9) (ia7 + ((m : Nat) : Int)))]) (by exact E.move (AF_ev rfl tp)) ?_
              refine RW.soft Wd.a (v := .int .i64 (termT ia7 t0 (ts es9) (ia7 + ((m : Nat) : Int)))) (by exact E.extract (vs := #[.int .i64 (termT ia7 t0 (ts es9) (ia7 + ((m : Nat) : Int))), .int .i64 (termE ia7 (ts es9) (ia7 + ((m : Nat) : Int)))]) (AF_ev rfl tp) rfl) ?_
              refine RW.soft Wd.a (v := .int .i64 (termE ia7 (ts es9) (ia7 + ((m : Nat) : Int)))) (by exact E.extract (vs := #[.int .i64 (termT ia7 t0 (ts es9) (ia7 + ((m : Nat) : Int))), .int .i64 (termE ia7 (ts es9) (ia7 + ((m : Nat) : Int)))]) (AF_ev rfl (up rfl tp)) rfl) ?_
              refine RW.soft Wd.a (v := .int .i64 (termT ia7 t0 (ts es9) (ia7 + ((m : Nat) : Int)))) (by exact E.assign (AF_ev rfl (up rfl tp))) ?_
              refine RW.soft Wd.a (v := .int .i64 (termE ia7 (ts es9) (ia7 + ((m : Nat) : Int)))) (by exact E.assign (AF_ev rfl (up rfl tp))) ?_
              refine RW.fin (fun τ => τ 8 = .pointer (some ⟨b8, 0, none⟩) ∧ τ 9 = .pointer (some ⟨b10, 0, none⟩) ∧ τ 11 = .int .i64 kk14 ∧ τ 18 = .int .i64 (ia7 + ((m : Nat) : Int)) ∧ τ 19 = .int .i64 (termT ia7 t0 (ts es17) (ia7 + ((m : Nat) : Int))) ∧ τ 20 = .int .i64 (termE ia7 (ts es17) (ia7 + ((m : Nat) : Int))) ∧ τ 21 = .int .i64 (termT ia7 t0 (ts es9) (ia7 + ((m : Nat) : Int))) ∧ τ 22 = .int .i64 (termE ia7 (ts es9) (ia7 + ((m : Nat) : Int))) ∧ τ 171 = .bool true) ⟨up rfl (up rfl (up rfl (up rfl (up rfl (up rfl (up rfl (up rfl hs8))))))), up rfl (up rfl (up rfl (up rfl (up rfl (up rfl (up rfl (up rfl hs9))))))), up rfl (up rfl (up rfl (up rfl (up rfl (up rfl (up rfl (up rfl hs11))))))), up rfl (up rfl (up rfl (up rfl (up rfl (up rfl (up rfl (up rfl hs18))))))), up rfl (up rfl (up rfl (up rfl (up rfl (up rfl (up rfl (up rfl hs19))))))), up rfl (up rfl (up rfl (up rfl (up rfl (up rfl (up rfl (up rfl hs20))))))), up rfl tp, tp, up rfl (up rfl (up rfl (up rfl (up rfl (up rfl (up rfl (up rfl hs171)))))))⟩ ?_
              rintro τ ⟨hs8, hs9, hs11, hs18, hs19, hs20, hs21, hs22, hs171⟩
              refine CW.seq ?_
              refine CW.region ?_
              refine RW.soft Wd.a (v := .int .i64 (termT ia7 t0 (ts es17) (ia7 + ((m : Nat) : Int)))) (by exact E.move (AF_ev rfl hs19)) ?_
              refine RW.soft Wd.a (v := .int .i64 (termT ia7 t0 (ts es9) (ia7 + ((m : Nat) : Int)))) (by exact E.move (AF_ev rfl (up rfl hs21))) ?_
              refine RW.soft Wd.a (v := .bool false) (by exact E.b (a := (termT ia7 t0 (ts es17) (ia7 + ((m : Nat) : Int))) != (termT ia7 t0 (ts es9) (ia7 + ((m : Nat) : Int)))) (E.neq (k := .i64) (a := termT ia7 t0 (ts es17) (ia7 + ((m : Nat) : Int))) (b := termT ia7 t0 (ts es9) (ia7 + ((m : Nat) : Int))) (AF_ev rfl (up rfl tp)) (AF_ev rfl tp)) (by rw [bne_eq_false_iff_eq]; exact hkept.2)) ?_
              refine RW.soft Wd.a (v := .bool false) (by exact E.move (AF_ev rfl tp)) ?_
              refine RW.soft (by exact Wd.yes (x := 189) rfl (AF_ev rfl tp)) (v := .int .i64 (termE ia7 (ts es17) (ia7 + ((m : Nat) : Int)))) (by exact E.move (AF_ev rfl (up rfl (up rfl (up rfl (up rfl hs20)))))) ?_
              refine RW.soft (by exact Wd.yes (x := 189) rfl (AF_ev rfl (up rfl tp))) (v := .int .i64 (termE ia7 (ts es9) (ia7 + ((m : Nat) : Int)))) (by exact E.move (AF_ev rfl (up rfl (up rfl (up rfl (up rfl (up rfl hs22))))))) ?_
              refine RW.soft (by exact Wd.yes (x := 189) rfl (AF_ev rfl (up rfl (up rfl tp)))) (v := .bool false) (by exact E.b (a := (termE ia7 (ts es17) (ia7 + ((m : Nat) : Int))) != (termE ia7 (ts es9) (ia7 + ((m : Nat) : Int)))) (E.neq (k := .i64) (a := termE ia7 (ts es17) (ia7 + ((m : Nat) : Int))) (b := termE ia7 (ts es9) (ia7 + ((m : Nat) : Int))) (AF_ev rfl (up rfl tp)) (AF_ev rfl tp)) (by rw [bne_eq_false_iff_eq]; exact hkept.1)) ?_
              refine RW.soft Wd.a (v := .bool false) (by exact E.pickF (AF_ev rfl (up rfl (up rfl (up rfl tp)))) (AF_ev rfl tp)) ?_
              refine RW.fin (fun τ => τ 8 = .pointer (some ⟨b8, 0, none⟩) ∧ τ 9 = .pointer (some ⟨b10, 0, none⟩) ∧ τ 11 = .int .i64 kk14 ∧ τ 18 = .int .i64 (ia7 + ((m : Nat) : Int)) ∧ τ 19 = .int .i64 (termT ia7 t0 (ts es17) (ia7 + ((m : Nat) : Int))) ∧ τ 20 = .int .i64 (termE ia7 (ts es17) (ia7 + ((m : Nat) : Int))) ∧ τ 21 = .int .i64 (termT ia7 t0 (ts es9) (ia7 + ((m : Nat) : Int))) ∧ τ 22 = .int .i64 (termE ia7 (ts es9) (ia7 + ((m : Nat) : Int))) ∧ τ 171 = .bool true ∧ τ 193 = .bool false) ⟨up rfl (up rfl (up rfl (up rfl (up rfl (up rfl (up rfl (up rfl hs8))))))), up rfl (up rfl (up rfl (up rfl (up rfl (up rfl (up rfl (up rfl hs9))))))), up rfl (up rfl (up rfl (up rfl (up rfl (up rfl (up rfl (up rfl hs11))))))), up rfl (up rfl (up rfl (up rfl (up rfl (up rfl (up rfl (up rfl hs18))))))), up rfl (up rfl (up rfl (up rfl (up rfl (up rfl (up rfl (up rfl hs19))))))), up rfl (up rfl (up rfl (up rfl (up rfl (up rfl (up rfl (up rfl hs20))))))), up rfl (up rfl (up rfl (up rfl (up rfl (up rfl (up rfl (up rfl hs21))))))), up rfl (up rfl (up rfl (up rfl (up rfl (up rfl (up rfl (up rfl hs22))))))), up rfl (up rfl (up rfl (up rfl (up rfl (up rfl (up rfl (up rfl hs171))))))), tp⟩ ?_
              rintro τ ⟨hs8, hs9, hs11, hs18, hs19, hs20, hs21, hs22, hs171, hs193⟩
              refine CW.condF (AF_ev rfl hs193) ?_
              refine CW.skip ?_
              refine Bl.n ?_
              refine Th.n ?_
              refine CW.region ?_
              refine RW.soft Wd.a (v := .int .i64 (ia7 + ((m : Nat) : Int))) (by exact E.move (AF_ev rfl hs18)) ?_
              refine RW.soft Wd.a (v := .int .i64 (ia7 + ((m : Nat) : Int) + 1)) (by exact E.add (k := .i64) (a := ia7 + ((m : Nat) : Int)) (b := 1) (AF_ev rfl tp) rfl (show IntKind.i64.wrap ((ia7 + ((m : Nat) : Int)) + 1) = ia7 + ((m : Nat) : Int) + 1 from (by rw [IntWalk.i64_in _ (by omega)] <;> omega))) ?_
              refine RW.soft Wd.a (v := .int .i64 (ia7 + ((m : Nat) : Int) + 1)) (by exact E.assign (AF_ev rfl tp)) ?_
              refine RW.nil ?_
              refine Th.n ?_
              have hst := hst.take (.there .here)
              exact ⟨es9.length + 1 - (m + 1), by omega, m + 1, (by omega), (by omega), up rfl (up rfl (up rfl hs8)), up rfl (up rfl (up rfl hs9)), up rfl (up rfl (up rfl hs11)), (int_eq (a := ia7 + ((m : Nat) : Int) + 1) tp (by omega)), hst⟩
            · skip
              refine CW.region ?_
              refine RW.soft Wd.a (v := .int .i64 (ia7 + ((m : Nat) : Int))) (by exact E.move (AF_ev rfl hs18)) ?_
              refine RW.soft Wd.a (v := .int .i64 kk14) (by exact E.move (AF_ev rfl (up rfl hs11))) ?_
              refine RW.soft Wd.a (v := .bool true) (by exact E.b (a := decide ((ia7 + ((m : Nat) : Int)) ≤ kk14)) (E.leq (k := .i64) (a := ia7 + ((m : Nat) : Int)) (b := kk14) (AF_ev rfl (up rfl tp)) (AF_ev rfl tp)) hle1) ?_
              refine RW.soft Wd.a (v := .bool true) (by exact E.move (AF_ev rfl tp)) ?_
              refine RW.soft (by exact Wd.yes (x := 166) rfl (AF_ev rfl tp)) (v := .int .i64 (ia7 + ((m : Nat) : Int))) (by exact E.move (AF_ev rfl (up rfl (up rfl (up rfl (up rfl hs18)))))) ?_
              refine RW.soft (by exact Wd.yes (x := 166) rfl (AF_ev rfl (up rfl tp))) (v := .pointer (some ⟨b10, 0, none⟩)) (by exact E.move (AF_ev rfl (up rfl (up rfl (up rfl (up rfl (up rfl hs9))))))) ?_
              have hst := hst.take (.there .here)
              refine RW.hard (by exact Wd.yes (x := 166) rfl (AF_ev rfl (up rfl (up rfl tp)))) ?_
              refine H.call0 Try.func30 nm30 rfl (map1 (AF_ev rfl tp)) (Calls.mono (ent_LastL (v := ia7 + ((es9.length : Nat) : Int)) rfl hst) ?_)
              rintro _ w ⟨rfl, hst⟩
              refine ⟨_, rfl, ?_⟩
              show RW _ _ _ _ _ _ _
              refine RW.soft (by exact Wd.yes (x := 166) rfl (AF_ev rfl (up rfl (up rfl (up rfl tp))))) (v := .bool false) (by exact E.b (a := decide ((ia7 + ((m : Nat) : Int)) ≤ (ia7 + ((es9.length : Nat) : Int)))) (E.leq (k := .i64) (a := ia7 + ((m : Nat) : Int)) (b := ia7 + ((es9.length : Nat) : Int)) (AF_ev rfl (up rfl (up rfl tp))) (AF_ev rfl tp)) hle3) ?_
              refine RW.soft Wd.a (v := .bool false) (by exact E.pickT (AF_ev rfl (up rfl (up rfl (up rfl (up rfl tp))))) (AF_ev rfl tp)) ?_
              refine RW.fin (fun τ => τ 8 = .pointer (some ⟨b8, 0, none⟩) ∧ τ 9 = .pointer (some ⟨b10, 0, none⟩) ∧ τ 11 = .int .i64 kk14 ∧ τ 18 = .int .i64 (ia7 + ((m : Nat) : Int)) ∧ τ 171 = .bool false) ⟨up rfl (up rfl (up rfl (up rfl (up rfl (up rfl (up rfl (up rfl (up rfl hs8)))))))), up rfl (up rfl (up rfl (up rfl (up rfl (up rfl (up rfl (up rfl (up rfl hs9)))))))), up rfl (up rfl (up rfl (up rfl (up rfl (up rfl (up rfl (up rfl (up rfl hs11)))))))), up rfl (up rfl (up rfl (up rfl (up rfl (up rfl (up rfl (up rfl (up rfl hs18)))))))), tp⟩ ?_
              rintro τ ⟨hs8, hs9, hs11, hs18, hs171⟩
              refine CW.condF (AF_ev rfl hs171) ?_
              refine CW.exit ?_
              refine Th.x ?_
              refine Th.x ?_
              refine Bl.x ?_
              refine Th.n ?_
              refine CW.seq ?_
              refine CW.region ?_
              refine RW.soft Wd.a (v := .bool true) (by exact E.assign rfl) ?_
              refine RW.fin (fun τ => τ 6 = .bool true ∧ τ 8 = .pointer (some ⟨b8, 0, none⟩) ∧ τ 9 = .pointer (some ⟨b10, 0, none⟩) ∧ τ 11 = .int .i64 kk14 ∧ τ 18 = .int .i64 (ia7 + ((m : Nat) : Int)) ∧ τ 171 = .bool false) ⟨tp, up rfl hs8, up rfl hs9, up rfl hs11, up rfl hs18, up rfl hs171⟩ ?_
              rintro τ ⟨hs6, hs8, hs9, hs11, hs18, hs171⟩
              refine CW.ret ?_
              refine ret1 (v := .bool true) rfl (by exact (.tmp (AF_ev rfl hs6) .nil)) ?_
              have hst := hst.drop
              have hst := hst.drop
              exact ⟨p, hp0, rfl, hst⟩
          · skip
            refine CW.region ?_
            refine RW.soft Wd.a (v := .int .i64 (ia7 + ((m : Nat) : Int))) (by exact E.move (AF_ev rfl hs18)) ?_
            refine RW.soft Wd.a (v := .int .i64 kk14) (by exact E.move (AF_ev rfl (up rfl hs11))) ?_
            refine RW.soft Wd.a (v := .bool false) (by exact E.b (a := decide ((ia7 + ((m : Nat) : Int)) ≤ kk14)) (E.leq (k := .i64) (a := ia7 + ((m : Nat) : Int)) (b := kk14) (AF_ev rfl (up rfl tp)) (AF_ev rfl tp)) hle1) ?_
            refine RW.soft Wd.a (v := .bool false) (by exact E.move (AF_ev rfl tp)) ?_
            refine RW.pass (by exact Wd.no (x := 166) (b := false) rfl (AF_ev rfl tp) rfl) ?_
            refine RW.pass (by exact Wd.no (x := 166) (b := false) rfl (AF_ev rfl (up rfl tp)) rfl) ?_
            refine RW.pass (by exact Wd.no (x := 166) (b := false) rfl (AF_ev rfl (up rfl (up rfl tp))) rfl) ?_
            refine RW.pass (by exact Wd.no (x := 166) (b := false) rfl (AF_ev rfl (up rfl (up rfl (up rfl tp)))) rfl) ?_
            refine RW.soft Wd.a (v := .bool false) (by exact E.pickF (AF_ev rfl (up rfl (up rfl (up rfl (up rfl tp))))) rfl) ?_
            refine RW.fin (fun τ => τ 8 = .pointer (some ⟨b8, 0, none⟩) ∧ τ 9 = .pointer (some ⟨b10, 0, none⟩) ∧ τ 11 = .int .i64 kk14 ∧ τ 18 = .int .i64 (ia7 + ((m : Nat) : Int)) ∧ τ 171 = .bool false) ⟨up rfl (up rfl (up rfl (up rfl (up rfl (up rfl (up rfl (up rfl (up rfl hs8)))))))), up rfl (up rfl (up rfl (up rfl (up rfl (up rfl (up rfl (up rfl (up rfl hs9)))))))), up rfl (up rfl (up rfl (up rfl (up rfl (up rfl (up rfl (up rfl (up rfl hs11)))))))), up rfl (up rfl (up rfl (up rfl (up rfl (up rfl (up rfl (up rfl (up rfl hs18)))))))), tp⟩ ?_
            rintro τ ⟨hs8, hs9, hs11, hs18, hs171⟩
            refine CW.condF (AF_ev rfl hs171) ?_
            refine CW.exit ?_
            refine Th.x ?_
            refine Th.x ?_
            refine Bl.x ?_
            refine Th.n ?_
            refine CW.seq ?_
            refine CW.region ?_
            refine RW.soft Wd.a (v := .bool true) (by exact E.assign rfl) ?_
            refine RW.fin (fun τ => τ 6 = .bool true ∧ τ 8 = .pointer (some ⟨b8, 0, none⟩) ∧ τ 9 = .pointer (some ⟨b10, 0, none⟩) ∧ τ 11 = .int .i64 kk14 ∧ τ 18 = .int .i64 (ia7 + ((m : Nat) : Int)) ∧ τ 171 = .bool false) ⟨tp, up rfl hs8, up rfl hs9, up rfl hs11, up rfl hs18, up rfl hs171⟩ ?_
            rintro τ ⟨hs6, hs8, hs9, hs11, hs18, hs171⟩
            refine CW.ret ?_
            refine ret1 (v := .bool true) rfl (by exact (.tmp (AF_ev rfl hs6) .nil)) ?_
            have hst := hst.drop
            have hst := hst.drop
            exact ⟨p, hp0, rfl, hst⟩
      · skip
        have hfar_ := of_decide_eq_false hfar
        have hcl_ := ne_true_of_eq_false hcl
        have hfj_ := of_decide_eq_false hfj
        refine CW.region ?_
        refine RW.soft Wd.a (v := .pointer (some ⟨b8, 0, none⟩)) (by exact E.move (AF_ev rfl hs8)) ?_
        refine RW.soft Wd.a (v := .int .i64 kk14) (by exact E.move (AF_ev rfl (up rfl hs11))) ?_
        refine RW.soft Wd.a (v := .pointer (some ⟨b2, 2, none⟩)) (by exact E.fieldAddr (b := b2) (o := 0) (f := { name := "Term", type := 3, offset := 2, embedded := false, tag := "", pkgPath := "", byteOffset := 16 }) (AF_ev rfl (up rfl (up rfl hs5))) Try.underlying46 rfl sz3 rfl) ?_
        refine RW.soft Wd.a (v := .int .i64 tm) (by exact E.load (a := ⟨b2, 2, none⟩) Try.underlying3 rfl (AF_ev rfl tp) (hst.cell (.there (.there (.there (.there (.there (.there .here)))))) rfl)) ?_
        refine RW.soft Wd.a (v := .slice X11 es13.length c12) (by exact E.move (AF_ev rfl (up rfl (up rfl (up rfl (up rfl hs10)))))) ?_
        have hst := hst.take (.there (.there .here))
        have hst := hst.take (.there .here)
        refine RW.hard Wd.a ?_
        refine H.call0 Try.func29 nm29 rfl (map4 (AF_ev rfl (up rfl (up rfl (up rfl (up rfl tp))))) (AF_ev rfl (up rfl (up rfl (up rfl tp)))) (AF_ev rfl (up rfl tp)) (AF_ev rfl tp)) (Calls.mono (ent_Join_new kk14 tm (by omega) (by omega) Own.tells hokes13 hfar_ hcl_ hfj_ hst) ?_)
        rintro _ w ⟨p, es19, FF, hle, rfl, hvj, hFF, hle2, hst⟩
        have hp0 := hp0.le hle
        have hL := hL.le hle
        have hEL := hEL.le hle
        have hL2 := hL2.le hle
        have hEL2 := hEL2.le hle
        have hokes6 := hokes6.le hle
        have hokes13 := hokes13.le hle
        have hst := logLe hle (hst.take (.there (.there .here)))
        refine ⟨_, rfl, ?_⟩
        show RW _ _ _ _ _ _ _
        refine RW.soft Wd.a (v := .tuple #[.int .i64 (kk14 + ((es13.length : Nat) : Int)), .int .i64 FF, .bool true]) (by exact E.move (AF_ev rfl tp)) ?_
        refine RW.soft Wd.a (v := .int .i64 (kk14 + ((es13.length : Nat) : Int))) (by exact E.extract (vs := #[.int .i64 (kk14 + ((es13.length : Nat) : Int)), .int .i64 FF, .bool true]) (AF_ev rfl tp) rfl) ?_
        refine RW.soft Wd.a (v := .int .i64 FF) (by exact E.extract (vs := #[.int .i64 (kk14 + ((es13.length : Nat) : Int)), .int .i64 FF, .bool true]) (AF_ev rfl (up rfl tp)) rfl) ?_
        refine RW.soft Wd.a (v := .bool true) (by exact E.extract (vs := #[.int .i64 (kk14 + ((es13.length : Nat) : Int)), .int .i64 FF, .bool true]) (AF_ev rfl (up rfl (up rfl tp))) rfl) ?_
        refine RW.soft Wd.a (v := .int .i64 (kk14 + ((es13.length : Nat) : Int))) (by exact E.assign (AF_ev rfl (up rfl (up rfl tp)))) ?_
        refine RW.soft Wd.a (v := .int .i64 FF) (by exact E.assign (AF_ev rfl (up rfl (up rfl tp)))) ?_
        refine RW.soft Wd.a (v := .bool true) (by exact E.assign (AF_ev rfl (up rfl (up rfl tp)))) ?_
        refine RW.fin (fun τ => τ 0 = .agg #[.int .i64 i0, .int .i64 t0] ∧ τ 1 = .slice X l.length c ∧ τ 2 = .agg #[.int .i64 kd, .int .i64 ix, .int .i64 tm, .slice Z z.length d] ∧ τ 3 = .pointer (some ⟨b1, 0, none⟩) ∧ τ 5 = .pointer (some ⟨b2, 0, none⟩) ∧ τ 6 = .bool false ∧ τ 7 = .bool true ∧ τ 8 = .pointer (some ⟨b8, 0, none⟩) ∧ τ 9 = .pointer (some ⟨b10, 0, none⟩) ∧ τ 10 = .slice X11 es13.length c12 ∧ τ 11 = .int .i64 kk14 ∧ τ 12 = .int .i64 (kk14 + ((es13.length : Nat) : Int)) ∧ τ 13 = .int .i64 FF ∧ τ 14 = .bool true ∧ τ 37 = .bool false ∧ τ 41 = .bool false) ⟨up rfl (up rfl (up rfl (up rfl (up rfl (up rfl (up rfl (up rfl (up rfl (up rfl (up rfl (up rfl (up rfl hs0)))))))))))), up rfl (up rfl (up rfl (up rfl (up rfl (up rfl (up rfl (up rfl (up rfl (up rfl (up rfl (up rfl (up rfl hs1)))))))))))), up rfl (up rfl (up rfl (up rfl (up rfl (up rfl (up rfl (up rfl (up rfl (up rfl (up rfl (up rfl (up rfl hs2)))))))))))), up rfl (up rfl (up rfl (up rfl (up rfl (up rfl (up rfl (up rfl (up rfl (up rfl (up rfl (up rfl (up rfl hs3)))))))))))), up rfl (up rfl (up rfl (up rfl (up rfl (up rfl (up rfl (up rfl (up rfl (up rfl (up rfl (up rfl (up rfl hs5)))))))))))), up rfl (up rfl (up rfl (up rfl (up rfl (up rfl (up rfl (up rfl (up rfl (up rfl (up rfl (up rfl (up rfl hs6)))))))))))), up rfl (up rfl (up rfl (up rfl (up rfl (up rfl (up rfl (up rfl (up rfl (up rfl (up rfl (up rfl (up rfl hs7)))))))))))), up rfl (up rfl (up rfl (up rfl (up rfl (up rfl (up rfl (up rfl (up rfl (up rfl (up rfl (up rfl (up rfl hs8)))))))))))), up rfl (up rfl (up rfl (up rfl (up rfl (up rfl (up rfl (up rfl (up rfl (up rfl (up rfl (up rfl (up rfl hs9)))))))))))), up rfl (up rfl (up rfl (up rfl (up rfl (up rfl (up rfl (up rfl (up rfl (up rfl (up rfl (up rfl (up rfl hs10)))))))))))), up rfl (up rfl (up rfl (up rfl (up rfl (up rfl (up rfl (up rfl (up rfl (up rfl (up rfl (up rfl (up rfl hs11)))))))))))), up rfl (up rfl tp), up rfl tp, tp, up rfl (up rfl (up rfl (up rfl (up rfl (up rfl (up rfl (up rfl (up rfl (up rfl (up rfl (up rfl (up rfl hs37)))))))))))), up rfl (up rfl (up rfl (up rfl (up rfl (up rfl (up rfl (up rfl (up rfl (up rfl (up rfl (up rfl (up rfl hs41))))))))))))⟩ ?_
        rintro τ ⟨hs0, hs1, hs2, hs3, hs5, hs6, hs7, hs8, hs9, hs10, hs11, hs12, hs13, hs14, hs37, hs41⟩
        refine CW.seq ?_
        refine CW.seq ?_
        refine CW.region ?_
        refine RW.soft Wd.a (v := .bool true) (by exact E.move (AF_ev rfl hs14)) ?_
        refine RW.soft Wd.a (v := .bool false) (by exact E.not (b := true) (AF_ev rfl tp)) ?_
        refine RW.fin (fun τ => τ 0 = .agg #[.int .i64 i0, .int .i64 t0] ∧ τ 1 = .slice X l.length c ∧ τ 2 = .agg #[.int .i64 kd, .int .i64 ix, .int .i64 tm, .slice Z z.length d] ∧ τ 3 = .pointer (some ⟨b1, 0, none⟩) ∧ τ 5 = .pointer (some ⟨b2, 0, none⟩) ∧ τ 6 = .bool false ∧ τ 7 = .bool true ∧ τ 8 = .pointer (some ⟨b8, 0, none⟩) ∧ τ 9 = .pointer (some ⟨b10, 0, none⟩) ∧ τ 10 = .slice X11 es13.length c12 ∧ τ 11 = .int .i64 kk14 ∧ τ 12 = .int .i64 (kk14 + ((es13.length : Nat) : Int)) ∧ τ 13 = .int .i64 FF ∧ τ 14 = .bool true ∧ τ 37 = .bool false ∧ τ 41 = .bool false ∧ τ 59 = .bool false) ⟨up rfl (up rfl hs0), up rfl (up rfl hs1), up rfl (up rfl hs2), up rfl (up rfl hs3), up rfl (up rfl hs5), up rfl (up rfl hs6), up rfl (up rfl hs7), up rfl (up rfl hs8), up rfl (up rfl hs9), up rfl (up rfl hs10), up rfl (up rfl hs11), up rfl (up rfl hs12), up rfl (up rfl hs13), up rfl (up rfl hs14), up rfl (up rfl hs37), up rfl (up rfl hs41), tp⟩ ?_
        rintro τ ⟨hs0, hs1, hs2, hs3, hs5, hs6, hs7, hs8, hs9, hs10, hs11, hs12, hs13, hs14, hs37, hs41, hs59⟩
        refine CW.condF (AF_ev rfl hs59) ?_
        refine CW.skip ?_
        refine Th.n ?_
        refine CW.seq ?_
        refine CW.seq ?_
        refine CW.region ?_
        refine RW.soft Wd.a (v := .int .i64 (kk14 + ((es13.length : Nat) : Int))) (by exact E.move (AF_ev rfl hs12)) ?_
        refine RW.soft Wd.a (v := .int .i64 kk14) (by exact E.move (AF_ev rfl (up rfl hs11))) ?_
        refine RW.soft Wd.a (v := .slice X11 es13.length c12) (by exact E.move (AF_ev rfl (up rfl (up rfl hs10)))) ?_
        refine RW.soft Wd.a (v := .int .i64 ((es13.length : Nat) : Int)) (by exact E.lenS (p := X11) (l := es13.length) (c := c12) Try.underlying44 (AF_ev rfl tp)) ?_
        refine RW.soft Wd.a (v := .int .i64 (kk14 + ((es13.length : Nat) : Int))) (by exact E.add (k := .i64) (a := kk14) (b := ((es13.length : Nat) : Int)) (AF_ev rfl (up rfl (up rfl tp))) (AF_ev rfl tp) (show IntKind.i64.wrap (kk14 + ((es13.length : Nat) : Int)) = kk14 + ((es13.length : Nat) : Int) from (by rw [IntWalk.i64_in _ (by omega)]))) ?_
        refine RW.soft Wd.a (v := .bool false) (by exact E.b (a := (kk14 + ((es13.length : Nat) : Int)) != (kk14 + ((es13.length : Nat) : Int))) (E.neq (k := .i64) (a := kk14 + ((es13.length : Nat) : Int)) (b := kk14 + ((es13.length : Nat) : Int)) (AF_ev rfl (up rfl (up rfl (up rfl (up rfl tp))))) (AF_ev rfl tp)) (by simp)) ?_
        refine RW.soft Wd.a (v := .bool false) (by exact E.move (AF_ev rfl tp)) ?_
        refine RW.soft (by exact Wd.yes (x := 94) rfl (AF_ev rfl tp)) (v := .int .i64 FF) (by exact E.move (AF_ev rfl (up rfl (up rfl (up rfl (up rfl (up rfl (up rfl (up rfl hs13))))))))) ?_
        refine RW.soft (by exact Wd.yes (x := 94) rfl (AF_ev rfl (up rfl tp))) (v := .bool true) (by exact E.b (a := FF != 0) (E.neq (k := .i64) (a := FF) (b := 0) (AF_ev rfl tp) rfl) (by rw [bne_iff_ne]; omega)) ?_
        refine RW.soft (by exact Wd.yes (x := 94) rfl (AF_ev rfl (up rfl (up rfl tp)))) (v := .bool true) (by exact E.move (AF_ev rfl tp)) ?_
        refine RW.soft (by exact Wd.yes (x := 97) rfl (AF_ev rfl tp)) (v := .int .i64 FF) (by exact E.move (AF_ev rfl (up rfl (up rfl (up rfl (up rfl (up rfl (up rfl (up rfl (up rfl (up rfl (up rfl hs13)))))))))))) ?_
        refine RW.soft (by exact Wd.yes (x := 97) rfl (AF_ev rfl (up rfl tp))) (v := .int .i64 kk14) (by exact E.move (AF_ev rfl (up rfl (up rfl (up rfl (up rfl (up rfl (up rfl (up rfl (up rfl (up rfl (up rfl (up rfl hs11))))))))))))) ?_
        refine RW.soft (by exact Wd.yes (x := 97) rfl (AF_ev rfl (up rfl (up rfl tp)))) (v := .bool false) (by exact E.b (a := decide (FF ≤ kk14)) (E.leq (k := .i64) (a := FF) (b := kk14) (AF_ev rfl (up rfl tp)) (AF_ev rfl tp)) (decide_eq_false (by omega))) ?_
        refine RW.soft (by exact Wd.yes (x := 97) rfl (AF_ev rfl (up rfl (up rfl (up rfl tp))))) (v := .bool false) (by exact E.move (AF_ev rfl tp)) ?_
        refine RW.soft (by exact Wd.yes (x := 101) rfl (AF_ev rfl tp)) (v := .int .i64 FF) (by exact E.move (AF_ev rfl (up rfl (up rfl (up rfl (up rfl (up rfl (up rfl (up rfl (up rfl (up rfl (up rfl (up rfl (up rfl (up rfl (up rfl hs13)))))))))))))))) ?_
        refine RW.soft (by exact Wd.yes (x := 101) rfl (AF_ev rfl (up rfl tp))) (v := .int .i64 (kk14 + ((es13.length : Nat) : Int))) (by exact E.move (AF_ev rfl (up rfl (up rfl (up rfl (up rfl (up rfl (up rfl (up rfl (up rfl (up rfl (up rfl (up rfl (up rfl (up rfl (up rfl (up rfl hs12))))))))))))))))) ?_
        refine RW.soft (by exact Wd.yes (x := 101) rfl (AF_ev rfl (up rfl (up rfl tp)))) (v := .bool false) (by exact E.b (a := decide (FF > (kk14 + ((es13.length : Nat) : Int)))) (E.gtr (k := .i64) (a := FF) (b := kk14 + ((es13.length : Nat) : Int)) (AF_ev rfl (up rfl tp)) (AF_ev rfl tp)) (decide_eq_false (by omega))) ?_
        refine RW.soft (by exact Wd.yes (x := 97) rfl (AF_ev rfl (up rfl (up rfl (up rfl (up rfl (up rfl (up rfl (up rfl tp))))))))) (v := .bool false) (by exact E.pickF (AF_ev rfl (up rfl (up rfl (up rfl tp)))) (AF_ev rfl tp)) ?_
        refine RW.soft (by exact Wd.yes (x := 97) rfl (AF_ev rfl (up rfl (up rfl (up rfl (up rfl (up rfl (up rfl (up rfl (up rfl tp)))))))))) (v := .bool false) (by exact E.move (AF_ev rfl tp)) ?_
        refine RW.soft (by exact Wd.yes (x := 106) rfl (AF_ev rfl tp)) (v := .pointer (some ⟨b8, 0, none⟩)) (by exact E.move (AF_ev rfl (up rfl (up rfl (up rfl (up rfl (up rfl (up rfl (up rfl (up rfl (up rfl (up rfl (up rfl (up rfl (up rfl (up rfl (up rfl (up rfl (up rfl (up rfl (up rfl hs8))))))))))))))))))))) ?_
        have hst := hst.take (.there .here)
        refine RW.hard (by exact Wd.yes (x := 106) rfl (AF_ev rfl (up rfl tp))) ?_
        refine H.call0 Try.func30 nm30 rfl (map1 (AF_ev rfl tp)) (Calls.mono (ent_LastL (v := ia7 + ((es19.length : Nat) : Int)) rfl hst) ?_)
        rintro _ w ⟨rfl, hst⟩
        refine ⟨_, rfl, ?_⟩
        show RW _ _ _ _ _ _ _
        refine RW.soft (by exact Wd.yes (x := 106) rfl (AF_ev rfl (up rfl (up rfl tp)))) (v := .int .i64 (kk14 + ((es13.length : Nat) : Int))) (by exact E.move (AF_ev rfl (up rfl (up rfl (up rfl (up rfl (up rfl (up rfl (up rfl (up rfl (up rfl (up rfl (up rfl (up rfl (up rfl (up rfl (up rfl (up rfl (up rfl (up rfl (up rfl (up rfl (up rfl hs12))))))))))))))))))))))) ?_
        refine RW.soft (by exact Wd.yes (x := 106) rfl (AF_ev rfl (up rfl (up rfl (up rfl tp))))) (v := .bool false) (by exact E.b (a := (ia7 + ((es19.length : Nat) : Int)) != (kk14 + ((es13.length : Nat) : Int))) (E.neq (k := .i64) (a := ia7 + ((es19.length : Nat) : Int)) (b := kk14 + ((es13.length : Nat) : Int)) (AF_ev rfl (up rfl tp)) (AF_ev rfl tp)) (by rw [bne_eq_false_iff_eq]; omega)) ?_
        refine RW.soft (by exact Wd.yes (x := 97) rfl (AF_ev rfl (up rfl (up rfl (up rfl (up rfl (up rfl (up rfl (up rfl (up rfl (up rfl (up rfl (up rfl (up rfl (up rfl tp))))))))))))))) (v := .bool false) (by exact E.pickF (AF_ev rfl (up rfl (up rfl (up rfl (up rfl tp))))) (AF_ev rfl tp)) ?_
        refine RW.soft (by exact Wd.yes (x := 94) rfl (AF_ev rfl (up rfl (up rfl (up rfl (up rfl (up rfl (up rfl (up rfl (up rfl (up rfl (up rfl (up rfl (up rfl (up rfl (up rfl (up rfl (up rfl (up rfl tp))))))))))))))))))) (v := .bool false) (by exact E.pickT (AF_ev rfl (up rfl (up rfl (up rfl (up rfl (up rfl (up rfl (up rfl (up rfl (up rfl (up rfl (up rfl (up rfl (up rfl (up rfl tp))))))))))))))) (AF_ev rfl tp)) ?_
        refine RW.soft Wd.a (v := .bool false) (by exact E.pickF (AF_ev rfl (up rfl (up rfl (up rfl (up rfl (up rfl (up rfl (up rfl (up rfl (up rfl (up rfl (up rfl (up rfl (up rfl (up rfl (up rfl (up rfl (up rfl (up rfl tp))))))))))))))))))) (AF_ev rfl tp)) ?_
        refine RW.soft Wd.a (v := .bool false) (by exact E.move (AF_ev rfl tp)) ?_
        refine RW.soft (by exact Wd.yes (x := 114) rfl (AF_ev rfl tp)) (v := .int .i64 FF) (by exact E.move (AF_ev rfl (up rfl (up rfl (up rfl (up rfl (up rfl (up rfl (up rfl (up rfl (up rfl (up rfl (up rfl (up rfl (up rfl (up rfl (up rfl (up rfl (up rfl (up rfl (up rfl (up rfl (up rfl (up rfl (up rfl (up rfl (up rfl (up rfl (up rfl hs13))))))))))))))))))))))))))))) ?_
        refine RW.soft (by exact Wd.yes (x := 114) rfl (AF_ev rfl (up rfl tp))) (v := .bool false) (by exact E.b (a := FF == 0) (E.eql (k := .i64) (a := FF) (b := 0) (AF_ev rfl tp) rfl) (by rw [beq_eq_false_iff_ne]; omega)) ?_
        refine RW.soft (by exact Wd.yes (x := 114) rfl (AF_ev rfl (up rfl (up rfl tp)))) (v := .bool false) (by exact E.move (AF_ev rfl tp)) ?_
        refine RW.pass (by exact Wd.no (x := 117) (b := false) rfl (AF_ev rfl tp) rfl) ?_
        refine RW.pass (by exact Wd.no (x := 117) (b := false) rfl (AF_ev rfl (up rfl tp)) rfl) ?_
        refine RW.pass (by exact Wd.no (x := 117) (b := false) rfl (AF_ev rfl (up rfl (up rfl tp))) rfl) ?_
        refine RW.pass (by exact Wd.no (x := 117) (b := false) rfl (AF_ev rfl (up rfl (up rfl (up rfl tp)))) rfl) ?_
        refine RW.pass (by exact Wd.no (x := 117) (b := false) rfl (AF_ev rfl (up rfl (up rfl (up rfl (up rfl tp))))) rfl) ?_
        refine RW.soft (by exact Wd.yes (x := 114) rfl (AF_ev rfl (up rfl (up rfl (up rfl (up rfl (up rfl (up rfl (up rfl (up rfl tp)))))))))) (v := .bool false) (by exact E.pickF (AF_ev rfl (up rfl (up rfl (up rfl (up rfl (up rfl tp)))))) rfl) ?_
        refine RW.soft Wd.a (v := .bool false) (by exact E.pickF (AF_ev rfl (up rfl (up rfl (up rfl (up rfl (up rfl (up rfl (up rfl (up rfl (up rfl tp)))))))))) (AF_ev rfl tp)) ?_
        refine RW.fin (fun τ => τ 0 = .agg #[.int .i64 i0, .int .i64 t0] ∧ τ 1 = .slice X l.length c ∧ τ 2 = .agg #[.int .i64 kd, .int .i64 ix, .int .i64 tm, .slice Z z.length d] ∧ τ 3 = .pointer (some ⟨b1, 0, none⟩) ∧ τ 5 = .pointer (some ⟨b2, 0, none⟩) ∧ τ 6 = .bool false ∧ τ 7 = .bool true ∧ τ 8 = .pointer (some ⟨b8, 0, none⟩) ∧ τ 9 = .pointer (some ⟨b10, 0, none⟩) ∧ τ 10 = .slice X11 es13.length c12 ∧ τ 11 = .int .i64 kk14 ∧ τ 12 = .int .i64 (kk14 + ((es13.length : Nat) : Int)) ∧ τ 13 = .int .i64 FF ∧ τ 14 = .bool true ∧ τ 37 = .bool false ∧ τ 41 = .bool false ∧ τ 59 = .bool false ∧ τ 124 = .bool false) ⟨up rfl (up rfl (up rfl (up rfl (up rfl (up rfl (up rfl (up rfl (up rfl (up rfl (up rfl (up rfl (up rfl (up rfl (up rfl (up rfl (up rfl (up rfl (up rfl (up rfl (up rfl (up rfl (up rfl (up rfl (up rfl (up rfl (up rfl (up rfl (up rfl (up rfl (up rfl (up rfl (up rfl (up rfl (up rfl (up rfl (up rfl hs0)))))))))))))))))))))))))))))))))))), up rfl (up rfl (up rfl (up rfl (up rfl (up rfl (up rfl (up rfl (up rfl (up rfl (up rfl (up rfl (up rfl (up rfl (up rfl (up rfl (up rfl (up rfl (up rfl (up rfl (up rfl (up rfl (up rfl (up rfl (up rfl (up rfl (up rfl (up rfl (up rfl (up rfl (up rfl (up rfl (up rfl (up rfl (up rfl (up rfl (up rfl hs1)))))))))))))))))))))))))))))))))))), up rfl (up rfl (up rfl (up rfl (up rfl (up rfl (up rfl (up rfl (up rfl (up rfl (up rfl (up rfl (up rfl (up rfl (up rfl (up rfl (up rfl (up rfl (up rfl (up rfl (up rfl (up rfl (up rfl (up rfl (up rfl (up rfl (up rfl (up rfl (up rfl (up rfl (up rfl (up rfl (up rfl (up rfl (up rfl (up rfl (up rfl hs2)))))))))))))))))))))))))))))))))))), up rfl (up rfl (up rfl (up rfl (up rfl (up rfl (up rfl (up rfl (up rfl (up rfl (up rfl (up rfl (up rfl (up rfl (up rfl (up rfl (up rfl (up rfl (up rfl (up rfl (up rfl (up rfl (up rfl (up rfl (up rfl (up rfl (up rfl (up rfl (up rfl (up rfl (up rfl (up rfl (up rfl (up rfl (up rfl (up rfl (up rfl hs3)))))))))))))))))))))))))))))))))))), up rfl (up rfl (up rfl (up rfl (up rfl (up rfl (up rfl (up rfl (up rfl (up rfl (up rfl (up rfl (up rfl (up rfl (up rfl (up rfl (up rfl (up rfl (up rfl (up rfl (up rfl (up rfl (up rfl (up rfl (up rfl (up rfl (up rfl (up rfl (up rfl (up rfl (up rfl (up rfl (up rfl (up rfl (up rfl (up rfl (up rfl hs5)))))))))))))))))))))))))))))))))))), up rfl (up rfl (up rfl (up rfl (up rfl (up rfl (up rfl (up rfl (up rfl (up rfl (up rfl (up rfl (up rfl (up rfl (up rfl (up rfl (up rfl (up rfl (up rfl (up rfl (up rfl (up rfl (up rfl (up rfl (up rfl (up rfl (up rfl (up rfl (up rfl (up rfl (up rfl (up rfl (up rfl (up rfl (up rfl (up rfl (up rfl hs6)))))))))))))))))))))))))))))))))))), up rfl (up rfl (up rfl (up rfl (up rfl (up rfl (up rfl (up rfl (up rfl (up rfl (up rfl (up rfl (up rfl (up rfl (up rfl (up rfl (up rfl (up rfl (up rfl (up rfl (up rfl (up rfl (up rfl (up rfl (up rfl (up rfl (up rfl (up rfl (up rfl (up rfl (up rfl (up rfl (up rfl (up rfl (up rfl (up rfl (up rfl hs7)))))))))))))))))))))))))))))))))))), up rfl (up rfl (up rfl (up rfl (up rfl (up rfl (up rfl (up rfl (up rfl (up rfl (up rfl (up rfl (up rfl (up rfl (up rfl (up rfl (up rfl (up rfl (up rfl (up rfl (up rfl (up rfl (up rfl (up rfl (up rfl (up rfl (up rfl (up rfl (up rfl (up rfl (up rfl (up rfl (up rfl (up rfl (up rfl (up rfl (up rfl hs8)))))))))))))))))))))))))))))))))))), up rfl (up rfl (up rfl (up rfl (up rfl (up rfl (up rfl (up rfl (up rfl (up rfl (up rfl (up rfl (up rfl (up rfl (up rfl (up rfl (up rfl (up rfl (up rfl (up rfl (up rfl (up rfl (up rfl (up rfl (up rfl (up rfl (up rfl (up rfl (up rfl (up rfl (up rfl (up rfl (up rfl (up rfl (up rfl (up rfl (up rfl hs9)))))))))))))))))))))))))))))))))))), up rfl (up rfl (up rfl (up rfl (up rfl (up rfl (up rfl (up rfl (up rfl (up rfl (up rfl (up rfl (up rfl (up rfl (up rfl (up rfl (up rfl (up rfl (up rfl (up rfl (up rfl (up rfl (up rfl (up rfl (up rfl (up rfl (up rfl (up rfl (up rfl (up rfl (up rfl (up rfl (up rfl (up rfl (up rfl (up rfl (up rfl hs10)))))))))))))))))))))))))))))))))))), up rfl (up rfl (up rfl (up rfl (up rfl (up rfl (up rfl (up rfl (up rfl (up rfl (up rfl (up rfl (up rfl (up rfl (up rfl (up rfl (up rfl (up rfl (up rfl (up rfl (up rfl (up rfl (up rfl (up rfl (up rfl (up rfl (up rfl (up rfl (up rfl (up rfl (up rfl (up rfl (up rfl (up rfl (up rfl (up rfl (up rfl hs11)))))))))))))))))))))))))))))))))))), up rfl (up rfl (up rfl (up rfl (up rfl (up rfl (up rfl (up rfl (up rfl (up rfl (up rfl (up rfl (up rfl (up rfl (up rfl (up rfl (up rfl (up rfl (up rfl (up rfl (up rfl (up rfl (up rfl (up rfl (up rfl (up rfl (up rfl (up rfl (up rfl (up rfl (up rfl (up rfl (up rfl (up rfl (up rfl (up rfl (up rfl hs12)))))))))))))))))))))))))))))))))))), up rfl (up rfl (up rfl (up rfl (up rfl (up rfl (up rfl (up rfl (up rfl (up rfl (up rfl (up rfl (up rfl (up rfl (up rfl (up rfl (up rfl (up rfl (up rfl (up rfl (up rfl (up rfl (up rfl (up rfl (up rfl (up rfl (up rfl (up rfl (up rfl (up rfl (up rfl (up rfl (up rfl (up rfl (up rfl (up rfl (up rfl hs13)))))))))))))))))))))))))))))))))))), up rfl (up rfl (up rfl (up rfl (up rfl (up rfl (up rfl (up rfl (up rfl (up rfl (up rfl (up rfl (up rfl (up rfl (up rfl (up rfl (up rfl (up rfl (up rfl (up rfl (up rfl (up rfl (up rfl (up rfl (up rfl (up rfl (up rfl (up rfl (up rfl (up rfl (up rfl (up rfl (up rfl (up rfl (up rfl (up rfl (up rfl hs14)))))))))))))))))))))))))))))))))))), up rfl (up rfl (up rfl (up rfl (up rfl (up rfl (up rfl (up rfl (up rfl (up rfl (up rfl (up rfl (up rfl (up rfl (up rfl (up rfl (up rfl (up rfl (up rfl (up rfl (up rfl (up rfl (up rfl (up rfl (up rfl (up rfl (up rfl (up rfl (up rfl (up rfl (up rfl (up rfl (up rfl (up rfl (up rfl (up rfl (up rfl hs37)))))))))))))))))))))))))))))))))))), up rfl (up rfl (up rfl (up rfl (up rfl (up rfl (up rfl (up rfl (up rfl (up rfl (up rfl (up rfl (up rfl (up rfl (up rfl (up rfl (up rfl (up rfl (up rfl (up rfl (up rfl (up rfl (up rfl (up rfl (up rfl (up rfl (up rfl (up rfl (up rfl (up rfl (up rfl (up rfl (up rfl (up rfl (up rfl (up rfl (up rfl hs41)))))))))))))))))))))))))))))))))))), up rfl (up rfl (up rfl (up rfl (up rfl (up rfl (up rfl (up rfl (up rfl (up rfl (up rfl (up rfl (up rfl (up rfl (up rfl (up rfl (up rfl (up rfl (up rfl (up rfl (up rfl (up rfl (up rfl (up rfl (up rfl (up rfl (up rfl (up rfl (up rfl (up rfl (up rfl (up rfl (up rfl (up rfl (up rfl (up rfl (up rfl hs59)))))))))))))))))))))))))))))))))))), tp⟩ ?_
        rintro τ ⟨hs0, hs1, hs2, hs3, hs5, hs6, hs7, hs8, hs9, hs10, hs11, hs12, hs13, hs14, hs37, hs41, hs59, hs124⟩
        refine CW.condF (AF_ev rfl hs124) ?_
        refine CW.skip ?_
        refine Th.n ?_
        refine CW.seq ?_
        refine CW.seq ?_
        refine CW.region ?_
        refine RW.soft Wd.a (v := .int .i64 0) (by exact E.assign rfl) ?_
        refine RW.fin (fun τ => τ 0 = .agg #[.int .i64 i0, .int .i64 t0] ∧ τ 1 = .slice X l.length c ∧ τ 2 = .agg #[.int .i64 kd, .int .i64 ix, .int .i64 tm, .slice Z z.length d] ∧ τ 3 = .pointer (some ⟨b1, 0, none⟩) ∧ τ 5 = .pointer (some ⟨b2, 0, none⟩) ∧ τ 6 = .bool false ∧ τ 7 = .bool true ∧ τ 8 = .pointer (some ⟨b8, 0, none⟩) ∧ τ 9 = .pointer (some ⟨b10, 0, none⟩) ∧ τ 10 = .slice X11 es13.length c12 ∧ τ 11 = .int .i64 kk14 ∧ τ 12 = .int .i64 (kk14 + ((es13.length : Nat) : Int)) ∧ τ 13 = .int .i64 FF ∧ τ 14 = .bool true ∧ τ 15 = .int .i64 0 ∧ τ 37 = .bool false ∧ τ 41 = .bool false ∧ τ 59 = .bool false ∧ τ 124 = .bool false) ⟨up rfl hs0, up rfl hs1, up rfl hs2, up rfl hs3, up rfl hs5, up rfl hs6, up rfl hs7, up rfl hs8, up rfl hs9, up rfl hs10, up rfl hs11, up rfl hs12, up rfl hs13, up rfl hs14, tp, up rfl hs37, up rfl hs41, up rfl hs59, up rfl hs124⟩ ?_
        rintro τ ⟨hs0, hs1, hs2, hs3, hs5, hs6, hs7, hs8, hs9, hs10, hs11, hs12, hs13, hs14, hs15, hs37, hs41, hs59, hs124⟩
        refine CW.block ?_
        have hst := hst.take (.there (.there .here))
        have hst := hst.take (.there (.there .here))
        have hst := hst.take (.there (.there .here))
        have hst := (hst.take (.there (.there (.there .here)))).drop
        have hst := (hst.take (.there (.there (.there .here)))).drop
        have hst := (hst.take (.there (.there (.there .here)))).drop
        have hst := (hst.take (.there (.there (.there .here)))).drop
        have hst := (hst.take (.there (.there (.there .here)))).drop
        refine CW.loop (fun (k : Nat) (τ : Fr) (w : World) => ∃ (j : Nat), j ≤ es13.length ∧ k = es13.length - j ∧ τ 8 = .pointer (some ⟨b8, 0, none⟩) ∧ τ 9 = .pointer (some ⟨b10, 0, none⟩) ∧ τ 10 = .slice X11 es13.length c12 ∧ τ 11 = .int .i64 kk14 ∧ τ 15 = .int .i64 ((j : Nat) : Int) ∧ St p w (LogB p b8 ia7 t0 es19 :: LogB p b10 ia7 t0 es9 :: Own 58 4 (.slice X11 es13.length c12) es13.length (flat es13) :: R)) (es13.length - 0) ⟨0, by omega, rfl, hs8, hs9, hs10, hs11, (int_eq (a := 0) hs15 (by omega)), hst⟩ ?_
        clear hst
        rintro k τ w ⟨j, hj, hkj, hs8, hs9, hs10, hs11, hs15, hst⟩
        refine CW.seq ?_
        refine CW.seq ?_
        refine CW.region ?_
        refine RW.soft Wd.a (v := .int .i64 ((j : Nat) : Int)) (by exact E.move (AF_ev rfl hs15)) ?_
        refine RW.soft Wd.a (v := .slice X11 es13.length c12) (by exact E.move (AF_ev rfl (up rfl hs10))) ?_
        refine RW.soft Wd.a (v := .int .i64 ((es13.length : Nat) : Int)) (by exact E.lenS (p := X11) (l := es13.length) (c := c12) Try.underlying44 (AF_ev rfl tp)) ?_
        refine RW.soft Wd.a (v := .bool (decide (((j : Nat) : Int) < ((es13.length : Nat) : Int)))) (by exact E.lss (k := .i64) (a := ((j : Nat) : Int)) (b := ((es13.length : Nat) : Int)) (AF_ev rfl (up rfl (up rfl tp))) (AF_ev rfl tp)) ?_
        refine RW.fin (fun τ => τ 8 = .pointer (some ⟨b8, 0, none⟩) ∧ τ 9 = .pointer (some ⟨b10, 0, none⟩) ∧ τ 10 = .slice X11 es13.length c12 ∧ τ 11 = .int .i64 kk14 ∧ τ 15 = .int .i64 ((j : Nat) : Int) ∧ τ 128 = .bool (decide (((j : Nat) : Int) < ((es13.length : Nat) : Int)))) ⟨up rfl (up rfl (up rfl (up rfl hs8))), up rfl (up rfl (up rfl (up rfl hs9))), up rfl (up rfl (up rfl (up rfl hs10))), up rfl (up rfl (up rfl (up rfl hs11))), up rfl (up rfl (up rfl (up rfl hs15))), tp⟩ ?_
        rintro τ ⟨hs8, hs9, hs10, hs11, hs15, hs128⟩
        refine CW.cond (AF_ev rfl hs128) (fun hc20 => ?_) (fun hc20 => ?_)
        · have hc20_ := hc20
          try simp only [decide_eq_true_eq, decide_eq_false_iff_not, Bool.and_eq_true, Bool.or_eq_true, Bool.and_eq_false_iff, Bool.or_eq_false_iff, Bool.not_eq_true', Bool.not_eq_false', beq_iff_eq, beq_eq_false_iff_ne, bne_iff_ne, bne_eq_false_iff_eq, ne_eq, Int.not_lt, Int.not_le, gt_iff_lt, ge_iff_le] at hc20_
          refine CW.skip ?_
          refine Th.n ?_
          refine CW.seq ?_
          refine CW.block ?_
          refine CW.seq ?_
          obtain ⟨z, hz⟩ : ∃ z, es13[j]? = some z := ⟨es13[j]'(by omega), List.getElem?_eq_getElem (by omega)⟩
          have hzt : (ts es13)[j]? = some z.term := by simp [ts, hz]
          have hnf2 : ¬ kk14 > ia7 + ((ts es9).length : Nat) := by rw [ts_len]; omega
          refine CW.region ?_
          refine RW.soft Wd.a (v := .pointer (some ⟨b8, 0, none⟩)) (by exact E.move (AF_ev rfl hs8)) ?_
          refine RW.soft Wd.a (v := .int .i64 kk14) (by exact E.move (AF_ev rfl (up rfl hs11))) ?_
          refine RW.soft Wd.a (v := .int .i64 (kk14 + 1)) (by exact E.add (k := .i64) (a := kk14) (b := 1) (AF_ev rfl tp) rfl (show IntKind.i64.wrap (kk14 + 1) = kk14 + 1 from (by rw [IntWalk.i64_in _ (by omega)]))) ?_
          refine RW.soft Wd.a (v := .int .i64 ((j : Nat) : Int)) (by exact E.move (AF_ev rfl (up rfl (up rfl (up rfl hs15))))) ?_
          refine RW.soft Wd.a (v := .int .i64 (kk14 + 1 + ((j : Nat) : Int))) (by exact E.add (k := .i64) (a := kk14 + 1) (b := ((j : Nat) : Int)) (AF_ev rfl (up rfl tp)) (AF_ev rfl tp) (show IntKind.i64.wrap ((kk14 + 1) + ((j : Nat) : Int)) = kk14 + 1 + ((j : Nat) : Int) from (by rw [IntWalk.i64_in _ (by omega)] <;> omega))) ?_
          refine RW.hard Wd.a ?_
          refine H.call0 Try.func32 nm32 rfl (map2 (AF_ev rfl (up rfl (up rfl (up rfl (up rfl tp))))) (AF_ev rfl tp)) (Calls.mono (ent_TermL (v := termT ia7 t0 (ts es19) (kk14 + 1 + ((j : Nat) : Int))) (u := termE ia7 (ts es19) (kk14 + 1 + ((j : Nat) : Int))) (kk14 + 1 + ((j : Nat) : Int)) (by omega) rfl rfl hst) ?_)
          rintro _ w ⟨rfl, hst⟩
          refine ⟨_, rfl, ?_⟩
          show RW _ _ _ _ _ _ _
          refine RW.soft Wd.a (v := .tuple #[.int .i64 (termT ia7 t0 (ts es19) (kk14 + 1 + ((j : Nat) : Int))), .int .i64 (termE ia7 (ts es19) (kk14 + 1 + ((j : Nat) : Int)))]) (by exact E.move (AF_ev rfl tp)) ?_
          refine RW.soft Wd.a (v := .int .i64 (termT ia7 t0 (ts es19) (kk14 + 1 + ((j : Nat) : Int)))) (by exact E.extract (vs := #[.int .i64 (termT ia7 t0 (ts es19) (kk14 + 1 + ((j : Nat) : Int))), .int .i64 (termE ia7 (ts es19) (kk14 + 1 + ((j : Nat) : Int)))]) (AF_ev rfl tp) rfl) ?_
          refine RW.soft Wd.a (v := .int .i64 (termE ia7 (ts es19) (kk14 + 1 + ((j : Nat) : Int)))) (by exact E.extract (vs := #[.int .i64 (termT ia7 t0 (ts es19) (kk14 + 1 + ((j : Nat) : Int))), .int .i64 (termE ia7 (ts es19) (kk14 + 1 + ((j : Nat) : Int)))]) (AF_ev rfl (up rfl tp)) rfl) ?_
          refine RW.soft Wd.a (v := .int .i64 (termT ia7 t0 (ts es19) (kk14 + 1 + ((j : Nat) : Int)))) (by exact E.assign (AF_ev rfl (up rfl tp))) ?_
          refine RW.soft Wd.a (v := .int .i64 (termE ia7 (ts es19) (kk14 + 1 + ((j : Nat) : Int)))) (by exact E.assign (AF_ev rfl (up rfl tp))) ?_
          refine RW.fin (fun τ => τ 8 = .pointer (some ⟨b8, 0, none⟩) ∧ τ 9 = .pointer (some ⟨b10, 0, none⟩) ∧ τ 10 = .slice X11 es13.length c12 ∧ τ 11 = .int .i64 kk14 ∧ τ 15 = .int .i64 ((j : Nat) : Int) ∧ τ 16 = .int .i64 (termT ia7 t0 (ts es19) (kk14 + 1 + ((j : Nat) : Int))) ∧ τ 17 = .int .i64 (termE ia7 (ts es19) (kk14 + 1 + ((j : Nat) : Int))) ∧ τ 128 = .bool true) ⟨up rfl (up rfl (up rfl (up rfl (up rfl (up rfl (up rfl (up rfl (up rfl (up rfl (up rfl hs8)))))))))), up rfl (up rfl (up rfl (up rfl (up rfl (up rfl (up rfl (up rfl (up rfl (up rfl (up rfl hs9)))))))))), up rfl (up rfl (up rfl (up rfl (up rfl (up rfl (up rfl (up rfl (up rfl (up rfl (up rfl hs10)))))))))), up rfl (up rfl (up rfl (up rfl (up rfl (up rfl (up rfl (up rfl (up rfl (up rfl (up rfl hs11)))))))))), up rfl (up rfl (up rfl (up rfl (up rfl (up rfl (up rfl (up rfl (up rfl (up rfl (up rfl hs15)))))))))), up rfl tp, tp, up rfl (up rfl (up rfl (up rfl (up rfl (up rfl (up rfl (up rfl (up rfl (up rfl (up rfl (Eq.trans hs128 (congrArg Value.bool hc20))))))))))))⟩ ?_
          rintro τ ⟨hs8, hs9, hs10, hs11, hs15, hs16, hs17, hs128⟩
          refine CW.seq ?_
          refine Or.elim (Bool.eq_false_or_eq_true (decide ((kk14 + 1 + ((j : Nat) : Int)) ≥ (ia7 + 1)))) (fun hge => ?_) (fun hge => ?_)
          · skip
            have hge_ := of_decide_eq_true hge
            have hin := joined_in hvj hnf2 hcl_ hzt (by omega)
            obtain ⟨g3, rfl⟩ := hbX11 (by omega)
            refine CW.region ?_
            refine RW.soft Wd.a (v := .int .i64 kk14) (by exact E.move (AF_ev rfl hs11)) ?_
            refine RW.soft Wd.a (v := .int .i64 (kk14 + 1)) (by exact E.add (k := .i64) (a := kk14) (b := 1) (AF_ev rfl tp) rfl (show IntKind.i64.wrap (kk14 + 1) = kk14 + 1 from (by rw [IntWalk.i64_in _ (by omega)]))) ?_
            refine RW.soft Wd.a (v := .int .i64 ((j : Nat) : Int)) (by exact E.move (AF_ev rfl (up rfl (up rfl hs15)))) ?_
            refine RW.soft Wd.a (v := .int .i64 (kk14 + 1 + ((j : Nat) : Int))) (by exact E.add (k := .i64) (a := kk14 + 1) (b := ((j : Nat) : Int)) (AF_ev rfl (up rfl tp)) (AF_ev rfl tp) (show IntKind.i64.wrap ((kk14 + 1) + ((j : Nat) : Int)) = kk14 + 1 + ((j : Nat) : Int) from (by rw [IntWalk.i64_in _ (by omega)] <;> omega))) ?_
            refine RW.soft Wd.a (v := .pointer (some ⟨b8, 0, none⟩)) (by exact E.move (AF_ev rfl (up rfl (up rfl (up rfl (up rfl hs8)))))) ?_
            refine RW.hard Wd.a ?_
            refine H.call0 Try.func31 nm31 rfl (map1 (AF_ev rfl tp)) (Calls.mono (ent_FirstL hst) ?_)
            rintro _ w ⟨rfl, hst⟩
            refine ⟨_, rfl, ?_⟩
            show RW _ _ _ _ _ _ _
            refine RW.soft Wd.a (v := .bool true) (by exact E.b (a := decide ((kk14 + 1 + ((j : Nat) : Int)) ≥ (ia7 + 1))) (E.geq (k := .i64) (a := kk14 + 1 + ((j : Nat) : Int)) (b := ia7 + 1) (AF_ev rfl (up rfl (up rfl tp))) (AF_ev rfl tp)) hge) ?_
            refine RW.soft Wd.a (v := .bool true) (by exact E.move (AF_ev rfl tp)) ?_
            refine RW.soft (by exact Wd.yes (x := 147) rfl (AF_ev rfl tp)) (v := .int .i64 (termE ia7 (ts es19) (kk14 + 1 + ((j : Nat) : Int)))) (by exact E.move (AF_ev rfl (up rfl (up rfl (up rfl (up rfl (up rfl (up rfl (up rfl (up rfl hs17)))))))))) ?_
            refine RW.soft (by exact Wd.yes (x := 147) rfl (AF_ev rfl (up rfl tp))) (v := .bool false) (by exact E.b (a := (termE ia7 (ts es19) (kk14 + 1 + ((j : Nat) : Int))) != 0) (E.neq (k := .i64) (a := termE ia7 (ts es19) (kk14 + 1 + ((j : Nat) : Int))) (b := 0) (AF_ev rfl tp) rfl) (by rw [bne_eq_false_iff_eq]; exact hin.1)) ?_
            refine RW.soft (by exact Wd.yes (x := 147) rfl (AF_ev rfl (up rfl (up rfl tp)))) (v := .bool false) (by exact E.move (AF_ev rfl tp)) ?_
            refine RW.soft (by exact Wd.yes (x := 150) rfl (AF_ev rfl tp)) (v := .int .i64 (termT ia7 t0 (ts es19) (kk14 + 1 + ((j : Nat) : Int)))) (by exact E.move (AF_ev rfl (up rfl (up rfl (up rfl (up rfl (up rfl (up rfl (up rfl (up rfl (up rfl (up rfl (up rfl hs16))))))))))))) ?_
            refine RW.soft (by exact Wd.yes (x := 150) rfl (AF_ev rfl (up rfl tp))) (v := .slice (some ⟨g3, 0, none⟩) es13.length c12) (by exact E.move (AF_ev rfl (up rfl (up rfl (up rfl (up rfl (up rfl (up rfl (up rfl (up rfl (up rfl (up rfl (up rfl (up rfl hs10)))))))))))))) ?_
            refine RW.soft (by exact Wd.yes (x := 150) rfl (AF_ev rfl (up rfl (up rfl tp)))) (v := .int .i64 ((j : Nat) : Int)) (by exact E.move (AF_ev rfl (up rfl (up rfl (up rfl (up rfl (up rfl (up rfl (up rfl (up rfl (up rfl (up rfl (up rfl (up rfl (up rfl hs15))))))))))))))) ?_
            refine RW.soft (by exact Wd.yes (x := 150) rfl (AF_ev rfl (up rfl (up rfl (up rfl tp))))) (v := .pointer (some ⟨g3, j * 4, none⟩)) (by exact E.indexAddr (b := g3) (o := 0) (l := es13.length) (c := c12) (i := ((j : Nat) : Int)) Try.underlying44 sz58 (AF_ev rfl (up rfl tp)) (AF_ev rfl tp) (by omega) (by omega) (by simp)) ?_
            refine RW.soft (by exact Wd.yes (x := 150) rfl (AF_ev rfl (up rfl (up rfl (up rfl (up rfl tp)))))) (v := .pointer (some ⟨g3, j * 4, none⟩)) (by exact E.fieldAddr (b := g3) (o := j * 4) (f := { name := "Term", type := 3, offset := 0, embedded := false, tag := "", pkgPath := "", byteOffset := 0 }) (AF_ev rfl tp) Try.underlying58 rfl sz3 rfl) ?_
            refine RW.soft (by exact Wd.yes (x := 150) rfl (AF_ev rfl (up rfl (up rfl (up rfl (up rfl (up rfl tp))))))) (v := .int .i64 z.term) (by exact E.load (a := ⟨g3, j * 4, none⟩) Try.underlying3 rfl (AF_ev rfl tp) (hst.ocell (.there (.there .here)) (flat_get Ent.enc_len hz (j := 0) rfl))) ?_
            refine RW.soft (by exact Wd.yes (x := 150) rfl (AF_ev rfl (up rfl (up rfl (up rfl (up rfl (up rfl (up rfl tp)))))))) (v := .bool false) (by exact E.b (a := (termT ia7 t0 (ts es19) (kk14 + 1 + ((j : Nat) : Int))) != z.term) (E.neq (k := .i64) (a := termT ia7 t0 (ts es19) (kk14 + 1 + ((j : Nat) : Int))) (b := z.term) (AF_ev rfl (up rfl (up rfl (up rfl (up rfl (up rfl tp)))))) (AF_ev rfl tp)) (by rw [bne_eq_false_iff_eq]; exact hin.2)) ?_
            refine RW.soft (by exact Wd.yes (x := 147) rfl (AF_ev rfl (up rfl (up rfl (up rfl (up rfl (up rfl (up rfl (up rfl (up rfl (up rfl (up rfl tp)))))))))))) (v := .bool false) (by exact E.pickF (AF_ev rfl (up rfl (up rfl (up rfl (up rfl (up rfl (up rfl (up rfl tp)))))))) (AF_ev rfl tp)) ?_
            refine RW.soft Wd.a (v := .bool false) (by exact E.pickT (AF_ev rfl (up rfl (up rfl (up rfl (up rfl (up rfl (up rfl (up rfl (up rfl (up rfl (up rfl (up rfl tp)))))))))))) (AF_ev rfl tp)) ?_
            refine RW.fin (fun τ => τ 8 = .pointer (some ⟨b8, 0, none⟩) ∧ τ 9 = .pointer (some ⟨b10, 0, none⟩) ∧ τ 10 = .slice (some ⟨g3, 0, none⟩) es13.length c12 ∧ τ 11 = .int .i64 kk14 ∧ τ 15 = .int .i64 ((j : Nat) : Int) ∧ τ 16 = .int .i64 (termT ia7 t0 (ts es19) (kk14 + 1 + ((j : Nat) : Int))) ∧ τ 17 = .int .i64 (termE ia7 (ts es19) (kk14 + 1 + ((j : Nat) : Int))) ∧ τ 128 = .bool true ∧ τ 159 = .bool false) ⟨up rfl (up rfl (up rfl (up rfl (up rfl (up rfl (up rfl (up rfl (up rfl (up rfl (up rfl (up rfl (up rfl (up rfl (up rfl (up rfl (up rfl (up rfl (up rfl (up rfl hs8))))))))))))))))))), up rfl (up rfl (up rfl (up rfl (up rfl (up rfl (up rfl (up rfl (up rfl (up rfl (up rfl (up rfl (up rfl (up rfl (up rfl (up rfl (up rfl (up rfl (up rfl (up rfl hs9))))))))))))))))))), up rfl (up rfl (up rfl (up rfl (up rfl (up rfl (up rfl (up rfl (up rfl (up rfl (up rfl (up rfl (up rfl (up rfl (up rfl (up rfl (up rfl (up rfl (up rfl (up rfl hs10))))))))))))))))))), up rfl (up rfl (up rfl (up rfl (up rfl (up rfl (up rfl (up rfl (up rfl (up rfl (up rfl (up rfl (up rfl (up rfl (up rfl (up rfl (up rfl (up rfl (up rfl (up rfl hs11))))))))))))))))))), up rfl (up rfl (up rfl (up rfl (up rfl (up rfl (up rfl (up rfl (up rfl (up rfl (up rfl (up rfl (up rfl (up rfl (up rfl (up rfl (up rfl (up rfl (up rfl (up rfl hs15))))))))))))))))))), up rfl (up rfl (up rfl (up rfl (up rfl (up rfl (up rfl (up rfl (up rfl (up rfl (up rfl (up rfl (up rfl (up rfl (up rfl (up rfl (up rfl (up rfl (up rfl (up rfl hs16))))))))))))))))))), up rfl (up rfl (up rfl (up rfl (up rfl (up rfl (up rfl (up rfl (up rfl (up rfl (up rfl (up rfl (up rfl (up rfl (up rfl (up rfl (up rfl (up rfl (up rfl (up rfl hs17))))))))))))))))))), up rfl (up rfl (up rfl (up rfl (up rfl (up rfl (up rfl (up rfl (up rfl (up rfl (up rfl (up rfl (up rfl (up rfl (up rfl (up rfl (up rfl (up rfl (up rfl (up rfl hs128))))))))))))))))))), tp⟩ ?_
            rintro τ ⟨hs8, hs9, hs10, hs11, hs15, hs16, hs17, hs128, hs159⟩
            refine CW.condF (AF_ev rfl hs159) ?_
            refine CW.skip ?_
            refine Bl.n ?_
            refine Th.n ?_
            refine CW.region ?_
            refine RW.soft Wd.a (v := .int .i64 ((j : Nat) : Int)) (by exact E.move (AF_ev rfl hs15)) ?_
            refine RW.soft Wd.a (v := .int .i64 (((j : Nat) : Int) + 1)) (by exact E.add (k := .i64) (a := ((j : Nat) : Int)) (b := 1) (AF_ev rfl tp) rfl (show IntKind.i64.wrap (((j : Nat) : Int) + 1) = ((j : Nat) : Int) + 1 from (by rw [IntWalk.i64_in _ (by omega)]))) ?_
            refine RW.soft Wd.a (v := .int .i64 (((j : Nat) : Int) + 1)) (by exact E.assign (AF_ev rfl tp)) ?_
            refine RW.nil ?_
            refine Th.n ?_
            have hst := hst.take (.there (.there .here))
            have hst := hst.take (.there (.there .here))
            have hst := hst.take (.there (.there .here))
            exact ⟨es13.length - (j + 1), by omega, j + 1, (by omega), (by omega), up rfl (up rfl (up rfl hs8)), up rfl (up rfl (up rfl hs9)), up rfl (up rfl (up rfl hs10)), up rfl (up rfl (up rfl hs11)), (int_eq (a := ((j : Nat) : Int) + 1) tp (by omega)), hst⟩
          · skip
            refine CW.region ?_
            refine RW.soft Wd.a (v := .int .i64 kk14) (by exact E.move (AF_ev rfl hs11)) ?_
            refine RW.soft Wd.a (v := .int .i64 (kk14 + 1)) (by exact E.add (k := .i64) (a := kk14) (b := 1) (AF_ev rfl tp) rfl (show IntKind.i64.wrap (kk14 + 1) = kk14 + 1 from (by rw [IntWalk.i64_in _ (by omega)]))) ?_
            refine RW.soft Wd.a (v := .int .i64 ((j : Nat) : Int)) (by exact E.move (AF_ev rfl (up rfl (up rfl hs15)))) ?_
            refine RW.soft Wd.a (v := .int .i64 (kk14 + 1 + ((j : Nat) : Int))) (by exact E.add (k := .i64) (a := kk14 + 1) (b := ((j : Nat) : Int)) (AF_ev rfl (up rfl tp)) (AF_ev rfl tp) (show IntKind.i64.wrap ((kk14 + 1) + ((j : Nat) : Int)) = kk14 + 1 + ((j : Nat) : Int) from (by rw [IntWalk.i64_in _ (by omega)] <;> omega))) ?_
            refine RW.soft Wd.a (v := .pointer (some ⟨b8, 0, none⟩)) (by exact E.move (AF_ev rfl (up rfl (up rfl (up rfl (up rfl hs8)))))) ?_
            refine RW.hard Wd.a ?_
            refine H.call0 Try.func31 nm31 rfl (map1 (AF_ev rfl tp)) (Calls.mono (ent_FirstL hst) ?_)
            rintro _ w ⟨rfl, hst⟩
            refine ⟨_, rfl, ?_⟩
            show RW _ _ _ _ _ _ _
            refine RW.soft Wd.a (v := .bool false) (by exact E.b (a := decide ((kk14 + 1 + ((j : Nat) : Int)) ≥ (ia7 + 1))) (E.geq (k := .i64) (a := kk14 + 1 + ((j : Nat) : Int)) (b := ia7 + 1) (AF_ev rfl (up rfl (up rfl tp))) (AF_ev rfl tp)) hge) ?_
            refine RW.soft Wd.a (v := .bool false) (by exact E.move (AF_ev rfl tp)) ?_
            refine RW.pass (by exact Wd.no (x := 147) (b := false) rfl (AF_ev rfl tp) rfl) ?_
            refine RW.pass (by exact Wd.no (x := 147) (b := false) rfl (AF_ev rfl (up rfl tp)) rfl) ?_
            refine RW.pass (by exact Wd.no (x := 147) (b := false) rfl (AF_ev rfl (up rfl (up rfl tp))) rfl) ?_
            refine RW.pass (by exact Wd.u (x := 150) rfl (AF_ev rfl tp)) ?_
            refine RW.pass (by exact Wd.u (x := 150) rfl (AF_ev rfl (up rfl tp))) ?_
            refine RW.pass (by exact Wd.u (x := 150) rfl (AF_ev rfl (up rfl (up rfl tp)))) ?_
            refine RW.pass (by exact Wd.u (x := 150) rfl (AF_ev rfl (up rfl (up rfl (up rfl tp))))) ?_
            refine RW.pass (by exact Wd.u (x := 150) rfl (AF_ev rfl (up rfl (up rfl (up rfl (up rfl tp)))))) ?_
            refine RW.pass (by exact Wd.u (x := 150) rfl (AF_ev rfl (up rfl (up rfl (up rfl (up rfl (up rfl tp))))))) ?_
            refine RW.pass (by exact Wd.u (x := 150) rfl (AF_ev rfl (up rfl (up rfl (up rfl (up rfl (up rfl (up rfl tp)))))))) ?_
            refine RW.pass (by exact Wd.no (x := 147) (b := false) rfl (AF_ev rfl (up rfl (up rfl (up rfl (up rfl (up rfl (up rfl (up rfl (up rfl (up rfl (up rfl tp))))))))))) rfl) ?_
            refine RW.soft Wd.a (v := .bool false) (by exact E.pickF (AF_ev rfl (up rfl (up rfl (up rfl (up rfl (up rfl (up rfl (up rfl (up rfl (up rfl (up rfl (up rfl tp)))))))))))) rfl) ?_
            refine RW.fin (fun τ => τ 8 = .pointer (some ⟨b8, 0, none⟩) ∧ τ 9 = .pointer (some ⟨b10, 0, none⟩) ∧ τ 10 = .slice X11 es13.length c12 ∧ τ 11 = .int .i64 kk14 ∧ τ 15 = .int .i64 ((j : Nat) : Int) ∧ τ 16 = .int .i64 (termT ia7 t0 (ts es19) (kk14 + 1 + ((j : Nat) : Int))) ∧ τ 17 = .int .i64 (termE ia7 (ts es19) (kk14 + 1 + ((j : Nat) : Int))) ∧ τ 128 = .bool true ∧ τ 159 = .bool false) ⟨up rfl (up rfl (up rfl (up rfl (up rfl (up rfl (up rfl (up rfl (up rfl (up rfl (up rfl (up rfl (up rfl (up rfl (up rfl (up rfl (up rfl (up rfl (up rfl (up rfl hs8))))))))))))))))))), up rfl (up rfl (up rfl (up rfl (up rfl (up rfl (up rfl (up rfl (up rfl (up rfl (up rfl (up rfl (up rfl (up rfl (up rfl (up rfl (up rfl (up rfl (up rfl (up rfl hs9))))))))))))))))))), up rfl (up rfl (up rfl (up rfl (up rfl (up rfl (up rfl (up rfl (up rfl (up rfl (up rfl (up rfl (up rfl (up rfl (up rfl (up rfl (up rfl (up rfl (up rfl (up rfl hs10))))))))))))))))))), up rfl (up rfl (up rfl (up rfl (up rfl (up rfl (up rfl (up rfl (up rfl (up rfl (up rfl (up rfl (up rfl (up rfl (up rfl (up rfl (up rfl (up rfl (up rfl (up rfl hs11))))))))))))))))))), up rfl (up rfl (up rfl (up rfl (up rfl (up rfl (up rfl (up rfl (up rfl (up rfl (up rfl (up rfl (up rfl (up rfl (up rfl (up rfl (up rfl (up rfl (up rfl (up rfl hs15))))))))))))))))))), up rfl (up rfl (up rfl (up rfl (up rfl (up rfl (up rfl (up rfl (up rfl (up rfl (up rfl (up rfl (up rfl (up rfl (up rfl (up rfl (up rfl (up rfl (up rfl (up rfl hs16))))))))))))))))))), up rfl (up rfl (up rfl (up rfl (up rfl (up rfl (up rfl (up rfl (up rfl (up rfl (up rfl (up rfl (up rfl (up rfl (up rfl (up rfl (up rfl (up rfl (up rfl (up rfl hs17))))))))))))))))))), up rfl (up rfl (up rfl (up rfl (up rfl (up rfl (up rfl (up rfl (up rfl (up rfl (up rfl (up rfl (up rfl (up rfl (up rfl (up rfl (up rfl (up rfl (up rfl (up rfl hs128))))))))))))))))))), tp⟩ ?_
            rintro τ ⟨hs8, hs9, hs10, hs11, hs15, hs16, hs17, hs128, hs159⟩
            refine CW.condF (AF_ev rfl hs159) ?_
            refine CW.skip ?_
            refine Bl.n ?_
            refine Th.n ?_
            refine CW.region ?_
            refine RW.soft Wd.a (v := .int .i64 ((j : Nat) : Int)) (by exact E.move (AF_ev rfl hs15)) ?_
            refine RW.soft Wd.a (v := .int .i64 (((j : Nat) : Int) + 1)) (by exact E.add (k := .i64) (a := ((j : Nat) : Int)) (b := 1) (AF_ev rfl tp) rfl (show IntKind.i64.wrap (((j : Nat) : Int) + 1) = ((j : Nat) : Int) + 1 from (by rw [IntWalk.i64_in _ (by omega)]))) ?_
            refine RW.soft Wd.a (v := .int .i64 (((j : Nat) : Int) + 1)) (by exact E.assign (AF_ev rfl tp)) ?_
            refine RW.nil ?_
            refine Th.n ?_
            have hst := hst.take (.there (.there .here))
            have hst := hst.take (.there (.there .here))
            have hst := hst.take (.there (.there .here))
            exact ⟨es13.length - (j + 1), by omega, j + 1, (by omega), (by omega), up rfl (up rfl (up rfl hs8)), up rfl (up rfl (up rfl hs9)), up rfl (up rfl (up rfl hs10)), up rfl (up rfl (up rfl hs11)), (int_eq (a := ((j : Nat) : Int) + 1) tp (by omega)), hst⟩
        · have hc20_ := hc20
          try simp only [decide_eq_true_eq, decide_eq_false_iff_not, Bool.and_eq_true, Bool.or_eq_true, Bool.and_eq_false_iff, Bool.or_eq_false_iff, Bool.not_eq_true', Bool.not_eq_false', beq_iff_eq, beq_eq_false_iff_ne, bne_iff_ne, bne_eq_false_iff_eq, ne_eq, Int.not_lt, Int.not_le, gt_iff_lt, ge_iff_le] at hc20_
          refine CW.exit ?_
          refine Th.x ?_
          refine Th.x ?_
          refine Bl.x ?_
          refine Th.n ?_
          refine CW.seq ?_
          refine CW.seq ?_
          refine CW.region ?_
          refine RW.soft Wd.a (v := .pointer (some ⟨b10, 0, none⟩)) (by exact E.move (AF_ev rfl hs9)) ?_
          have hst := hst.take (.there .here)
          refine RW.hard Wd.a ?_
          refine H.call0 Try.func31 nm31 rfl (map1 (AF_ev rfl tp)) (Calls.mono (ent_FirstL hst) ?_)
          rintro _ w ⟨rfl, hst⟩
          refine ⟨_, rfl, ?_⟩
          show RW _ _ _ _ _ _ _
          refine RW.soft Wd.a (v := .int .i64 (ia7 + 1 - 1)) (by exact E.sub (k := .i64) (a := ia7 + 1) (b := 1) (AF_ev rfl tp) rfl (show IntKind.i64.wrap ((ia7 + 1) - 1) = ia7 + 1 - 1 from (by rw [IntWalk.i64_in _ (by omega)] <;> omega))) ?_
          refine RW.soft Wd.a (v := .int .i64 (ia7 + 1 - 1)) (by exact E.assign (AF_ev rfl tp)) ?_
          refine RW.fin (fun τ => τ 8 = .pointer (some ⟨b8, 0, none⟩) ∧ τ 9 = .pointer (some ⟨b10, 0, none⟩) ∧ τ 10 = .slice X11 es13.length c12 ∧ τ 11 = .int .i64 kk14 ∧ τ 15 = .int .i64 ((j : Nat) : Int) ∧ τ 18 = .int .i64 (ia7 + 1 - 1) ∧ τ 128 = .bool false) ⟨up rfl (up rfl (up rfl (up rfl hs8))), up rfl (up rfl (up rfl (up rfl hs9))), up rfl (up rfl (up rfl (up rfl hs10))), up rfl (up rfl (up rfl (up rfl hs11))), up rfl (up rfl (up rfl (up rfl hs15))), tp, up rfl (up rfl (up rfl (up rfl (Eq.trans hs128 (congrArg Value.bool hc20)))))⟩ ?_
          rintro τ ⟨hs8, hs9, hs10, hs11, hs15, hs18, hs128⟩
          refine CW.block ?_
          have hst := hst.take (.there .here)
          have hst := (hst.take (.there (.there .here))).drop
          refine CW.loop (fun (k : Nat) (τ : Fr) (w : World) => ∃ (m : Nat), m ≤ es9.length + 1 ∧ k = es9.length + 1 - m ∧ τ 8 = .pointer (some ⟨b8, 0, none⟩) ∧ τ 9 = .pointer (some ⟨b10, 0, none⟩) ∧ τ 11 = .int .i64 kk14 ∧ τ 18 = .int .i64 (ia7 + ((m : Nat) : Int)) ∧ St p w (LogB p b8 ia7 t0 es19 :: LogB p b10 ia7 t0 es9 :: R)) (es9.length + 1 - 0) ⟨0, by omega, rfl, hs8, hs9, hs11, (int_eq (a := ia7 + 1 - 1) hs18 (by omega)), hst⟩ ?_
          clear hst
          rintro k τ w ⟨m, hm, hkm, hs8, hs9, hs11, hs18, hst⟩
          refine CW.seq ?_
          refine CW.seq ?_
          refine Or.elim (Bool.eq_false_or_eq_true (decide ((ia7 + ((m : Nat) : Int)) ≤ kk14))) (fun hle1 => ?_) (fun hle1 => ?_)
          · skip
            refine Or.elim (Bool.eq_false_or_eq_true (decide ((ia7 + ((m : Nat) : Int)) ≤ (ia7 + ((es9.length : Nat) : Int))))) (fun hle3 => ?_) (fun hle3 => ?_)
            · skip
              refine CW.region ?_
              refine RW.soft Wd.a (v := .int .i64 (ia7 + ((m : Nat) : Int))) (by exact E.move (AF_ev rfl hs18)) ?_
              refine RW.soft Wd.a (v := .int .i64 kk14) (by exact E.move (AF_ev rfl (up rfl hs11))) ?_
              refine RW.soft Wd.a (v := .bool true) (by exact E.b (a := decide ((ia7 + ((m : Nat) : Int)) ≤ kk14)) (E.leq (k := .i64) (a := ia7 + ((m : Nat) : Int)) (b := kk14) (AF_ev rfl (up rfl tp)) (AF_ev rfl tp)) hle1) ?_
              refine RW.soft Wd.a (v := .bool true) (by exact E.move (AF_ev rfl tp)) ?_
              refine RW.soft (by exact Wd.yes (x := 166) rfl (AF_ev rfl tp)) (v := .int .i64 (ia7 + ((m : Nat) : Int))) (by exact E.move (AF_ev rfl (up rfl (up rfl (up rfl (up rfl hs18)))))) ?_
              refine RW.soft (by exact Wd.yes (x := 166) rfl (AF_ev rfl (up rfl tp))) (v := .pointer (some ⟨b10, 0, none⟩)) (by exact E.move (AF_ev rfl (up rfl (up rfl (up rfl (up rfl (up rfl hs9))))))) ?_
              have hst := hst.take (.there .here)
              refine RW.hard (by exact Wd.yes (x := 166) rfl (AF_ev rfl (up rfl (up rfl tp)))) ?_
              refine H.call0 Try.func30 nm30 rfl (map1 (AF_ev rfl tp)) (Calls.mono (ent_LastL (v := ia7 + ((es9.length : Nat) : Int)) rfl hst) ?_)
              rintro _ w ⟨rfl, hst⟩
              refine ⟨_, rfl, ?_⟩
              show RW _ _ _ _ _ _ _
              refine RW.soft (by exact Wd.yes (x := 166) rfl (AF_ev rfl (up rfl (up rfl (up rfl tp))))) (v := .bool true) (by exact E.b (a := decide ((ia7 + ((m : Nat) : Int)) ≤ (ia7 + ((es9.length : Nat) : Int)))) (E.leq (k := .i64) (a := ia7 + ((m : Nat) : Int)) (b := ia7 + ((es9.length : Nat) : Int)) (AF_ev rfl (up rfl (up rfl tp))) (AF_ev rfl tp)) hle3) ?_
              refine RW.soft Wd.a (v := .bool true) (by exact E.pickT (AF_ev rfl (up rfl (up rfl (up rfl (up rfl tp))))) (AF_ev rfl tp)) ?_
              refine RW.fin (fun τ => τ 8 = .pointer (some ⟨b8, 0, none⟩) ∧ τ 9 = .pointer (some ⟨b10, 0, none⟩) ∧ τ 11 = .int .i64 kk14 ∧ τ 18 = .int .i64 (ia7 + ((m : Nat) : Int)) ∧ τ 171 = .bool true) ⟨up rfl (up rfl (up rfl (up rfl (up rfl (up rfl (up rfl (up rfl (up rfl hs8)))))))), up rfl (up rfl (up rfl (up rfl (up rfl (up rfl (up rfl (up rfl (up rfl hs9)))))))), up rfl (up rfl (up rfl (up rfl (up rfl (up rfl (up rfl (up rfl (up rfl hs11)))))))), up rfl (up rfl (up rfl (up rfl (up rfl (up rfl (up rfl (up rfl (up rfl hs18)))))))), tp⟩ ?_
              rintro τ ⟨hs8, hs9, hs11, hs18, hs171⟩
              refine CW.condT (AF_ev rfl hs171) ?_
              refine CW.skip ?_
              refine Th.n ?_
              refine CW.seq ?_
              refine CW.block ?_
              refine CW.seq ?_
              have hle1_ := of_decide_eq_true hle1
              have hle3_ := of_decide_eq_true hle3
              have hnf2 : ¬ kk14 > ia7 + ((ts es9).length : Nat) := by rw [ts_len]; omega
              have hkept := joined_kept hvj hnf2 hcl_ (k := ia7 + ((m : Nat) : Int)) (by omega) (by omega) (by rw [ts_len]; omega)
              refine CW.region ?_
              refine RW.soft Wd.a (v := .pointer (some ⟨b8, 0, none⟩)) (by exact E.move (AF_ev rfl hs8)) ?_
              refine RW.soft Wd.a (v := .int .i64 (ia7 + ((m : Nat) : Int))) (by exact E.move (AF_ev rfl (up rfl hs18))) ?_
              have hst := hst.take (.there .here)
              refine RW.hard Wd.a ?_
              refine H.call0 Try.func32 nm32 rfl (map2 (AF_ev rfl (up rfl tp)) (AF_ev rfl tp)) (Calls.mono (ent_TermL (v := termT ia7 t0 (ts es19) (ia7 + ((m : Nat) : Int))) (u := termE ia7 (ts es19) (ia7 + ((m : Nat) : Int))) (ia7 + ((m : Nat) : Int)) (by omega) rfl rfl hst) ?_)
              rintro _ w ⟨rfl, hst⟩
              refine ⟨_, rfl, ?_⟩
              show RW _ _ _ _ _ _ _
              refine RW.soft Wd.a (v := .tuple #[.int .i64 (termT ia7 t0 (ts es19) (ia7 + ((m : Nat) : Int))), .int .i64 (termE ia7 (ts es19) (ia7 + ((m : Nat) : Int)))]) (by exact E.move (AF_ev rfl tp)) ?_
              refine RW.soft Wd.a (v := .int .i64 (termT ia7 t0 (ts es19) (ia7 + ((m : Nat) : Int)))) (by exact E.extract (vs := #[.int .i64 (termT ia7 t0 (ts es19) (ia7 + ((m : Nat) : Int))), .int .i64 (termE ia7 (ts es19) (ia7 + ((m : Nat) : Int)))]) (AF_ev rfl tp) rfl) ?_
              refine RW.soft Wd.a (v := .int .i64 (termE ia7 (ts es19) (ia7 + ((m : Nat) : Int)))) (by exact E.extract (vs := #[.int .i64 (termT ia7 t0 (ts es19) (ia7 + ((m : Nat) : Int))), .int .i64 (termE ia7 (ts es19) (ia7 + ((m : Nat) : Int)))]) (AF_ev rfl (up rfl tp)) rfl) ?_
              refine RW.soft Wd.a (v := .int .i64 (termT ia7 t0 (ts es19) (ia7 + ((m : Nat) : Int)))) (by exact E.assign (AF_ev rfl (up rfl tp))) ?_
              refine RW.soft Wd.a (v := .int .i64 (termE ia7 (ts es19) (ia7 + ((m : Nat) : Int)))) (by exact E.assign (AF_ev rfl (up rfl tp))) ?_
              refine RW.fin (fun τ => τ 8 = .pointer (some ⟨b8, 0, none⟩) ∧ τ 9 = .pointer (some ⟨b10, 0, none⟩) ∧ τ 11 = .int .i64 kk14 ∧ τ 18 = .int .i64 (ia7 + ((m : Nat) : Int)) ∧ τ 19 = .int .i64 (termT ia7 t0 (ts es19) (ia7 + ((m : Nat) : Int))) ∧ τ 20 = .int .i64 (termE ia7 (ts es19) (ia7 + ((m : Nat) : Int))) ∧ τ 171 = .bool true) ⟨up rfl (up rfl (up rfl (up rfl (up rfl (up rfl (up rfl (up rfl hs8))))))), up rfl (up rfl (up rfl (up rfl (up rfl (up rfl (up rfl (up rfl hs9))))))), up rfl (up rfl (up rfl (up rfl (up rfl (up rfl (up rfl (up rfl hs11))))))), up rfl (up rfl (up rfl (up rfl (up rfl (up rfl (up rfl (up rfl hs18))))))), up rfl tp, tp, up rfl (up rfl (up rfl (up rfl (up rfl (up rfl (up rfl (up rfl hs171)))))))⟩ ?_
              rintro τ ⟨hs8, hs9, hs11, hs18, hs19, hs20, hs171⟩
              refine CW.seq ?_
              refine CW.region ?_
              refine RW.soft Wd.a (v := .pointer (some ⟨b10, 0, none⟩)) (by exact E.move (AF_ev rfl hs9)) ?_
              refine RW.soft Wd.a (v := .int .i64 (ia7 + ((m : Nat) : Int))) (by exact E.move (AF_ev rfl (up rfl hs18))) ?_
              have hst := hst.take (.there .here)
              refine RW.hard Wd.a ?_
              refine H.call0 Try.func32 nm32 rfl (map2 (AF_ev rfl (up rfl tp)) (AF_ev rfl tp)) (Calls.mono (ent_TermL (v := termT ia7 t0 (ts es9) (ia7 + ((m : Nat) : Int))) (u := termE ia7 (ts es9) (ia7 + ((m : Nat) : Int))) (ia7 + ((m : Nat) : Int)) (by omega) rfl rfl hst) ?_)
              rintro _ w ⟨rfl, hst⟩
              refine ⟨_, rfl, ?_⟩
              show RW _ _ _ _ _ _ _
              refine RW.soft Wd.a (v := .tuple #[.int .i64 (termT ia7 t0 (ts es9) (ia7 + ((m : Nat) : Int))), .int .i64 (termE ia7 (ts es9) (ia7 + ((m : Nat) : Int)))]) (by exact E.move (AF_ev rfl tp)) ?_
              refine RW.soft Wd.a (v := .int .i64 (termT ia7 t0 (ts es9) (ia7 + ((m : Nat) : Int)))) (by exact E.extract (vs := #[.int .i64 (termT ia7 t0 (ts es9) (ia7 + ((m : Nat) : Int))), .int .i64 (termE ia7 (ts es9) (ia7 + ((m : Nat) : Int)))]) (AF_ev rfl tp) rfl) ?_
              refine RW.soft Wd.a (v := .int .i64 (termE ia7 (ts es9) (ia7 + ((m : Nat) : Int)))) (by exact E.extract (vs := #[.int .i64 (termT ia7 t0 (ts es9) (ia7 + ((m : Nat) : Int))), .int .i64 (termE ia7 (ts es9) (ia7 + ((m : Nat) : Int)))]) (AF_ev rfl (up rfl tp)) rfl) ?_
              refine RW.soft Wd.a (v := .int .i64 (termT ia7 t0 (ts es9) (ia7 + ((m : Nat) : Int)))) (by exact E.assign (AF_ev rfl (up rfl tp))) ?_
              refine RW.soft Wd.a (v := .int .i64 (termE ia7 (ts es9) (ia7 + ((m : Nat) : Int)))) (by exact E.assign (AF_ev rfl (up rfl tp))) ?_
              refine RW.fin (fun τ => τ 8 = .pointer (some ⟨b8, 0, none⟩) ∧ τ 9 = .pointer (some ⟨b10, 0, none⟩) ∧ τ 11 = .int .i64 kk14 ∧ τ 18 = .int .i64 (ia7 + ((m : Nat) : Int)) ∧ τ 19 = .int .i64 (termT ia7 t0 (ts es19) (ia7 + ((m : Nat) : Int))) ∧ τ 20 = .int .i64 (termE ia7 (ts es19) (ia7 + ((m : Nat) : Int))) ∧ τ 21 = .int .i64 (termT ia7 t0 (ts es9) (ia7 + ((m : Nat) : Int))) ∧ τ 22 = .int .i64 (termE ia7 (ts es9) (ia7 + ((m : Nat) : Int))) ∧ τ 171 = .bool true) ⟨up rfl (up rfl (up rfl (up rfl (up rfl (up rfl (up rfl (up rfl hs8))))))), up rfl (up rfl (up rfl (up rfl (up rfl (up rfl (up rfl (up rfl hs9))))))), up rfl (up rfl (up rfl (up rfl (up rfl (up rfl (up rfl (up rfl hs11))))))), up rfl (up rfl (up rfl (up rfl (up rfl (up rfl (up rfl (up rfl hs18))))))), up rfl (up rfl (up rfl (up rfl (up rfl (up rfl (up rfl (up rfl hs19))))))), up rfl (up rfl (up rfl (up rfl (up rfl (up rfl (up rfl (up rfl hs20))))))), up rfl tp, tp, up rfl (up rfl (up rfl (up rfl (up rfl (up rfl (up rfl (up rfl hs171)))))))⟩ ?_
              rintro τ ⟨hs8, hs9, hs11, hs18, hs19, hs20, hs21, hs22, hs171⟩
              refine CW.seq ?_
              refine CW.region ?_
              refine RW.soft Wd.a (v := .int .i64 (termT ia7 t0 (ts es19) (ia7 + ((m : Nat) : Int)))) (by exact E.move (AF_ev rfl hs19)) ?_
              refine RW.soft Wd.a (v := .int .i64 (termT ia7 t0 (ts es9) (ia7 + ((m : Nat) : Int)))) (by exact E.move (AF_ev rfl (up rfl hs21))) ?_
              refine RW.soft Wd.a (v := .bool false) (by exact E.b (a := (termT ia7 t0 (ts es19) (ia7 + ((m : Nat) : Int))) != (termT ia7 t0 (ts es9) (ia7 + ((m : Nat) : Int)))) (E.neq (k := .i64) (a := termT ia7 t0 (ts es19) (ia7 + ((m : Nat) : Int))) (b := termT ia7 t0 (ts es9) (ia7 + ((m : Nat) : Int))) (AF_ev rfl (up rfl tp)) (AF_ev rfl tp)) (by rw [bne_eq_false_iff_eq]; exact hkept.2)) ?_
              refine RW.soft Wd.a (v := .bool false) (by exact E.move (AF_ev rfl tp)) ?_
              refine RW.soft (by exact Wd.yes (x := 189) rfl (AF_ev rfl tp)) (v := .int .i64 (termE ia7 (ts es19) (ia7 + ((m : Nat) : Int)))) (by exact E.move (AF_ev rfl (up rfl (up rfl (up rfl (up rfl hs20)))))) ?_
              refine RW.soft (by exact Wd.yes (x := 189) rfl (AF_ev rfl (up rfl tp))) (v := .int .i64 (termE ia7 (ts es9) (ia7 + ((m : Nat) : Int)))) (by exact E.move (AF_ev rfl (up rfl (up rfl (up rfl (up rfl (up rfl hs22))))))) ?_
              refine RW.soft (by exact Wd.yes (x := 189) rfl (AF_ev rfl (up rfl (up rfl tp)))) (v := .bool false) (by exact E.b (a := (termE ia7 (ts es19) (ia7 + ((m : Nat) : Int))) != (termE ia7 (ts es9) (ia7 + ((m : Nat) : Int)))) (E.neq (k := .i64) (a := termE ia7 (ts es19) (ia7 + ((m : Nat) : Int))) (b := termE ia7 (ts es9) (ia7 + ((m : Nat) : Int))) (AF_ev rfl (up rfl tp)) (AF_ev rfl tp)) (by rw [bne_eq_false_iff_eq]; exact hkept.1)) ?_
              refine RW.soft Wd.a (v := .bool false) (by exact E.pickF (AF_ev rfl (up rfl (up rfl (up rfl tp)))) (AF_ev rfl tp)) ?_
              refine RW.fin (fun τ => τ 8 = .pointer (some ⟨b8, 0, none⟩) ∧ τ 9 = .pointer (some ⟨b10, 0, none⟩) ∧ τ 11 = .int .i64 kk14 ∧ τ 18 = .int .i64 (ia7 + ((m : Nat) : Int)) ∧ τ 19 = .int .i64 (termT ia7 t0 (ts es19) (ia7 + ((m : Nat) : Int))) ∧ τ 20 = .int .i64 (termE ia7 (ts es19) (ia7 + ((m : Nat) : Int))) ∧ τ 21 = .int .i64 (termT ia7 t0 (ts es9) (ia7 + ((m : Nat) : Int))) ∧ τ 22 = .int .i64 (termE ia7 (ts es9) (ia7 + ((m : Nat) : Int))) ∧ τ 171 = .bool true ∧ τ 193 = .bool false) ⟨up rfl (up rfl (up rfl (up rfl (up rfl (up rfl (up rfl (up rfl hs8))))))), up rfl (up rfl (up rfl (up rfl (up rfl (up rfl (up rfl (up rfl hs9))))))), up rfl (up rfl (up rfl (up rfl (up rfl (up rfl (up rfl (up rfl hs11))))))), up rfl (up rfl (up rfl (up rfl (up rfl (up rfl (up rfl (up rfl hs18))))))), up rfl (up rfl (up rfl (up rfl (up rfl (up rfl (up rfl (up rfl hs19))))))), up rfl (up rfl (up rfl (up rfl (up rfl (up rfl (up rfl (up rfl hs20))))))), up rfl (up rfl (up rfl (up rfl (up rfl (up rfl (up rfl (up rfl hs21))))))), up rfl (up rfl (up rfl (up rfl (up rfl (up rfl (up rfl (up rfl hs22))))))), up rfl (up rfl (up rfl (up rfl (up rfl (up rfl (up rfl (up rfl hs171))))))), tp⟩ ?_
              rintro τ ⟨hs8, hs9, hs11, hs18, hs19, hs20, hs21, hs22, hs171, hs193⟩
              refine CW.condF (AF_ev rfl hs193) ?_
              refine CW.skip ?_
              refine Bl.n ?_
              refine Th.n ?_
              refine CW.region ?_
              refine RW.soft Wd.a (v := .int .i64 (ia7 + ((m : Nat) : Int))) (by exact E.move (AF_ev rfl hs18)) ?_
              refine RW.soft Wd.a (v := .int .i64 (ia7 + ((m : Nat) : Int) + 1)) (by exact E.add (k := .i64) (a := ia7 + ((m : Nat) : Int)) (b := 1) (AF_ev rfl tp) rfl (show IntKind.i64.wrap ((ia7 + ((m : Nat) : Int)) + 1) = ia7 + ((m : Nat) : Int) + 1 from (by rw [IntWalk.i64_in _ (by omega)] <;> omega))) ?_
              refine RW.soft Wd.a (v := .int .i64 (ia7 + ((m : Nat) : Int) + 1)) (by exact E.assign (AF_ev rfl tp)) ?_
              refine RW.nil ?_
              refine Th.n ?_
              have hst := hst.take (.there .here)
              exact ⟨es9.length + 1 - (m + 1), by omega, m + 1, (by omega), (by omega), up rfl (up rfl (up rfl hs8)), up rfl (up rfl (up rfl hs9)), up rfl (up rfl (up rfl hs11)), (int_eq (a := ia7 + ((m : Nat) : Int) + 1) tp (by omega)), hst⟩
            · skip
              refine CW.region ?_
              refine RW.soft Wd.a (v := .int .i64 (ia7 + ((m : Nat) : Int))) (by exact E.move (AF_ev rfl hs18)) ?_
              refine RW.soft Wd.a (v := .int .i64 kk14) (by exact E.move (AF_ev rfl (up rfl hs11))) ?_
              refine RW.soft Wd.a (v := .bool true) (by exact E.b (a := decide ((ia7 + ((m : Nat) : Int)) ≤ kk14)) (E.leq (k := .i64) (a := ia7 + ((m : Nat) : Int)) (b := kk14) (AF_ev rfl (up rfl tp)) (AF_ev rfl tp)) hle1) ?_
              refine RW.soft Wd.a (v := .bool true) (by exact E.move (AF_ev rfl tp)) ?_
              refine RW.soft (by exact Wd.yes (x := 166) rfl (AF_ev rfl tp)) (v := .int .i64 (ia7 + ((m : Nat) : Int))) (by exact E.move (AF_ev rfl (up rfl (up rfl (up rfl (up rfl hs18)))))) ?_
              refine RW.soft (by exact Wd.yes (x := 166) rfl (AF_ev rfl (up rfl tp))) (v := .pointer (some ⟨b10, 0, none⟩)) (by exact E.move (AF_ev rfl (up rfl (up rfl (up rfl (up rfl (up rfl hs9))))))) ?_
              have hst := hst.take (.there .here)
              refine RW.hard (by exact Wd.yes (x := 166) rfl (AF_ev rfl (up rfl (up rfl tp)))) ?_
              refine H.call0 Try.func30 nm30 rfl (map1 (AF_ev rfl tp)) (Calls.mono (ent_LastL (v := ia7 + ((es9.length : Nat) : Int)) rfl hst) ?_)
              rintro _ w ⟨rfl, hst⟩
              refine ⟨_, rfl, ?_⟩
              show RW _ _ _ _ _ _ _
              refine RW.soft (by exact Wd.yes (x := 166) rfl (AF_ev rfl (up rfl (up rfl (up rfl tp))))) (v := .bool false) (by exact E.b (a := decide ((ia7 + ((m : Nat) : Int)) ≤ (ia7 + ((es9.length : Nat) : Int)))) (E.leq (k := .i64) (a := ia7 + ((m : Nat) : Int)) (b := ia7 + ((es9.length : Nat) : Int)) (AF_ev rfl (up rfl (up rfl tp))) (AF_ev rfl tp)) hle3) ?_
              refine RW.soft Wd.a (v := .bool false) (by exact E.pickT (AF_ev rfl (up rfl (up rfl (up rfl (up rfl tp))))) (AF_ev rfl tp)) ?_
              refine RW.fin (fun τ => τ 8 = .pointer (some ⟨b8, 0, none⟩) ∧ τ 9 = .pointer (some ⟨b10, 0, none⟩) ∧ τ 11 = .int .i64 kk14 ∧ τ 18 = .int .i64 (ia7 + ((m : Nat) : Int)) ∧ τ 171 = .bool false) ⟨up rfl (up rfl (up rfl (up rfl (up rfl (up rfl (up rfl (up rfl (up rfl hs8)))))))), up rfl (up rfl (up rfl (up rfl (up rfl (up rfl (up rfl (up rfl (up rfl hs9)))))))), up rfl (up rfl (up rfl (up rfl (up rfl (up rfl (up rfl (up rfl (up rfl hs11)))))))), up rfl (up rfl (up rfl (up rfl (up rfl (up rfl (up rfl (up rfl (up rfl hs18)))))))), tp⟩ ?_
              rintro τ ⟨hs8, hs9, hs11, hs18, hs171⟩
              refine CW.condF (AF_ev rfl hs171) ?_
              refine CW.exit ?_
              refine Th.x ?_
              refine Th.x ?_
              refine Bl.x ?_
              refine Th.n ?_
              refine CW.seq ?_
              refine CW.region ?_
              refine RW.soft Wd.a (v := .bool true) (by exact E.assign rfl) ?_
              refine RW.fin (fun τ => τ 6 = .bool true ∧ τ 8 = .pointer (some ⟨b8, 0, none⟩) ∧ τ 9 = .pointer (some ⟨b10, 0, none⟩) ∧ τ 11 = .int .i64 kk14 ∧ τ 18 = .int .i64 (ia7 + ((m : Nat) : Int)) ∧ τ 171 = .bool false) ⟨tp, up rfl hs8, up rfl hs9, up rfl hs11, up rfl hs18, up rfl hs171⟩ ?_
              rintro τ ⟨hs6, hs8, hs9, hs11, hs18, hs171⟩
              refine CW.ret ?_
              refine ret1 (v := .bool true) rfl (by exact (.tmp (AF_ev rfl hs6) .nil)) ?_
              have hst := hst.drop
              have hst := hst.drop
              exact ⟨p, hp0, rfl, hst⟩
          · skip
            refine CW.region ?_
            refine RW.soft Wd.a (v := .int .i64 (ia7 + ((m : Nat) : Int))) (by exact E.move (AF_ev rfl hs18)) ?_
            refine RW.soft Wd.a (v := .int .i64 kk14) (by exact E.move (AF_ev rfl (up rfl hs11))) ?_
            refine RW.soft Wd.a (v := .bool false) (by exact E.b (a := decide ((ia7 + ((m : Nat) : Int)) ≤ kk14)) (E.leq (k := .i64) (a := ia7 + ((m : Nat) : Int)) (b := kk14) (AF_ev rfl (up rfl tp)) (AF_ev rfl tp)) hle1) ?_
            refine RW.soft Wd.a (v := .bool false) (by exact E.move (AF_ev rfl tp)) ?_
            refine RW.pass (by exact Wd.no (x := 166) (b := false) rfl (AF_ev rfl tp) rfl) ?_
            refine RW.pass (by exact Wd.no (x := 166) (b := false) rfl (AF_ev rfl (up rfl tp)) rfl) ?_
            refine RW.pass (by exact Wd.no (x := 166) (b := false) rfl (AF_ev rfl (up rfl (up rfl tp))) rfl) ?_
            refine RW.pass (by exact Wd.no (x := 166) (b := false) rfl (AF_ev rfl (up rfl (up rfl (up rfl tp)))) rfl) ?_
            refine RW.soft Wd.a (v := .bool false) (by exact E.pickF (AF_ev rfl (up rfl (up rfl (up rfl (up rfl tp))))) rfl) ?_
            refine RW.fin (fun τ => τ 8 = .pointer (some ⟨b8, 0, none⟩) ∧ τ 9 = .pointer (some ⟨b10, 0, none⟩) ∧ τ 11 = .int .i64 kk14 ∧ τ 18 = .int .i64 (ia7 + ((m : Nat) : Int)) ∧ τ 171 = .bool false) ⟨up rfl (up rfl (up rfl (up rfl (up rfl (up rfl (up rfl (up rfl (up rfl hs8)))))))), up rfl (up rfl (up rfl (up rfl (up rfl (up rfl (up rfl (up rfl (up rfl hs9)))))))), up rfl (up rfl (up rfl (up rfl (up rfl (up rfl (up rfl (up rfl (up rfl hs11)))))))), up rfl (up rfl (up rfl (up rfl (up rfl (up rfl (up rfl (up rfl (up rfl hs18)))))))), tp⟩ ?_
            rintro τ ⟨hs8, hs9, hs11, hs18, hs171⟩
            refine CW.condF (AF_ev rfl hs171) ?_
            refine CW.exit ?_
            refine Th.x ?_
            refine Th.x ?_
            refine Bl.x ?_
            refine Th.n ?_
            refine CW.seq ?_
            refine CW.region ?_
            refine RW.soft Wd.a (v := .bool true) (by exact E.assign rfl) ?_
            refine RW.fin (fun τ => τ 6 = .bool true ∧ τ 8 = .pointer (some ⟨b8, 0, none⟩) ∧ τ 9 = .pointer (some ⟨b10, 0, none⟩) ∧ τ 11 = .int .i64 kk14 ∧ τ 18 = .int .i64 (ia7 + ((m : Nat) : Int)) ∧ τ 171 = .bool false) ⟨tp, up rfl hs8, up rfl hs9, up rfl hs11, up rfl hs18, up rfl hs171⟩ ?_
            rintro τ ⟨hs6, hs8, hs9, hs11, hs18, hs171⟩
            refine CW.ret ?_
            refine ret1 (v := .bool true) rfl (by exact (.tmp (AF_ev rfl hs6) .nil)) ?_
            have hst := hst.drop
            have hst := hst.drop
            exact ⟨p, hp0, rfl, hst⟩
end Go.Proofs.Ytdlcjoonhojpfaa
