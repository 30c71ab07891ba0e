/- The calls of the package entries, walked through operation by operation. -/
import Derived.Test.YtdlcjoonhojpfaaE0
import Derived.Test.YtdlcjoonhojpfaaT1
import Derived.Test.YtdlcjoonhojpfaaE1
import Derived.Test.YtdlcjoonhojpfaaE2
import Derived.Test.YtdlcjoonhojpfaaE3
import Derived.Test.YtdlcjoonhojpfaaE4
import Derived.Test.YtdlcjoonhojpfaaE5
import Derived.Test.YtdlcjoonhojpfaaE6
import Derived.Test.YtdlcjoonhojpfaaE9
import Derived.Test.YtdlcjoonhojpfaaE10
namespace Go.Proofs.Ytdlcjoonhojpfaa
open Go.RowKit Go.SL Go.E17
attribute [local irreducible] Go.SL.RW Go.SL.CW Go.SL.RD Go.SL.Hd Go.SL.St
set_option linter.unusedVariables false
set_option linter.unusedSimpArgs false

theorem nm27 : (Try.f27.name == "runtime.NumGoroutine") = false := by kernel_rfl
theorem nm28 : (Try.f28.name == "runtime.NumGoroutine") = false := by kernel_rfl
theorem nm37 : (Try.f37.name == "runtime.NumGoroutine") = false := by kernel_rfl

theorem near17C {p : Pers} {w : World} {R : List Assn} {v : Int} (i : Int) (hi : -9223372036854775808 ≤ i ∧ i ≤ 9223372036854775807) (hv : nearF i = v) (hst : St p w R) :
    Calls Try.prog 26 #[.int .i64 i] w fun e w => e = .returned (.int .i64 v) ∧ St p w R := by
  subst hv; exact near17 i hi hst

theorem based_walk {p : Pers} {w : World} {R : List Assn} {p0 : Pers} {X : Option Addr} {c : Nat} {l : List Ent} (hp0 : p0.le p) (i0 t0 k0 u : Int) (hi0 : -9223372036854775808 ≤ i0 ∧ i0 ≤ 9223372036854775807) (hk0 : -9223372036854775808 ≤ k0 ∧ k0 ≤ 9223372036854775807) (hlm : l.length ≤ 9223372036854775807) (hL : Las p 4 (.slice X l.length c) l.length (flat l)) (hEL : EsLas p l) (hst : St p w (R)) :
    Calls Try.prog 8 #[.agg #[.int .i64 i0, .int .i64 t0], .slice X l.length c, .agg #[.int .i64 k0, .int .i64 u]] w fun e w => ∃ q, p0.le q ∧ e = .returned (.bool true) ∧ St q w R := by
  refine enter Try.func8 rfl (by simp) (n := 136) rfl fun τ hτ => ?_
  have hs0 : τ 0 = .agg #[.int .i64 i0, .int .i64 t0] := hτ 0 (by simp)
  have hs1 : τ 1 = .slice X l.length c := hτ 1 (by simp)
  have hs2 : τ 2 = .agg #[.int .i64 k0, .int .i64 u] := hτ 2 (by simp)
  clear hτ
  refine CW.seq ?_
  refine CW.region ?_
  refine RW.hard Wd.a ?_
  refine H.box (v := .agg #[.int .i64 i0, .int .i64 t0]) (AF_ev rfl hs0) hst fun b1 w hst => ?_
  refine RW.hard Wd.a ?_
  refine H.box (v := .agg #[.int .i64 k0, .int .i64 u]) (AF_ev rfl (up rfl hs2)) hst fun b2 w hst => ?_
  refine RW.soft Wd.a (v := .bool false) (by exact E.assign rfl) ?_
  refine RW.fin (fun τ => τ 0 = .agg #[.int .i64 i0, .int .i64 t0] ∧ τ 1 = .slice X l.length c ∧ τ 2 = .agg #[.int .i64 k0, .int .i64 u] ∧ τ 3 = .pointer (some ⟨b1, 0, none⟩) ∧ τ 5 = .pointer (some ⟨b2, 0, none⟩) ∧ τ 6 = .bool false) ⟨up rfl (up rfl (up rfl hs0)), up rfl (up rfl (up rfl hs1)), up rfl (up rfl (up rfl hs2)), up rfl (up rfl tp), up rfl tp, tp⟩ ?_
  rintro τ ⟨hs0, hs1, hs2, hs3, hs5, hs6⟩
  refine CW.seq ?_
  refine CW.region ?_
  refine RW.hard Wd.a ?_
  refine H.call0 Try.func24 nm24 rfl map0 (Calls.mono (ent_shown p.le_refl hst) ?_)
  rintro _ w ⟨p, hle, rfl, hst⟩
  have hp0 := hp0.le hle
  have hL := hL.le hle
  have hEL := hEL.le hle
  refine ⟨_, rfl, ?_⟩
  show RW _ _ _ _ _ _ _
  refine RW.soft Wd.a (v := .bool true) (by exact E.assign (AF_ev rfl tp)) ?_
  refine RW.fin (fun τ => τ 0 = .agg #[.int .i64 i0, .int .i64 t0] ∧ τ 1 = .slice X l.length c ∧ τ 2 = .agg #[.int .i64 k0, .int .i64 u] ∧ τ 3 = .pointer (some ⟨b1, 0, none⟩) ∧ τ 5 = .pointer (some ⟨b2, 0, none⟩) ∧ τ 6 = .bool false ∧ τ 7 = .bool true) ⟨up rfl (up rfl hs0), up rfl (up rfl hs1), up rfl (up rfl hs2), up rfl (up rfl hs3), up rfl (up rfl hs5), up rfl (up rfl hs6), tp⟩ ?_
  rintro τ ⟨hs0, hs1, hs2, hs3, hs5, hs6, hs7⟩
  refine CW.seq ?_
  refine CW.regionD [0, 1, 3, 4, 5] (fun w => w.cell? ⟨b1, 0, none⟩ = some (.int .i64 i0) ∧ w.cell? ⟨b1, 1, none⟩ = some (.int .i64 t0)) mixed ?_
  have hst := hst.drew
  generalize w.drew = w at hst ⊢
  have hS : w.cell? ⟨b1, 0, none⟩ = some (.int .i64 i0) ∧ w.cell? ⟨b1, 1, none⟩ = some (.int .i64 t0) := ⟨hst.cell (.there .here) rfl, hst.cell (.there .here) rfl⟩
  refine RD.take 0 rfl (by kernel_rfl) Wd.a (v := .pointer (some ⟨b1, 0, none⟩)) (fun w hS => by exact E.indexAddrA (b := b1) (o := 0) (i := 0) Try.underlying43 sz3 (AF_ev rfl hs3) rfl (by omega) (by omega) (by simp)) hS ?_
  refine RD.take 1 rfl (by kernel_rfl) Wd.a (v := .int .i64 i0) (fun w hS => by exact E.load (a := ⟨b1, 0, none⟩) Try.underlying3 rfl (AF_ev rfl tp) hS.1) hS ?_
  refine RD.take 3 rfl (by kernel_rfl) Wd.a (v := .pointer (some ⟨b1, 1, none⟩)) (fun w hS => by exact E.indexAddrA (b := b1) (o := 0) (i := 1) Try.underlying43 sz3 (AF_ev rfl (up rfl (up rfl hs3))) rfl (by omega) (by omega) (by simp)) hS ?_
  refine RD.take 4 rfl (by kernel_rfl) Wd.a (v := .int .i64 t0) (fun w hS => by exact E.load (a := ⟨b1, 1, none⟩) Try.underlying3 rfl (AF_ev rfl tp) hS.2) hS ?_
  refine RD.take 5 rfl (by kernel_rfl) Wd.a (v := .slice X l.length c) (fun w hS => by exact E.move (AF_ev rfl (up rfl (up rfl (up rfl (up rfl hs1)))))) hS ?_
  obtain ⟨kk3, hkk3⟩ : ∃ z, z = nearF i0 := ⟨_, rfl⟩
  have hrkk3 := nearF_range i0
  rw [← hkk3] at hrkk3
  refine RD.only 2 rfl (by kernel_rfl) Wd.a ?_
  refine H.call0 Try.func26 nm26 rfl (map1 (AF_ev rfl (up rfl (up rfl (up rfl tp))))) (Calls.mono (near17C (v := kk3) i0 (by omega) hkk3.symm hst) ?_)
  rintro _ w ⟨rfl, hst⟩
  refine ⟨_, rfl, ?_⟩
  have hS : w.cell? ⟨b1, 0, none⟩ = some (.int .i64 i0) ∧ w.cell? ⟨b1, 1, none⟩ = some (.int .i64 t0) := ⟨hst.cell (.there .here) rfl, hst.cell (.there .here) rfl⟩
  refine ⟨fun _ => hS, ?_⟩
  have hst := hst.emp
  refine RD.only 6 rfl (by kernel_rfl) Wd.a ?_
  refine H.call0 Try.func27 nm27 rfl (map1 (AF_ev rfl (up rfl tp))) (Calls.mono (ent_few (Las.tells hL) hEL (by omega) p.le_refl hst) ?_)
  rintro _ w ⟨p, vX4, es6, hle, rfl, hokes6, hl20es6, hst⟩
  obtain ⟨X4, c5, rfl, hcX4, hmX4, hlX4, hbX4⟩ := hst.shape
  have hp0 := hp0.le hle
  have hL := hL.le hle
  have hEL := hEL.le hle
  refine ⟨_, rfl, ?_⟩
  have hS : w.cell? ⟨b1, 0, none⟩ = some (.int .i64 i0) ∧ w.cell? ⟨b1, 1, none⟩ = some (.int .i64 t0) := ⟨hst.cell (.there (.there (.there .here))) rfl, hst.cell (.there (.there (.there .here))) rfl⟩
  refine ⟨fun _ => hS, ?_⟩
  obtain ⟨ia7, hia7⟩ : ∃ z, z = max 0 (min kk3 1099511627776) := ⟨_, rfl⟩
  have hria7 : 0 ≤ ia7 ∧ ia7 ≤ 1099511627776 := by omega
  refine RD.only 7 rfl (by kernel_rfl) Wd.a ?_
  refine H.call0 Try.func25 nm25 rfl (map3 (AF_ev rfl (up rfl tp)) (AF_ev rfl (up rfl (up rfl (up rfl tp)))) (AF_ev rfl tp)) (Calls.mono (ent_NewC (i' := ia7) kk3 t0 Own.tells hokes6 (by first | simp | omega) (by omega) hia7.symm hst) ?_)
  rintro _ w ⟨p, b8, es9, hle, rfl, hvses9, hst⟩
  have hp0 := hp0.le hle
  have hL := hL.le hle
  have hEL := hEL.le hle
  have hokes6 := hokes6.le hle
  have htses9 := ts_eq hvses9
  have hvles9 := vs_len hvses9
  refine ⟨_, rfl, ?_⟩
  have hS : w.cell? ⟨b1, 0, none⟩ = some (.int .i64 i0) ∧ w.cell? ⟨b1, 1, none⟩ = some (.int .i64 t0) := ⟨hst.cell (.there (.there (.there (.there .here)))) rfl, hst.cell (.there (.there (.there (.there .here)))) rfl⟩
  refine ⟨fun _ => hS, ?_⟩
  refine RD.only 8 rfl (by kernel_rfl) Wd.a (Hd.value (v := .pointer (some ⟨b8, 0, none⟩)) (by exact E.assign (AF_ev rfl tp)) ⟨fun h => Bool.noConfusion ((show needs _ _ _ = false by kernel_rfl).symm.trans h), ?_⟩)
  refine RD.fin (by kernel_rfl) (fun τ => τ 0 = .agg #[.int .i64 i0, .int .i64 t0] ∧ τ 1 = .slice X l.length c ∧ τ 2 = .agg #[.int .i64 k0, .int .i64 u] ∧ τ 3 = .pointer (some ⟨b1, 0, none⟩) ∧ τ 5 = .pointer (some ⟨b2, 0, none⟩) ∧ τ 6 = .bool false ∧ τ 7 = .bool true ∧ τ 8 = .pointer (some ⟨b8, 0, none⟩)) ⟨up rfl (up rfl (up rfl (up rfl (up rfl (up rfl (up rfl (up rfl (up rfl hs0)))))))), up rfl (up rfl (up rfl (up rfl (up rfl (up rfl (up rfl (up rfl (up rfl hs1)))))))), up rfl (up rfl (up rfl (up rfl (up rfl (up rfl (up rfl (up rfl (up rfl hs2)))))))), up rfl (up rfl (up rfl (up rfl (up rfl (up rfl (up rfl (up rfl (up rfl hs3)))))))), up rfl (up rfl (up rfl (up rfl (up rfl (up rfl (up rfl (up rfl (up rfl hs5)))))))), up rfl (up rfl (up rfl (up rfl (up rfl (up rfl (up rfl (up rfl (up rfl hs6)))))))), up rfl (up rfl (up rfl (up rfl (up rfl (up rfl (up rfl (up rfl (up rfl hs7)))))))), tp⟩ ?_
  rintro τ ⟨hs0, hs1, hs2, hs3, hs5, hs6, hs7, hs8⟩
  refine CW.seq ?_
  refine CW.seq ?_
  refine CW.region ?_
  refine RW.soft Wd.a (v := .bool true) (by exact E.move (AF_ev rfl hs7)) ?_
  refine RW.soft Wd.a (v := .bool false) (by exact E.not (b := true) (AF_ev rfl tp)) ?_
  refine RW.soft Wd.a (v := .bool false) (by exact E.move (AF_ev rfl tp)) ?_
  refine RW.soft (by exact Wd.yes (x := 29) rfl (AF_ev rfl tp)) (v := .pointer (some ⟨b8, 0, none⟩)) (by exact E.move (AF_ev rfl (up rfl (up rfl (up rfl hs8))))) ?_
  refine RW.soft (by exact Wd.yes (x := 29) rfl (AF_ev rfl (up rfl tp))) (v := .bool false) (by exact E.eqlP (p := (some ⟨b8, 0, none⟩)) Try.underlying47 (AF_ev rfl tp) rfl) ?_
  refine RW.soft Wd.a (v := .bool false) (by exact E.pickF (AF_ev rfl (up rfl (up rfl tp))) (AF_ev rfl tp)) ?_
  refine RW.fin (fun τ => τ 0 = .agg #[.int .i64 i0, .int .i64 t0] ∧ τ 1 = .slice X l.length c ∧ τ 2 = .agg #[.int .i64 k0, .int .i64 u] ∧ τ 3 = .pointer (some ⟨b1, 0, none⟩) ∧ τ 5 = .pointer (some ⟨b2, 0, none⟩) ∧ τ 6 = .bool false ∧ τ 7 = .bool true ∧ τ 8 = .pointer (some ⟨b8, 0, none⟩) ∧ τ 32 = .bool false) ⟨up rfl (up rfl (up rfl (up rfl (up rfl (up rfl hs0))))), up rfl (up rfl (up rfl (up rfl (up rfl (up rfl hs1))))), up rfl (up rfl (up rfl (up rfl (up rfl (up rfl hs2))))), up rfl (up rfl (up rfl (up rfl (up rfl (up rfl hs3))))), up rfl (up rfl (up rfl (up rfl (up rfl (up rfl hs5))))), up rfl (up rfl (up rfl (up rfl (up rfl (up rfl hs6))))), up rfl (up rfl (up rfl (up rfl (up rfl (up rfl hs7))))), up rfl (up rfl (up rfl (up rfl (up rfl (up rfl hs8))))), tp⟩ ?_
  rintro τ ⟨hs0, hs1, hs2, hs3, hs5, hs6, hs7, hs8, hs32⟩
  refine CW.condF (AF_ev rfl hs32) ?_
  refine CW.skip ?_
  refine Th.n ?_
  refine CW.seq ?_
  refine CW.region ?_
  refine RW.soft Wd.a (v := .pointer (some ⟨b8, 0, none⟩)) (by exact E.move (AF_ev rfl hs8)) ?_
  refine RW.hard Wd.a ?_
  refine H.call0 Try.func28 nm28 rfl (map1 (AF_ev rfl tp)) (Calls.mono (ent_Clone hst) ?_)
  rintro _ w ⟨b10, rfl, hst⟩
  refine ⟨_, rfl, ?_⟩
  show RW _ _ _ _ _ _ _
  refine RW.soft Wd.a (v := .pointer (some ⟨b10, 0, none⟩)) (by exact E.assign (AF_ev rfl tp)) ?_
  refine RW.fin (fun τ => τ 0 = .agg #[.int .i64 i0, .int .i64 t0] ∧ τ 1 = .slice X l.length c ∧ τ 2 = .agg #[.int .i64 k0, .int .i64 u] ∧ τ 3 = .pointer (some ⟨b1, 0, none⟩) ∧ τ 5 = .pointer (some ⟨b2, 0, none⟩) ∧ τ 6 = .bool false ∧ τ 7 = .bool true ∧ τ 8 = .pointer (some ⟨b8, 0, none⟩) ∧ τ 9 = .pointer (some ⟨b10, 0, none⟩) ∧ τ 32 = .bool false) ⟨up rfl (up rfl (up rfl hs0)), up rfl (up rfl (up rfl hs1)), up rfl (up rfl (up rfl hs2)), up rfl (up rfl (up rfl hs3)), up rfl (up rfl (up rfl hs5)), up rfl (up rfl (up rfl hs6)), up rfl (up rfl (up rfl hs7)), up rfl (up rfl (up rfl hs8)), tp, up rfl (up rfl (up rfl hs32))⟩ ?_
  rintro τ ⟨hs0, hs1, hs2, hs3, hs5, hs6, hs7, hs8, hs9, hs32⟩
  refine CW.seq ?_
  refine CW.seq ?_
  refine CW.region ?_
  refine RW.soft Wd.a (v := .pointer (some ⟨b10, 0, none⟩)) (by exact E.move (AF_ev rfl hs9)) ?_
  refine RW.soft Wd.a (v := .bool false) (by exact E.eqlP (p := (some ⟨b10, 0, none⟩)) Try.underlying47 (AF_ev rfl tp) rfl) ?_
  refine RW.fin (fun τ => τ 0 = .agg #[.int .i64 i0, .int .i64 t0] ∧ τ 1 = .slice X l.length c ∧ τ 2 = .agg #[.int .i64 k0, .int .i64 u] ∧ τ 3 = .pointer (some ⟨b1, 0, none⟩) ∧ τ 5 = .pointer (some ⟨b2, 0, none⟩) ∧ τ 6 = .bool false ∧ τ 7 = .bool true ∧ τ 8 = .pointer (some ⟨b8, 0, none⟩) ∧ τ 9 = .pointer (some ⟨b10, 0, none⟩) ∧ τ 32 = .bool false ∧ τ 36 = .bool false) ⟨up rfl (up rfl hs0), up rfl (up rfl hs1), up rfl (up rfl hs2), up rfl (up rfl hs3), up rfl (up rfl hs5), up rfl (up rfl hs6), up rfl (up rfl hs7), up rfl (up rfl hs8), up rfl (up rfl hs9), up rfl (up rfl hs32), tp⟩ ?_
  rintro τ ⟨hs0, hs1, hs2, hs3, hs5, hs6, hs7, hs8, hs9, hs32, hs36⟩
  refine CW.condF (AF_ev rfl hs36) ?_
  refine CW.skip ?_
  refine Th.n ?_
  refine CW.seq ?_
  refine CW.region ?_
  refine RW.soft Wd.a (v := .pointer (some ⟨b2, 0, none⟩)) (by exact E.indexAddrA (b := b2) (o := 0) (i := 0) Try.underlying43 sz3 (AF_ev rfl hs5) rfl (by omega) (by omega) (by simp)) ?_
  refine RW.soft Wd.a (v := .int .i64 k0) (by exact E.load (a := ⟨b2, 0, none⟩) Try.underlying3 rfl (AF_ev rfl tp) (hst.cell (.there (.there (.there (.there .here)))) rfl)) ?_
  obtain ⟨kk11, hkk11⟩ : ∃ z, z = nearF k0 := ⟨_, rfl⟩
  have hrkk11 := nearF_range k0
  rw [← hkk11] at hrkk11
  refine RW.hard Wd.a ?_
  refine H.call0 Try.func26 nm26 rfl (map1 (AF_ev rfl tp)) (Calls.mono (near17C (v := kk11) k0 (by omega) hkk11.symm hst) ?_)
  rintro _ w ⟨rfl, hst⟩
  refine ⟨_, rfl, ?_⟩
  show RW _ _ _ _ _ _ _
  refine RW.soft Wd.a (v := .int .i64 kk11) (by exact E.assign (AF_ev rfl tp)) ?_
  refine RW.fin (fun τ => τ 0 = .agg #[.int .i64 i0, .int .i64 t0] ∧ τ 1 = .slice X l.length c ∧ τ 2 = .agg #[.int .i64 k0, .int .i64 u] ∧ τ 3 = .pointer (some ⟨b1, 0, none⟩) ∧ τ 5 = .pointer (some ⟨b2, 0, none⟩) ∧ τ 6 = .bool false ∧ τ 7 = .bool true ∧ τ 8 = .pointer (some ⟨b8, 0, none⟩) ∧ τ 9 = .pointer (some ⟨b10, 0, none⟩) ∧ τ 10 = .int .i64 kk11 ∧ τ 32 = .bool false ∧ τ 36 = .bool false) ⟨up rfl (up rfl (up rfl (up rfl hs0))), up rfl (up rfl (up rfl (up rfl hs1))), up rfl (up rfl (up rfl (up rfl hs2))), up rfl (up rfl (up rfl (up rfl hs3))), up rfl (up rfl (up rfl (up rfl hs5))), up rfl (up rfl (up rfl (up rfl hs6))), up rfl (up rfl (up rfl (up rfl hs7))), up rfl (up rfl (up rfl (up rfl hs8))), up rfl (up rfl (up rfl (up rfl hs9))), tp, up rfl (up rfl (up rfl (up rfl hs32))), up rfl (up rfl (up rfl (up rfl hs36)))⟩ ?_
  rintro τ ⟨hs0, hs1, hs2, hs3, hs5, hs6, hs7, hs8, hs9, hs10, hs32, hs36⟩
  refine CW.seq ?_
  refine CW.region ?_
  refine RW.soft Wd.a (v := .pointer (some ⟨b10, 0, none⟩)) (by exact E.move (AF_ev rfl hs9)) ?_
  refine RW.soft Wd.a (v := .int .i64 kk11) (by exact E.move (AF_ev rfl (up rfl hs10))) ?_
  refine RW.hard Wd.a ?_
  refine H.call0 Try.func32 nm32 rfl (map2 (AF_ev rfl (up rfl tp)) (AF_ev rfl tp)) (Calls.mono (ent_TermL (v := termT ia7 t0 (ts es9) kk11) (u := termE ia7 (ts es9) kk11) kk11 (by omega) rfl rfl hst) ?_)
  rintro _ w ⟨rfl, hst⟩
  refine ⟨_, rfl, ?_⟩
  show RW _ _ _ _ _ _ _
  refine RW.soft Wd.a (v := .tuple #[.int .i64 (termT ia7 t0 (ts es9) kk11), .int .i64 (termE ia7 (ts es9) kk11)]) (by exact E.move (AF_ev rfl tp)) ?_
  refine RW.soft Wd.a (v := .int .i64 (termT ia7 t0 (ts es9) kk11)) (by exact E.extract (vs := #[.int .i64 (termT ia7 t0 (ts es9) kk11), .int .i64 (termE ia7 (ts es9) kk11)]) (AF_ev rfl tp) rfl) ?_
  refine RW.soft Wd.a (v := .int .i64 (termE ia7 (ts es9) kk11)) (by exact E.extract (vs := #[.int .i64 (termT ia7 t0 (ts es9) kk11), .int .i64 (termE ia7 (ts es9) kk11)]) (AF_ev rfl (up rfl tp)) rfl) ?_
  refine RW.soft Wd.a (v := .int .i64 (termT ia7 t0 (ts es9) kk11)) (by exact E.assign (AF_ev rfl (up rfl tp))) ?_
  refine RW.soft Wd.a (v := .int .i64 (termE ia7 (ts es9) kk11)) (by exact E.assign (AF_ev rfl (up rfl tp))) ?_
  refine RW.fin (fun τ => τ 0 = .agg #[.int .i64 i0, .int .i64 t0] ∧ τ 1 = .slice X l.length c ∧ τ 2 = .agg #[.int .i64 k0, .int .i64 u] ∧ τ 3 = .pointer (some ⟨b1, 0, none⟩) ∧ τ 5 = .pointer (some ⟨b2, 0, none⟩) ∧ τ 6 = .bool false ∧ τ 7 = .bool true ∧ τ 8 = .pointer (some ⟨b8, 0, none⟩) ∧ τ 9 = .pointer (some ⟨b10, 0, none⟩) ∧ τ 10 = .int .i64 kk11 ∧ τ 11 = .int .i64 (termT ia7 t0 (ts es9) kk11) ∧ τ 12 = .int .i64 (termE ia7 (ts es9) kk11) ∧ τ 32 = .bool false ∧ τ 36 = .bool false) ⟨up rfl (up rfl (up rfl (up rfl (up rfl (up rfl (up rfl (up rfl hs0))))))), up rfl (up rfl (up rfl (up rfl (up rfl (up rfl (up rfl (up rfl hs1))))))), up rfl (up rfl (up rfl (up rfl (up rfl (up rfl (up rfl (up rfl hs2))))))), up rfl (up rfl (up rfl (up rfl (up rfl (up rfl (up rfl (up rfl hs3))))))), up rfl (up rfl (up rfl (up rfl (up rfl (up rfl (up rfl (up rfl hs5))))))), up rfl (up rfl (up rfl (up rfl (up rfl (up rfl (up rfl (up rfl hs6))))))), up rfl (up rfl (up rfl (up rfl (up rfl (up rfl (up rfl (up rfl hs7))))))), up rfl (up rfl (up rfl (up rfl (up rfl (up rfl (up rfl (up rfl hs8))))))), up rfl (up rfl (up rfl (up rfl (up rfl (up rfl (up rfl (up rfl hs9))))))), up rfl (up rfl (up rfl (up rfl (up rfl (up rfl (up rfl (up rfl hs10))))))), up rfl tp, tp, up rfl (up rfl (up rfl (up rfl (up rfl (up rfl (up rfl (up rfl hs32))))))), up rfl (up rfl (up rfl (up rfl (up rfl (up rfl (up rfl (up rfl hs36)))))))⟩ ?_
  rintro τ ⟨hs0, hs1, hs2, hs3, hs5, hs6, hs7, hs8, hs9, hs10, hs11, hs12, hs32, hs36⟩
  refine CW.seq ?_
  refine Or.elim (Bool.eq_false_or_eq_true (decide (kk11 < ia7))) (fun h1 => ?_) (fun h1 => ?_)
  · skip
    have h1_ := of_decide_eq_true h1
    refine CW.region ?_
    refine RW.soft Wd.a (v := .pointer (some ⟨b8, 0, none⟩)) (by exact E.move (AF_ev rfl hs8)) ?_
    refine RW.soft Wd.a (v := .int .i64 kk11) (by exact E.move (AF_ev rfl (up rfl hs10))) ?_
    refine RW.soft Wd.a (v := .pointer (some ⟨b2, 1, none⟩)) (by exact E.indexAddrA (b := b2) (o := 0) (i := 1) Try.underlying43 sz3 (AF_ev rfl (up rfl (up rfl hs5))) rfl (by omega) (by omega) (by simp)) ?_
    refine RW.soft Wd.a (v := .int .i64 u) (by exact E.load (a := ⟨b2, 1, none⟩) Try.underlying3 rfl (AF_ev rfl tp) (hst.cell (.there (.there (.there (.there .here)))) rfl)) ?_
    have hst := hst.take (.there .here)
    refine RW.hard Wd.a ?_
    refine H.call0 Try.func37 nm37 rfl (map3 (AF_ev rfl (up rfl (up rfl (up rfl tp)))) (AF_ev rfl (up rfl (up rfl tp))) (AF_ev rfl tp)) (Calls.mono (ent_Base_no kk11 u (by omega) hst) ?_)
    rintro _ w ⟨rfl, hst⟩
    refine ⟨_, rfl, ?_⟩
    show RW _ _ _ _ _ _ _
    refine RW.soft Wd.a (v := .int .i64 1) (by exact E.assign (AF_ev rfl tp)) ?_
    refine RW.fin (fun τ => τ 0 = .agg #[.int .i64 i0, .int .i64 t0] ∧ τ 1 = .slice X l.length c ∧ τ 2 = .agg #[.int .i64 k0, .int .i64 u] ∧ τ 3 = .pointer (some ⟨b1, 0, none⟩) ∧ τ 5 = .pointer (some ⟨b2, 0, none⟩) ∧ τ 6 = .bool false ∧ τ 7 = .bool true ∧ τ 8 = .pointer (some ⟨b8, 0, none⟩) ∧ τ 9 = .pointer (some ⟨b10, 0, none⟩) ∧ τ 10 = .int .i64 kk11 ∧ τ 11 = .int .i64 (termT ia7 t0 (ts es9) kk11) ∧ τ 12 = .int .i64 (termE ia7 (ts es9) kk11) ∧ τ 13 = .int .i64 1 ∧ τ 32 = .bool false ∧ τ 36 = .bool false) ⟨up rfl (up rfl (up rfl (up rfl (up rfl (up rfl hs0))))), up rfl (up rfl (up rfl (up rfl (up rfl (up rfl hs1))))), up rfl (up rfl (up rfl (up rfl (up rfl (up rfl hs2))))), up rfl (up rfl (up rfl (up rfl (up rfl (up rfl hs3))))), up rfl (up rfl (up rfl (up rfl (up rfl (up rfl hs5))))), up rfl (up rfl (up rfl (up rfl (up rfl (up rfl hs6))))), up rfl (up rfl (up rfl (up rfl (up rfl (up rfl hs7))))), up rfl (up rfl (up rfl (up rfl (up rfl (up rfl hs8))))), up rfl (up rfl (up rfl (up rfl (up rfl (up rfl hs9))))), up rfl (up rfl (up rfl (up rfl (up rfl (up rfl hs10))))), up rfl (up rfl (up rfl (up rfl (up rfl (up rfl hs11))))), up rfl (up rfl (up rfl (up rfl (up rfl (up rfl hs12))))), tp, up rfl (up rfl (up rfl (up rfl (up rfl (up rfl hs32))))), up rfl (up rfl (up rfl (up rfl (up rfl (up rfl hs36)))))⟩ ?_
    rintro τ ⟨hs0, hs1, hs2, hs3, hs5, hs6, hs7, hs8, hs9, hs10, hs11, hs12, hs13, hs32, hs36⟩
    refine CW.seq ?_
    refine CW.seq ?_
    refine CW.region ?_
    refine RW.soft Wd.a (v := .int .i64 kk11) (by exact E.move (AF_ev rfl hs10)) ?_
    refine RW.soft Wd.a (v := .pointer (some ⟨b10, 0, none⟩)) (by exact E.move (AF_ev rfl (up rfl hs9))) ?_
    have hst := hst.take (.there .here)
    refine RW.hard Wd.a ?_
    refine H.call0 Try.func31 nm31 rfl (map1 (AF_ev rfl tp)) (Calls.mono (ent_FirstL hst) ?_)
    rintro _ w ⟨rfl, hst⟩
    refine ⟨_, rfl, ?_⟩
    show RW _ _ _ _ _ _ _
    refine RW.soft Wd.a (v := .int .i64 (ia7 + 1 - 1)) (by exact E.sub (k := .i64) (a := ia7 + 1) (b := 1) (AF_ev rfl tp) rfl (show IntKind.i64.wrap ((ia7 + 1) - 1) = ia7 + 1 - 1 from (by rw [IntWalk.i64_in _ (by omega)] <;> omega))) ?_
    refine RW.soft Wd.a (v := .bool true) (by exact E.b (a := decide (kk11 < (ia7 + 1 - 1))) (E.lss (k := .i64) (a := kk11) (b := ia7 + 1 - 1) (AF_ev rfl (up rfl (up rfl (up rfl tp)))) (AF_ev rfl tp)) (by rw [decide_eq_true_eq]; have := of_decide_eq_true h1; omega)) ?_
    refine RW.fin (fun τ => τ 0 = .agg #[.int .i64 i0, .int .i64 t0] ∧ τ 1 = .slice X l.length c ∧ τ 2 = .agg #[.int .i64 k0, .int .i64 u] ∧ τ 3 = .pointer (some ⟨b1, 0, none⟩) ∧ τ 5 = .pointer (some ⟨b2, 0, none⟩) ∧ τ 6 = .bool false ∧ τ 7 = .bool true ∧ τ 8 = .pointer (some ⟨b8, 0, none⟩) ∧ τ 9 = .pointer (some ⟨b10, 0, none⟩) ∧ τ 10 = .int .i64 kk11 ∧ τ 11 = .int .i64 (termT ia7 t0 (ts es9) kk11) ∧ τ 12 = .int .i64 (termE ia7 (ts es9) kk11) ∧ τ 13 = .int .i64 1 ∧ τ 32 = .bool false ∧ τ 36 = .bool false ∧ τ 55 = .bool true) ⟨up rfl (up rfl (up rfl (up rfl (up rfl hs0)))), up rfl (up rfl (up rfl (up rfl (up rfl hs1)))), up rfl (up rfl (up rfl (up rfl (up rfl hs2)))), up rfl (up rfl (up rfl (up rfl (up rfl hs3)))), up rfl (up rfl (up rfl (up rfl (up rfl hs5)))), up rfl (up rfl (up rfl (up rfl (up rfl hs6)))), up rfl (up rfl (up rfl (up rfl (up rfl hs7)))), up rfl (up rfl (up rfl (up rfl (up rfl hs8)))), up rfl (up rfl (up rfl (up rfl (up rfl hs9)))), up rfl (up rfl (up rfl (up rfl (up rfl hs10)))), up rfl (up rfl (up rfl (up rfl (up rfl hs11)))), up rfl (up rfl (up rfl (up rfl (up rfl hs12)))), up rfl (up rfl (up rfl (up rfl (up rfl hs13)))), up rfl (up rfl (up rfl (up rfl (up rfl hs32)))), up rfl (up rfl (up rfl (up rfl (up rfl hs36)))), tp⟩ ?_
    rintro τ ⟨hs0, hs1, hs2, hs3, hs5, hs6, hs7, hs8, hs9, hs10, hs11, hs12, hs13, hs32, hs36, hs55⟩
    refine CW.condT (AF_ev rfl hs55) ?_
    refine CW.seq ?_
    refine CW.region ?_
    refine RW.soft Wd.a (v := .int .i64 1) (by exact E.move (AF_ev rfl hs13)) ?_
    refine RW.soft Wd.a (v := .bool true) (by exact E.eql (k := .i64) (a := 1) (b := 1) (AF_ev rfl tp) rfl) ?_
    refine RW.soft Wd.a (v := .bool true) (by exact E.move (AF_ev rfl tp)) ?_
    refine RW.soft (by exact Wd.yes (x := 58) rfl (AF_ev rfl tp)) (v := .pointer (some ⟨b8, 0, none⟩)) (by exact E.move (AF_ev rfl (up rfl (up rfl (up rfl hs8))))) ?_
    have hst := hst.take (.there .here)
    refine RW.hard (by exact Wd.yes (x := 58) rfl (AF_ev rfl (up rfl tp))) ?_
    refine H.call0 Try.func31 nm31 rfl (map1 (AF_ev rfl tp)) (Calls.mono (ent_FirstL hst) ?_)
    rintro _ w ⟨rfl, hst⟩
    refine ⟨_, rfl, ?_⟩
    show RW _ _ _ _ _ _ _
    refine RW.soft (by exact Wd.yes (x := 58) rfl (AF_ev rfl (up rfl (up rfl tp)))) (v := .pointer (some ⟨b10, 0, none⟩)) (by exact E.move (AF_ev rfl (up rfl (up rfl (up rfl (up rfl (up rfl hs9))))))) ?_
    have hst := hst.take (.there .here)
    refine RW.hard (by exact Wd.yes (x := 58) rfl (AF_ev rfl (up rfl (up rfl (up rfl tp))))) ?_
    refine H.call0 Try.func31 nm31 rfl (map1 (AF_ev rfl tp)) (Calls.mono (ent_FirstL hst) ?_)
    rintro _ w ⟨rfl, hst⟩
    refine ⟨_, rfl, ?_⟩
    show RW _ _ _ _ _ _ _
    refine RW.soft (by exact Wd.yes (x := 58) rfl (AF_ev rfl (up rfl (up rfl (up rfl (up rfl tp)))))) (v := .bool true) (by exact E.b (a := (ia7 + 1) == (ia7 + 1)) (E.eql (k := .i64) (a := ia7 + 1) (b := ia7 + 1) (AF_ev rfl (up rfl (up rfl tp))) (AF_ev rfl tp)) (by simp)) ?_
    refine RW.soft Wd.a (v := .bool true) (by exact E.pickT (AF_ev rfl (up rfl (up rfl (up rfl (up rfl (up rfl tp)))))) (AF_ev rfl tp)) ?_
    refine RW.soft Wd.a (v := .bool true) (by exact E.move (AF_ev rfl tp)) ?_
    refine RW.soft (by exact Wd.yes (x := 65) rfl (AF_ev rfl tp)) (v := .pointer (some ⟨b8, 0, none⟩)) (by exact E.move (AF_ev rfl (up rfl (up rfl (up rfl (up rfl (up rfl (up rfl (up rfl (up rfl (up rfl (up rfl hs8)))))))))))) ?_
    have hst := hst.take (.there .here)
    refine RW.hard (by exact Wd.yes (x := 65) rfl (AF_ev rfl (up rfl tp))) ?_
    refine H.call0 Try.func30 nm30 rfl (map1 (AF_ev rfl tp)) (Calls.mono (ent_LastL (v := ia7 + ((es9.length : Nat) : Int)) rfl hst) ?_)
    rintro _ w ⟨rfl, hst⟩
    refine ⟨_, rfl, ?_⟩
    show RW _ _ _ _ _ _ _
    refine RW.soft (by exact Wd.yes (x := 65) rfl (AF_ev rfl (up rfl (up rfl tp)))) (v := .pointer (some ⟨b10, 0, none⟩)) (by exact E.move (AF_ev rfl (up rfl (up rfl (up rfl (up rfl (up rfl (up rfl (up rfl (up rfl (up rfl (up rfl (up rfl (up rfl hs9)))))))))))))) ?_
    have hst := hst.take (.there .here)
    refine RW.hard (by exact Wd.yes (x := 65) rfl (AF_ev rfl (up rfl (up rfl (up rfl tp))))) ?_
    refine H.call0 Try.func30 nm30 rfl (map1 (AF_ev rfl tp)) (Calls.mono (ent_LastL (v := ia7 + ((es9.length : Nat) : Int)) rfl hst) ?_)
    rintro _ w ⟨rfl, hst⟩
    refine ⟨_, rfl, ?_⟩
    show RW _ _ _ _ _ _ _
    refine RW.soft (by exact Wd.yes (x := 65) rfl (AF_ev rfl (up rfl (up rfl (up rfl (up rfl tp)))))) (v := .bool true) (by exact E.b (a := (ia7 + ((es9.length : Nat) : Int)) == (ia7 + ((es9.length : Nat) : Int))) (E.eql (k := .i64) (a := ia7 + ((es9.length : Nat) : Int)) (b := ia7 + ((es9.length : Nat) : Int)) (AF_ev rfl (up rfl (up rfl tp))) (AF_ev rfl tp)) (by simp)) ?_
    refine RW.soft Wd.a (v := .bool true) (by exact E.pickT (AF_ev rfl (up rfl (up rfl (up rfl (up rfl (up rfl tp)))))) (AF_ev rfl tp)) ?_
    refine RW.soft Wd.a (v := .bool true) (by exact E.assign (AF_ev rfl tp)) ?_
    refine RW.fin (fun τ => τ 0 = .agg #[.int .i64 i0, .int .i64 t0] ∧ τ 1 = .slice X l.length c ∧ τ 2 = .agg #[.int .i64 k0, .int .i64 u] ∧ τ 3 = .pointer (some ⟨b1, 0, none⟩) ∧ τ 5 = .pointer (some ⟨b2, 0, none⟩) ∧ τ 6 = .bool true ∧ τ 7 = .bool true ∧ τ 8 = .pointer (some ⟨b8, 0, none⟩) ∧ τ 9 = .pointer (some ⟨b10, 0, none⟩) ∧ τ 10 = .int .i64 kk11 ∧ τ 11 = .int .i64 (termT ia7 t0 (ts es9) kk11) ∧ τ 12 = .int .i64 (termE ia7 (ts es9) kk11) ∧ τ 13 = .int .i64 1 ∧ τ 32 = .bool false ∧ τ 36 = .bool false ∧ τ 55 = .bool true) ⟨up rfl (up rfl (up rfl (up rfl (up rfl (up rfl (up rfl (up rfl (up rfl (up rfl (up rfl (up rfl (up rfl (up rfl (up rfl (up rfl (up rfl hs0)))))))))))))))), up rfl (up rfl (up rfl (up rfl (up rfl (up rfl (up rfl (up rfl (up rfl (up rfl (up rfl (up rfl (up rfl (up rfl (up rfl (up rfl (up rfl hs1)))))))))))))))), up rfl (up rfl (up rfl (up rfl (up rfl (up rfl (up rfl (up rfl (up rfl (up rfl (up rfl (up rfl (up rfl (up rfl (up rfl (up rfl (up rfl hs2)))))))))))))))), up rfl (up rfl (up rfl (up rfl (up rfl (up rfl (up rfl (up rfl (up rfl (up rfl (up rfl (up rfl (up rfl (up rfl (up rfl (up rfl (up rfl hs3)))))))))))))))), up rfl (up rfl (up rfl (up rfl (up rfl (up rfl (up rfl (up rfl (up rfl (up rfl (up rfl (up rfl (up rfl (up rfl (up rfl (up rfl (up rfl hs5)))))))))))))))), tp, up rfl (up rfl (up rfl (up rfl (up rfl (up rfl (up rfl (up rfl (up rfl (up rfl (up rfl (up rfl (up rfl (up rfl (up rfl (up rfl (up rfl hs7)))))))))))))))), up rfl (up rfl (up rfl (up rfl (up rfl (up rfl (up rfl (up rfl (up rfl (up rfl (up rfl (up rfl (up rfl (up rfl (up rfl (up rfl (up rfl hs8)))))))))))))))), up rfl (up rfl (up rfl (up rfl (up rfl (up rfl (up rfl (up rfl (up rfl (up rfl (up rfl (up rfl (up rfl (up rfl (up rfl (up rfl (up rfl hs9)))))))))))))))), up rfl (up rfl (up rfl (up rfl (up rfl (up rfl (up rfl (up rfl (up rfl (up rfl (up rfl (up rfl (up rfl (up rfl (up rfl (up rfl (up rfl hs10)))))))))))))))), up rfl (up rfl (up rfl (up rfl (up rfl (up rfl (up rfl (up rfl (up rfl (up rfl (up rfl (up rfl (up rfl (up rfl (up rfl (up rfl (up rfl hs11)))))))))))))))), up rfl (up rfl (up rfl (up rfl (up rfl (up rfl (up rfl (up rfl (up rfl (up rfl (up rfl (up rfl (up rfl (up rfl (up rfl (up rfl (up rfl hs12)))))))))))))))), up rfl (up rfl (up rfl (up rfl (up rfl (up rfl (up rfl (up rfl (up rfl (up rfl (up rfl (up rfl (up rfl (up rfl (up rfl (up rfl (up rfl hs13)))))))))))))))), up rfl (up rfl (up rfl (up rfl (up rfl (up rfl (up rfl (up rfl (up rfl (up rfl (up rfl (up rfl (up rfl (up rfl (up rfl (up rfl (up rfl hs32)))))))))))))))), up rfl (up rfl (up rfl (up rfl (up rfl (up rfl (up rfl (up rfl (up rfl (up rfl (up rfl (up rfl (up rfl (up rfl (up rfl (up rfl (up rfl hs36)))))))))))))))), up rfl (up rfl (up rfl (up rfl (up rfl (up rfl (up rfl (up rfl (up rfl (up rfl (up rfl (up rfl (up rfl (up rfl (up rfl (up rfl (up rfl hs55))))))))))))))))⟩ ?_
    rintro τ ⟨hs0, hs1, hs2, hs3, hs5, hs6, hs7, hs8, hs9, hs10, hs11, hs12, hs13, hs32, hs36, hs55⟩
    refine CW.ret ?_
    refine Th.r ?_
    refine ret1 (v := .bool true) rfl (by exact (.tmp (AF_ev rfl hs6) .nil)) ?_
    have hst := hst.drop
    have hst := hst.drop
    have hst := hst.drop
    have hst := hst.drop
    have hst := hst.drop
    have hst := hst.drop
    exact ⟨p, hp0, rfl, hst⟩
  · skip
    refine Or.elim (Bool.eq_false_or_eq_true (kk11 == ia7)) (fun h2 => ?_) (fun h2 => ?_)
    · skip
      have h1_ := of_decide_eq_false h1
      refine CW.region ?_
      refine RW.soft Wd.a (v := .pointer (some ⟨b8, 0, none⟩)) (by exact E.move (AF_ev rfl hs8)) ?_
      refine RW.soft Wd.a (v := .int .i64 kk11) (by exact E.move (AF_ev rfl (up rfl hs10))) ?_
      refine RW.soft Wd.a (v := .pointer (some ⟨b2, 1, none⟩)) (by exact E.indexAddrA (b := b2) (o := 0) (i := 1) Try.underlying43 sz3 (AF_ev rfl (up rfl (up rfl hs5))) rfl (by omega) (by omega) (by simp)) ?_
      refine RW.soft Wd.a (v := .int .i64 u) (by exact E.load (a := ⟨b2, 1, none⟩) Try.underlying3 rfl (AF_ev rfl tp) (hst.cell (.there (.there (.there (.there .here)))) rfl)) ?_
      have hst := hst.take (.there .here)
      refine RW.hard Wd.a ?_
      refine H.call0 Try.func37 nm37 rfl (map3 (AF_ev rfl (up rfl (up rfl (up rfl tp)))) (AF_ev rfl (up rfl (up rfl tp))) (AF_ev rfl tp)) (Calls.mono (ent_Base_yes kk11 u (by omega) hst) ?_)
      rintro _ w ⟨rfl, hst⟩
      generalize hes12 : (if keepB ia7 t0 (ts es9) kk11 u = true then es9.drop (kk11 - ia7).toNat else []) = es12 at hst
      have hkeep : keepB ia7 t0 (ts es9) kk11 u = true := by unfold keepB; simp only [h2, Bool.true_or, Bool.false_or, Bool.true_and, Bool.false_and, Bool.and_false, Bool.and_true, Bool.or_false]
      have hkr := keep_range hkeep
      rw [ts_len] at hkr
      rw [if_pos hkeep] at hes12
      have hl2 : es12.length = es9.length - (kk11 - ia7).toNat := by rw [← hes12, List.length_drop]
      refine ⟨_, rfl, ?_⟩
      show RW _ _ _ _ _ _ _
      refine RW.soft Wd.a (v := .int .i64 0) (by exact E.assign (AF_ev rfl tp)) ?_
      refine RW.fin (fun τ => τ 0 = .agg #[.int .i64 i0, .int .i64 t0] ∧ τ 1 = .slice X l.length c ∧ τ 2 = .agg #[.int .i64 k0, .int .i64 u] ∧ τ 3 = .pointer (some ⟨b1, 0, none⟩) ∧ τ 5 = .pointer (some ⟨b2, 0, none⟩) ∧ τ 6 = .bool false ∧ τ 7 = .bool true ∧ τ 8 = .pointer (some ⟨b8, 0, none⟩) ∧ τ 9 = .pointer (some ⟨b10, 0, none⟩) ∧ τ 10 = .int .i64 kk11 ∧ τ 11 = .int .i64 (termT ia7 t0 (ts es9) kk11) ∧ τ 12 = .int .i64 (termE ia7 (ts es9) kk11) ∧ τ 13 = .int .i64 0 ∧ τ 32 = .bool false ∧ τ 36 = .bool false) ⟨up rfl (up rfl (up rfl (up rfl (up rfl (up rfl hs0))))), up rfl (up rfl (up rfl (up rfl (up rfl (up rfl hs1))))), up rfl (up rfl (up rfl (up rfl (up rfl (up rfl hs2))))), up rfl (up rfl (up rfl (up rfl (up rfl (up rfl hs3))))), up rfl (up rfl (up rfl (up rfl (up rfl (up rfl hs5))))), up rfl (up rfl (up rfl (up rfl (up rfl (up rfl hs6))))), up rfl (up rfl (up rfl (up rfl (up rfl (up rfl hs7))))), up rfl (up rfl (up rfl (up rfl (up rfl (up rfl hs8))))), up rfl (up rfl (up rfl (up rfl (up rfl (up rfl hs9))))), up rfl (up rfl (up rfl (up rfl (up rfl (up rfl hs10))))), up rfl (up rfl (up rfl (up rfl (up rfl (up rfl hs11))))), up rfl (up rfl (up rfl (up rfl (up rfl (up rfl hs12))))), tp, up rfl (up rfl (up rfl (up rfl (up rfl (up rfl hs32))))), up rfl (up rfl (up rfl (up rfl (up rfl (up rfl hs36)))))⟩ ?_
      rintro τ ⟨hs0, hs1, hs2, hs3, hs5, hs6, hs7, hs8, hs9, hs10, hs11, hs12, hs13, hs32, hs36⟩
      refine CW.seq ?_
      refine CW.seq ?_
      refine CW.region ?_
      refine RW.soft Wd.a (v := .int .i64 kk11) (by exact E.move (AF_ev rfl hs10)) ?_
      refine RW.soft Wd.a (v := .pointer (some ⟨b10, 0, none⟩)) (by exact E.move (AF_ev rfl (up rfl hs9))) ?_
      have hst := hst.take (.there .here)
      refine RW.hard Wd.a ?_
      refine H.call0 Try.func31 nm31 rfl (map1 (AF_ev rfl tp)) (Calls.mono (ent_FirstL hst) ?_)
      rintro _ w ⟨rfl, hst⟩
      refine ⟨_, rfl, ?_⟩
      show RW _ _ _ _ _ _ _
      refine RW.soft Wd.a (v := .int .i64 (ia7 + 1 - 1)) (by exact E.sub (k := .i64) (a := ia7 + 1) (b := 1) (AF_ev rfl tp) rfl (show IntKind.i64.wrap ((ia7 + 1) - 1) = ia7 + 1 - 1 from (by rw [IntWalk.i64_in _ (by omega)] <;> omega))) ?_
      refine RW.soft Wd.a (v := .bool false) (by exact E.b (a := decide (kk11 < (ia7 + 1 - 1))) (E.lss (k := .i64) (a := kk11) (b := ia7 + 1 - 1) (AF_ev rfl (up rfl (up rfl (up rfl tp)))) (AF_ev rfl tp)) (by rw [decide_eq_false_iff_not]; have := of_decide_eq_false h1; omega)) ?_
      refine RW.fin (fun τ => τ 0 = .agg #[.int .i64 i0, .int .i64 t0] ∧ τ 1 = .slice X l.length c ∧ τ 2 = .agg #[.int .i64 k0, .int .i64 u] ∧ τ 3 = .pointer (some ⟨b1, 0, none⟩) ∧ τ 5 = .pointer (some ⟨b2, 0, none⟩) ∧ τ 6 = .bool false ∧ τ 7 = .bool true ∧ τ 8 = .pointer (some ⟨b8, 0, none⟩) ∧ τ 9 = .pointer (some ⟨b10, 0, none⟩) ∧ τ 10 = .int .i64 kk11 ∧ τ 11 = .int .i64 (termT ia7 t0 (ts es9) kk11) ∧ τ 12 = .int .i64 (termE ia7 (ts es9) kk11) ∧ τ 13 = .int .i64 0 ∧ τ 32 = .bool false ∧ τ 36 = .bool false ∧ τ 55 = .bool false) ⟨up rfl (up rfl (up rfl (up rfl (up rfl hs0)))), up rfl (up rfl (up rfl (up rfl (up rfl hs1)))), up rfl (up rfl (up rfl (up rfl (up rfl hs2)))), up rfl (up rfl (up rfl (up rfl (up rfl hs3)))), up rfl (up rfl (up rfl (up rfl (up rfl hs5)))), up rfl (up rfl (up rfl (up rfl (up rfl hs6)))), up rfl (up rfl (up rfl (up rfl (up rfl hs7)))), up rfl (up rfl (up rfl (up rfl (up rfl hs8)))), up rfl (up rfl (up rfl (up rfl (up rfl hs9)))), up rfl (up rfl (up rfl (up rfl (up rfl hs10)))), up rfl (up rfl (up rfl (up rfl (up rfl hs11)))), up rfl (up rfl (up rfl (up rfl (up rfl hs12)))), up rfl (up rfl (up rfl (up rfl (up rfl hs13)))), up rfl (up rfl (up rfl (up rfl (up rfl hs32)))), up rfl (up rfl (up rfl (up rfl (up rfl hs36)))), tp⟩ ?_
      rintro τ ⟨hs0, hs1, hs2, hs3, hs5, hs6, hs7, hs8, hs9, hs10, hs11, hs12, hs13, hs32, hs36, hs55⟩
      refine CW.condF (AF_ev rfl hs55) ?_
      refine CW.skip ?_
      refine Th.n ?_
      refine CW.seq ?_
      refine CW.region ?_
      refine RW.soft Wd.a (v := .pointer (some ⟨b8, 0, none⟩)) (by exact E.move (AF_ev rfl hs8)) ?_
      refine RW.soft Wd.a (v := .int .i64 kk11) (by exact E.move (AF_ev rfl (up rfl hs10))) ?_
      have hst := hst.take (.there .here)
      refine RW.hard Wd.a ?_
      refine H.call0 Try.func32 nm32 rfl (map2 (AF_ev rfl (up rfl tp)) (AF_ev rfl tp)) (Calls.mono (ent_TermL (v := u) (u := 0) kk11 (by omega) termT_base termE_base hst) ?_)
      rintro _ w ⟨rfl, hst⟩
      refine ⟨_, rfl, ?_⟩
      show RW _ _ _ _ _ _ _
      refine RW.soft Wd.a (v := .tuple #[.int .i64 u, .int .i64 0]) (by exact E.move (AF_ev rfl tp)) ?_
      refine RW.soft Wd.a (v := .int .i64 u) (by exact E.extract (vs := #[.int .i64 u, .int .i64 0]) (AF_ev rfl tp) rfl) ?_
      refine RW.soft Wd.a (v := .int .i64 0) (by exact E.extract (vs := #[.int .i64 u, .int .i64 0]) (AF_ev rfl (up rfl tp)) rfl) ?_
      refine RW.soft Wd.a (v := .int .i64 u) (by exact E.assign (AF_ev rfl (up rfl tp))) ?_
      refine RW.soft Wd.a (v := .int .i64 0) (by exact E.assign (AF_ev rfl (up rfl tp))) ?_
      refine RW.fin (fun τ => τ 0 = .agg #[.int .i64 i0, .int .i64 t0] ∧ τ 1 = .slice X l.length c ∧ τ 2 = .agg #[.int .i64 k0, .int .i64 u] ∧ τ 3 = .pointer (some ⟨b1, 0, none⟩) ∧ τ 5 = .pointer (some ⟨b2, 0, none⟩) ∧ τ 6 = .bool false ∧ τ 7 = .bool true ∧ τ 8 = .pointer (some ⟨b8, 0, none⟩) ∧ τ 9 = .pointer (some ⟨b10, 0, none⟩) ∧ τ 10 = .int .i64 kk11 ∧ τ 11 = .int .i64 (termT ia7 t0 (ts es9) kk11) ∧ τ 12 = .int .i64 (termE ia7 (ts es9) kk11) ∧ τ 13 = .int .i64 0 ∧ τ 14 = .int .i64 u ∧ τ 15 = .int .i64 0 ∧ τ 32 = .bool false ∧ τ 36 = .bool false ∧ τ 55 = .bool false) ⟨up rfl (up rfl (up rfl (up rfl (up rfl (up rfl (up rfl (up rfl hs0))))))), up rfl (up rfl (up rfl (up rfl (up rfl (up rfl (up rfl (up rfl hs1))))))), up rfl (up rfl (up rfl (up rfl (up rfl (up rfl (up rfl (up rfl hs2))))))), up rfl (up rfl (up rfl (up rfl (up rfl (up rfl (up rfl (up rfl hs3))))))), up rfl (up rfl (up rfl (up rfl (up rfl (up rfl (up rfl (up rfl hs5))))))), up rfl (up rfl (up rfl (up rfl (up rfl (up rfl (up rfl (up rfl hs6))))))), up rfl (up rfl (up rfl (up rfl (up rfl (up rfl (up rfl (up rfl hs7))))))), up rfl (up rfl (up rfl (up rfl (up rfl (up rfl (up rfl (up rfl hs8))))))), up rfl (up rfl (up rfl (up rfl (up rfl (up rfl (up rfl (up rfl hs9))))))), up rfl (up rfl (up rfl (up rfl (up rfl (up rfl (up rfl (up rfl hs10))))))), up rfl (up rfl (up rfl (up rfl (up rfl (up rfl (up rfl (up rfl hs11))))))), up rfl (up rfl (up rfl (up rfl (up rfl (up rfl (up rfl (up rfl hs12))))))), up rfl (up rfl (up rfl (up rfl (up rfl (up rfl (up rfl (up rfl hs13))))))), up rfl tp, tp, up rfl (up rfl (up rfl (up rfl (up rfl (up rfl (up rfl (up rfl hs32))))))), up rfl (up rfl (up rfl (up rfl (up rfl (up rfl (up rfl (up rfl hs36))))))), up rfl (up rfl (up rfl (up rfl (up rfl (up rfl (up rfl (up rfl hs55)))))))⟩ ?_
      rintro τ ⟨hs0, hs1, hs2, hs3, hs5, hs6, hs7, hs8, hs9, hs10, hs11, hs12, hs13, hs14, hs15, hs32, hs36, hs55⟩
      refine CW.seq ?_
      refine CW.region ?_
      refine RW.soft Wd.a (v := .pointer (some ⟨b8, 0, none⟩)) (by exact E.move (AF_ev rfl hs8)) ?_
      refine RW.soft Wd.a (v := .int .i64 kk11) (by exact E.move (AF_ev rfl (up rfl hs10))) ?_
      refine RW.soft Wd.a (v := .int .i64 (kk11 - 1)) (by exact E.sub (k := .i64) (a := kk11) (b := 1) (AF_ev rfl tp) rfl (show IntKind.i64.wrap (kk11 - 1) = kk11 - 1 from (by rw [IntWalk.i64_in _ (by omega)]))) ?_
      refine RW.hard Wd.a ?_
      refine H.call0 Try.func32 nm32 rfl (map2 (AF_ev rfl (up rfl (up rfl tp))) (AF_ev rfl tp)) (Calls.mono (ent_TermL (v := termT kk11 u (ts es12) (kk11 - 1)) (u := 170) (kk11 - 1) (by omega) rfl (by unfold termE; rw [if_neg (by omega), if_neg (by omega)]) hst) ?_)
      rintro _ w ⟨rfl, hst⟩
      refine ⟨_, rfl, ?_⟩
      show RW _ _ _ _ _ _ _
      refine RW.soft Wd.a (v := .tuple #[.int .i64 (termT kk11 u (ts es12) (kk11 - 1)), .int .i64 170]) (by exact E.move (AF_ev rfl tp)) ?_
      refine RW.soft Wd.a (v := .int .i64 (termT kk11 u (ts es12) (kk11 - 1))) (by exact E.extract (vs := #[.int .i64 (termT kk11 u (ts es12) (kk11 - 1)), .int .i64 170]) (AF_ev rfl tp) rfl) ?_
      refine RW.soft Wd.a (v := .int .i64 170) (by exact E.extract (vs := #[.int .i64 (termT kk11 u (ts es12) (kk11 - 1)), .int .i64 170]) (AF_ev rfl (up rfl tp)) rfl) ?_
      refine RW.soft Wd.a (v := .int .i64 (termT kk11 u (ts es12) (kk11 - 1))) (by exact E.assign (AF_ev rfl (up rfl tp))) ?_
      refine RW.soft Wd.a (v := .int .i64 170) (by exact E.assign (AF_ev rfl (up rfl tp))) ?_
      refine RW.fin (fun τ => τ 0 = .agg #[.int .i64 i0, .int .i64 t0] ∧ τ 1 = .slice X l.length c ∧ τ 2 = .agg #[.int .i64 k0, .int .i64 u] ∧ τ 3 = .pointer (some ⟨b1, 0, none⟩) ∧ τ 5 = .pointer (some ⟨b2, 0, none⟩) ∧ τ 6 = .bool false ∧ τ 7 = .bool true ∧ τ 8 = .pointer (some ⟨b8, 0, none⟩) ∧ τ 9 = .pointer (some ⟨b10, 0, none⟩) ∧ τ 10 = .int .i64 kk11 ∧ τ 11 = .int .i64 (termT ia7 t0 (ts es9) kk11) ∧ τ 12 = .int .i64 (termE ia7 (ts es9) kk11) ∧ τ 13 = .int .i64 0 ∧ τ 14 = .int .i64 u ∧ τ 15 = .int .i64 0 ∧ τ 17 = .int .i64 170 ∧ τ 32 = .bool false ∧ τ 36 = .bool false ∧ τ 55 = .bool false) ⟨up rfl (up rfl (up rfl (up rfl (up rfl (up rfl (up rfl (up rfl (up rfl hs0)))))))), up rfl (up rfl (up rfl (up rfl (up rfl (up rfl (up rfl (up rfl (up rfl hs1)))))))), up rfl (up rfl (up rfl (up rfl (up rfl (up rfl (up rfl (up rfl (up rfl hs2)))))))), up rfl (up rfl (up rfl (up rfl (up rfl (up rfl (up rfl (up rfl (up rfl hs3)))))))), up rfl (up rfl (up rfl (up rfl (up rfl (up rfl (up rfl (up rfl (up rfl hs5)))))))), up rfl (up rfl (up rfl (up rfl (up rfl (up rfl (up rfl (up rfl (up rfl hs6)))))))), up rfl (up rfl (up rfl (up rfl (up rfl (up rfl (up rfl (up rfl (up rfl hs7)))))))), up rfl (up rfl (up rfl (up rfl (up rfl (up rfl (up rfl (up rfl (up rfl hs8)))))))), up rfl (up rfl (up rfl (up rfl (up rfl (up rfl (up rfl (up rfl (up rfl hs9)))))))), up rfl (up rfl (up rfl (up rfl (up rfl (up rfl (up rfl (up rfl (up rfl hs10)))))))), up rfl (up rfl (up rfl (up rfl (up rfl (up rfl (up rfl (up rfl (up rfl hs11)))))))), up rfl (up rfl (up rfl (up rfl (up rfl (up rfl (up rfl (up rfl (up rfl hs12)))))))), up rfl (up rfl (up rfl (up rfl (up rfl (up rfl (up rfl (up rfl (up rfl hs13)))))))), up rfl (up rfl (up rfl (up rfl (up rfl (up rfl (up rfl (up rfl (up rfl hs14)))))))), up rfl (up rfl (up rfl (up rfl (up rfl (up rfl (up rfl (up rfl (up rfl hs15)))))))), tp, up rfl (up rfl (up rfl (up rfl (up rfl (up rfl (up rfl (up rfl (up rfl hs32)))))))), up rfl (up rfl (up rfl (up rfl (up rfl (up rfl (up rfl (up rfl (up rfl hs36)))))))), up rfl (up rfl (up rfl (up rfl (up rfl (up rfl (up rfl (up rfl (up rfl hs55))))))))⟩ ?_
      rintro τ ⟨hs0, hs1, hs2, hs3, hs5, hs6, hs7, hs8, hs9, hs10, hs11, hs12, hs13, hs14, hs15, hs17, hs32, hs36, hs55⟩
      refine CW.seq ?_
      refine CW.seq ?_
      refine CW.region ?_
      refine RW.soft Wd.a (v := .int .i64 kk11) (by exact E.move (AF_ev rfl hs10)) ?_
      refine RW.soft Wd.a (v := .bool false) (by exact E.b (a := decide (kk11 > 1099511627776)) (E.gtr (k := .i64) (a := kk11) (b := 1099511627776) (AF_ev rfl tp) rfl) (decide_eq_false (by omega))) ?_
      refine RW.fin (fun τ => τ 0 = .agg #[.int .i64 i0, .int .i64 t0] ∧ τ 1 = .slice X l.length c ∧ τ 2 = .agg #[.int .i64 k0, .int .i64 u] ∧ τ 3 = .pointer (some ⟨b1, 0, none⟩) ∧ τ 5 = .pointer (some ⟨b2, 0, none⟩) ∧ τ 6 = .bool false ∧ τ 7 = .bool true ∧ τ 8 = .pointer (some ⟨b8, 0, none⟩) ∧ τ 9 = .pointer (some ⟨b10, 0, none⟩) ∧ τ 10 = .int .i64 kk11 ∧ τ 11 = .int .i64 (termT ia7 t0 (ts es9) kk11) ∧ τ 12 = .int .i64 (termE ia7 (ts es9) kk11) ∧ τ 13 = .int .i64 0 ∧ τ 14 = .int .i64 u ∧ τ 15 = .int .i64 0 ∧ τ 17 = .int .i64 170 ∧ τ 32 = .bool false ∧ τ 36 = .bool false ∧ τ 55 = .bool false ∧ τ 86 = .bool false) ⟨up rfl (up rfl hs0), up rfl (up rfl hs1), up rfl (up rfl hs2), up rfl (up rfl hs3), up rfl (up rfl hs5), up rfl (up rfl hs6), up rfl (up rfl hs7), up rfl (up rfl hs8), up rfl (up rfl hs9), up rfl (up rfl hs10), up rfl (up rfl hs11), up rfl (up rfl hs12), up rfl (up rfl hs13), up rfl (up rfl hs14), up rfl (up rfl hs15), up rfl (up rfl hs17), up rfl (up rfl hs32), up rfl (up rfl hs36), up rfl (up rfl hs55), tp⟩ ?_
      rintro τ ⟨hs0, hs1, hs2, hs3, hs5, hs6, hs7, hs8, hs9, hs10, hs11, hs12, hs13, hs14, hs15, hs17, hs32, hs36, hs55, hs86⟩
      refine CW.condF (AF_ev rfl hs86) ?_
      refine CW.skip ?_
      refine Th.n ?_
      refine CW.seq ?_
      refine CW.seq ?_
      refine CW.region ?_
      refine RW.soft Wd.a (v := .int .i64 0) (by exact E.move (AF_ev rfl hs13)) ?_
      refine RW.soft Wd.a (v := .bool false) (by exact E.neq (k := .i64) (a := 0) (b := 0) (AF_ev rfl tp) rfl) ?_
      refine RW.soft Wd.a (v := .bool false) (by exact E.move (AF_ev rfl tp)) ?_
      refine RW.soft (by exact Wd.yes (x := 91) rfl (AF_ev rfl tp)) (v := .pointer (some ⟨b8, 0, none⟩)) (by exact E.move (AF_ev rfl (up rfl (up rfl (up rfl hs8))))) ?_
      refine RW.hard (by exact Wd.yes (x := 91) rfl (AF_ev rfl (up rfl tp))) ?_
      refine H.call0 Try.func31 nm31 rfl (map1 (AF_ev rfl tp)) (Calls.mono (ent_FirstL hst) ?_)
      rintro _ w ⟨rfl, hst⟩
      refine ⟨_, rfl, ?_⟩
      show RW _ _ _ _ _ _ _
      refine RW.soft (by exact Wd.yes (x := 91) rfl (AF_ev rfl (up rfl (up rfl tp)))) (v := .int .i64 kk11) (by exact E.move (AF_ev rfl (up rfl (up rfl (up rfl (up rfl (up rfl hs10))))))) ?_
      refine RW.soft (by exact Wd.yes (x := 91) rfl (AF_ev rfl (up rfl (up rfl (up rfl tp))))) (v := .int .i64 (kk11 + 1)) (by exact E.add (k := .i64) (a := kk11) (b := 1) (AF_ev rfl tp) rfl (show IntKind.i64.wrap (kk11 + 1) = kk11 + 1 from (by rw [IntWalk.i64_in _ (by omega)]))) ?_
      refine RW.soft (by exact Wd.yes (x := 91) rfl (AF_ev rfl (up rfl (up rfl (up rfl (up rfl tp)))))) (v := .bool false) (by exact E.b (a := (kk11 + 1) != (kk11 + 1)) (E.neq (k := .i64) (a := kk11 + 1) (b := kk11 + 1) (AF_ev rfl (up rfl (up rfl tp))) (AF_ev rfl tp)) (by simp)) ?_
      refine RW.soft Wd.a (v := .bool false) (by exact E.pickF (AF_ev rfl (up rfl (up rfl (up rfl (up rfl (up rfl tp)))))) (AF_ev rfl tp)) ?_
      refine RW.soft Wd.a (v := .bool false) (by exact E.move (AF_ev rfl tp)) ?_
      refine RW.soft (by exact Wd.yes (x := 98) rfl (AF_ev rfl tp)) (v := .int .i64 0) (by exact E.move (AF_ev rfl (up rfl (up rfl (up rfl (up rfl (up rfl (up rfl (up rfl (up rfl (up rfl (up rfl hs15)))))))))))) ?_
      refine RW.soft (by exact Wd.yes (x := 98) rfl (AF_ev rfl (up rfl tp))) (v := .bool false) (by exact E.neq (k := .i64) (a := 0) (b := 0) (AF_ev rfl tp) rfl) ?_
      refine RW.soft Wd.a (v := .bool false) (by exact E.pickF (AF_ev rfl (up rfl (up rfl tp))) (AF_ev rfl tp)) ?_
      refine RW.soft Wd.a (v := .bool false) (by exact E.move (AF_ev rfl tp)) ?_
      refine RW.soft (by exact Wd.yes (x := 102) rfl (AF_ev rfl tp)) (v := .int .i64 u) (by exact E.move (AF_ev rfl (up rfl (up rfl (up rfl (up rfl (up rfl (up rfl (up rfl (up rfl (up rfl (up rfl (up rfl (up rfl (up rfl (up rfl hs14)))))))))))))))) ?_
      refine RW.soft (by exact Wd.yes (x := 102) rfl (AF_ev rfl (up rfl tp))) (v := .pointer (some ⟨b2, 1, none⟩)) (by exact E.indexAddrA (b := b2) (o := 0) (i := 1) Try.underlying43 sz3 (AF_ev rfl (up rfl (up rfl (up rfl (up rfl (up rfl (up rfl (up rfl (up rfl (up rfl (up rfl (up rfl (up rfl (up rfl (up rfl (up rfl hs5)))))))))))))))) rfl (by omega) (by omega) (by simp)) ?_
      refine RW.soft (by exact Wd.yes (x := 102) rfl (AF_ev rfl (up rfl (up rfl tp)))) (v := .int .i64 u) (by exact E.load (a := ⟨b2, 1, none⟩) Try.underlying3 rfl (AF_ev rfl tp) (hst.cell (.there (.there (.there (.there .here)))) rfl)) ?_
      refine RW.soft (by exact Wd.yes (x := 102) rfl (AF_ev rfl (up rfl (up rfl (up rfl tp))))) (v := .bool false) (by exact E.b (a := u != u) (E.neq (k := .i64) (a := u) (b := u) (AF_ev rfl (up rfl (up rfl tp))) (AF_ev rfl tp)) (by simp)) ?_
      refine RW.soft Wd.a (v := .bool false) (by exact E.pickF (AF_ev rfl (up rfl (up rfl (up rfl (up rfl tp))))) (AF_ev rfl tp)) ?_
      refine RW.soft Wd.a (v := .bool false) (by exact E.move (AF_ev rfl tp)) ?_
      refine RW.soft (by exact Wd.yes (x := 108) rfl (AF_ev rfl tp)) (v := .int .i64 170) (by exact E.move (AF_ev rfl (up rfl (up rfl (up rfl (up rfl (up rfl (up rfl (up rfl (up rfl (up rfl (up rfl (up rfl (up rfl (up rfl (up rfl (up rfl (up rfl (up rfl (up rfl (up rfl (up rfl hs17)))))))))))))))))))))) ?_
      refine RW.soft (by exact Wd.yes (x := 108) rfl (AF_ev rfl (up rfl tp))) (v := .bool false) (by exact E.neq (k := .i64) (a := 170) (b := 170) (AF_ev rfl tp) rfl) ?_
      refine RW.soft Wd.a (v := .bool false) (by exact E.pickF (AF_ev rfl (up rfl (up rfl tp))) (AF_ev rfl tp)) ?_
      refine RW.fin (fun τ => τ 0 = .agg #[.int .i64 i0, .int .i64 t0] ∧ τ 1 = .slice X l.length c ∧ τ 2 = .agg #[.int .i64 k0, .int .i64 u] ∧ τ 3 = .pointer (some ⟨b1, 0, none⟩) ∧ τ 5 = .pointer (some ⟨b2, 0, none⟩) ∧ τ 6 = .bool false ∧ τ 7 = .bool true ∧ τ 8 = .pointer (some ⟨b8, 0, none⟩) ∧ τ 9 = .pointer (some ⟨b10, 0, none⟩) ∧ τ 10 = .int .i64 kk11 ∧ τ 11 = .int .i64 (termT ia7 t0 (ts es9) kk11) ∧ τ 12 = .int .i64 (termE ia7 (ts es9) kk11) ∧ τ 13 = .int .i64 0 ∧ τ 14 = .int .i64 u ∧ τ 15 = .int .i64 0 ∧ τ 17 = .int .i64 170 ∧ τ 32 = .bool false ∧ τ 36 = .bool false ∧ τ 55 = .bool false ∧ τ 86 = .bool false ∧ τ 111 = .bool false) ⟨up rfl (up rfl (up rfl (up rfl (up rfl (up rfl (up rfl (up rfl (up rfl (up rfl (up rfl (up rfl (up rfl (up rfl (up rfl (up rfl (up rfl (up rfl (up rfl (up rfl (up rfl (up rfl (up rfl hs0)))))))))))))))))))))), up rfl (up rfl (up rfl (up rfl (up rfl (up rfl (up rfl (up rfl (up rfl (up rfl (up rfl (up rfl (up rfl (up rfl (up rfl (up rfl (up rfl (up rfl (up rfl (up rfl (up rfl (up rfl (up rfl hs1)))))))))))))))))))))), up rfl (up rfl (up rfl (up rfl (up rfl (up rfl (up rfl (up rfl (up rfl (up rfl (up rfl (up rfl (up rfl (up rfl (up rfl (up rfl (up rfl (up rfl (up rfl (up rfl (up rfl (up rfl (up rfl hs2)))))))))))))))))))))), up rfl (up rfl (up rfl (up rfl (up rfl (up rfl (up rfl (up rfl (up rfl (up rfl (up rfl (up rfl (up rfl (up rfl (up rfl (up rfl (up rfl (up rfl (up rfl (up rfl (up rfl (up rfl (up rfl hs3)))))))))))))))))))))), up rfl (up rfl (up rfl (up rfl (up rfl (up rfl (up rfl (up rfl (up rfl (up rfl (up rfl (up rfl (up rfl (up rfl (up rfl (up rfl (up rfl (up rfl (up rfl (up rfl (up rfl (up rfl (up rfl hs5)))))))))))))))))))))), up rfl (up rfl (up rfl (up rfl (up rfl (up rfl (up rfl (up rfl (up rfl (up rfl (up rfl (up rfl (up rfl (up rfl (up rfl (up rfl (up rfl (up rfl (up rfl (up rfl (up rfl (up rfl (up rfl hs6)))))))))))))))))))))), up rfl (up rfl (up rfl (up rfl (up rfl (up rfl (up rfl (up rfl (up rfl (up rfl (up rfl (up rfl (up rfl (up rfl (up rfl (up rfl (up rfl (up rfl (up rfl (up rfl (up rfl (up rfl (up rfl hs7)))))))))))))))))))))), up rfl (up rfl (up rfl (up rfl (up rfl (up rfl (up rfl (up rfl (up rfl (up rfl (up rfl (up rfl (up rfl (up rfl (up rfl (up rfl (up rfl (up rfl (up rfl (up rfl (up rfl (up rfl (up rfl hs8)))))))))))))))))))))), up rfl (up rfl (up rfl (up rfl (up rfl (up rfl (up rfl (up rfl (up rfl (up rfl (up rfl (up rfl (up rfl (up rfl (up rfl (up rfl (up rfl (up rfl (up rfl (up rfl (up rfl (up rfl (up rfl hs9)))))))))))))))))))))), up rfl (up rfl (up rfl (up rfl (up rfl (up rfl (up rfl (up rfl (up rfl (up rfl (up rfl (up rfl (up rfl (up rfl (up rfl (up rfl (up rfl (up rfl (up rfl (up rfl (up rfl (up rfl (up rfl hs10)))))))))))))))))))))), up rfl (up rfl (up rfl (up rfl (up rfl (up rfl (up rfl (up rfl (up rfl (up rfl (up rfl (up rfl (up rfl (up rfl (up rfl (up rfl (up rfl (up rfl (up rfl (up rfl (up rfl (up rfl (up rfl hs11)))))))))))))))))))))), up rfl (up rfl (up rfl (up rfl (up rfl (up rfl (up rfl (up rfl (up rfl (up rfl (up rfl (up rfl (up rfl (up rfl (up rfl (up rfl (up rfl (up rfl (up rfl (up rfl (up rfl (up rfl (up rfl hs12)))))))))))))))))))))), up rfl (up rfl (up rfl (up rfl (up rfl (up rfl (up rfl (up rfl (up rfl (up rfl (up rfl (up rfl (up rfl (up rfl (up rfl (up rfl (up rfl (up rfl (up rfl (up rfl (up rfl (up rfl (up rfl hs13)))))))))))))))))))))), up rfl (up rfl (up rfl (up rfl (up rfl (up rfl (up rfl (up rfl (up rfl (up rfl (up rfl (up rfl (up rfl (up rfl (up rfl (up rfl (up rfl (up rfl (up rfl (up rfl (up rfl (up rfl (up rfl hs14)))))))))))))))))))))), up rfl (up rfl (up rfl (up rfl (up rfl (up rfl (up rfl (up rfl (up rfl (up rfl (up rfl (up rfl (up rfl (up rfl (up rfl (up rfl (up rfl (up rfl (up rfl (up rfl (up rfl (up rfl (up rfl hs15)))))))))))))))))))))), up rfl (up rfl (up rfl (up rfl (up rfl (up rfl (up rfl (up rfl (up rfl (up rfl (up rfl (up rfl (up rfl (up rfl (up rfl (up rfl (up rfl (up rfl (up rfl (up rfl (up rfl (up rfl (up rfl hs17)))))))))))))))))))))), up rfl (up rfl (up rfl (up rfl (up rfl (up rfl (up rfl (up rfl (up rfl (up rfl (up rfl (up rfl (up rfl (up rfl (up rfl (up rfl (up rfl (up rfl (up rfl (up rfl (up rfl (up rfl (up rfl hs32)))))))))))))))))))))), up rfl (up rfl (up rfl (up rfl (up rfl (up rfl (up rfl (up rfl (up rfl (up rfl (up rfl (up rfl (up rfl (up rfl (up rfl (up rfl (up rfl (up rfl (up rfl (up rfl (up rfl (up rfl (up rfl hs36)))))))))))))))))))))), up rfl (up rfl (up rfl (up rfl (up rfl (up rfl (up rfl (up rfl (up rfl (up rfl (up rfl (up rfl (up rfl (up rfl (up rfl (up rfl (up rfl (up rfl (up rfl (up rfl (up rfl (up rfl (up rfl hs55)))))))))))))))))))))), up rfl (up rfl (up rfl (up rfl (up rfl (up rfl (up rfl (up rfl (up rfl (up rfl (up rfl (up rfl (up rfl (up rfl (up rfl (up rfl (up rfl (up rfl (up rfl (up rfl (up rfl (up rfl (up rfl hs86)))))))))))))))))))))), tp⟩ ?_
      rintro τ ⟨hs0, hs1, hs2, hs3, hs5, hs6, hs7, hs8, hs9, hs10, hs11, hs12, hs13, hs14, hs15, hs17, hs32, hs36, hs55, hs86, hs111⟩
      refine CW.condF (AF_ev rfl hs111) ?_
      refine CW.skip ?_
      refine Th.n ?_
      refine CW.seq ?_
      refine CW.seq ?_
      refine CW.region ?_
      refine RW.soft Wd.a (v := .int .i64 kk11) (by exact E.move (AF_ev rfl hs10)) ?_
      refine RW.soft Wd.a (v := .pointer (some ⟨b10, 0, none⟩)) (by exact E.move (AF_ev rfl (up rfl hs9))) ?_
      have hst := hst.take (.there .here)
      refine RW.hard Wd.a ?_
      refine H.call0 Try.func31 nm31 rfl (map1 (AF_ev rfl tp)) (Calls.mono (ent_FirstL hst) ?_)
      rintro _ w ⟨rfl, hst⟩
      refine ⟨_, rfl, ?_⟩
      show RW _ _ _ _ _ _ _
      refine RW.soft Wd.a (v := .int .i64 (ia7 + 1 - 1)) (by exact E.sub (k := .i64) (a := ia7 + 1) (b := 1) (AF_ev rfl tp) rfl (show IntKind.i64.wrap ((ia7 + 1) - 1) = ia7 + 1 - 1 from (by rw [IntWalk.i64_in _ (by omega)] <;> omega))) ?_
      refine RW.soft Wd.a (v := .bool true) (by exact E.b (a := kk11 == (ia7 + 1 - 1)) (E.eql (k := .i64) (a := kk11) (b := ia7 + 1 - 1) (AF_ev rfl (up rfl (up rfl (up rfl tp)))) (AF_ev rfl tp)) (by rw [beq_iff_eq]; have := beq_iff_eq.1 h2; omega)) ?_
      refine RW.soft Wd.a (v := .bool true) (by exact E.move (AF_ev rfl tp)) ?_
      refine RW.pass (by exact Wd.no (x := 117) (b := true) rfl (AF_ev rfl tp) rfl) ?_
      refine RW.pass (by exact Wd.no (x := 117) (b := true) rfl (AF_ev rfl (up rfl tp)) rfl) ?_
      refine RW.pass (by exact Wd.no (x := 117) (b := true) rfl (AF_ev rfl (up rfl (up rfl tp))) rfl) ?_
      refine RW.pass (by exact Wd.u (x := 120) rfl (AF_ev rfl tp)) ?_
      refine RW.pass (by exact Wd.u (x := 120) rfl (AF_ev rfl (up rfl tp))) ?_
      refine RW.pass (by exact Wd.u (x := 120) rfl (AF_ev rfl (up rfl (up rfl tp)))) ?_
      refine RW.pass (by exact Wd.u (x := 120) rfl (AF_ev rfl (up rfl (up rfl (up rfl tp))))) ?_
      refine RW.pass (by exact Wd.no (x := 117) (b := true) rfl (AF_ev rfl (up rfl (up rfl (up rfl (up rfl (up rfl (up rfl (up rfl tp)))))))) rfl) ?_
      refine RW.soft Wd.a (v := .bool true) (by exact E.pickT (AF_ev rfl (up rfl (up rfl (up rfl (up rfl (up rfl (up rfl (up rfl (up rfl tp))))))))) rfl) ?_
      refine RW.fin (fun τ => τ 0 = .agg #[.int .i64 i0, .int .i64 t0] ∧ τ 1 = .slice X l.length c ∧ τ 2 = .agg #[.int .i64 k0, .int .i64 u] ∧ τ 3 = .pointer (some ⟨b1, 0, none⟩) ∧ τ 5 = .pointer (some ⟨b2, 0, none⟩) ∧ τ 6 = .bool false ∧ τ 7 = .bool true ∧ τ 8 = .pointer (some ⟨b8, 0, none⟩) ∧ τ 9 = .pointer (some ⟨b10, 0, none⟩) ∧ τ 10 = .int .i64 kk11 ∧ τ 11 = .int .i64 (termT ia7 t0 (ts es9) kk11) ∧ τ 12 = .int .i64 (termE ia7 (ts es9) kk11) ∧ τ 13 = .int .i64 0 ∧ τ 14 = .int .i64 u ∧ τ 15 = .int .i64 0 ∧ τ 17 = .int .i64 170 ∧ τ 32 = .bool false ∧ τ 36 = .bool false ∧ τ 55 = .bool false ∧ τ 86 = .bool false ∧ τ 111 = .bool false ∧ τ 126 = .bool true) ⟨up rfl (up rfl (up rfl (up rfl (up rfl (up rfl (up rfl (up rfl (up rfl (up rfl (up rfl (up rfl (up rfl (up rfl (up rfl hs0)))))))))))))), up rfl (up rfl (up rfl (up rfl (up rfl (up rfl (up rfl (up rfl (up rfl (up rfl (up rfl (up rfl (up rfl (up rfl (up rfl hs1)))))))))))))), up rfl (up rfl (up rfl (up rfl (up rfl (up rfl (up rfl (up rfl (up rfl (up rfl (up rfl (up rfl (up rfl (up rfl (up rfl hs2)))))))))))))), up rfl (up rfl (up rfl (up rfl (up rfl (up rfl (up rfl (up rfl (up rfl (up rfl (up rfl (up rfl (up rfl (up rfl (up rfl hs3)))))))))))))), up rfl (up rfl (up rfl (up rfl (up rfl (up rfl (up rfl (up rfl (up rfl (up rfl (up rfl (up rfl (up rfl (up rfl (up rfl hs5)))))))))))))), up rfl (up rfl (up rfl (up rfl (up rfl (up rfl (up rfl (up rfl (up rfl (up rfl (up rfl (up rfl (up rfl (up rfl (up rfl hs6)))))))))))))), up rfl (up rfl (up rfl (up rfl (up rfl (up rfl (up rfl (up rfl (up rfl (up rfl (up rfl (up rfl (up rfl (up rfl (up rfl hs7)))))))))))))), up rfl (up rfl (up rfl (up rfl (up rfl (up rfl (up rfl (up rfl (up rfl (up rfl (up rfl (up rfl (up rfl (up rfl (up rfl hs8)))))))))))))), up rfl (up rfl (up rfl (up rfl (up rfl (up rfl (up rfl (up rfl (up rfl (up rfl (up rfl (up rfl (up rfl (up rfl (up rfl hs9)))))))))))))), up rfl (up rfl (up rfl (up rfl (up rfl (up rfl (up rfl (up rfl (up rfl (up rfl (up rfl (up rfl (up rfl (up rfl (up rfl hs10)))))))))))))), up rfl (up rfl (up rfl (up rfl (up rfl (up rfl (up rfl (up rfl (up rfl (up rfl (up rfl (up rfl (up rfl (up rfl (up rfl hs11)))))))))))))), up rfl (up rfl (up rfl (up rfl (up rfl (up rfl (up rfl (up rfl (up rfl (up rfl (up rfl (up rfl (up rfl (up rfl (up rfl hs12)))))))))))))), up rfl (up rfl (up rfl (up rfl (up rfl (up rfl (up rfl (up rfl (up rfl (up rfl (up rfl (up rfl (up rfl (up rfl (up rfl hs13)))))))))))))), up rfl (up rfl (up rfl (up rfl (up rfl (up rfl (up rfl (up rfl (up rfl (up rfl (up rfl (up rfl (up rfl (up rfl (up rfl hs14)))))))))))))), up rfl (up rfl (up rfl (up rfl (up rfl (up rfl (up rfl (up rfl (up rfl (up rfl (up rfl (up rfl (up rfl (up rfl (up rfl hs15)))))))))))))), up rfl (up rfl (up rfl (up rfl (up rfl (up rfl (up rfl (up rfl (up rfl (up rfl (up rfl (up rfl (up rfl (up rfl (up rfl hs17)))))))))))))), up rfl (up rfl (up rfl (up rfl (up rfl (up rfl (up rfl (up rfl (up rfl (up rfl (up rfl (up rfl (up rfl (up rfl (up rfl hs32)))))))))))))), up rfl (up rfl (up rfl (up rfl (up rfl (up rfl (up rfl (up rfl (up rfl (up rfl (up rfl (up rfl (up rfl (up rfl (up rfl hs36)))))))))))))), up rfl (up rfl (up rfl (up rfl (up rfl (up rfl (up rfl (up rfl (up rfl (up rfl (up rfl (up rfl (up rfl (up rfl (up rfl hs55)))))))))))))), up rfl (up rfl (up rfl (up rfl (up rfl (up rfl (up rfl (up rfl (up rfl (up rfl (up rfl (up rfl (up rfl (up rfl (up rfl hs86)))))))))))))), up rfl (up rfl (up rfl (up rfl (up rfl (up rfl (up rfl (up rfl (up rfl (up rfl (up rfl (up rfl (up rfl (up rfl (up rfl hs111)))))))))))))), tp⟩ ?_
      rintro τ ⟨hs0, hs1, hs2, hs3, hs5, hs6, hs7, hs8, hs9, hs10, hs11, hs12, hs13, hs14, hs15, hs17, hs32, hs36, hs55, hs86, hs111, hs126⟩
      refine CW.condT (AF_ev rfl hs126) ?_
      refine CW.seq ?_
      refine CW.region ?_
      refine RW.soft Wd.a (v := .pointer (some ⟨b8, 0, none⟩)) (by exact E.move (AF_ev rfl hs8)) ?_
      have hst := hst.take (.there .here)
      refine RW.hard Wd.a ?_
      refine H.call0 Try.func30 nm30 rfl (map1 (AF_ev rfl tp)) (Calls.mono (ent_LastL (v := kk11 + ((es12.length : Nat) : Int)) rfl hst) ?_)
      rintro _ w ⟨rfl, hst⟩
      refine ⟨_, rfl, ?_⟩
      show RW _ _ _ _ _ _ _
      refine RW.soft Wd.a (v := .pointer (some ⟨b10, 0, none⟩)) (by exact E.move (AF_ev rfl (up rfl (up rfl hs9)))) ?_
      have hst := hst.take (.there .here)
      refine RW.hard Wd.a ?_
      refine H.call0 Try.func30 nm30 rfl (map1 (AF_ev rfl tp)) (Calls.mono (ent_LastL (v := ia7 + ((es9.length : Nat) : Int)) rfl hst) ?_)
      rintro _ w ⟨rfl, hst⟩
      refine ⟨_, rfl, ?_⟩
      show RW _ _ _ _ _ _ _
      refine RW.soft Wd.a (v := .bool true) (by exact E.b (a := (kk11 + ((es12.length : Nat) : Int)) == (ia7 + ((es9.length : Nat) : Int))) (E.eql (k := .i64) (a := kk11 + ((es12.length : Nat) : Int)) (b := ia7 + ((es9.length : Nat) : Int)) (AF_ev rfl (up rfl (up rfl tp))) (AF_ev rfl tp)) (by rw [beq_iff_eq]; omega)) ?_
      refine RW.soft Wd.a (v := .bool true) (by exact E.assign (AF_ev rfl tp)) ?_
      refine RW.fin (fun τ => τ 0 = .agg #[.int .i64 i0, .int .i64 t0] ∧ τ 1 = .slice X l.length c ∧ τ 2 = .agg #[.int .i64 k0, .int .i64 u] ∧ τ 3 = .pointer (some ⟨b1, 0, none⟩) ∧ τ 5 = .pointer (some ⟨b2, 0, none⟩) ∧ τ 6 = .bool true ∧ τ 7 = .bool true ∧ τ 8 = .pointer (some ⟨b8, 0, none⟩) ∧ τ 9 = .pointer (some ⟨b10, 0, none⟩) ∧ τ 10 = .int .i64 kk11 ∧ τ 11 = .int .i64 (termT ia7 t0 (ts es9) kk11) ∧ τ 12 = .int .i64 (termE ia7 (ts es9) kk11) ∧ τ 13 = .int .i64 0 ∧ τ 14 = .int .i64 u ∧ τ 15 = .int .i64 0 ∧ τ 17 = .int .i64 170 ∧ τ 32 = .bool false ∧ τ 36 = .bool false ∧ τ 55 = .bool false ∧ τ 86 = .bool false ∧ τ 111 = .bool false ∧ τ 126 = .bool true) ⟨up rfl (up rfl (up rfl (up rfl (up rfl (up rfl hs0))))), up rfl (up rfl (up rfl (up rfl (up rfl (up rfl hs1))))), up rfl (up rfl (up rfl (up rfl (up rfl (up rfl hs2))))), up rfl (up rfl (up rfl (up rfl (up rfl (up rfl hs3))))), up rfl (up rfl (up rfl (up rfl (up rfl (up rfl hs5))))), tp, up rfl (up rfl (up rfl (up rfl (up rfl (up rfl hs7))))), up rfl (up rfl (up rfl (up rfl (up rfl (up rfl hs8))))), up rfl (up rfl (up rfl (up rfl (up rfl (up rfl hs9))))), up rfl (up rfl (up rfl (up rfl (up rfl (up rfl hs10))))), up rfl (up rfl (up rfl (up rfl (up rfl (up rfl hs11))))), up rfl (up rfl (up rfl (up rfl (up rfl (up rfl hs12))))), up rfl (up rfl (up rfl (up rfl (up rfl (up rfl hs13))))), up rfl (up rfl (up rfl (up rfl (up rfl (up rfl hs14))))), up rfl (up rfl (up rfl (up rfl (up rfl (up rfl hs15))))), up rfl (up rfl (up rfl (up rfl (up rfl (up rfl hs17))))), up rfl (up rfl (up rfl (up rfl (up rfl (up rfl hs32))))), up rfl (up rfl (up rfl (up rfl (up rfl (up rfl hs36))))), up rfl (up rfl (up rfl (up rfl (up rfl (up rfl hs55))))), up rfl (up rfl (up rfl (up rfl (up rfl (up rfl hs86))))), up rfl (up rfl (up rfl (up rfl (up rfl (up rfl hs111))))), up rfl (up rfl (up rfl (up rfl (up rfl (up rfl hs126)))))⟩ ?_
      rintro τ ⟨hs0, hs1, hs2, hs3, hs5, hs6, hs7, hs8, hs9, hs10, hs11, hs12, hs13, hs14, hs15, hs17, hs32, hs36, hs55, hs86, hs111, hs126⟩
      refine CW.ret ?_
      refine Th.r ?_
      refine ret1 (v := .bool true) rfl (by exact (.tmp (AF_ev rfl hs6) .nil)) ?_
      have hst := hst.drop
      have hst := hst.drop
      have hst := hst.drop
      have hst := hst.drop
      have hst := hst.drop
      have hst := hst.drop
      exact ⟨p, hp0, rfl, hst⟩
    · skip
      refine Or.elim (Bool.eq_false_or_eq_true ((termE ia7 (ts es9) kk11) == 0)) (fun h3 => ?_) (fun h3 => ?_)
      · skip
        refine Or.elim (Bool.eq_false_or_eq_true ((termT ia7 t0 (ts es9) kk11) == u)) (fun h4 => ?_) (fun h4 => ?_)
        · skip
          have h1_ := of_decide_eq_false h1
          refine CW.region ?_
          refine RW.soft Wd.a (v := .pointer (some ⟨b8, 0, none⟩)) (by exact E.move (AF_ev rfl hs8)) ?_
          refine RW.soft Wd.a (v := .int .i64 kk11) (by exact E.move (AF_ev rfl (up rfl hs10))) ?_
          refine RW.soft Wd.a (v := .pointer (some ⟨b2, 1, none⟩)) (by exact E.indexAddrA (b := b2) (o := 0) (i := 1) Try.underlying43 sz3 (AF_ev rfl (up rfl (up rfl hs5))) rfl (by omega) (by omega) (by simp)) ?_
          refine RW.soft Wd.a (v := .int .i64 u) (by exact E.load (a := ⟨b2, 1, none⟩) Try.underlying3 rfl (AF_ev rfl tp) (hst.cell (.there (.there (.there (.there .here)))) rfl)) ?_
          have hst := hst.take (.there .here)
          refine RW.hard Wd.a ?_
          refine H.call0 Try.func37 nm37 rfl (map3 (AF_ev rfl (up rfl (up rfl (up rfl tp)))) (AF_ev rfl (up rfl (up rfl tp))) (AF_ev rfl tp)) (Calls.mono (ent_Base_yes kk11 u (by omega) hst) ?_)
          rintro _ w ⟨rfl, hst⟩
          generalize hes13 : (if keepB ia7 t0 (ts es9) kk11 u = true then es9.drop (kk11 - ia7).toNat else []) = es13 at hst
          have hkeep : keepB ia7 t0 (ts es9) kk11 u = true := by unfold keepB; simp only [h2, h3, h4, Bool.true_or, Bool.false_or, Bool.true_and, Bool.false_and, Bool.and_false, Bool.and_true, Bool.or_false]
          have hkr := keep_range hkeep
          rw [ts_len] at hkr
          rw [if_pos hkeep] at hes13
          have hl2 : es13.length = es9.length - (kk11 - ia7).toNat := by rw [← hes13, List.length_drop]
          refine ⟨_, rfl, ?_⟩
          show RW _ _ _ _ _ _ _
          refine RW.soft Wd.a (v := .int .i64 0) (by exact E.assign (AF_ev rfl tp)) ?_
          refine RW.fin (fun τ => τ 0 = .agg #[.int .i64 i0, .int .i64 t0] ∧ τ 1 = .slice X l.length c ∧ τ 2 = .agg #[.int .i64 k0, .int .i64 u] ∧ τ 3 = .pointer (some ⟨b1, 0, none⟩) ∧ τ 5 = .pointer (some ⟨b2, 0, none⟩) ∧ τ 6 = .bool false ∧ τ 7 = .bool true ∧ τ 8 = .pointer (some ⟨b8, 0, none⟩) ∧ τ 9 = .pointer (some ⟨b10, 0, none⟩) ∧ τ 10 = .int .i64 kk11 ∧ τ 11 = .int .i64 (termT ia7 t0 (ts es9) kk11) ∧ τ 12 = .int .i64 (termE ia7 (ts es9) kk11) ∧ τ 13 = .int .i64 0 ∧ τ 32 = .bool false ∧ τ 36 = .bool false) ⟨up rfl (up rfl (up rfl (up rfl (up rfl (up rfl hs0))))), up rfl (up rfl (up rfl (up rfl (up rfl (up rfl hs1))))), up rfl (up rfl (up rfl (up rfl (up rfl (up rfl hs2))))), up rfl (up rfl (up rfl (up rfl (up rfl (up rfl hs3))))), up rfl (up rfl (up rfl (up rfl (up rfl (up rfl hs5))))), up rfl (up rfl (up rfl (up rfl (up rfl (up rfl hs6))))), up rfl (up rfl (up rfl (up rfl (up rfl (up rfl hs7))))), up rfl (up rfl (up rfl (up rfl (up rfl (up rfl hs8))))), up rfl (up rfl (up rfl (up rfl (up rfl (up rfl hs9))))), up rfl (up rfl (up rfl (up rfl (up rfl (up rfl hs10))))), up rfl (up rfl (up rfl (up rfl (up rfl (up rfl hs11))))), up rfl (up rfl (up rfl (up rfl (up rfl (up rfl hs12))))), tp, up rfl (up rfl (up rfl (up rfl (up rfl (up rfl hs32))))), up rfl (up rfl (up rfl (up rfl (up rfl (up rfl hs36)))))⟩ ?_
          rintro τ ⟨hs0, hs1, hs2, hs3, hs5, hs6, hs7, hs8, hs9, hs10, hs11, hs12, hs13, hs32, hs36⟩
          refine CW.seq ?_
          refine CW.seq ?_
          refine CW.region ?_
          refine RW.soft Wd.a (v := .int .i64 kk11) (by exact E.move (AF_ev rfl hs10)) ?_
          refine RW.soft Wd.a (v := .pointer (some ⟨b10, 0, none⟩)) (by exact E.move (AF_ev rfl (up rfl hs9))) ?_
          have hst := hst.take (.there .here)
          refine RW.hard Wd.a ?_
          refine H.call0 Try.func31 nm31 rfl (map1 (AF_ev rfl tp)) (Calls.mono (ent_FirstL hst) ?_)
          rintro _ w ⟨rfl, hst⟩
          refine ⟨_, rfl, ?_⟩
          show RW _ _ _ _ _ _ _
          refine RW.soft Wd.a (v := .int .i64 (ia7 + 1 - 1)) (by exact E.sub (k := .i64) (a := ia7 + 1) (b := 1) (AF_ev rfl tp) rfl (show IntKind.i64.wrap ((ia7 + 1) - 1) = ia7 + 1 - 1 from (by rw [IntWalk.i64_in _ (by omega)] <;> omega))) ?_
          refine RW.soft Wd.a (v := .bool false) (by exact E.b (a := decide (kk11 < (ia7 + 1 - 1))) (E.lss (k := .i64) (a := kk11) (b := ia7 + 1 - 1) (AF_ev rfl (up rfl (up rfl (up rfl tp)))) (AF_ev rfl tp)) (by rw [decide_eq_false_iff_not]; have := of_decide_eq_false h1; omega)) ?_
          refine RW.fin (fun τ => τ 0 = .agg #[.int .i64 i0, .int .i64 t0] ∧ τ 1 = .slice X l.length c ∧ τ 2 = .agg #[.int .i64 k0, .int .i64 u] ∧ τ 3 = .pointer (some ⟨b1, 0, none⟩) ∧ τ 5 = .pointer (some ⟨b2, 0, none⟩) ∧ τ 6 = .bool false ∧ τ 7 = .bool true ∧ τ 8 = .pointer (some ⟨b8, 0, none⟩) ∧ τ 9 = .pointer (some ⟨b10, 0, none⟩) ∧ τ 10 = .int .i64 kk11 ∧ τ 11 = .int .i64 (termT ia7 t0 (ts es9) kk11) ∧ τ 12 = .int .i64 (termE ia7 (ts es9) kk11) ∧ τ 13 = .int .i64 0 ∧ τ 32 = .bool false ∧ τ 36 = .bool false ∧ τ 55 = .bool false) ⟨up rfl (up rfl (up rfl (up rfl (up rfl hs0)))), up rfl (up rfl (up rfl (up rfl (up rfl hs1)))), up rfl (up rfl (up rfl (up rfl (up rfl hs2)))), up rfl (up rfl (up rfl (up rfl (up rfl hs3)))), up rfl (up rfl (up rfl (up rfl (up rfl hs5)))), up rfl (up rfl (up rfl (up rfl (up rfl hs6)))), up rfl (up rfl (up rfl (up rfl (up rfl hs7)))), up rfl (up rfl (up rfl (up rfl (up rfl hs8)))), up rfl (up rfl (up rfl (up rfl (up rfl hs9)))), up rfl (up rfl (up rfl (up rfl (up rfl hs10)))), up rfl (up rfl (up rfl (up rfl (up rfl hs11)))), up rfl (up rfl (up rfl (up rfl (up rfl hs12)))), up rfl (up rfl (up rfl (up rfl (up rfl hs13)))), up rfl (up rfl (up rfl (up rfl (up rfl hs32)))), up rfl (up rfl (up rfl (up rfl (up rfl hs36)))), tp⟩ ?_
          rintro τ ⟨hs0, hs1, hs2, hs3, hs5, hs6, hs7, hs8, hs9, hs10, hs11, hs12, hs13, hs32, hs36, hs55⟩
          refine CW.condF (AF_ev rfl hs55) ?_
          refine CW.skip ?_
          refine Th.n ?_
          refine CW.seq ?_
          refine CW.region ?_
          refine RW.soft Wd.a (v := .pointer (some ⟨b8, 0, none⟩)) (by exact E.move (AF_ev rfl hs8)) ?_
          refine RW.soft Wd.a (v := .int .i64 kk11) (by exact E.move (AF_ev rfl (up rfl hs10))) ?_
          have hst := hst.take (.there .here)
          refine RW.hard Wd.a ?_
          refine H.call0 Try.func32 nm32 rfl (map2 (AF_ev rfl (up rfl tp)) (AF_ev rfl tp)) (Calls.mono (ent_TermL (v := u) (u := 0) kk11 (by omega) termT_base termE_base hst) ?_)
          rintro _ w ⟨rfl, hst⟩
          refine ⟨_, rfl, ?_⟩
          show RW _ _ _ _ _ _ _
          refine RW.soft Wd.a (v := .tuple #[.int .i64 u, .int .i64 0]) (by exact E.move (AF_ev rfl tp)) ?_
          refine RW.soft Wd.a (v := .int .i64 u) (by exact E.extract (vs := #[.int .i64 u, .int .i64 0]) (AF_ev rfl tp) rfl) ?_
          refine RW.soft Wd.a (v := .int .i64 0) (by exact E.extract (vs := #[.int .i64 u, .int .i64 0]) (AF_ev rfl (up rfl tp)) rfl) ?_
          refine RW.soft Wd.a (v := .int .i64 u) (by exact E.assign (AF_ev rfl (up rfl tp))) ?_
          refine RW.soft Wd.a (v := .int .i64 0) (by exact E.assign (AF_ev rfl (up rfl tp))) ?_
          refine RW.fin (fun τ => τ 0 = .agg #[.int .i64 i0, .int .i64 t0] ∧ τ 1 = .slice X l.length c ∧ τ 2 = .agg #[.int .i64 k0, .int .i64 u] ∧ τ 3 = .pointer (some ⟨b1, 0, none⟩) ∧ τ 5 = .pointer (some ⟨b2, 0, none⟩) ∧ τ 6 = .bool false ∧ τ 7 = .bool true ∧ τ 8 = .pointer (some ⟨b8, 0, none⟩) ∧ τ 9 = .pointer (some ⟨b10, 0, none⟩) ∧ τ 10 = .int .i64 kk11 ∧ τ 11 = .int .i64 (termT ia7 t0 (ts es9) kk11) ∧ τ 12 = .int .i64 (termE ia7 (ts es9) kk11) ∧ τ 13 = .int .i64 0 ∧ τ 14 = .int .i64 u ∧ τ 15 = .int .i64 0 ∧ τ 32 = .bool false ∧ τ 36 = .bool false ∧ τ 55 = .bool false) ⟨up rfl (up rfl (up rfl (up rfl (up rfl (up rfl (up rfl (up rfl hs0))))))), up rfl (up rfl (up rfl (up rfl (up rfl (up rfl (up rfl (up rfl hs1))))))), up rfl (up rfl (up rfl (up rfl (up rfl (up rfl (up rfl (up rfl hs2))))))), up rfl (up rfl (up rfl (up rfl (up rfl (up rfl (up rfl (up rfl hs3))))))), up rfl (up rfl (up rfl (up rfl (up rfl (up rfl (up rfl (up rfl hs5))))))), up rfl (up rfl (up rfl (up rfl (up rfl (up rfl (up rfl (up rfl hs6))))))), up rfl (up rfl (up rfl (up rfl (up rfl (up rfl (up rfl (up rfl hs7))))))), up rfl (up rfl (up rfl (up rfl (up rfl (up rfl (up rfl (up rfl hs8))))))), up rfl (up rfl (up rfl (up rfl (up rfl (up rfl (up rfl (up rfl hs9))))))), up rfl (up rfl (up rfl (up rfl (up rfl (up rfl (up rfl (up rfl hs10))))))), up rfl (up rfl (up rfl (up rfl (up rfl (up rfl (up rfl (up rfl hs11))))))), up rfl (up rfl (up rfl (up rfl (up rfl (up rfl (up rfl (up rfl hs12))))))), up rfl (up rfl (up rfl (up rfl (up rfl (up rfl (up rfl (up rfl hs13))))))), up rfl tp, tp, up rfl (up rfl (up rfl (up rfl (up rfl (up rfl (up rfl (up rfl hs32))))))), up rfl (up rfl (up rfl (up rfl (up rfl (up rfl (up rfl (up rfl hs36))))))), up rfl (up rfl (up rfl (up rfl (up rfl (up rfl (up rfl (up rfl hs55)))))))⟩ ?_
          rintro τ ⟨hs0, hs1, hs2, hs3, hs5, hs6, hs7, hs8, hs9, hs10, hs11, hs12, hs13, hs14, hs15, hs32, hs36, hs55⟩
          refine CW.seq ?_
          refine CW.region ?_
          refine RW.soft Wd.a (v := .pointer (some ⟨b8, 0, none⟩)) (by exact E.move (AF_ev rfl hs8)) ?_
          refine RW.soft Wd.a (v := .int .i64 kk11) (by exact E.move (AF_ev rfl (up rfl hs10))) ?_
          refine RW.soft Wd.a (v := .int .i64 (kk11 - 1)) (by exact E.sub (k := .i64) (a := kk11) (b := 1) (AF_ev rfl tp) rfl (show IntKind.i64.wrap (kk11 - 1) = kk11 - 1 from (by rw [IntWalk.i64_in _ (by omega)]))) ?_
          refine RW.hard Wd.a ?_
          refine H.call0 Try.func32 nm32 rfl (map2 (AF_ev rfl (up rfl (up rfl tp))) (AF_ev rfl tp)) (Calls.mono (ent_TermL (v := termT kk11 u (ts es13) (kk11 - 1)) (u := 170) (kk11 - 1) (by omega) rfl (by unfold termE; rw [if_neg (by omega), if_neg (by omega)]) hst) ?_)
          rintro _ w ⟨rfl, hst⟩
          refine ⟨_, rfl, ?_⟩
          show RW _ _ _ _ _ _ _
          refine RW.soft Wd.a (v := .tuple #[.int .i64 (termT kk11 u (ts es13) (kk11 - 1)), .int .i64 170]) (by exact E.move (AF_ev rfl tp)) ?_
          refine RW.soft Wd.a (v := .int .i64 (termT kk11 u (ts es13) (kk11 - 1))) (by exact E.extract (vs := #[.int .i64 (termT kk11 u (ts es13) (kk11 - 1)), .int .i64 170]) (AF_ev rfl tp) rfl) ?_
          refine RW.soft Wd.a (v := .int .i64 170) (by exact E.extract (vs := #[.int .i64 (termT kk11 u (ts es13) (kk11 - 1)), .int .i64 170]) (AF_ev rfl (up rfl tp)) rfl) ?_
          refine RW.soft Wd.a (v := .int .i64 (termT kk11 u (ts es13) (kk11 - 1))) (by exact E.assign (AF_ev rfl (up rfl tp))) ?_
          refine RW.soft Wd.a (v := .int .i64 170) (by exact E.assign (AF_ev rfl (up rfl tp))) ?_
          refine RW.fin (fun τ => τ 0 = .agg #[.int .i64 i0, .int .i64 t0] ∧ τ 1 = .slice X l.length c ∧ τ 2 = .agg #[.int .i64 k0, .int .i64 u] ∧ τ 3 = .pointer (some ⟨b1, 0, none⟩) ∧ τ 5 = .pointer (some ⟨b2, 0, none⟩) ∧ τ 6 = .bool false ∧ τ 7 = .bool true ∧ τ 8 = .pointer (some ⟨b8, 0, none⟩) ∧ τ 9 = .pointer (some ⟨b10, 0, none⟩) ∧ τ 10 = .int .i64 kk11 ∧ τ 11 = .int .i64 (termT ia7 t0 (ts es9) kk11) ∧ τ 12 = .int .i64 (termE ia7 (ts es9) kk11) ∧ τ 13 = .int .i64 0 ∧ τ 14 = .int .i64 u ∧ τ 15 = .int .i64 0 ∧ τ 17 = .int .i64 170 ∧ τ 32 = .bool false ∧ τ 36 = .bool false ∧ τ 55 = .bool false) ⟨up rfl (up rfl (up rfl (up rfl (up rfl (up rfl (up rfl (up rfl (up rfl hs0)))))))), up rfl (up rfl (up rfl (up rfl (up rfl (up rfl (up rfl (up rfl (up rfl hs1)))))))), up rfl (up rfl (up rfl (up rfl (up rfl (up rfl (up rfl (up rfl (up rfl hs2)))))))), up rfl (up rfl (up rfl (up rfl (up rfl (up rfl (up rfl (up rfl (up rfl hs3)))))))), up rfl (up rfl (up rfl (up rfl (up rfl (up rfl (up rfl (up rfl (up rfl hs5)))))))), up rfl (up rfl (up rfl (up rfl (up rfl (up rfl (up rfl (up rfl (up rfl hs6)))))))), up rfl (up rfl (up rfl (up rfl (up rfl (up rfl (up rfl (up rfl (up rfl hs7)))))))), up rfl (up rfl (up rfl (up rfl (up rfl (up rfl (up rfl (up rfl (up rfl hs8)))))))), up rfl (up rfl (up rfl (up rfl (up rfl (up rfl (up rfl (up rfl (up rfl hs9)))))))), up rfl (up rfl (up rfl (up rfl (up rfl (up rfl (up rfl (up rfl (up rfl hs10)))))))), up rfl (up rfl (up rfl (up rfl (up rfl (up rfl (up rfl (up rfl (up rfl hs11)))))))), up rfl (up rfl (up rfl (up rfl (up rfl (up rfl (up rfl (up rfl (up rfl hs12)))))))), up rfl (up rfl (up rfl (up rfl (up rfl (up rfl (up rfl (up rfl (up rfl hs13)))))))), up rfl (up rfl (up rfl (up rfl (up rfl (up rfl (up rfl (up rfl (up rfl hs14)))))))), up rfl (up rfl (up rfl (up rfl (up rfl (up rfl (up rfl (up rfl (up rfl hs15)))))))), tp, up rfl (up rfl (up rfl (up rfl (up rfl (up rfl (up rfl (up rfl (up rfl hs32)))))))), up rfl (up rfl (up rfl (up rfl (up rfl (up rfl (up rfl (up rfl (up rfl hs36)))))))), up rfl (up rfl (up rfl (up rfl (up rfl (up rfl (up rfl (up rfl (up rfl hs55))))))))⟩ ?_
          rintro τ ⟨hs0, hs1, hs2, hs3, hs5, hs6, hs7, hs8, hs9, hs10, hs11, hs12, hs13, hs14, hs15, hs17, hs32, hs36, hs55⟩
          refine CW.seq ?_
          refine CW.seq ?_
          refine CW.region ?_
          refine RW.soft Wd.a (v := .int .i64 kk11) (by exact E.move (AF_ev rfl hs10)) ?_
          refine RW.soft Wd.a (v := .bool false) (by exact E.b (a := decide (kk11 > 1099511627776)) (E.gtr (k := .i64) (a := kk11) (b := 1099511627776) (AF_ev rfl tp) rfl) (decide_eq_false (by omega))) ?_
          refine RW.fin (fun τ => τ 0 = .agg #[.int .i64 i0, .int .i64 t0] ∧ τ 1 = .slice X l.length c ∧ τ 2 = .agg #[.int .i64 k0, .int .i64 u] ∧ τ 3 = .pointer (some ⟨b1, 0, none⟩) ∧ τ 5 = .pointer (some ⟨b2, 0, none⟩) ∧ τ 6 = .bool false ∧ τ 7 = .bool true ∧ τ 8 = .pointer (some ⟨b8, 0, none⟩) ∧ τ 9 = .pointer (some ⟨b10, 0, none⟩) ∧ τ 10 = .int .i64 kk11 ∧ τ 11 = .int .i64 (termT ia7 t0 (ts es9) kk11) ∧ τ 12 = .int .i64 (termE ia7 (ts es9) kk11) ∧ τ 13 = .int .i64 0 ∧ τ 14 = .int .i64 u ∧ τ 15 = .int .i64 0 ∧ τ 17 = .int .i64 170 ∧ τ 32 = .bool false ∧ τ 36 = .bool false ∧ τ 55 = .bool false ∧ τ 86 = .bool false) ⟨up rfl (up rfl hs0), up rfl (up rfl hs1), up rfl (up rfl hs2), up rfl (up rfl hs3), up rfl (up rfl hs5), up rfl (up rfl hs6), up rfl (up rfl hs7), up rfl (up rfl hs8), up rfl (up rfl hs9), up rfl (up rfl hs10), up rfl (up rfl hs11), up rfl (up rfl hs12), up rfl (up rfl hs13), up rfl (up rfl hs14), up rfl (up rfl hs15), up rfl (up rfl hs17), up rfl (up rfl hs32), up rfl (up rfl hs36), up rfl (up rfl hs55), tp⟩ ?_
          rintro τ ⟨hs0, hs1, hs2, hs3, hs5, hs6, hs7, hs8, hs9, hs10, hs11, hs12, hs13, hs14, hs15, hs17, hs32, hs36, hs55, hs86⟩
          refine CW.condF (AF_ev rfl hs86) ?_
          refine CW.skip ?_
          refine Th.n ?_
          refine CW.seq ?_
          refine CW.seq ?_
          refine CW.region ?_
          refine RW.soft Wd.a (v := .int .i64 0) (by exact E.move (AF_ev rfl hs13)) ?_
          refine RW.soft Wd.a (v := .bool false) (by exact E.neq (k := .i64) (a := 0) (b := 0) (AF_ev rfl tp) rfl) ?_
          refine RW.soft Wd.a (v := .bool false) (by exact E.move (AF_ev rfl tp)) ?_
          refine RW.soft (by exact Wd.yes (x := 91) rfl (AF_ev rfl tp)) (v := .pointer (some ⟨b8, 0, none⟩)) (by exact E.move (AF_ev rfl (up rfl (up rfl (up rfl hs8))))) ?_
          refine RW.hard (by exact Wd.yes (x := 91) rfl (AF_ev rfl (up rfl tp))) ?_
          refine H.call0 Try.func31 nm31 rfl (map1 (AF_ev rfl tp)) (Calls.mono (ent_FirstL hst) ?_)
          rintro _ w ⟨rfl, hst⟩
          refine ⟨_, rfl, ?_⟩
          show RW _ _ _ _ _ _ _
          refine RW.soft (by exact Wd.yes (x := 91) rfl (AF_ev rfl (up rfl (up rfl tp)))) (v := .int .i64 kk11) (by exact E.move (AF_ev rfl (up rfl (up rfl (up rfl (up rfl (up rfl hs10))))))) ?_
          refine RW.soft (by exact Wd.yes (x := 91) rfl (AF_ev rfl (up rfl (up rfl (up rfl tp))))) (v := .int .i64 (kk11 + 1)) (by exact E.add (k := .i64) (a := kk11) (b := 1) (AF_ev rfl tp) rfl (show IntKind.i64.wrap (kk11 + 1) = kk11 + 1 from (by rw [IntWalk.i64_in _ (by omega)]))) ?_
          refine RW.soft (by exact Wd.yes (x := 91) rfl (AF_ev rfl (up rfl (up rfl (up rfl (up rfl tp)))))) (v := .bool false) (by exact E.b (a := (kk11 + 1) != (kk11 + 1)) (E.neq (k := .i64) (a := kk11 + 1) (b := kk11 + 1) (AF_ev rfl (up rfl (up rfl tp))) (AF_ev rfl tp)) (by simp)) ?_
          refine RW.soft Wd.a (v := .bool false) (by exact E.pickF (AF_ev rfl (up rfl (up rfl (up rfl (up rfl (up rfl tp)))))) (AF_ev rfl tp)) ?_
          refine RW.soft Wd.a (v := .bool false) (by exact E.move (AF_ev rfl tp)) ?_
          refine RW.soft (by exact Wd.yes (x := 98) rfl (AF_ev rfl tp)) (v := .int .i64 0) (by exact E.move (AF_ev rfl (up rfl (up rfl (up rfl (up rfl (up rfl (up rfl (up rfl (up rfl (up rfl (up rfl hs15)))))))))))) ?_
          refine RW.soft (by exact Wd.yes (x := 98) rfl (AF_ev rfl (up rfl tp))) (v := .bool false) (by exact E.neq (k := .i64) (a := 0) (b := 0) (AF_ev rfl tp) rfl) ?_
          refine RW.soft Wd.a (v := .bool false) (by exact E.pickF (AF_ev rfl (up rfl (up rfl tp))) (AF_ev rfl tp)) ?_
          refine RW.soft Wd.a (v := .bool false) (by exact E.move (AF_ev rfl tp)) ?_
          refine RW.soft (by exact Wd.yes (x := 102) rfl (AF_ev rfl tp)) (v := .int .i64 u) (by exact E.move (AF_ev rfl (up rfl (up rfl (up rfl (up rfl (up rfl (up rfl (up rfl (up rfl (up rfl (up rfl (up rfl (up rfl (up rfl (up rfl hs14)))))))))))))))) ?_
          refine RW.soft (by exact Wd.yes (x := 102) rfl (AF_ev rfl (up rfl tp))) (v := .pointer (some ⟨b2, 1, none⟩)) (by exact E.indexAddrA (b := b2) (o := 0) (i := 1) Try.underlying43 sz3 (AF_ev rfl (up rfl (up rfl (up rfl (up rfl (up rfl (up rfl (up rfl (up rfl (up rfl (up rfl (up rfl (up rfl (up rfl (up rfl (up rfl hs5)))))))))))))))) rfl (by omega) (by omega) (by simp)) ?_
          refine RW.soft (by exact Wd.yes (x := 102) rfl (AF_ev rfl (up rfl (up rfl tp)))) (v := .int .i64 u) (by exact E.load (a := ⟨b2, 1, none⟩) Try.underlying3 rfl (AF_ev rfl tp) (hst.cell (.there (.there (.there (.there .here)))) rfl)) ?_
          refine RW.soft (by exact Wd.yes (x := 102) rfl (AF_ev rfl (up rfl (up rfl (up rfl tp))))) (v := .bool false) (by exact E.b (a := u != u) (E.neq (k := .i64) (a := u) (b := u) (AF_ev rfl (up rfl (up rfl tp))) (AF_ev rfl tp)) (by simp)) ?_
          refine RW.soft Wd.a (v := .bool false) (by exact E.pickF (AF_ev rfl (up rfl (up rfl (up rfl (up rfl tp))))) (AF_ev rfl tp)) ?_
          refine RW.soft Wd.a (v := .bool false) (by exact E.move (AF_ev rfl tp)) ?_
          refine RW.soft (by exact Wd.yes (x := 108) rfl (AF_ev rfl tp)) (v := .int .i64 170) (by exact E.move (AF_ev rfl (up rfl (up rfl (up rfl (up rfl (up rfl (up rfl (up rfl (up rfl (up rfl (up rfl (up rfl (up rfl (up rfl (up rfl (up rfl (up rfl (up rfl (up rfl (up rfl (up rfl hs17)))))))))))))))))))))) ?_
          refine RW.soft (by exact Wd.yes (x := 108) rfl (AF_ev rfl (up rfl tp))) (v := .bool false) (by exact E.neq (k := .i64) (a := 170) (b := 170) (AF_ev rfl tp) rfl) ?_
          refine RW.soft Wd.a (v := .bool false) (by exact E.pickF (AF_ev rfl (up rfl (up rfl tp))) (AF_ev rfl tp)) ?_
          refine RW.fin (fun τ => τ 0 = .agg #[.int .i64 i0, .int .i64 t0] ∧ τ 1 = .slice X l.length c ∧ τ 2 = .agg #[.int .i64 k0, .int .i64 u] ∧ τ 3 = .pointer (some ⟨b1, 0, none⟩) ∧ τ 5 = .pointer (some ⟨b2, 0, none⟩) ∧ τ 6 = .bool false ∧ τ 7 = .bool true ∧ τ 8 = .pointer (some ⟨b8, 0, none⟩) ∧ τ 9 = .pointer (some ⟨b10, 0, none⟩) ∧ τ 10 = .int .i64 kk11 ∧ τ 11 = .int .i64 (termT ia7 t0 (ts es9) kk11) ∧ τ 12 = .int .i64 (termE ia7 (ts es9) kk11) ∧ τ 13 = .int .i64 0 ∧ τ 14 = .int .i64 u ∧ τ 15 = .int .i64 0 ∧ τ 17 = .int .i64 170 ∧ τ 32 = .bool false ∧ τ 36 = .bool false ∧ τ 55 = .bool false ∧ τ 86 = .bool false ∧ τ 111 = .bool false) ⟨up rfl (up rfl (up rfl (up rfl (up rfl (up rfl (up rfl (up rfl (up rfl (up rfl (up rfl (up rfl (up rfl (up rfl (up rfl (up rfl (up rfl (up rfl (up rfl (up rfl (up rfl (up rfl (up rfl hs0)))))))))))))))))))))), up rfl (up rfl (up rfl (up rfl (up rfl (up rfl (up rfl (up rfl (up rfl (up rfl (up rfl (up rfl (up rfl (up rfl (up rfl (up rfl (up rfl (up rfl (up rfl (up rfl (up rfl (up rfl (up rfl hs1)))))))))))))))))))))), up rfl (up rfl (up rfl (up rfl (up rfl (up rfl (up rfl (up rfl (up rfl (up rfl (up rfl (up rfl (up rfl (up rfl (up rfl (up rfl (up rfl (up rfl (up rfl (up rfl (up rfl (up rfl (up rfl hs2)))))))))))))))))))))), up rfl (up rfl (up rfl (up rfl (up rfl (up rfl (up rfl (up rfl (up rfl (up rfl (up rfl (up rfl (up rfl (up rfl (up rfl (up rfl (up rfl (up rfl (up rfl (up rfl (up rfl (up rfl (up rfl hs3)))))))))))))))))))))), up rfl (up rfl (up rfl (up rfl (up rfl (up rfl (up rfl (up rfl (up rfl (up rfl (up rfl (up rfl (up rfl (up rfl (up rfl (up rfl (up rfl (up rfl (up rfl (up rfl (up rfl (up rfl (up rfl hs5)))))))))))))))))))))), up rfl (up rfl (up rfl (up rfl (up rfl (up rfl (up rfl (up rfl (up rfl (up rfl (up rfl (up rfl (up rfl (up rfl (up rfl (up rfl (up rfl (up rfl (up rfl (up rfl (up rfl (up rfl (up rfl hs6)))))))))))))))))))))), up rfl (up rfl (up rfl (up rfl (up rfl (up rfl (up rfl (up rfl (up rfl (up rfl (up rfl (up rfl (up rfl (up rfl (up rfl (up rfl (up rfl (up rfl (up rfl (up rfl (up rfl (up rfl (up rfl hs7)))))))))))))))))))))), up rfl (up rfl (up rfl (up rfl (up rfl (up rfl (up rfl (up rfl (up rfl (up rfl (up rfl (up rfl (up rfl (up rfl (up rfl (up rfl (up rfl (up rfl (up rfl (up rfl (up rfl (up rfl (up rfl hs8)))))))))))))))))))))), up rfl (up rfl (up rfl (up rfl (up rfl (up rfl (up rfl (up rfl (up rfl (up rfl (up rfl (up rfl (up rfl (up rfl (up rfl (up rfl (up rfl (up rfl (up rfl (up rfl (up rfl (up rfl (up rfl hs9)))))))))))))))))))))), up rfl (up rfl (up rfl (up rfl (up rfl (up rfl (up rfl (up rfl (up rfl (up rfl (up rfl (up rfl (up rfl (up rfl (up rfl (up rfl (up rfl (up rfl (up rfl (up rfl (up rfl (up rfl (up rfl hs10)))))))))))))))))))))), up rfl (up rfl (up rfl (up rfl (up rfl (up rfl (up rfl (up rfl (up rfl (up rfl (up rfl (up rfl (up rfl (up rfl (up rfl (up rfl (up rfl (up rfl (up rfl (up rfl (up rfl (up rfl (up rfl hs11)))))))))))))))))))))), up rfl (up rfl (up rfl (up rfl (up rfl (up rfl (up rfl (up rfl (up rfl (up rfl (up rfl (up rfl (up rfl (up rfl (up rfl (up rfl (up rfl (up rfl (up rfl (up rfl (up rfl (up rfl (up rfl hs12)))))))))))))))))))))), up rfl (up rfl (up rfl (up rfl (up rfl (up rfl (up rfl (up rfl (up rfl (up rfl (up rfl (up rfl (up rfl (up rfl (up rfl (up rfl (up rfl (up rfl (up rfl (up rfl (up rfl (up rfl (up rfl hs13)))))))))))))))))))))), up rfl (up rfl (up rfl (up rfl (up rfl (up rfl (up rfl (up rfl (up rfl (up rfl (up rfl (up rfl (up rfl (up rfl (up rfl (up rfl (up rfl (up rfl (up rfl (up rfl (up rfl (up rfl (up rfl hs14)))))))))))))))))))))), up rfl (up rfl (up rfl (up rfl (up rfl (up rfl (up rfl (up rfl (up rfl (up rfl (up rfl (up rfl (up rfl (up rfl (up rfl (up rfl (up rfl (up rfl (up rfl (up rfl (up rfl (up rfl (up rfl hs15)))))))))))))))))))))), up rfl (up rfl (up rfl (up rfl (up rfl (up rfl (up rfl (up rfl (up rfl (up rfl (up rfl (up rfl (up rfl (up rfl (up rfl (up rfl (up rfl (up rfl (up rfl (up rfl (up rfl (up rfl (up rfl hs17)))))))))))))))))))))), up rfl (up rfl (up rfl (up rfl (up rfl (up rfl (up rfl (up rfl (up rfl (up rfl (up rfl (up rfl (up rfl (up rfl (up rfl (up rfl (up rfl (up rfl (up rfl (up rfl (up rfl (up rfl (up rfl hs32)))))))))))))))))))))), up rfl (up rfl (up rfl (up rfl (up rfl (up rfl (up rfl (up rfl (up rfl (up rfl (up rfl (up rfl (up rfl (up rfl (up rfl (up rfl (up rfl (up rfl (up rfl (up rfl (up rfl (up rfl (up rfl hs36)))))))))))))))))))))), up rfl (up rfl (up rfl (up rfl (up rfl (up rfl (up rfl (up rfl (up rfl (up rfl (up rfl (up rfl (up rfl (up rfl (up rfl (up rfl (up rfl (up rfl (up rfl (up rfl (up rfl (up rfl (up rfl hs55)))))))))))))))))))))), up rfl (up rfl (up rfl (up rfl (up rfl (up rfl (up rfl (up rfl (up rfl (up rfl (up rfl (up rfl (up rfl (up rfl (up rfl (up rfl (up rfl (up rfl (up rfl (up rfl (up rfl (up rfl (up rfl hs86)))))))))))))))))))))), tp⟩ ?_
          rintro τ ⟨hs0, hs1, hs2, hs3, hs5, hs6, hs7, hs8, hs9, hs10, hs11, hs12, hs13, hs14, hs15, hs17, hs32, hs36, hs55, hs86, hs111⟩
          refine CW.condF (AF_ev rfl hs111) ?_
          refine CW.skip ?_
          refine Th.n ?_
          refine CW.seq ?_
          refine CW.seq ?_
          refine CW.region ?_
          refine RW.soft Wd.a (v := .int .i64 kk11) (by exact E.move (AF_ev rfl hs10)) ?_
          refine RW.soft Wd.a (v := .pointer (some ⟨b10, 0, none⟩)) (by exact E.move (AF_ev rfl (up rfl hs9))) ?_
          have hst := hst.take (.there .here)
          refine RW.hard Wd.a ?_
          refine H.call0 Try.func31 nm31 rfl (map1 (AF_ev rfl tp)) (Calls.mono (ent_FirstL hst) ?_)
          rintro _ w ⟨rfl, hst⟩
          refine ⟨_, rfl, ?_⟩
          show RW _ _ _ _ _ _ _
          refine RW.soft Wd.a (v := .int .i64 (ia7 + 1 - 1)) (by exact E.sub (k := .i64) (a := ia7 + 1) (b := 1) (AF_ev rfl tp) rfl (show IntKind.i64.wrap ((ia7 + 1) - 1) = ia7 + 1 - 1 from (by rw [IntWalk.i64_in _ (by omega)] <;> omega))) ?_
          refine RW.soft Wd.a (v := .bool false) (by exact E.b (a := kk11 == (ia7 + 1 - 1)) (E.eql (k := .i64) (a := kk11) (b := ia7 + 1 - 1) (AF_ev rfl (up rfl (up rfl (up rfl tp)))) (AF_ev rfl tp)) (by rw [beq_eq_false_iff_ne]; have := beq_eq_false_iff_ne.1 h2; omega)) ?_
          refine RW.soft Wd.a (v := .bool false) (by exact E.move (AF_ev rfl tp)) ?_
          refine RW.soft (by exact Wd.yes (x := 117) rfl (AF_ev rfl tp)) (v := .int .i64 (termE ia7 (ts es9) kk11)) (by exact E.move (AF_ev rfl (up rfl (up rfl (up rfl (up rfl (up rfl (up rfl hs12)))))))) ?_
          refine RW.soft (by exact Wd.yes (x := 117) rfl (AF_ev rfl (up rfl tp))) (v := .bool true) (by exact E.b (a := (termE ia7 (ts es9) kk11) == 0) (E.eql (k := .i64) (a := termE ia7 (ts es9) kk11) (b := 0) (AF_ev rfl tp) rfl) h3) ?_
          refine RW.soft (by exact Wd.yes (x := 117) rfl (AF_ev rfl (up rfl (up rfl tp)))) (v := .bool true) (by exact E.move (AF_ev rfl tp)) ?_
          refine RW.soft (by exact Wd.yes (x := 120) rfl (AF_ev rfl tp)) (v := .int .i64 (termT ia7 t0 (ts es9) kk11)) (by exact E.move (AF_ev rfl (up rfl (up rfl (up rfl (up rfl (up rfl (up rfl (up rfl (up rfl (up rfl hs11))))))))))) ?_
          refine RW.soft (by exact Wd.yes (x := 120) rfl (AF_ev rfl (up rfl tp))) (v := .pointer (some ⟨b2, 1, none⟩)) (by exact E.indexAddrA (b := b2) (o := 0) (i := 1) Try.underlying43 sz3 (AF_ev rfl (up rfl (up rfl (up rfl (up rfl (up rfl (up rfl (up rfl (up rfl (up rfl (up rfl hs5))))))))))) rfl (by omega) (by omega) (by simp)) ?_
          refine RW.soft (by exact Wd.yes (x := 120) rfl (AF_ev rfl (up rfl (up rfl tp)))) (v := .int .i64 u) (by exact E.load (a := ⟨b2, 1, none⟩) Try.underlying3 rfl (AF_ev rfl tp) (hst.cell (.there (.there (.there (.there .here)))) rfl)) ?_
          refine RW.soft (by exact Wd.yes (x := 120) rfl (AF_ev rfl (up rfl (up rfl (up rfl tp))))) (v := .bool true) (by exact E.b (a := (termT ia7 t0 (ts es9) kk11) == u) (E.eql (k := .i64) (a := termT ia7 t0 (ts es9) kk11) (b := u) (AF_ev rfl (up rfl (up rfl tp))) (AF_ev rfl tp)) h4) ?_
          refine RW.soft (by exact Wd.yes (x := 117) rfl (AF_ev rfl (up rfl (up rfl (up rfl (up rfl (up rfl (up rfl (up rfl tp))))))))) (v := .bool true) (by exact E.pickT (AF_ev rfl (up rfl (up rfl (up rfl (up rfl tp))))) (AF_ev rfl tp)) ?_
          refine RW.soft Wd.a (v := .bool true) (by exact E.pickF (AF_ev rfl (up rfl (up rfl (up rfl (up rfl (up rfl (up rfl (up rfl (up rfl tp))))))))) (AF_ev rfl tp)) ?_
          refine RW.fin (fun τ => τ 0 = .agg #[.int .i64 i0, .int .i64 t0] ∧ τ 1 = .slice X l.length c ∧ τ 2 = .agg #[.int .i64 k0, .int .i64 u] ∧ τ 3 = .pointer (some ⟨b1, 0, none⟩) ∧ τ 5 = .pointer (some ⟨b2, 0, none⟩) ∧ τ 6 = .bool false ∧ τ 7 = .bool true ∧ τ 8 = .pointer (some ⟨b8, 0, none⟩) ∧ τ 9 = .pointer (some ⟨b10, 0, none⟩) ∧ τ 10 = .int .i64 kk11 ∧ τ 11 = .int .i64 (termT ia7 t0 (ts es9) kk11) ∧ τ 12 = .int .i64 (termE ia7 (ts es9) kk11) ∧ τ 13 = .int .i64 0 ∧ τ 14 = .int .i64 u ∧ τ 15 = .int .i64 0 ∧ τ 17 = .int .i64 170 ∧ τ 32 = .bool false ∧ τ 36 = .bool false ∧ τ 55 = .bool false ∧ τ 86 = .bool false ∧ τ 111 = .bool false ∧ τ 126 = .bool true) ⟨up rfl (up rfl (up rfl (up rfl (up rfl (up rfl (up rfl (up rfl (up rfl (up rfl (up rfl (up rfl (up rfl (up rfl (up rfl hs0)))))))))))))), up rfl (up rfl (up rfl (up rfl (up rfl (up rfl (up rfl (up rfl (up rfl (up rfl (up rfl (up rfl (up rfl (up rfl (up rfl hs1)))))))))))))), up rfl (up rfl (up rfl (up rfl (up rfl (up rfl (up rfl (up rfl (up rfl (up rfl (up rfl (up rfl (up rfl (up rfl (up rfl hs2)))))))))))))), up rfl (up rfl (up rfl (up rfl (up rfl (up rfl (up rfl (up rfl (up rfl (up rfl (up rfl (up rfl (up rfl (up rfl (up rfl hs3)))))))))))))), up rfl (up rfl (up rfl (up rfl (up rfl (up rfl (up rfl (up rfl (up rfl (up rfl (up rfl (up rfl (up rfl (up rfl (up rfl hs5)))))))))))))), up rfl (up rfl (up rfl (up rfl (up rfl (up rfl (up rfl (up rfl (up rfl (up rfl (up rfl (up rfl (up rfl (up rfl (up rfl hs6)))))))))))))), up rfl (up rfl (up rfl (up rfl (up rfl (up rfl (up rfl (up rfl (up rfl (up rfl (up rfl (up rfl (up rfl (up rfl (up rfl hs7)))))))))))))), up rfl (up rfl (up rfl (up rfl (up rfl (up rfl (up rfl (up rfl (up rfl (up rfl (up rfl (up rfl (up rfl (up rfl (up rfl hs8)))))))))))))), up rfl (up rfl (up rfl (up rfl (up rfl (up rfl (up rfl (up rfl (up rfl (up rfl (up rfl (up rfl (up rfl (up rfl (up rfl hs9)))))))))))))), up rfl (up rfl (up rfl (up rfl (up rfl (up rfl (up rfl (up rfl (up rfl (up rfl (up rfl (up rfl (up rfl (up rfl (up rfl hs10)))))))))))))), up rfl (up rfl (up rfl (up rfl (up rfl (up rfl (up rfl (up rfl (up rfl (up rfl (up rfl (up rfl (up rfl (up rfl (up rfl hs11)))))))))))))), up rfl (up rfl (up rfl (up rfl (up rfl (up rfl (up rfl (up rfl (up rfl (up rfl (up rfl (up rfl (up rfl (up rfl (up rfl hs12)))))))))))))), up rfl (up rfl (up rfl (up rfl (up rfl (up rfl (up rfl (up rfl (up rfl (up rfl (up rfl (up rfl (up rfl (up rfl (up rfl hs13)))))))))))))), up rfl (up rfl (up rfl (up rfl (up rfl (up rfl (up rfl (up rfl (up rfl (up rfl (up rfl (up rfl (up rfl (up rfl (up rfl hs14)))))))))))))), up rfl (up rfl (up rfl (up rfl (up rfl (up rfl (up rfl (up rfl (up rfl (up rfl (up rfl (up rfl (up rfl (up rfl (up rfl hs15)))))))))))))), up rfl (up rfl (up rfl (up rfl (up rfl (up rfl (up rfl (up rfl (up rfl (up rfl (up rfl (up rfl (up rfl (up rfl (up rfl hs17)))))))))))))), up rfl (up rfl (up rfl (up rfl (up rfl (up rfl (up rfl (up rfl (up rfl (up rfl (up rfl (up rfl (up rfl (up rfl (up rfl hs32)))))))))))))), up rfl (up rfl (up rfl (up rfl (up rfl (up rfl (up rfl (up rfl (up rfl (up rfl (up rfl (up rfl (up rfl (up rfl (up rfl hs36)))))))))))))), up rfl (up rfl (up rfl (up rfl (up rfl (up rfl (up rfl (up rfl (up rfl (up rfl (up rfl (up rfl (up rfl (up rfl (up rfl hs55)))))))))))))), up rfl (up rfl (up rfl (up rfl (up rfl (up rfl (up rfl (up rfl (up rfl (up rfl (up rfl (up rfl (up rfl (up rfl (up rfl hs86)))))))))))))), up rfl (up rfl (up rfl (up rfl (up rfl (up rfl (up rfl (up rfl (up rfl (up rfl (up rfl (up rfl (up rfl (up rfl (up rfl hs111)))))))))))))), tp⟩ ?_
          rintro τ ⟨hs0, hs1, hs2, hs3, hs5, hs6, hs7, hs8, hs9, hs10, hs11, hs12, hs13, hs14, hs15, hs17, hs32, hs36, hs55, hs86, hs111, hs126⟩
          refine CW.condT (AF_ev rfl hs126) ?_
          refine CW.seq ?_
          refine CW.region ?_
          refine RW.soft Wd.a (v := .pointer (some ⟨b8, 0, none⟩)) (by exact E.move (AF_ev rfl hs8)) ?_
          have hst := hst.take (.there .here)
          refine RW.hard Wd.a ?_
          refine H.call0 Try.func30 nm30 rfl (map1 (AF_ev rfl tp)) (Calls.mono (ent_LastL (v := kk11 + ((es13.length : Nat) : Int)) rfl hst) ?_)
          rintro _ w ⟨rfl, hst⟩
          refine ⟨_, rfl, ?_⟩
          show RW _ _ _ _ _ _ _
          refine RW.soft Wd.a (v := .pointer (some ⟨b10, 0, none⟩)) (by exact E.move (AF_ev rfl (up rfl (up rfl hs9)))) ?_
          have hst := hst.take (.there .here)
          refine RW.hard Wd.a ?_
          refine H.call0 Try.func30 nm30 rfl (map1 (AF_ev rfl tp)) (Calls.mono (ent_LastL (v := ia7 + ((es9.length : Nat) : Int)) rfl hst) ?_)
          rintro _ w ⟨rfl, hst⟩
          refine ⟨_, rfl, ?_⟩
          show RW _ _ _ _ _ _ _
          refine RW.soft Wd.a (v := .bool true) (by exact E.b (a := (kk11 + ((es13.length : Nat) : Int)) == (ia7 + ((es9.length : Nat) : Int))) (E.eql (k := .i64) (a := kk11 + ((es13.length : Nat) : Int)) (b := ia7 + ((es9.length : Nat) : Int)) (AF_ev rfl (up rfl (up rfl tp))) (AF_ev rfl tp)) (by rw [beq_iff_eq]; omega)) ?_
          refine RW.soft Wd.a (v := .bool true) (by exact E.assign (AF_ev rfl tp)) ?_
          refine RW.fin (fun τ => τ 0 = .agg #[.int .i64 i0, .int .i64 t0] ∧ τ 1 = .slice X l.length c ∧ τ 2 = .agg #[.int .i64 k0, .int .i64 u] ∧ τ 3 = .pointer (some ⟨b1, 0, none⟩) ∧ τ 5 = .pointer (some ⟨b2, 0, none⟩) ∧ τ 6 = .bool true ∧ τ 7 = .bool true ∧ τ 8 = .pointer (some ⟨b8, 0, none⟩) ∧ τ 9 = .pointer (some ⟨b10, 0, none⟩) ∧ τ 10 = .int .i64 kk11 ∧ τ 11 = .int .i64 (termT ia7 t0 (ts es9) kk11) ∧ τ 12 = .int .i64 (termE ia7 (ts es9) kk11) ∧ τ 13 = .int .i64 0 ∧ τ 14 = .int .i64 u ∧ τ 15 = .int .i64 0 ∧ τ 17 = .int .i64 170 ∧ τ 32 = .bool false ∧ τ 36 = .bool false ∧ τ 55 = .bool false ∧ τ 86 = .bool false ∧ τ 111 = .bool false ∧ τ 126 = .bool true) ⟨up rfl (up rfl (up rfl (up rfl (up rfl (up rfl hs0))))), up rfl (up rfl (up rfl (up rfl (up rfl (up rfl hs1))))), up rfl (up rfl (up rfl (up rfl (up rfl (up rfl hs2))))), up rfl (up rfl (up rfl (up rfl (up rfl (up rfl hs3))))), up rfl (up rfl (up rfl (up rfl (up rfl (up rfl hs5))))), tp, up rfl (up rfl (up rfl (up rfl (up rfl (up rfl hs7))))), up rfl (up rfl (up rfl (up rfl (up rfl (up rfl hs8))))), up rfl (up rfl (up rfl (up rfl (up rfl (up rfl hs9))))), up rfl (up rfl (up rfl (up rfl (up rfl (up rfl hs10))))), up rfl (up rfl (up rfl (up rfl (up rfl (up rfl hs11))))), up rfl (up rfl (up rfl (up rfl (up rfl (up rfl hs12))))), up rfl (up rfl (up rfl (up rfl (up rfl (up rfl hs13))))), up rfl (up rfl (up rfl (up rfl (up rfl (up rfl hs14))))), up rfl (up rfl (up rfl (up rfl (up rfl (up rfl hs15))))), up rfl (up rfl (up rfl (up rfl (up rfl (up rfl hs17))))), up rfl (up rfl (up rfl (up rfl (up rfl (up rfl hs32))))), up rfl (up rfl (up rfl (up rfl (up rfl (up rfl hs36))))), up rfl (up rfl (up rfl (up rfl (up rfl (up rfl hs55))))), up rfl (up rfl (up rfl (up rfl (up rfl (up rfl hs86))))), up rfl (up rfl (up rfl (up rfl (up rfl (up rfl hs111))))), up rfl (up rfl (up rfl (up rfl (up rfl (up rfl hs126)))))⟩ ?_
          rintro τ ⟨hs0, hs1, hs2, hs3, hs5, hs6, hs7, hs8, hs9, hs10, hs11, hs12, hs13, hs14, hs15, hs17, hs32, hs36, hs55, hs86, hs111, hs126⟩
          refine CW.ret ?_
          refine Th.r ?_
          refine ret1 (v := .bool true) rfl (by exact (.tmp (AF_ev rfl hs6) .nil)) ?_
          have hst := hst.drop
          have hst := hst.drop
          have hst := hst.drop
          have hst := hst.drop
          have hst := hst.drop
          have hst := hst.drop
          exact ⟨p, hp0, rfl, hst⟩
        · skip
          have h1_ := of_decide_eq_false h1
          refine CW.region ?_
          refine RW.soft Wd.a (v := .pointer (some ⟨b8, 0, none⟩)) (by exact E.move (AF_ev rfl hs8)) ?_
          refine RW.soft Wd.a (v := .int .i64 kk11) (by exact E.move (AF_ev rfl (up rfl hs10))) ?_
          refine RW.soft Wd.a (v := .pointer (some ⟨b2, 1, none⟩)) (by exact E.indexAddrA (b := b2) (o := 0) (i := 1) Try.underlying43 sz3 (AF_ev rfl (up rfl (up rfl hs5))) rfl (by omega) (by omega) (by simp)) ?_
          refine RW.soft Wd.a (v := .int .i64 u) (by exact E.load (a := ⟨b2, 1, none⟩) Try.underlying3 rfl (AF_ev rfl tp) (hst.cell (.there (.there (.there (.there .here)))) rfl)) ?_
          have hst := hst.take (.there .here)
          refine RW.hard Wd.a ?_
          refine H.call0 Try.func37 nm37 rfl (map3 (AF_ev rfl (up rfl (up rfl (up rfl tp)))) (AF_ev rfl (up rfl (up rfl tp))) (AF_ev rfl tp)) (Calls.mono (ent_Base_yes kk11 u (by omega) hst) ?_)
          rintro _ w ⟨rfl, hst⟩
          generalize hes14 : (if keepB ia7 t0 (ts es9) kk11 u = true then es9.drop (kk11 - ia7).toNat else []) = es14 at hst
          have hkeep : keepB ia7 t0 (ts es9) kk11 u = false := by unfold keepB; simp only [h2, h3, h4, Bool.true_or, Bool.false_or, Bool.true_and, Bool.false_and, Bool.and_false, Bool.and_true, Bool.or_false]
          rw [hkeep, if_neg Bool.false_ne_true] at hes14
          have hl2 : es14.length = 0 := by rw [← hes14]; rfl
          refine ⟨_, rfl, ?_⟩
          show RW _ _ _ _ _ _ _
          refine RW.soft Wd.a (v := .int .i64 0) (by exact E.assign (AF_ev rfl tp)) ?_
          refine RW.fin (fun τ => τ 0 = .agg #[.int .i64 i0, .int .i64 t0] ∧ τ 1 = .slice X l.length c ∧ τ 2 = .agg #[.int .i64 k0, .int .i64 u] ∧ τ 3 = .pointer (some ⟨b1, 0, none⟩) ∧ τ 5 = .pointer (some ⟨b2, 0, none⟩) ∧ τ 6 = .bool false ∧ τ 7 = .bool true ∧ τ 8 = .pointer (some ⟨b8, 0, none⟩) ∧ τ 9 = .pointer (some ⟨b10, 0, none⟩) ∧ τ 10 = .int .i64 kk11 ∧ τ 11 = .int .i64 (termT ia7 t0 (ts es9) kk11) ∧ τ 12 = .int .i64 (termE ia7 (ts es9) kk11) ∧ τ 13 = .int .i64 0 ∧ τ 32 = .bool false ∧ τ 36 = .bool false) ⟨up rfl (up rfl (up rfl (up rfl (up rfl (up rfl hs0))))), up rfl (up rfl (up rfl (up rfl (up rfl (up rfl hs1))))), up rfl (up rfl (up rfl (up rfl (up rfl (up rfl hs2))))), up rfl (up rfl (up rfl (up rfl (up rfl (up rfl hs3))))), up rfl (up rfl (up rfl (up rfl (up rfl (up rfl hs5))))), up rfl (up rfl (up rfl (up rfl (up rfl (up rfl hs6))))), up rfl (up rfl (up rfl (up rfl (up rfl (up rfl hs7))))), up rfl (up rfl (up rfl (up rfl (up rfl (up rfl hs8))))), up rfl (up rfl (up rfl (up rfl (up rfl (up rfl hs9))))), up rfl (up rfl (up rfl (up rfl (up rfl (up rfl hs10))))), up rfl (up rfl (up rfl (up rfl (up rfl (up rfl hs11))))), up rfl (up rfl (up rfl (up rfl (up rfl (up rfl hs12))))), tp, up rfl (up rfl (up rfl (up rfl (up rfl (up rfl hs32))))), up rfl (up rfl (up rfl (up rfl (up rfl (up rfl hs36)))))⟩ ?_
          rintro τ ⟨hs0, hs1, hs2, hs3, hs5, hs6, hs7, hs8, hs9, hs10, hs11, hs12, hs13, hs32, hs36⟩
          refine CW.seq ?_
          refine CW.seq ?_
          refine CW.region ?_
          refine RW.soft Wd.a (v := .int .i64 kk11) (by exact E.move (AF_ev rfl hs10)) ?_
          refine RW.soft Wd.a (v := .pointer (some ⟨b10, 0, none⟩)) (by exact E.move (AF_ev rfl (up rfl hs9))) ?_
          have hst := hst.take (.there .here)
          refine RW.hard Wd.a ?_
          refine H.call0 Try.func31 nm31 rfl (map1 (AF_ev rfl tp)) (Calls.mono (ent_FirstL hst) ?_)
          rintro _ w ⟨rfl, hst⟩
          refine ⟨_, rfl, ?_⟩
          show RW _ _ _ _ _ _ _
          refine RW.soft Wd.a (v := .int .i64 (ia7 + 1 - 1)) (by exact E.sub (k := .i64) (a := ia7 + 1) (b := 1) (AF_ev rfl tp) rfl (show IntKind.i64.wrap ((ia7 + 1) - 1) = ia7 + 1 - 1 from (by rw [IntWalk.i64_in _ (by omega)] <;> omega))) ?_
          refine RW.soft Wd.a (v := .bool false) (by exact E.b (a := decide (kk11 < (ia7 + 1 - 1))) (E.lss (k := .i64) (a := kk11) (b := ia7 + 1 - 1) (AF_ev rfl (up rfl (up rfl (up rfl tp)))) (AF_ev rfl tp)) (by rw [decide_eq_false_iff_not]; have := of_decide_eq_false h1; omega)) ?_
          refine RW.fin (fun τ => τ 0 = .agg #[.int .i64 i0, .int .i64 t0] ∧ τ 1 = .slice X l.length c ∧ τ 2 = .agg #[.int .i64 k0, .int .i64 u] ∧ τ 3 = .pointer (some ⟨b1, 0, none⟩) ∧ τ 5 = .pointer (some ⟨b2, 0, none⟩) ∧ τ 6 = .bool false ∧ τ 7 = .bool true ∧ τ 8 = .pointer (some ⟨b8, 0, none⟩) ∧ τ 9 = .pointer (some ⟨b10, 0, none⟩) ∧ τ 10 = .int .i64 kk11 ∧ τ 11 = .int .i64 (termT ia7 t0 (ts es9) kk11) ∧ τ 12 = .int .i64 (termE ia7 (ts es9) kk11) ∧ τ 13 = .int .i64 0 ∧ τ 32 = .bool false ∧ τ 36 = .bool false ∧ τ 55 = .bool false) ⟨up rfl (up rfl (up rfl (up rfl (up rfl hs0)))), up rfl (up rfl (up rfl (up rfl (up rfl hs1)))), up rfl (up rfl (up rfl (up rfl (up rfl hs2)))), up rfl (up rfl (up rfl (up rfl (up rfl hs3)))), up rfl (up rfl (up rfl (up rfl (up rfl hs5)))), up rfl (up rfl (up rfl (up rfl (up rfl hs6)))), up rfl (up rfl (up rfl (up rfl (up rfl hs7)))), up rfl (up rfl (up rfl (up rfl (up rfl hs8)))), up rfl (up rfl (up rfl (up rfl (up rfl hs9)))), up rfl (up rfl (up rfl (up rfl (up rfl hs10)))), up rfl (up rfl (up rfl (up rfl (up rfl hs11)))), up rfl (up rfl (up rfl (up rfl (up rfl hs12)))), up rfl (up rfl (up rfl (up rfl (up rfl hs13)))), up rfl (up rfl (up rfl (up rfl (up rfl hs32)))), up rfl (up rfl (up rfl (up rfl (up rfl hs36)))), tp⟩ ?_
          rintro τ ⟨hs0, hs1, hs2, hs3, hs5, hs6, hs7, hs8, hs9, hs10, hs11, hs12, hs13, hs32, hs36, hs55⟩
          refine CW.condF (AF_ev rfl hs55) ?_
          refine CW.skip ?_
          refine Th.n ?_
          refine CW.seq ?_
          refine CW.region ?_
          refine RW.soft Wd.a (v := .pointer (some ⟨b8, 0, none⟩)) (by exact E.move (AF_ev rfl hs8)) ?_
          refine RW.soft Wd.a (v := .int .i64 kk11) (by exact E.move (AF_ev rfl (up rfl hs10))) ?_
          have hst := hst.take (.there .here)
          refine RW.hard Wd.a ?_
          refine H.call0 Try.func32 nm32 rfl (map2 (AF_ev rfl (up rfl tp)) (AF_ev rfl tp)) (Calls.mono (ent_TermL (v := u) (u := 0) kk11 (by omega) termT_base termE_base hst) ?_)
          rintro _ w ⟨rfl, hst⟩
          refine ⟨_, rfl, ?_⟩
          show RW _ _ _ _ _ _ _
          refine RW.soft Wd.a (v := .tuple #[.int .i64 u, .int .i64 0]) (by exact E.move (AF_ev rfl tp)) ?_
          refine RW.soft Wd.a (v := .int .i64 u) (by exact E.extract (vs := #[.int .i64 u, .int .i64 0]) (AF_ev rfl tp) rfl) ?_
          refine RW.soft Wd.a (v := .int .i64 0) (by exact E.extract (vs := #[.int .i64 u, .int .i64 0]) (AF_ev rfl (up rfl tp)) rfl) ?_
          refine RW.soft Wd.a (v := .int .i64 u) (by exact E.assign (AF_ev rfl (up rfl tp))) ?_
          refine RW.soft Wd.a (v := .int .i64 0) (by exact E.assign (AF_ev rfl (up rfl tp))) ?_
          refine RW.fin (fun τ => τ 0 = .agg #[.int .i64 i0, .int .i64 t0] ∧ τ 1 = .slice X l.length c ∧ τ 2 = .agg #[.int .i64 k0, .int .i64 u] ∧ τ 3 = .pointer (some ⟨b1, 0, none⟩) ∧ τ 5 = .pointer (some ⟨b2, 0, none⟩) ∧ τ 6 = .bool false ∧ τ 7 = .bool true ∧ τ 8 = .pointer (some ⟨b8, 0, none⟩) ∧ τ 9 = .pointer (some ⟨b10, 0, none⟩) ∧ τ 10 = .int .i64 kk11 ∧ τ 11 = .int .i64 (termT ia7 t0 (ts es9) kk11) ∧ τ 12 = .int .i64 (termE ia7 (ts es9) kk11) ∧ τ 13 = .int .i64 0 ∧ τ 14 = .int .i64 u ∧ τ 15 = .int .i64 0 ∧ τ 32 = .bool false ∧ τ 36 = .bool false ∧ τ 55 = .bool false) ⟨up rfl (up rfl (up rfl (up rfl (up rfl (up rfl (up rfl (up rfl hs0))))))), up rfl (up rfl (up rfl (up rfl (up rfl (up rfl (up rfl (up rfl hs1))))))), up rfl (up rfl (up rfl (up rfl (up rfl (up rfl (up rfl (up rfl hs2))))))), up rfl (up rfl (up rfl (up rfl (up rfl (up rfl (up rfl (up rfl hs3))))))), up rfl (up rfl (up rfl (up rfl (up rfl (up rfl (up rfl (up rfl hs5))))))), up rfl (up rfl (up rfl (up rfl (up rfl (up rfl (up rfl (up rfl hs6))))))), up rfl (up rfl (up rfl (up rfl (up rfl (up rfl (up rfl (up rfl hs7))))))), up rfl (up rfl (up rfl (up rfl (up rfl (up rfl (up rfl (up rfl hs8))))))), up rfl (up rfl (up rfl (up rfl (up rfl (up rfl (up rfl (up rfl hs9))))))), up rfl (up rfl (up rfl (up rfl (up rfl (up rfl (up rfl (up rfl hs10))))))), up rfl (up rfl (up rfl (up rfl (up rfl (up rfl (up rfl (up rfl hs11))))))), up rfl (up rfl (up rfl (up rfl (up rfl (up rfl (up rfl (up rfl hs12))))))), up rfl (up rfl (up rfl (up rfl (up rfl (up rfl (up rfl (up rfl hs13))))))), up rfl tp, tp, up rfl (up rfl (up rfl (up rfl (up rfl (up rfl (up rfl (up rfl hs32))))))), up rfl (up rfl (up rfl (up rfl (up rfl (up rfl (up rfl (up rfl hs36))))))), up rfl (up rfl (up rfl (up rfl (up rfl (up rfl (up rfl (up rfl hs55)))))))⟩ ?_
          rintro τ ⟨hs0, hs1, hs2, hs3, hs5, hs6, hs7, hs8, hs9, hs10, hs11, hs12, hs13, hs14, hs15, hs32, hs36, hs55⟩
          refine CW.seq ?_
          refine CW.region ?_
          refine RW.soft Wd.a (v := .pointer (some ⟨b8, 0, none⟩)) (by exact E.move (AF_ev rfl hs8)) ?_
          refine RW.soft Wd.a (v := .int .i64 kk11) (by exact E.move (AF_ev rfl (up rfl hs10))) ?_
          refine RW.soft Wd.a (v := .int .i64 (kk11 - 1)) (by exact E.sub (k := .i64) (a := kk11) (b := 1) (AF_ev rfl tp) rfl (show IntKind.i64.wrap (kk11 - 1) = kk11 - 1 from (by rw [IntWalk.i64_in _ (by omega)]))) ?_
          refine RW.hard Wd.a ?_
          refine H.call0 Try.func32 nm32 rfl (map2 (AF_ev rfl (up rfl (up rfl tp))) (AF_ev rfl tp)) (Calls.mono (ent_TermL (v := termT kk11 u (ts es14) (kk11 - 1)) (u := 170) (kk11 - 1) (by omega) rfl (by unfold termE; rw [if_neg (by omega), if_neg (by omega)]) hst) ?_)
          rintro _ w ⟨rfl, hst⟩
          refine ⟨_, rfl, ?_⟩
          show RW _ _ _ _ _ _ _
          refine RW.soft Wd.a (v := .tuple #[.int .i64 (termT kk11 u (ts es14) (kk11 - 1)), .int .i64 170]) (by exact E.move (AF_ev rfl tp)) ?_
          refine RW.soft Wd.a (v := .int .i64 (termT kk11 u (ts es14) (kk11 - 1))) (by exact E.extract (vs := #[.int .i64 (termT kk11 u (ts es14) (kk11 - 1)), .int .i64 170]) (AF_ev rfl tp) rfl) ?_
          refine RW.soft Wd.a (v := .int .i64 170) (by exact E.extract (vs := #[.int .i64 (termT kk11 u (ts es14) (kk11 - 1)), .int .i64 170]) (AF_ev rfl (up rfl tp)) rfl) ?_
          refine RW.soft Wd.a (v := .int .i64 (termT kk11 u (ts es14) (kk11 - 1))) (by exact E.assign (AF_ev rfl (up rfl tp))) ?_
          refine RW.soft Wd.a (v := .int .i64 170) (by exact E.assign (AF_ev rfl (up rfl tp))) ?_
          refine RW.fin (fun τ => τ 0 = .agg #[.int .i64 i0, .int .i64 t0] ∧ τ 1 = .slice X l.length c ∧ τ 2 = .agg #[.int .i64 k0, .int .i64 u] ∧ τ 3 = .pointer (some ⟨b1, 0, none⟩) ∧ τ 5 = .pointer (some ⟨b2, 0, none⟩) ∧ τ 6 = .bool false ∧ τ 7 = .bool true ∧ τ 8 = .pointer (some ⟨b8, 0, none⟩) ∧ τ 9 = .pointer (some ⟨b10, 0, none⟩) ∧ τ 10 = .int .i64 kk11 ∧ τ 11 = .int .i64 (termT ia7 t0 (ts es9) kk11) ∧ τ 12 = .int .i64 (termE ia7 (ts es9) kk11) ∧ τ 13 = .int .i64 0 ∧ τ 14 = .int .i64 u ∧ τ 15 = .int .i64 0 ∧ τ 17 = .int .i64 170 ∧ τ 32 = .bool false ∧ τ 36 = .bool false ∧ τ 55 = .bool false) ⟨up rfl (up rfl (up rfl (up rfl (up rfl (up rfl (up rfl (up rfl (up rfl hs0)))))))), up rfl (up rfl (up rfl (up rfl (up rfl (up rfl (up rfl (up rfl (up rfl hs1)))))))), up rfl (up rfl (up rfl (up rfl (up rfl (up rfl (up rfl (up rfl (up rfl hs2)))))))), up rfl (up rfl (up rfl (up rfl (up rfl (up rfl (up rfl (up rfl (up rfl hs3)))))))), up rfl (up rfl (up rfl (up rfl (up rfl (up rfl (up rfl (up rfl (up rfl hs5)))))))), up rfl (up rfl (up rfl (up rfl (up rfl (up rfl (up rfl (up rfl (up rfl hs6)))))))), up rfl (up rfl (up rfl (up rfl (up rfl (up rfl (up rfl (up rfl (up rfl hs7)))))))), up rfl (up rfl (up rfl (up rfl (up rfl (up rfl (up rfl (up rfl (up rfl hs8)))))))), up rfl (up rfl (up rfl (up rfl (up rfl (up rfl (up rfl (up rfl (up rfl hs9)))))))), up rfl (up rfl (up rfl (up rfl (up rfl (up rfl (up rfl (up rfl (up rfl hs10)))))))), up rfl (up rfl (up rfl (up rfl (up rfl (up rfl (up rfl (up rfl (up rfl hs11)))))))), up rfl (up rfl (up rfl (up rfl (up rfl (up rfl (up rfl (up rfl (up rfl hs12)))))))), up rfl (up rfl (up rfl (up rfl (up rfl (up rfl (up rfl (up rfl (up rfl hs13)))))))), up rfl (up rfl (up rfl (up rfl (up rfl (up rfl (up rfl (up rfl (up rfl hs14)))))))), up rfl (up rfl (up rfl (up rfl (up rfl (up rfl (up rfl (up rfl (up rfl hs15)))))))), tp, up rfl (up rfl (up rfl (up rfl (up rfl (up rfl (up rfl (up rfl (up rfl hs32)))))))), up rfl (up rfl (up rfl (up rfl (up rfl (up rfl (up rfl (up rfl (up rfl hs36)))))))), up rfl (up rfl (up rfl (up rfl (up rfl (up rfl (up rfl (up rfl (up rfl hs55))))))))⟩ ?_
          rintro τ ⟨hs0, hs1, hs2, hs3, hs5, hs6, hs7, hs8, hs9, hs10, hs11, hs12, hs13, hs14, hs15, hs17, hs32, hs36, hs55⟩
          refine CW.seq ?_
          refine CW.seq ?_
          refine CW.region ?_
          refine RW.soft Wd.a (v := .int .i64 kk11) (by exact E.move (AF_ev rfl hs10)) ?_
          refine RW.soft Wd.a (v := .bool false) (by exact E.b (a := decide (kk11 > 1099511627776)) (E.gtr (k := .i64) (a := kk11) (b := 1099511627776) (AF_ev rfl tp) rfl) (decide_eq_false (by omega))) ?_
          refine RW.fin (fun τ => τ 0 = .agg #[.int .i64 i0, .int .i64 t0] ∧ τ 1 = .slice X l.length c ∧ τ 2 = .agg #[.int .i64 k0, .int .i64 u] ∧ τ 3 = .pointer (some ⟨b1, 0, none⟩) ∧ τ 5 = .pointer (some ⟨b2, 0, none⟩) ∧ τ 6 = .bool false ∧ τ 7 = .bool true ∧ τ 8 = .pointer (some ⟨b8, 0, none⟩) ∧ τ 9 = .pointer (some ⟨b10, 0, none⟩) ∧ τ 10 = .int .i64 kk11 ∧ τ 11 = .int .i64 (termT ia7 t0 (ts es9) kk11) ∧ τ 12 = .int .i64 (termE ia7 (ts es9) kk11) ∧ τ 13 = .int .i64 0 ∧ τ 14 = .int .i64 u ∧ τ 15 = .int .i64 0 ∧ τ 17 = .int .i64 170 ∧ τ 32 = .bool false ∧ τ 36 = .bool false ∧ τ 55 = .bool false ∧ τ 86 = .bool false) ⟨up rfl (up rfl hs0), up rfl (up rfl hs1), up rfl (up rfl hs2), up rfl (up rfl hs3), up rfl (up rfl hs5), up rfl (up rfl hs6), up rfl (up rfl hs7), up rfl (up rfl hs8), up rfl (up rfl hs9), up rfl (up rfl hs10), up rfl (up rfl hs11), up rfl (up rfl hs12), up rfl (up rfl hs13), up rfl (up rfl hs14), up rfl (up rfl hs15), up rfl (up rfl hs17), up rfl (up rfl hs32), up rfl (up rfl hs36), up rfl (up rfl hs55), tp⟩ ?_
          rintro τ ⟨hs0, hs1, hs2, hs3, hs5, hs6, hs7, hs8, hs9, hs10, hs11, hs12, hs13, hs14, hs15, hs17, hs32, hs36, hs55, hs86⟩
          refine CW.condF (AF_ev rfl hs86) ?_
          refine CW.skip ?_
          refine Th.n ?_
          refine CW.seq ?_
          refine CW.seq ?_
          refine CW.region ?_
          refine RW.soft Wd.a (v := .int .i64 0) (by exact E.move (AF_ev rfl hs13)) ?_
          refine RW.soft Wd.a (v := .bool false) (by exact E.neq (k := .i64) (a := 0) (b := 0) (AF_ev rfl tp) rfl) ?_
          refine RW.soft Wd.a (v := .bool false) (by exact E.move (AF_ev rfl tp)) ?_
          refine RW.soft (by exact Wd.yes (x := 91) rfl (AF_ev rfl tp)) (v := .pointer (some ⟨b8, 0, none⟩)) (by exact E.move (AF_ev rfl (up rfl (up rfl (up rfl hs8))))) ?_
          refine RW.hard (by exact Wd.yes (x := 91) rfl (AF_ev rfl (up rfl tp))) ?_
          refine H.call0 Try.func31 nm31 rfl (map1 (AF_ev rfl tp)) (Calls.mono (ent_FirstL hst) ?_)
          rintro _ w ⟨rfl, hst⟩
          refine ⟨_, rfl, ?_⟩
          show RW _ _ _ _ _ _ _
          refine RW.soft (by exact Wd.yes (x := 91) rfl (AF_ev rfl (up rfl (up rfl tp)))) (v := .int .i64 kk11) (by exact E.move (AF_ev rfl (up rfl (up rfl (up rfl (up rfl (up rfl hs10))))))) ?_
          refine RW.soft (by exact Wd.yes (x := 91) rfl (AF_ev rfl (up rfl (up rfl (up rfl tp))))) (v := .int .i64 (kk11 + 1)) (by exact E.add (k := .i64) (a := kk11) (b := 1) (AF_ev rfl tp) rfl (show IntKind.i64.wrap (kk11 + 1) = kk11 + 1 from (by rw [IntWalk.i64_in _ (by omega)]))) ?_
          refine RW.soft (by exact Wd.yes (x := 91) rfl (AF_ev rfl (up rfl (up rfl (up rfl (up rfl tp)))))) (v := .bool false) (by exact E.b (a := (kk11 + 1) != (kk11 + 1)) (E.neq (k := .i64) (a := kk11 + 1) (b := kk11 + 1) (AF_ev rfl (up rfl (up rfl tp))) (AF_ev rfl tp)) (by simp)) ?_
          refine RW.soft Wd.a (v := .bool false) (by exact E.pickF (AF_ev rfl (up rfl (up rfl (up rfl (up rfl (up rfl tp)))))) (AF_ev rfl tp)) ?_
          refine RW.soft Wd.a (v := .bool false) (by exact E.move (AF_ev rfl tp)) ?_
          refine RW.soft (by exact Wd.yes (x := 98) rfl (AF_ev rfl tp)) (v := .int .i64 0) (by exact E.move (AF_ev rfl (up rfl (up rfl (up rfl (up rfl (up rfl (up rfl (up rfl (up rfl (up rfl (up rfl hs15)))))))))))) ?_
          refine RW.soft (by exact Wd.yes (x := 98) rfl (AF_ev rfl (up rfl tp))) (v := .bool false) (by exact E.neq (k := .i64) (a := 0) (b := 0) (AF_ev rfl tp) rfl) ?_
          refine RW.soft Wd.a (v := .bool false) (by exact E.pickF (AF_ev rfl (up rfl (up rfl tp))) (AF_ev rfl tp)) ?_
          refine RW.soft Wd.a (v := .bool false) (by exact E.move (AF_ev rfl tp)) ?_
          refine RW.soft (by exact Wd.yes (x := 102) rfl (AF_ev rfl tp)) (v := .int .i64 u) (by exact E.move (AF_ev rfl (up rfl (up rfl (up rfl (up rfl (up rfl (up rfl (up rfl (up rfl (up rfl (up rfl (up rfl (up rfl (up rfl (up rfl hs14)))))))))))))))) ?_
          refine RW.soft (by exact Wd.yes (x := 102) rfl (AF_ev rfl (up rfl tp))) (v := .pointer (some ⟨b2, 1, none⟩)) (by exact E.indexAddrA (b := b2) (o := 0) (i := 1) Try.underlying43 sz3 (AF_ev rfl (up rfl (up rfl (up rfl (up rfl (up rfl (up rfl (up rfl (up rfl (up rfl (up rfl (up rfl (up rfl (up rfl (up rfl (up rfl hs5)))))))))))))))) rfl (by omega) (by omega) (by simp)) ?_
          refine RW.soft (by exact Wd.yes (x := 102) rfl (AF_ev rfl (up rfl (up rfl tp)))) (v := .int .i64 u) (by exact E.load (a := ⟨b2, 1, none⟩) Try.underlying3 rfl (AF_ev rfl tp) (hst.cell (.there (.there (.there (.there .here)))) rfl)) ?_
          refine RW.soft (by exact Wd.yes (x := 102) rfl (AF_ev rfl (up rfl (up rfl (up rfl tp))))) (v := .bool false) (by exact E.b (a := u != u) (E.neq (k := .i64) (a := u) (b := u) (AF_ev rfl (up rfl (up rfl tp))) (AF_ev rfl tp)) (by simp)) ?_
          refine RW.soft Wd.a (v := .bool false) (by exact E.pickF (AF_ev rfl (up rfl (up rfl (up rfl (up rfl tp))))) (AF_ev rfl tp)) ?_
          refine RW.soft Wd.a (v := .bool false) (by exact E.move (AF_ev rfl tp)) ?_
          refine RW.soft (by exact Wd.yes (x := 108) rfl (AF_ev rfl tp)) (v := .int .i64 170) (by exact E.move (AF_ev rfl (up rfl (up rfl (up rfl (up rfl (up rfl (up rfl (up rfl (up rfl (up rfl (up rfl (up rfl (up rfl (up rfl (up rfl (up rfl (up rfl (up rfl (up rfl (up rfl (up rfl hs17)))))))))))))))))))))) ?_
          refine RW.soft (by exact Wd.yes (x := 108) rfl (AF_ev rfl (up rfl tp))) (v := .bool false) (by exact E.neq (k := .i64) (a := 170) (b := 170) (AF_ev rfl tp) rfl) ?_
          refine RW.soft Wd.a (v := .bool false) (by exact E.pickF (AF_ev rfl (up rfl (up rfl tp))) (AF_ev rfl tp)) ?_
          refine RW.fin (fun τ => τ 0 = .agg #[.int .i64 i0, .int .i64 t0] ∧ τ 1 = .slice X l.length c ∧ τ 2 = .agg #[.int .i64 k0, .int .i64 u] ∧ τ 3 = .pointer (some ⟨b1, 0, none⟩) ∧ τ 5 = .pointer (some ⟨b2, 0, none⟩) ∧ τ 6 = .bool false ∧ τ 7 = .bool true ∧ τ 8 = .pointer (some ⟨b8, 0, none⟩) ∧ τ 9 = .pointer (some ⟨b10, 0, none⟩) ∧ τ 10 = .int .i64 kk11 ∧ τ 11 = .int .i64 (termT ia7 t0 (ts es9) kk11) ∧ τ 12 = .int .i64 (termE ia7 (ts es9) kk11) ∧ τ 13 = .int .i64 0 ∧ τ 14 = .int .i64 u ∧ τ 15 = .int .i64 0 ∧ τ 17 = .int .i64 170 ∧ τ 32 = .bool false ∧ τ 36 = .bool false ∧ τ 55 = .bool false ∧ τ 86 = .bool false ∧ τ 111 = .bool false) ⟨up rfl (up rfl (up rfl (up rfl (up rfl (up rfl (up rfl (up rfl (up rfl (up rfl (up rfl (up rfl (up rfl (up rfl (up rfl (up rfl (up rfl (up rfl (up rfl (up rfl (up rfl (up rfl (up rfl hs0)))))))))))))))))))))), up rfl (up rfl (up rfl (up rfl (up rfl (up rfl (up rfl (up rfl (up rfl (up rfl (up rfl (up rfl (up rfl (up rfl (up rfl (up rfl (up rfl (up rfl (up rfl (up rfl (up rfl (up rfl (up rfl hs1)))))))))))))))))))))), up rfl (up rfl (up rfl (up rfl (up rfl (up rfl (up rfl (up rfl (up rfl (up rfl (up rfl (up rfl (up rfl (up rfl (up rfl (up rfl (up rfl (up rfl (up rfl (up rfl (up rfl (up rfl (up rfl hs2)))))))))))))))))))))), up rfl (up rfl (up rfl (up rfl (up rfl (up rfl (up rfl (up rfl (up rfl (up rfl (up rfl (up rfl (up rfl (up rfl (up rfl (up rfl (up rfl (up rfl (up rfl (up rfl (up rfl (up rfl (up rfl hs3)))))))))))))))))))))), up rfl (up rfl (up rfl (up rfl (up rfl (up rfl (up rfl (up rfl (up rfl (up rfl (up rfl (up rfl (up rfl (up rfl (up rfl (up rfl (up rfl (up rfl (up rfl (up rfl (up rfl (up rfl (up rfl hs5)))))))))))))))))))))), up rfl (up rfl (up rfl (up rfl (up rfl (up rfl (up rfl (up rfl (up rfl (up rfl (up rfl (up rfl (up rfl (up rfl (up rfl (up rfl (up rfl (up rfl (up rfl (up rfl (up rfl (up rfl (up rfl hs6)))))))))))))))))))))), up rfl (up rfl (up rfl (up rfl (up rfl (up rfl (up rfl (up rfl (up rfl (up rfl (up rfl (up rfl (up rfl (up rfl (up rfl (up rfl (up rfl (up rfl (up rfl (up rfl (up rfl (up rfl (up rfl hs7)))))))))))))))))))))), up rfl (up rfl (up rfl (up rfl (up rfl (up rfl (up rfl (up rfl (up rfl (up rfl (up rfl (up rfl (up rfl (up rfl (up rfl (up rfl (up rfl (up rfl (up rfl (up rfl (up rfl (up rfl (up rfl hs8)))))))))))))))))))))), up rfl (up rfl (up rfl (up rfl (up rfl (up rfl (up rfl (up rfl (up rfl (up rfl (up rfl (up rfl (up rfl (up rfl (up rfl (up rfl (up rfl (up rfl (up rfl (up rfl (up rfl (up rfl (up rfl hs9)))))))))))))))))))))), up rfl (up rfl (up rfl (up rfl (up rfl (up rfl (up rfl (up rfl (up rfl (up rfl (up rfl (up rfl (up rfl (up rfl (up rfl (up rfl (up rfl (up rfl (up rfl (up rfl (up rfl (up rfl (up rfl hs10)))))))))))))))))))))), up rfl (up rfl (up rfl (up rfl (up rfl (up rfl (up rfl (up rfl (up rfl (up rfl (up rfl (up rfl (up rfl (up rfl (up rfl (up rfl (up rfl (up rfl (up rfl (up rfl (up rfl (up rfl (up rfl hs11)))))))))))))))))))))), up rfl (up rfl (up rfl (up rfl (up rfl (up rfl (up rfl (up rfl (up rfl (up rfl (up rfl (up rfl (up rfl (up rfl (up rfl (up rfl (up rfl (up rfl (up rfl (up rfl (up rfl (up rfl (up rfl hs12)))))))))))))))))))))), up rfl (up rfl (up rfl (up rfl (up rfl (up rfl (up rfl (up rfl (up rfl (up rfl (up rfl (up rfl (up rfl (up rfl (up rfl (up rfl (up rfl (up rfl (up rfl (up rfl (up rfl (up rfl (up rfl hs13)))))))))))))))))))))), up rfl (up rfl (up rfl (up rfl (up rfl (up rfl (up rfl (up rfl (up rfl (up rfl (up rfl (up rfl (up rfl (up rfl (up rfl (up rfl (up rfl (up rfl (up rfl (up rfl (up rfl (up rfl (up rfl hs14)))))))))))))))))))))), up rfl (up rfl (up rfl (up rfl (up rfl (up rfl (up rfl (up rfl (up rfl (up rfl (up rfl (up rfl (up rfl (up rfl (up rfl (up rfl (up rfl (up rfl (up rfl (up rfl (up rfl (up rfl (up rfl hs15)))))))))))))))))))))), up rfl (up rfl (up rfl (up rfl (up rfl (up rfl (up rfl (up rfl (up rfl (up rfl (up rfl (up rfl (up rfl (up rfl (up rfl (up rfl (up rfl (up rfl (up rfl (up rfl (up rfl (up rfl (up rfl hs17)))))))))))))))))))))), up rfl (up rfl (up rfl (up rfl (up rfl (up rfl (up rfl (up rfl (up rfl (up rfl (up rfl (up rfl (up rfl (up rfl (up rfl (up rfl (up rfl (up rfl (up rfl (up rfl (up rfl (up rfl (up rfl hs32)))))))))))))))))))))), up rfl (up rfl (up rfl (up rfl (up rfl (up rfl (up rfl (up rfl (up rfl (up rfl (up rfl (up rfl (up rfl (up rfl (up rfl (up rfl (up rfl (up rfl (up rfl (up rfl (up rfl (up rfl (up rfl hs36)))))))))))))))))))))), up rfl (up rfl (up rfl (up rfl (up rfl (up rfl (up rfl (up rfl (up rfl (up rfl (up rfl (up rfl (up rfl (up rfl (up rfl (up rfl (up rfl (up rfl (up rfl (up rfl (up rfl (up rfl (up rfl hs55)))))))))))))))))))))), up rfl (up rfl (up rfl (up rfl (up rfl (up rfl (up rfl (up rfl (up rfl (up rfl (up rfl (up rfl (up rfl (up rfl (up rfl (up rfl (up rfl (up rfl (up rfl (up rfl (up rfl (up rfl (up rfl hs86)))))))))))))))))))))), tp⟩ ?_
          rintro τ ⟨hs0, hs1, hs2, hs3, hs5, hs6, hs7, hs8, hs9, hs10, hs11, hs12, hs13, hs14, hs15, hs17, hs32, hs36, hs55, hs86, hs111⟩
          refine CW.condF (AF_ev rfl hs111) ?_
          refine CW.skip ?_
          refine Th.n ?_
          refine CW.seq ?_
          refine CW.seq ?_
          refine CW.region ?_
          refine RW.soft Wd.a (v := .int .i64 kk11) (by exact E.move (AF_ev rfl hs10)) ?_
          refine RW.soft Wd.a (v := .pointer (some ⟨b10, 0, none⟩)) (by exact E.move (AF_ev rfl (up rfl hs9))) ?_
          have hst := hst.take (.there .here)
          refine RW.hard Wd.a ?_
          refine H.call0 Try.func31 nm31 rfl (map1 (AF_ev rfl tp)) (Calls.mono (ent_FirstL hst) ?_)
          rintro _ w ⟨rfl, hst⟩
          refine ⟨_, rfl, ?_⟩
          show RW _ _ _ _ _ _ _
          refine RW.soft Wd.a (v := .int .i64 (ia7 + 1 - 1)) (by exact E.sub (k := .i64) (a := ia7 + 1) (b := 1) (AF_ev rfl tp) rfl (show IntKind.i64.wrap ((ia7 + 1) - 1) = ia7 + 1 - 1 from (by rw [IntWalk.i64_in _ (by omega)] <;> omega))) ?_
          refine RW.soft Wd.a (v := .bool false) (by exact E.b (a := kk11 == (ia7 + 1 - 1)) (E.eql (k := .i64) (a := kk11) (b := ia7 + 1 - 1) (AF_ev rfl (up rfl (up rfl (up rfl tp)))) (AF_ev rfl tp)) (by rw [beq_eq_false_iff_ne]; have := beq_eq_false_iff_ne.1 h2; omega)) ?_
          refine RW.soft Wd.a (v := .bool false) (by exact E.move (AF_ev rfl tp)) ?_
          refine RW.soft (by exact Wd.yes (x := 117) rfl (AF_ev rfl tp)) (v := .int .i64 (termE ia7 (ts es9) kk11)) (by exact E.move (AF_ev rfl (up rfl (up rfl (up rfl (up rfl (up rfl (up rfl hs12)))))))) ?_
          refine RW.soft (by exact Wd.yes (x := 117) rfl (AF_ev rfl (up rfl tp))) (v := .bool true) (by exact E.b (a := (termE ia7 (ts es9) kk11) == 0) (E.eql (k := .i64) (a := termE ia7 (ts es9) kk11) (b := 0) (AF_ev rfl tp) rfl) h3) ?_
          refine RW.soft (by exact Wd.yes (x := 117) rfl (AF_ev rfl (up rfl (up rfl tp)))) (v := .bool true) (by exact E.move (AF_ev rfl tp)) ?_
          refine RW.soft (by exact Wd.yes (x := 120) rfl (AF_ev rfl tp)) (v := .int .i64 (termT ia7 t0 (ts es9) kk11)) (by exact E.move (AF_ev rfl (up rfl (up rfl (up rfl (up rfl (up rfl (up rfl (up rfl (up rfl (up rfl hs11))))))))))) ?_
          refine RW.soft (by exact Wd.yes (x := 120) rfl (AF_ev rfl (up rfl tp))) (v := .pointer (some ⟨b2, 1, none⟩)) (by exact E.indexAddrA (b := b2) (o := 0) (i := 1) Try.underlying43 sz3 (AF_ev rfl (up rfl (up rfl (up rfl (up rfl (up rfl (up rfl (up rfl (up rfl (up rfl (up rfl hs5))))))))))) rfl (by omega) (by omega) (by simp)) ?_
          refine RW.soft (by exact Wd.yes (x := 120) rfl (AF_ev rfl (up rfl (up rfl tp)))) (v := .int .i64 u) (by exact E.load (a := ⟨b2, 1, none⟩) Try.underlying3 rfl (AF_ev rfl tp) (hst.cell (.there (.there (.there (.there .here)))) rfl)) ?_
          refine RW.soft (by exact Wd.yes (x := 120) rfl (AF_ev rfl (up rfl (up rfl (up rfl tp))))) (v := .bool false) (by exact E.b (a := (termT ia7 t0 (ts es9) kk11) == u) (E.eql (k := .i64) (a := termT ia7 t0 (ts es9) kk11) (b := u) (AF_ev rfl (up rfl (up rfl tp))) (AF_ev rfl tp)) h4) ?_
          refine RW.soft (by exact Wd.yes (x := 117) rfl (AF_ev rfl (up rfl (up rfl (up rfl (up rfl (up rfl (up rfl (up rfl tp))))))))) (v := .bool false) (by exact E.pickT (AF_ev rfl (up rfl (up rfl (up rfl (up rfl tp))))) (AF_ev rfl tp)) ?_
          refine RW.soft Wd.a (v := .bool false) (by exact E.pickF (AF_ev rfl (up rfl (up rfl (up rfl (up rfl (up rfl (up rfl (up rfl (up rfl tp))))))))) (AF_ev rfl tp)) ?_
          refine RW.fin (fun τ => τ 0 = .agg #[.int .i64 i0, .int .i64 t0] ∧ τ 1 = .slice X l.length c ∧ τ 2 = .agg #[.int .i64 k0, .int .i64 u] ∧ τ 3 = .pointer (some ⟨b1, 0, none⟩) ∧ τ 5 = .pointer (some ⟨b2, 0, none⟩) ∧ τ 6 = .bool false ∧ τ 7 = .bool true ∧ τ 8 = .pointer (some ⟨b8, 0, none⟩) ∧ τ 9 = .pointer (some ⟨b10, 0, none⟩) ∧ τ 10 = .int .i64 kk11 ∧ τ 11 = .int .i64 (termT ia7 t0 (ts es9) kk11) ∧ τ 12 = .int .i64 (termE ia7 (ts es9) kk11) ∧ τ 13 = .int .i64 0 ∧ τ 14 = .int .i64 u ∧ τ 15 = .int .i64 0 ∧ τ 17 = .int .i64 170 ∧ τ 32 = .bool false ∧ τ 36 = .bool false ∧ τ 55 = .bool false ∧ τ 86 = .bool false ∧ τ 111 = .bool false ∧ τ 126 = .bool false) ⟨up rfl (up rfl (up rfl (up rfl (up rfl (up rfl (up rfl (up rfl (up rfl (up rfl (up rfl (up rfl (up rfl (up rfl (up rfl hs0)))))))))))))), up rfl (up rfl (up rfl (up rfl (up rfl (up rfl (up rfl (up rfl (up rfl (up rfl (up rfl (up rfl (up rfl (up rfl (up rfl hs1)))))))))))))), up rfl (up rfl (up rfl (up rfl (up rfl (up rfl (up rfl (up rfl (up rfl (up rfl (up rfl (up rfl (up rfl (up rfl (up rfl hs2)))))))))))))), up rfl (up rfl (up rfl (up rfl (up rfl (up rfl (up rfl (up rfl (up rfl (up rfl (up rfl (up rfl (up rfl (up rfl (up rfl hs3)))))))))))))), up rfl (up rfl (up rfl (up rfl (up rfl (up rfl (up rfl (up rfl (up rfl (up rfl (up rfl (up rfl (up rfl (up rfl (up rfl hs5)))))))))))))), up rfl (up rfl (up rfl (up rfl (up rfl (up rfl (up rfl (up rfl (up rfl (up rfl (up rfl (up rfl (up rfl (up rfl (up rfl hs6)))))))))))))), up rfl (up rfl (up rfl (up rfl (up rfl (up rfl (up rfl (up rfl (up rfl (up rfl (up rfl (up rfl (up rfl (up rfl (up rfl hs7)))))))))))))), up rfl (up rfl (up rfl (up rfl (up rfl (up rfl (up rfl (up rfl (up rfl (up rfl (up rfl (up rfl (up rfl (up rfl (up rfl hs8)))))))))))))), up rfl (up rfl (up rfl (up rfl (up rfl (up rfl (up rfl (up rfl (up rfl (up rfl (up rfl (up rfl (up rfl (up rfl (up rfl hs9)))))))))))))), up rfl (up rfl (up rfl (up rfl (up rfl (up rfl (up rfl (up rfl (up rfl (up rfl (up rfl (up rfl (up rfl (up rfl (up rfl hs10)))))))))))))), up rfl (up rfl (up rfl (up rfl (up rfl (up rfl (up rfl (up rfl (up rfl (up rfl (up rfl (up rfl (up rfl (up rfl (up rfl hs11)))))))))))))), up rfl (up rfl (up rfl (up rfl (up rfl (up rfl (up rfl (up rfl (up rfl (up rfl (up rfl (up rfl (up rfl (up rfl (up rfl hs12)))))))))))))), up rfl (up rfl (up rfl (up rfl (up rfl (up rfl (up rfl (up rfl (up rfl (up rfl (up rfl (up rfl (up rfl (up rfl (up rfl hs13)))))))))))))), up rfl (up rfl (up rfl (up rfl (up rfl (up rfl (up rfl (up rfl (up rfl (up rfl (up rfl (up rfl (up rfl (up rfl (up rfl hs14)))))))))))))), up rfl (up rfl (up rfl (up rfl (up rfl (up rfl (up rfl (up rfl (up rfl (up rfl (up rfl (up rfl (up rfl (up rfl (up rfl hs15)))))))))))))), up rfl (up rfl (up rfl (up rfl (up rfl (up rfl (up rfl (up rfl (up rfl (up rfl (up rfl (up rfl (up rfl (up rfl (up rfl hs17)))))))))))))), up rfl (up rfl (up rfl (up rfl (up rfl (up rfl (up rfl (up rfl (up rfl (up rfl (up rfl (up rfl (up rfl (up rfl (up rfl hs32)))))))))))))), up rfl (up rfl (up rfl (up rfl (up rfl (up rfl (up rfl (up rfl (up rfl (up rfl (up rfl (up rfl (up rfl (up rfl (up rfl hs36)))))))))))))), up rfl (up rfl (up rfl (up rfl (up rfl (up rfl (up rfl (up rfl (up rfl (up rfl (up rfl (up rfl (up rfl (up rfl (up rfl hs55)))))))))))))), up rfl (up rfl (up rfl (up rfl (up rfl (up rfl (up rfl (up rfl (up rfl (up rfl (up rfl (up rfl (up rfl (up rfl (up rfl hs86)))))))))))))), up rfl (up rfl (up rfl (up rfl (up rfl (up rfl (up rfl (up rfl (up rfl (up rfl (up rfl (up rfl (up rfl (up rfl (up rfl hs111)))))))))))))), tp⟩ ?_
          rintro τ ⟨hs0, hs1, hs2, hs3, hs5, hs6, hs7, hs8, hs9, hs10, hs11, hs12, hs13, hs14, hs15, hs17, hs32, hs36, hs55, hs86, hs111, hs126⟩
          refine CW.condF (AF_ev rfl hs126) ?_
          refine CW.skip ?_
          refine Th.n ?_
          refine CW.seq ?_
          refine CW.region ?_
          refine RW.soft Wd.a (v := .pointer (some ⟨b8, 0, none⟩)) (by exact E.move (AF_ev rfl hs8)) ?_
          have hst := hst.take (.there .here)
          refine RW.hard Wd.a ?_
          refine H.call0 Try.func30 nm30 rfl (map1 (AF_ev rfl tp)) (Calls.mono (ent_LastL (v := kk11 + ((es14.length : Nat) : Int)) rfl hst) ?_)
          rintro _ w ⟨rfl, hst⟩
          refine ⟨_, rfl, ?_⟩
          show RW _ _ _ _ _ _ _
          refine RW.soft Wd.a (v := .int .i64 kk11) (by exact E.move (AF_ev rfl (up rfl (up rfl hs10)))) ?_
          refine RW.soft Wd.a (v := .bool true) (by exact E.b (a := (kk11 + ((es14.length : Nat) : Int)) == kk11) (E.eql (k := .i64) (a := kk11 + ((es14.length : Nat) : Int)) (b := kk11) (AF_ev rfl (up rfl tp)) (AF_ev rfl tp)) (by rw [beq_iff_eq]; omega)) ?_
          refine RW.soft Wd.a (v := .bool true) (by exact E.assign (AF_ev rfl tp)) ?_
          refine RW.fin (fun τ => τ 0 = .agg #[.int .i64 i0, .int .i64 t0] ∧ τ 1 = .slice X l.length c ∧ τ 2 = .agg #[.int .i64 k0, .int .i64 u] ∧ τ 3 = .pointer (some ⟨b1, 0, none⟩) ∧ τ 5 = .pointer (some ⟨b2, 0, none⟩) ∧ τ 6 = .bool true ∧ τ 7 = .bool true ∧ τ 8 = .pointer (some ⟨b8, 0, none⟩) ∧ τ 9 = .pointer (some ⟨b10, 0, none⟩) ∧ τ 10 = .int .i64 kk11 ∧ τ 11 = .int .i64 (termT ia7 t0 (ts es9) kk11) ∧ τ 12 = .int .i64 (termE ia7 (ts es9) kk11) ∧ τ 13 = .int .i64 0 ∧ τ 14 = .int .i64 u ∧ τ 15 = .int .i64 0 ∧ τ 17 = .int .i64 170 ∧ τ 32 = .bool false ∧ τ 36 = .bool false ∧ τ 55 = .bool false ∧ τ 86 = .bool false ∧ τ 111 = .bool false ∧ τ 126 = .bool false) ⟨up rfl (up rfl (up rfl (up rfl (up rfl hs0)))), up rfl (up rfl (up rfl (up rfl (up rfl hs1)))), up rfl (up rfl (up rfl (up rfl (up rfl hs2)))), up rfl (up rfl (up rfl (up rfl (up rfl hs3)))), up rfl (up rfl (up rfl (up rfl (up rfl hs5)))), tp, up rfl (up rfl (up rfl (up rfl (up rfl hs7)))), up rfl (up rfl (up rfl (up rfl (up rfl hs8)))), up rfl (up rfl (up rfl (up rfl (up rfl hs9)))), up rfl (up rfl (up rfl (up rfl (up rfl hs10)))), up rfl (up rfl (up rfl (up rfl (up rfl hs11)))), up rfl (up rfl (up rfl (up rfl (up rfl hs12)))), up rfl (up rfl (up rfl (up rfl (up rfl hs13)))), up rfl (up rfl (up rfl (up rfl (up rfl hs14)))), up rfl (up rfl (up rfl (up rfl (up rfl hs15)))), up rfl (up rfl (up rfl (up rfl (up rfl hs17)))), up rfl (up rfl (up rfl (up rfl (up rfl hs32)))), up rfl (up rfl (up rfl (up rfl (up rfl hs36)))), up rfl (up rfl (up rfl (up rfl (up rfl hs55)))), up rfl (up rfl (up rfl (up rfl (up rfl hs86)))), up rfl (up rfl (up rfl (up rfl (up rfl hs111)))), up rfl (up rfl (up rfl (up rfl (up rfl hs126))))⟩ ?_
          rintro τ ⟨hs0, hs1, hs2, hs3, hs5, hs6, hs7, hs8, hs9, hs10, hs11, hs12, hs13, hs14, hs15, hs17, hs32, hs36, hs55, hs86, hs111, hs126⟩
          refine CW.ret ?_
          refine ret1 (v := .bool true) rfl (by exact (.tmp (AF_ev rfl hs6) .nil)) ?_
          have hst := hst.drop
          have hst := hst.drop
          have hst := hst.drop
          have hst := hst.drop
          have hst := hst.drop
          have hst := hst.drop
          exact ⟨p, hp0, rfl, hst⟩
      · skip
        have h1_ := of_decide_eq_false h1
        refine CW.region ?_
        refine RW.soft Wd.a (v := .pointer (some ⟨b8, 0, none⟩)) (by exact E.move (AF_ev rfl hs8)) ?_
        refine RW.soft Wd.a (v := .int .i64 kk11) (by exact E.move (AF_ev rfl (up rfl hs10))) ?_
        refine RW.soft Wd.a (v := .pointer (some ⟨b2, 1, none⟩)) (by exact E.indexAddrA (b := b2) (o := 0) (i := 1) Try.underlying43 sz3 (AF_ev rfl (up rfl (up rfl hs5))) rfl (by omega) (by omega) (by simp)) ?_
        refine RW.soft Wd.a (v := .int .i64 u) (by exact E.load (a := ⟨b2, 1, none⟩) Try.underlying3 rfl (AF_ev rfl tp) (hst.cell (.there (.there (.there (.there .here)))) rfl)) ?_
        have hst := hst.take (.there .here)
        refine RW.hard Wd.a ?_
        refine H.call0 Try.func37 nm37 rfl (map3 (AF_ev rfl (up rfl (up rfl (up rfl tp)))) (AF_ev rfl (up rfl (up rfl tp))) (AF_ev rfl tp)) (Calls.mono (ent_Base_yes kk11 u (by omega) hst) ?_)
        rintro _ w ⟨rfl, hst⟩
        generalize hes15 : (if keepB ia7 t0 (ts es9) kk11 u = true then es9.drop (kk11 - ia7).toNat else []) = es15 at hst
        have hkeep : keepB ia7 t0 (ts es9) kk11 u = false := by unfold keepB; simp only [h2, h3, Bool.true_or, Bool.false_or, Bool.true_and, Bool.false_and, Bool.and_false, Bool.and_true, Bool.or_false]
        rw [hkeep, if_neg Bool.false_ne_true] at hes15
        have hl2 : es15.length = 0 := by rw [← hes15]; rfl
        refine ⟨_, rfl, ?_⟩
        show RW _ _ _ _ _ _ _
        refine RW.soft Wd.a (v := .int .i64 0) (by exact E.assign (AF_ev rfl tp)) ?_
        refine RW.fin (fun τ => τ 0 = .agg #[.int .i64 i0, .int .i64 t0] ∧ τ 1 = .slice X l.length c ∧ τ 2 = .agg #[.int .i64 k0, .int .i64 u] ∧ τ 3 = .pointer (some ⟨b1, 0, none⟩) ∧ τ 5 = .pointer (some ⟨b2, 0, none⟩) ∧ τ 6 = .bool false ∧ τ 7 = .bool true ∧ τ 8 = .pointer (some ⟨b8, 0, none⟩) ∧ τ 9 = .pointer (some ⟨b10, 0, none⟩) ∧ τ 10 = .int .i64 kk11 ∧ τ 11 = .int .i64 (termT ia7 t0 (ts es9) kk11) ∧ τ 12 = .int .i64 (termE ia7 (ts es9) kk11) ∧ τ 13 = .int .i64 0 ∧ τ 32 = .bool false ∧ τ 36 = .bool false) ⟨up rfl (up rfl (up rfl (up rfl (up rfl (up rfl hs0))))), up rfl (up rfl (up rfl (up rfl (up rfl (up rfl hs1))))), up rfl (up rfl (up rfl (up rfl (up rfl (up rfl hs2))))), up rfl (up rfl (up rfl (up rfl (up rfl (up rfl hs3))))), up rfl (up rfl (up rfl (up rfl (up rfl (up rfl hs5))))), up rfl (up rfl (up rfl (up rfl (up rfl (up rfl hs6))))), up rfl (up rfl (up rfl (up rfl (up rfl (up rfl hs7))))), up rfl (up rfl (up rfl (up rfl (up rfl (up rfl hs8))))), up rfl (up rfl (up rfl (up rfl (up rfl (up rfl hs9))))), up rfl (up rfl (up rfl (up rfl (up rfl (up rfl hs10))))), up rfl (up rfl (up rfl (up rfl (up rfl (up rfl hs11))))), up rfl (up rfl (up rfl (up rfl (up rfl (up rfl hs12))))), tp, up rfl (up rfl (up rfl (up rfl (up rfl (up rfl hs32))))), up rfl (up rfl (up rfl (up rfl (up rfl (up rfl hs36)))))⟩ ?_
        rintro τ ⟨hs0, hs1, hs2, hs3, hs5, hs6, hs7, hs8, hs9, hs10, hs11, hs12, hs13, hs32, hs36⟩
        refine CW.seq ?_
        refine CW.seq ?_
        refine CW.region ?_
        refine RW.soft Wd.a (v := .int .i64 kk11) (by exact E.move (AF_ev rfl hs10)) ?_
        refine RW.soft Wd.a (v := .pointer (some ⟨b10, 0, none⟩)) (by exact E.move (AF_ev rfl (up rfl hs9))) ?_
        have hst := hst.take (.there .here)
        refine RW.hard Wd.a ?_
        refine H.call0 Try.func31 nm31 rfl (map1 (AF_ev rfl tp)) (Calls.mono (ent_FirstL hst) ?_)
        rintro _ w ⟨rfl, hst⟩
        refine ⟨_, rfl, ?_⟩
        show RW _ _ _ _ _ _ _
        refine RW.soft Wd.a (v := .int .i64 (ia7 + 1 - 1)) (by exact E.sub (k := .i64) (a := ia7 + 1) (b := 1) (AF_ev rfl tp) rfl (show IntKind.i64.wrap ((ia7 + 1) - 1) = ia7 + 1 - 1 from (by rw [IntWalk.i64_in _ (by omega)] <;> omega))) ?_
        refine RW.soft Wd.a (v := .bool false) (by exact E.b (a := decide (kk11 < (ia7 + 1 - 1))) (E.lss (k := .i64) (a := kk11) (b := ia7 + 1 - 1) (AF_ev rfl (up rfl (up rfl (up rfl tp)))) (AF_ev rfl tp)) (by rw [decide_eq_false_iff_not]; have := of_decide_eq_false h1; omega)) ?_
        refine RW.fin (fun τ => τ 0 = .agg #[.int .i64 i0, .int .i64 t0] ∧ τ 1 = .slice X l.length c ∧ τ 2 = .agg #[.int .i64 k0, .int .i64 u] ∧ τ 3 = .pointer (some ⟨b1, 0, none⟩) ∧ τ 5 = .pointer (some ⟨b2, 0, none⟩) ∧ τ 6 = .bool false ∧ τ 7 = .bool true ∧ τ 8 = .pointer (some ⟨b8, 0, none⟩) ∧ τ 9 = .pointer (some ⟨b10, 0, none⟩) ∧ τ 10 = .int .i64 kk11 ∧ τ 11 = .int .i64 (termT ia7 t0 (ts es9) kk11) ∧ τ 12 = .int .i64 (termE ia7 (ts es9) kk11) ∧ τ 13 = .int .i64 0 ∧ τ 32 = .bool false ∧ τ 36 = .bool false ∧ τ 55 = .bool false) ⟨up rfl (up rfl (up rfl (up rfl (up rfl hs0)))), up rfl (up rfl (up rfl (up rfl (up rfl hs1)))), up rfl (up rfl (up rfl (up rfl (up rfl hs2)))), up rfl (up rfl (up rfl (up rfl (up rfl hs3)))), up rfl (up rfl (up rfl (up rfl (up rfl hs5)))), up rfl (up rfl (up rfl (up rfl (up rfl hs6)))), up rfl (up rfl (up rfl (up rfl (up rfl hs7)))), up rfl (up rfl (up rfl (up rfl (up rfl hs8)))), up rfl (up rfl (up rfl (up rfl (up rfl hs9)))), up rfl (up rfl (up rfl (up rfl (up rfl hs10)))), up rfl (up rfl (up rfl (up rfl (up rfl hs11)))), up rfl (up rfl (up rfl (up rfl (up rfl hs12)))), up rfl (up rfl (up rfl (up rfl (up rfl hs13)))), up rfl (up rfl (up rfl (up rfl (up rfl hs32)))), up rfl (up rfl (up rfl (up rfl (up rfl hs36)))), tp⟩ ?_
        rintro τ ⟨hs0, hs1, hs2, hs3, hs5, hs6, hs7, hs8, hs9, hs10, hs11, hs12, hs13, hs32, hs36, hs55⟩
        refine CW.condF (AF_ev rfl hs55) ?_
        refine CW.skip ?_
        refine Th.n ?_
        refine CW.seq ?_
        refine CW.region ?_
        refine RW.soft Wd.a (v := .pointer (some ⟨b8, 0, none⟩)) (by exact E.move (AF_ev rfl hs8)) ?_
        refine RW.soft Wd.a (v := .int .i64 kk11) (by exact E.move (AF_ev rfl (up rfl hs10))) ?_
        have hst := hst.take (.there .here)
        refine RW.hard Wd.a ?_
        refine H.call0 Try.func32 nm32 rfl (map2 (AF_ev rfl (up rfl tp)) (AF_ev rfl tp)) (Calls.mono (ent_TermL (v := u) (u := 0) kk11 (by omega) termT_base termE_base hst) ?_)
        rintro _ w ⟨rfl, hst⟩
        refine ⟨_, rfl, ?_⟩
        show RW _ _ _ _ _ _ _
        refine RW.soft Wd.a (v := .tuple #[.int .i64 u, .int .i64 0]) (by exact E.move (AF_ev rfl tp)) ?_
        refine RW.soft Wd.a (v := .int .i64 u) (by exact E.extract (vs := #[.int .i64 u, .int .i64 0]) (AF_ev rfl tp) rfl) ?_
        refine RW.soft Wd.a (v := .int .i64 0) (by exact E.extract (vs := #[.int .i64 u, .int .i64 0]) (AF_ev rfl (up rfl tp)) rfl) ?_
        refine RW.soft Wd.a (v := .int .i64 u) (by exact E.assign (AF_ev rfl (up rfl tp))) ?_
        refine RW.soft Wd.a (v := .int .i64 0) (by exact E.assign (AF_ev rfl (up rfl tp))) ?_
        refine RW.fin (fun τ => τ 0 = .agg #[.int .i64 i0, .int .i64 t0] ∧ τ 1 = .slice X l.length c ∧ τ 2 = .agg #[.int .i64 k0, .int .i64 u] ∧ τ 3 = .pointer (some ⟨b1, 0, none⟩) ∧ τ 5 = .pointer (some ⟨b2, 0, none⟩) ∧ τ 6 = .bool false ∧ τ 7 = .bool true ∧ τ 8 = .pointer (some ⟨b8, 0, none⟩) ∧ τ 9 = .pointer (some ⟨b10, 0, none⟩) ∧ τ 10 = .int .i64 kk11 ∧ τ 11 = .int .i64 (termT ia7 t0 (ts es9) kk11) ∧ τ 12 = .int .i64 (termE ia7 (ts es9) kk11) ∧ τ 13 = .int .i64 0 ∧ τ 14 = .int .i64 u ∧ τ 15 = .int .i64 0 ∧ τ 32 = .bool false ∧ τ 36 = .bool false ∧ τ 55 = .bool false) ⟨up rfl (up rfl (up rfl (up rfl (up rfl (up rfl (up rfl (up rfl hs0))))))), up rfl (up rfl (up rfl (up rfl (up rfl (up rfl (up rfl (up rfl hs1))))))), up rfl (up rfl (up rfl (up rfl (up rfl (up rfl (up rfl (up rfl hs2))))))), up rfl (up rfl (up rfl (up rfl (up rfl (up rfl (up rfl (up rfl hs3))))))), up rfl (up rfl (up rfl (up rfl (up rfl (up rfl (up rfl (up rfl hs5))))))), up rfl (up rfl (up rfl (up rfl (up rfl (up rfl (up rfl (up rfl hs6))))))), up rfl (up rfl (up rfl (up rfl (up rfl (up rfl (up rfl (up rfl hs7))))))), up rfl (up rfl (up rfl (up rfl (up rfl (up rfl (up rfl (up rfl hs8))))))), up rfl (up rfl (up rfl (up rfl (up rfl (up rfl (up rfl (up rfl hs9))))))), up rfl (up rfl (up rfl (up rfl (up rfl (up rfl (up rfl (up rfl hs10))))))), up rfl (up rfl (up rfl (up rfl (up rfl (up rfl (up rfl (up rfl hs11))))))), up rfl (up rfl (up rfl (up rfl (up rfl (up rfl (up rfl (up rfl hs12))))))), up rfl (up rfl (up rfl (up rfl (up rfl (up rfl (up rfl (up rfl hs13))))))), up rfl tp, tp, up rfl (up rfl (up rfl (up rfl (up rfl (up rfl (up rfl (up rfl hs32))))))), up rfl (up rfl (up rfl (up rfl (up rfl (up rfl (up rfl (up rfl hs36))))))), up rfl (up rfl (up rfl (up rfl (up rfl (up rfl (up rfl (up rfl hs55)))))))⟩ ?_
        rintro τ ⟨hs0, hs1, hs2, hs3, hs5, hs6, hs7, hs8, hs9, hs10, hs11, hs12, hs13, hs14, hs15, hs32, hs36, hs55⟩
        refine CW.seq ?_
        refine CW.region ?_
        refine RW.soft Wd.a (v := .pointer (some ⟨b8, 0, none⟩)) (by exact E.move (AF_ev rfl hs8)) ?_
        refine RW.soft Wd.a (v := .int .i64 kk11) (by exact E.move (AF_ev rfl (up rfl hs10))) ?_
        refine RW.soft Wd.a (v := .int .i64 (kk11 - 1)) (by exact E.sub (k := .i64) (a := kk11) (b := 1) (AF_ev rfl tp) rfl (show IntKind.i64.wrap (kk11 - 1) = kk11 - 1 from (by rw [IntWalk.i64_in _ (by omega)]))) ?_
        refine RW.hard Wd.a ?_
        refine H.call0 Try.func32 nm32 rfl (map2 (AF_ev rfl (up rfl (up rfl tp))) (AF_ev rfl tp)) (Calls.mono (ent_TermL (v := termT kk11 u (ts es15) (kk11 - 1)) (u := 170) (kk11 - 1) (by omega) rfl (by unfold termE; rw [if_neg (by omega), if_neg (by omega)]) hst) ?_)
        rintro _ w ⟨rfl, hst⟩
        refine ⟨_, rfl, ?_⟩
        show RW _ _ _ _ _ _ _
        refine RW.soft Wd.a (v := .tuple #[.int .i64 (termT kk11 u (ts es15) (kk11 - 1)), .int .i64 170]) (by exact E.move (AF_ev rfl tp)) ?_
        refine RW.soft Wd.a (v := .int .i64 (termT kk11 u (ts es15) (kk11 - 1))) (by exact E.extract (vs := #[.int .i64 (termT kk11 u (ts es15) (kk11 - 1)), .int .i64 170]) (AF_ev rfl tp) rfl) ?_
        refine RW.soft Wd.a (v := .int .i64 170) (by exact E.extract (vs := #[.int .i64 (termT kk11 u (ts es15) (kk11 - 1)), .int .i64 170]) (AF_ev rfl (up rfl tp)) rfl) ?_
        refine RW.soft Wd.a (v := .int .i64 (termT kk11 u (ts es15) (kk11 - 1))) (by exact E.assign (AF_ev rfl (up rfl tp))) ?_
        refine RW.soft Wd.a (v := .int .i64 170) (by exact E.assign (AF_ev rfl (up rfl tp))) ?_
        refine RW.fin (fun τ => τ 0 = .agg #[.int .i64 i0, .int .i64 t0] ∧ τ 1 = .slice X l.length c ∧ τ 2 = .agg #[.int .i64 k0, .int .i64 u] ∧ τ 3 = .pointer (some ⟨b1, 0, none⟩) ∧ τ 5 = .pointer (some ⟨b2, 0, none⟩) ∧ τ 6 = .bool false ∧ τ 7 = .bool true ∧ τ 8 = .pointer (some ⟨b8, 0, none⟩) ∧ τ 9 = .pointer (some ⟨b10, 0, none⟩) ∧ τ 10 = .int .i64 kk11 ∧ τ 11 = .int .i64 (termT ia7 t0 (ts es9) kk11) ∧ τ 12 = .int .i64 (termE ia7 (ts es9) kk11) ∧ τ 13 = .int .i64 0 ∧ τ 14 = .int .i64 u ∧ τ 15 = .int .i64 0 ∧ τ 17 = .int .i64 170 ∧ τ 32 = .bool false ∧ τ 36 = .bool false ∧ τ 55 = .bool false) ⟨up rfl (up rfl (up rfl (up rfl (up rfl (up rfl (up rfl (up rfl (up rfl hs0)))))))), up rfl (up rfl (up rfl (up rfl (up rfl (up rfl (up rfl (up rfl (up rfl hs1)))))))), up rfl (up rfl (up rfl (up rfl (up rfl (up rfl (up rfl (up rfl (up rfl hs2)))))))), up rfl (up rfl (up rfl (up rfl (up rfl (up rfl (up rfl (up rfl (up rfl hs3)))))))), up rfl (up rfl (up rfl (up rfl (up rfl (up rfl (up rfl (up rfl (up rfl hs5)))))))), up rfl (up rfl (up rfl (up rfl (up rfl (up rfl (up rfl (up rfl (up rfl hs6)))))))), up rfl (up rfl (up rfl (up rfl (up rfl (up rfl (up rfl (up rfl (up rfl hs7)))))))), up rfl (up rfl (up rfl (up rfl (up rfl (up rfl (up rfl (up rfl (up rfl hs8)))))))), up rfl (up rfl (up rfl (up rfl (up rfl (up rfl (up rfl (up rfl (up rfl hs9)))))))), up rfl (up rfl (up rfl (up rfl (up rfl (up rfl (up rfl (up rfl (up rfl hs10)))))))), up rfl (up rfl (up rfl (up rfl (up rfl (up rfl (up rfl (up rfl (up rfl hs11)))))))), up rfl (up rfl (up rfl (up rfl (up rfl (up rfl (up rfl (up rfl (up rfl hs12)))))))), up rfl (up rfl (up rfl (up rfl (up rfl (up rfl (up rfl (up rfl (up rfl hs13)))))))), up rfl (up rfl (up rfl (up rfl (up rfl (up rfl (up rfl (up rfl (up rfl hs14)))))))), up rfl (up rfl (up rfl (up rfl (up rfl (up rfl (up rfl (up rfl (up rfl hs15)))))))), tp, up rfl (up rfl (up rfl (up rfl (up rfl (up rfl (up rfl (up rfl (up rfl hs32)))))))), up rfl (up rfl (up rfl (up rfl (up rfl (up rfl (up rfl (up rfl (up rfl hs36)))))))), up rfl (up rfl (up rfl (up rfl (up rfl (up rfl (up rfl (up rfl (up rfl hs55))))))))⟩ ?_
        rintro τ ⟨hs0, hs1, hs2, hs3, hs5, hs6, hs7, hs8, hs9, hs10, hs11, hs12, hs13, hs14, hs15, hs17, hs32, hs36, hs55⟩
        refine CW.seq ?_
        refine CW.seq ?_
        refine CW.region ?_
        refine RW.soft Wd.a (v := .int .i64 kk11) (by exact E.move (AF_ev rfl hs10)) ?_
        refine RW.soft Wd.a (v := .bool false) (by exact E.b (a := decide (kk11 > 1099511627776)) (E.gtr (k := .i64) (a := kk11) (b := 1099511627776) (AF_ev rfl tp) rfl) (decide_eq_false (by omega))) ?_
        refine RW.fin (fun τ => τ 0 = .agg #[.int .i64 i0, .int .i64 t0] ∧ τ 1 = .slice X l.length c ∧ τ 2 = .agg #[.int .i64 k0, .int .i64 u] ∧ τ 3 = .pointer (some ⟨b1, 0, none⟩) ∧ τ 5 = .pointer (some ⟨b2, 0, none⟩) ∧ τ 6 = .bool false ∧ τ 7 = .bool true ∧ τ 8 = .pointer (some ⟨b8, 0, none⟩) ∧ τ 9 = .pointer (some ⟨b10, 0, none⟩) ∧ τ 10 = .int .i64 kk11 ∧ τ 11 = .int .i64 (termT ia7 t0 (ts es9) kk11) ∧ τ 12 = .int .i64 (termE ia7 (ts es9) kk11) ∧ τ 13 = .int .i64 0 ∧ τ 14 = .int .i64 u ∧ τ 15 = .int .i64 0 ∧ τ 17 = .int .i64 170 ∧ τ 32 = .bool false ∧ τ 36 = .bool false ∧ τ 55 = .bool false ∧ τ 86 = .bool false) ⟨up rfl (up rfl hs0), up rfl (up rfl hs1), up rfl (up rfl hs2), up rfl (up rfl hs3), up rfl (up rfl hs5), up rfl (up rfl hs6), up rfl (up rfl hs7), up rfl (up rfl hs8), up rfl (up rfl hs9), up rfl (up rfl hs10), up rfl (up rfl hs11), up rfl (up rfl hs12), up rfl (up rfl hs13), up rfl (up rfl hs14), up rfl (up rfl hs15), up rfl (up rfl hs17), up rfl (up rfl hs32), up rfl (up rfl hs36), up rfl (up rfl hs55), tp⟩ ?_
        rintro τ ⟨hs0, hs1, hs2, hs3, hs5, hs6, hs7, hs8, hs9, hs10, hs11, hs12, hs13, hs14, hs15, hs17, hs32, hs36, hs55, hs86⟩
        refine CW.condF (AF_ev rfl hs86) ?_
        refine CW.skip ?_
        refine Th.n ?_
        refine CW.seq ?_
        refine CW.seq ?_
        refine CW.region ?_
        refine RW.soft Wd.a (v := .int .i64 0) (by exact E.move (AF_ev rfl hs13)) ?_
        refine RW.soft Wd.a (v := .bool false) (by exact E.neq (k := .i64) (a := 0) (b := 0) (AF_ev rfl tp) rfl) ?_
        refine RW.soft Wd.a (v := .bool false) (by exact E.move (AF_ev rfl tp)) ?_
        refine RW.soft (by exact Wd.yes (x := 91) rfl (AF_ev rfl tp)) (v := .pointer (some ⟨b8, 0, none⟩)) (by exact E.move (AF_ev rfl (up rfl (up rfl (up rfl hs8))))) ?_
        refine RW.hard (by exact Wd.yes (x := 91) rfl (AF_ev rfl (up rfl tp))) ?_
        refine H.call0 Try.func31 nm31 rfl (map1 (AF_ev rfl tp)) (Calls.mono (ent_FirstL hst) ?_)
        rintro _ w ⟨rfl, hst⟩
        refine ⟨_, rfl, ?_⟩
        show RW _ _ _ _ _ _ _
        refine RW.soft (by exact Wd.yes (x := 91) rfl (AF_ev rfl (up rfl (up rfl tp)))) (v := .int .i64 kk11) (by exact E.move (AF_ev rfl (up rfl (up rfl (up rfl (up rfl (up rfl hs10))))))) ?_
        refine RW.soft (by exact Wd.yes (x := 91) rfl (AF_ev rfl (up rfl (up rfl (up rfl tp))))) (v := .int .i64 (kk11 + 1)) (by exact E.add (k := .i64) (a := kk11) (b := 1) (AF_ev rfl tp) rfl (show IntKind.i64.wrap (kk11 + 1) = kk11 + 1 from (by rw [IntWalk.i64_in _ (by omega)]))) ?_
        refine RW.soft (by exact Wd.yes (x := 91) rfl (AF_ev rfl (up rfl (up rfl (up rfl (up rfl tp)))))) (v := .bool false) (by exact E.b (a := (kk11 + 1) != (kk11 + 1)) (E.neq (k := .i64) (a := kk11 + 1) (b := kk11 + 1) (AF_ev rfl (up rfl (up rfl tp))) (AF_ev rfl tp)) (by simp)) ?_
        refine RW.soft Wd.a (v := .bool false) (by exact E.pickF (AF_ev rfl (up rfl (up rfl (up rfl (up rfl (up rfl tp)))))) (AF_ev rfl tp)) ?_
        refine RW.soft Wd.a (v := .bool false) (by exact E.move (AF_ev rfl tp)) ?_
        refine RW.soft (by exact Wd.yes (x := 98) rfl (AF_ev rfl tp)) (v := .int .i64 0) (by exact E.move (AF_ev rfl (up rfl (up rfl (up rfl (up rfl (up rfl (up rfl (up rfl (up rfl (up rfl (up rfl hs15)))))))))))) ?_
        refine RW.soft (by exact Wd.yes (x := 98) rfl (AF_ev rfl (up rfl tp))) (v := .bool false) (by exact E.neq (k := .i64) (a := 0) (b := 0) (AF_ev rfl tp) rfl) ?_
        refine RW.soft Wd.a (v := .bool false) (by exact E.pickF (AF_ev rfl (up rfl (up rfl tp))) (AF_ev rfl tp)) ?_
        refine RW.soft Wd.a (v := .bool false) (by exact E.move (AF_ev rfl tp)) ?_
        refine RW.soft (by exact Wd.yes (x := 102) rfl (AF_ev rfl tp)) (v := .int .i64 u) (by exact E.move (AF_ev rfl (up rfl (up rfl (up rfl (up rfl (up rfl (up rfl (up rfl (up rfl (up rfl (up rfl (up rfl (up rfl (up rfl (up rfl hs14)))))))))))))))) ?_
        refine RW.soft (by exact Wd.yes (x := 102) rfl (AF_ev rfl (up rfl tp))) (v := .pointer (some ⟨b2, 1, none⟩)) (by exact E.indexAddrA (b := b2) (o := 0) (i := 1) Try.underlying43 sz3 (AF_ev rfl (up rfl (up rfl (up rfl (up rfl (up rfl (up rfl (up rfl (up rfl (up rfl (up rfl (up rfl (up rfl (up rfl (up rfl (up rfl hs5)))))))))))))))) rfl (by omega) (by omega) (by simp)) ?_
        refine RW.soft (by exact Wd.yes (x := 102) rfl (AF_ev rfl (up rfl (up rfl tp)))) (v := .int .i64 u) (by exact E.load (a := ⟨b2, 1, none⟩) Try.underlying3 rfl (AF_ev rfl tp) (hst.cell (.there (.there (.there (.there .here)))) rfl)) ?_
        refine RW.soft (by exact Wd.yes (x := 102) rfl (AF_ev rfl (up rfl (up rfl (up rfl tp))))) (v := .bool false) (by exact E.b (a := u != u) (E.neq (k := .i64) (a := u) (b := u) (AF_ev rfl (up rfl (up rfl tp))) (AF_ev rfl tp)) (by simp)) ?_
        refine RW.soft Wd.a (v := .bool false) (by exact E.pickF (AF_ev rfl (up rfl (up rfl (up rfl (up rfl tp))))) (AF_ev rfl tp)) ?_
        refine RW.soft Wd.a (v := .bool false) (by exact E.move (AF_ev rfl tp)) ?_
        refine RW.soft (by exact Wd.yes (x := 108) rfl (AF_ev rfl tp)) (v := .int .i64 170) (by exact E.move (AF_ev rfl (up rfl (up rfl (up rfl (up rfl (up rfl (up rfl (up rfl (up rfl (up rfl (up rfl (up rfl (up rfl (up rfl (up rfl (up rfl (up rfl (up rfl (up rfl (up rfl (up rfl hs17)))))))))))))))))))))) ?_
        refine RW.soft (by exact Wd.yes (x := 108) rfl (AF_ev rfl (up rfl tp))) (v := .bool false) (by exact E.neq (k := .i64) (a := 170) (b := 170) (AF_ev rfl tp) rfl) ?_
        refine RW.soft Wd.a (v := .bool false) (by exact E.pickF (AF_ev rfl (up rfl (up rfl tp))) (AF_ev rfl tp)) ?_
        refine RW.fin (fun τ => τ 0 = .agg #[.int .i64 i0, .int .i64 t0] ∧ τ 1 = .slice X l.length c ∧ τ 2 = .agg #[.int .i64 k0, .int .i64 u] ∧ τ 3 = .pointer (some ⟨b1, 0, none⟩) ∧ τ 5 = .pointer (some ⟨b2, 0, none⟩) ∧ τ 6 = .bool false ∧ τ 7 = .bool true ∧ τ 8 = .pointer (some ⟨b8, 0, none⟩) ∧ τ 9 = .pointer (some ⟨b10, 0, none⟩) ∧ τ 10 = .int .i64 kk11 ∧ τ 11 = .int .i64 (termT ia7 t0 (ts es9) kk11) ∧ τ 12 = .int .i64 (termE ia7 (ts es9) kk11) ∧ τ 13 = .int .i64 0 ∧ τ 14 = .int .i64 u ∧ τ 15 = .int .i64 0 ∧ τ 17 = .int .i64 170 ∧ τ 32 = .bool false ∧ τ 36 = .bool false ∧ τ 55 = .bool false ∧ τ 86 = .bool false ∧ τ 111 = .bool false) ⟨up rfl (up rfl (up rfl (up rfl (up rfl (up rfl (up rfl (up rfl (up rfl (up rfl (up rfl (up rfl (up rfl (up rfl (up rfl (up rfl (up rfl (up rfl (up rfl (up rfl (up rfl (up rfl (up rfl hs0)))))))))))))))))))))), up rfl (up rfl (up rfl (up rfl (up rfl (up rfl (up rfl (up rfl (up rfl (up rfl (up rfl (up rfl (up rfl (up rfl (up rfl (up rfl (up rfl (up rfl (up rfl (up rfl (up rfl (up rfl (up rfl hs1)))))))))))))))))))))), up rfl (up rfl (up rfl (up rfl (up rfl (up rfl (up rfl (up rfl (up rfl (up rfl (up rfl (up rfl (up rfl (up rfl (up rfl (up rfl (up rfl (up rfl (up rfl (up rfl (up rfl (up rfl (up rfl hs2)))))))))))))))))))))), up rfl (up rfl (up rfl (up rfl (up rfl (up rfl (up rfl (up rfl (up rfl (up rfl (up rfl (up rfl (up rfl (up rfl (up rfl (up rfl (up rfl (up rfl (up rfl (up rfl (up rfl (up rfl (up rfl hs3)))))))))))))))))))))), up rfl (up rfl (up rfl (up rfl (up rfl (up rfl (up rfl (up rfl (up rfl (up rfl (up rfl (up rfl (up rfl (up rfl (up rfl (up rfl (up rfl (up rfl (up rfl (up rfl (up rfl (up rfl (up rfl hs5)))))))))))))))))))))), up rfl (up rfl (up rfl (up rfl (up rfl (up rfl (up rfl (up rfl (up rfl (up rfl (up rfl (up rfl (up rfl (up rfl (up rfl (up rfl (up rfl (up rfl (up rfl (up rfl (up rfl (up rfl (up rfl hs6)))))))))))))))))))))), up rfl (up rfl (up rfl (up rfl (up rfl (up rfl (up rfl (up rfl (up rfl (up rfl (up rfl (up rfl (up rfl (up rfl (up rfl (up rfl (up rfl (up rfl (up rfl (up rfl (up rfl (up rfl (up rfl hs7)))))))))))))))))))))), up rfl (up rfl (up rfl (up rfl (up rfl (up rfl (up rfl (up rfl (up rfl (up rfl (up rfl (up rfl (up rfl (up rfl (up rfl (up rfl (up rfl (up rfl (up rfl (up rfl (up rfl (up rfl (up rfl hs8)))))))))))))))))))))), up rfl (up rfl (up rfl (up rfl (up rfl (up rfl (up rfl (up rfl (up rfl (up rfl (up rfl (up rfl (up rfl (up rfl (up rfl (up rfl (up rfl (up rfl (up rfl (up rfl (up rfl (up rfl (up rfl hs9)))))))))))))))))))))), up rfl (up rfl (up rfl (up rfl (up rfl (up rfl (up rfl (up rfl (up rfl (up rfl (up rfl (up rfl (up rfl (up rfl (up rfl (up rfl (up rfl (up rfl (up rfl (up rfl (up rfl (up rfl (up rfl hs10)))))))))))))))))))))), up rfl (up rfl (up rfl (up rfl (up rfl (up rfl (up rfl (up rfl (up rfl (up rfl (up rfl (up rfl (up rfl (up rfl (up rfl (up rfl (up rfl (up rfl (up rfl (up rfl (up rfl (up rfl (up rfl hs11)))))))))))))))))))))), up rfl (up rfl (up rfl (up rfl (up rfl (up rfl (up rfl (up rfl (up rfl (up rfl (up rfl (up rfl (up rfl (up rfl (up rfl (up rfl (up rfl (up rfl (up rfl (up rfl (up rfl (up rfl (up rfl hs12)))))))))))))))))))))), up rfl (up rfl (up rfl (up rfl (up rfl (up rfl (up rfl (up rfl (up rfl (up rfl (up rfl (up rfl (up rfl (up rfl (up rfl (up rfl (up rfl (up rfl (up rfl (up rfl (up rfl (up rfl (up rfl hs13)))))))))))))))))))))), up rfl (up rfl (up rfl (up rfl (up rfl (up rfl (up rfl (up rfl (up rfl (up rfl (up rfl (up rfl (up rfl (up rfl (up rfl (up rfl (up rfl (up rfl (up rfl (up rfl (up rfl (up rfl (up rfl hs14)))))))))))))))))))))), up rfl (up rfl (up rfl (up rfl (up rfl (up rfl (up rfl (up rfl (up rfl (up rfl (up rfl (up rfl (up rfl (up rfl (up rfl (up rfl (up rfl (up rfl (up rfl (up rfl (up rfl (up rfl (up rfl hs15)))))))))))))))))))))), up rfl (up rfl (up rfl (up rfl (up rfl (up rfl (up rfl (up rfl (up rfl (up rfl (up rfl (up rfl (up rfl (up rfl (up rfl (up rfl (up rfl (up rfl (up rfl (up rfl (up rfl (up rfl (up rfl hs17)))))))))))))))))))))), up rfl (up rfl (up rfl (up rfl (up rfl (up rfl (up rfl (up rfl (up rfl (up rfl (up rfl (up rfl (up rfl (up rfl (up rfl (up rfl (up rfl (up rfl (up rfl (up rfl (up rfl (up rfl (up rfl hs32)))))))))))))))))))))), up rfl (up rfl (up rfl (up rfl (up rfl (up rfl (up rfl (up rfl (up rfl (up rfl (up rfl (up rfl (up rfl (up rfl (up rfl (up rfl (up rfl (up rfl (up rfl (up rfl (up rfl (up rfl (up rfl hs36)))))))))))))))))))))), up rfl (up rfl (up rfl (up rfl (up rfl (up rfl (up rfl (up rfl (up rfl (up rfl (up rfl (up rfl (up rfl (up rfl (up rfl (up rfl (up rfl (up rfl (up rfl (up rfl (up rfl (up rfl (up rfl hs55)))))))))))))))))))))), up rfl (up rfl (up rfl (up rfl (up rfl (up rfl (up rfl (up rfl (up rfl (up rfl (up rfl (up rfl (up rfl (up rfl (up rfl (up rfl (up rfl (up rfl (up rfl (up rfl (up rfl (up rfl (up rfl hs86)))))))))))))))))))))), tp⟩ ?_
        rintro τ ⟨hs0, hs1, hs2, hs3, hs5, hs6, hs7, hs8, hs9, hs10, hs11, hs12, hs13, hs14, hs15, hs17, hs32, hs36, hs55, hs86, hs111⟩
        refine CW.condF (AF_ev rfl hs111) ?_
        refine CW.skip ?_
        refine Th.n ?_
        refine CW.seq ?_
        refine CW.seq ?_
        refine CW.region ?_
        refine RW.soft Wd.a (v := .int .i64 kk11) (by exact E.move (AF_ev rfl hs10)) ?_
        refine RW.soft Wd.a (v := .pointer (some ⟨b10, 0, none⟩)) (by exact E.move (AF_ev rfl (up rfl hs9))) ?_
        have hst := hst.take (.there .here)
        refine RW.hard Wd.a ?_
        refine H.call0 Try.func31 nm31 rfl (map1 (AF_ev rfl tp)) (Calls.mono (ent_FirstL hst) ?_)
        rintro _ w ⟨rfl, hst⟩
        refine ⟨_, rfl, ?_⟩
        show RW _ _ _ _ _ _ _
        refine RW.soft Wd.a (v := .int .i64 (ia7 + 1 - 1)) (by exact E.sub (k := .i64) (a := ia7 + 1) (b := 1) (AF_ev rfl tp) rfl (show IntKind.i64.wrap ((ia7 + 1) - 1) = ia7 + 1 - 1 from (by rw [IntWalk.i64_in _ (by omega)] <;> omega))) ?_
        refine RW.soft Wd.a (v := .bool false) (by exact E.b (a := kk11 == (ia7 + 1 - 1)) (E.eql (k := .i64) (a := kk11) (b := ia7 + 1 - 1) (AF_ev rfl (up rfl (up rfl (up rfl tp)))) (AF_ev rfl tp)) (by rw [beq_eq_false_iff_ne]; have := beq_eq_false_iff_ne.1 h2; omega)) ?_
        refine RW.soft Wd.a (v := .bool false) (by exact E.move (AF_ev rfl tp)) ?_
        refine RW.soft (by exact Wd.yes (x := 117) rfl (AF_ev rfl tp)) (v := .int .i64 (termE ia7 (ts es9) kk11)) (by exact E.move (AF_ev rfl (up rfl (up rfl (up rfl (up rfl (up rfl (up rfl hs12)))))))) ?_
        refine RW.soft (by exact Wd.yes (x := 117) rfl (AF_ev rfl (up rfl tp))) (v := .bool false) (by exact E.b (a := (termE ia7 (ts es9) kk11) == 0) (E.eql (k := .i64) (a := termE ia7 (ts es9) kk11) (b := 0) (AF_ev rfl tp) rfl) h3) ?_
        refine RW.soft (by exact Wd.yes (x := 117) rfl (AF_ev rfl (up rfl (up rfl tp)))) (v := .bool false) (by exact E.move (AF_ev rfl tp)) ?_
        refine RW.pass (by exact Wd.no (x := 120) (b := false) rfl (AF_ev rfl tp) rfl) ?_
        refine RW.pass (by exact Wd.no (x := 120) (b := false) rfl (AF_ev rfl (up rfl tp)) rfl) ?_
        refine RW.pass (by exact Wd.no (x := 120) (b := false) rfl (AF_ev rfl (up rfl (up rfl tp))) rfl) ?_
        refine RW.pass (by exact Wd.no (x := 120) (b := false) rfl (AF_ev rfl (up rfl (up rfl (up rfl tp)))) rfl) ?_
        refine RW.soft (by exact Wd.yes (x := 117) rfl (AF_ev rfl (up rfl (up rfl (up rfl (up rfl (up rfl (up rfl (up rfl tp))))))))) (v := .bool false) (by exact E.pickF (AF_ev rfl (up rfl (up rfl (up rfl (up rfl tp))))) rfl) ?_
        refine RW.soft Wd.a (v := .bool false) (by exact E.pickF (AF_ev rfl (up rfl (up rfl (up rfl (up rfl (up rfl (up rfl (up rfl (up rfl tp))))))))) (AF_ev rfl tp)) ?_
        refine RW.fin (fun τ => τ 0 = .agg #[.int .i64 i0, .int .i64 t0] ∧ τ 1 = .slice X l.length c ∧ τ 2 = .agg #[.int .i64 k0, .int .i64 u] ∧ τ 3 = .pointer (some ⟨b1, 0, none⟩) ∧ τ 5 = .pointer (some ⟨b2, 0, none⟩) ∧ τ 6 = .bool false ∧ τ 7 = .bool true ∧ τ 8 = .pointer (some ⟨b8, 0, none⟩) ∧ τ 9 = .pointer (some ⟨b10, 0, none⟩) ∧ τ 10 = .int .i64 kk11 ∧ τ 11 = .int .i64 (termT ia7 t0 (ts es9) kk11) ∧ τ 12 = .int .i64 (termE ia7 (ts es9) kk11) ∧ τ 13 = .int .i64 0 ∧ τ 14 = .int .i64 u ∧ τ 15 = .int .i64 0 ∧ τ 17 = .int .i64 170 ∧ τ 32 = .bool false ∧ τ 36 = .bool false ∧ τ 55 = .bool false ∧ τ 86 = .bool false ∧ τ 111 = .bool false ∧ τ 126 = .bool false) ⟨up rfl (up rfl (up rfl (up rfl (up rfl (up rfl (up rfl (up rfl (up rfl (up rfl (up rfl (up rfl (up rfl (up rfl (up rfl hs0)))))))))))))), up rfl (up rfl (up rfl (up rfl (up rfl (up rfl (up rfl (up rfl (up rfl (up rfl (up rfl (up rfl (up rfl (up rfl (up rfl hs1)))))))))))))), up rfl (up rfl (up rfl (up rfl (up rfl (up rfl (up rfl (up rfl (up rfl (up rfl (up rfl (up rfl (up rfl (up rfl (up rfl hs2)))))))))))))), up rfl (up rfl (up rfl (up rfl (up rfl (up rfl (up rfl (up rfl (up rfl (up rfl (up rfl (up rfl (up rfl (up rfl (up rfl hs3)))))))))))))), up rfl (up rfl (up rfl (up rfl (up rfl (up rfl (up rfl (up rfl (up rfl (up rfl (up rfl (up rfl (up rfl (up rfl (up rfl hs5)))))))))))))), up rfl (up rfl (up rfl (up rfl (up rfl (up rfl (up rfl (up rfl (up rfl (up rfl (up rfl (up rfl (up rfl (up rfl (up rfl hs6)))))))))))))), up rfl (up rfl (up rfl (up rfl (up rfl (up rfl (up rfl (up rfl (up rfl (up rfl (up rfl (up rfl (up rfl (up rfl (up rfl hs7)))))))))))))), up rfl (up rfl (up rfl (up rfl (up rfl (up rfl (up rfl (up rfl (up rfl (up rfl (up rfl (up rfl (up rfl (up rfl (up rfl hs8)))))))))))))), up rfl (up rfl (up rfl (up rfl (up rfl (up rfl (up rfl (up rfl (up rfl (up rfl (up rfl (up rfl (up rfl (up rfl (up rfl hs9)))))))))))))), up rfl (up rfl (up rfl (up rfl (up rfl (up rfl (up rfl (up rfl (up rfl (up rfl (up rfl (up rfl (up rfl (up rfl (up rfl hs10)))))))))))))), up rfl (up rfl (up rfl (up rfl (up rfl (up rfl (up rfl (up rfl (up rfl (up rfl (up rfl (up rfl (up rfl (up rfl (up rfl hs11)))))))))))))), up rfl (up rfl (up rfl (up rfl (up rfl (up rfl (up rfl (up rfl (up rfl (up rfl (up rfl (up rfl (up rfl (up rfl (up rfl hs12)))))))))))))), up rfl (up rfl (up rfl (up rfl (up rfl (up rfl (up rfl (up rfl (up rfl (up rfl (up rfl (up rfl (up rfl (up rfl (up rfl hs13)))))))))))))), up rfl (up rfl (up rfl (up rfl (up rfl (up rfl (up rfl (up rfl (up rfl (up rfl (up rfl (up rfl (up rfl (up rfl (up rfl hs14)))))))))))))), up rfl (up rfl (up rfl (up rfl (up rfl (up rfl (up rfl (up rfl (up rfl (up rfl (up rfl (up rfl (up rfl (up rfl (up rfl hs15)))))))))))))), up rfl (up rfl (up rfl (up rfl (up rfl (up rfl (up rfl (up rfl (up rfl (up rfl (up rfl (up rfl (up rfl (up rfl (up rfl hs17)))))))))))))), up rfl (up rfl (up rfl (up rfl (up rfl (up rfl (up rfl (up rfl (up rfl (up rfl (up rfl (up rfl (up rfl (up rfl (up rfl hs32)))))))))))))), up rfl (up rfl (up rfl (up rfl (up rfl (up rfl (up rfl (up rfl (up rfl (up rfl (up rfl (up rfl (up rfl (up rfl (up rfl hs36)))))))))))))), up rfl (up rfl (up rfl (up rfl (up rfl (up rfl (up rfl (up rfl (up rfl (up rfl (up rfl (up rfl (up rfl (up rfl (up rfl hs55)))))))))))))), up rfl (up rfl (up rfl (up rfl (up rfl (up rfl (up rfl (up rfl (up rfl (up rfl (up rfl (up rfl (up rfl (up rfl (up rfl hs86)))))))))))))), up rfl (up rfl (up rfl (up rfl (up rfl (up rfl (up rfl (up rfl (up rfl (up rfl (up rfl (up rfl (up rfl (up rfl (up rfl hs111)))))))))))))), tp⟩ ?_
        rintro τ ⟨hs0, hs1, hs2, hs3, hs5, hs6, hs7, hs8, hs9, hs10, hs11, hs12, hs13, hs14, hs15, hs17, hs32, hs36, hs55, hs86, hs111, hs126⟩
        refine CW.condF (AF_ev rfl hs126) ?_
        refine CW.skip ?_
        refine Th.n ?_
        refine CW.seq ?_
        refine CW.region ?_
        refine RW.soft Wd.a (v := .pointer (some ⟨b8, 0, none⟩)) (by exact E.move (AF_ev rfl hs8)) ?_
        have hst := hst.take (.there .here)
        refine RW.hard Wd.a ?_
        refine H.call0 Try.func30 nm30 rfl (map1 (AF_ev rfl tp)) (Calls.mono (ent_LastL (v := kk11 + ((es15.length : Nat) : Int)) rfl hst) ?_)
        rintro _ w ⟨rfl, hst⟩
        refine ⟨_, rfl, ?_⟩
        show RW _ _ _ _ _ _ _
        refine RW.soft Wd.a (v := .int .i64 kk11) (by exact E.move (AF_ev rfl (up rfl (up rfl hs10)))) ?_
        refine RW.soft Wd.a (v := .bool true) (by exact E.b (a := (kk11 + ((es15.length : Nat) : Int)) == kk11) (E.eql (k := .i64) (a := kk11 + ((es15.length : Nat) : Int)) (b := kk11) (AF_ev rfl (up rfl tp)) (AF_ev rfl tp)) (by rw [beq_iff_eq]; omega)) ?_
        refine RW.soft Wd.a (v := .bool true) (by exact E.assign (AF_ev rfl tp)) ?_
        refine RW.fin (fun τ => τ 0 = .agg #[.int .i64 i0, .int .i64 t0] ∧ τ 1 = .slice X l.length c ∧ τ 2 = .agg #[.int .i64 k0, .int .i64 u] ∧ τ 3 = .pointer (some ⟨b1, 0, none⟩) ∧ τ 5 = .pointer (some ⟨b2, 0, none⟩) ∧ τ 6 = .bool true ∧ τ 7 = .bool true ∧ τ 8 = .pointer (some ⟨b8, 0, none⟩) ∧ τ 9 = .pointer (some ⟨b10, 0, none⟩) ∧ τ 10 = .int .i64 kk11 ∧ τ 11 = .int .i64 (termT ia7 t0 (ts es9) kk11) ∧ τ 12 = .int .i64 (termE ia7 (ts es9) kk11) ∧ τ 13 = .int .i64 0 ∧ τ 14 = .int .i64 u ∧ τ 15 = .int .i64 0 ∧ τ 17 = .int .i64 170 ∧ τ 32 = .bool false ∧ τ 36 = .bool false ∧ τ 55 = .bool false ∧ τ 86 = .bool false ∧ τ 111 = .bool false ∧ τ 126 = .bool false) ⟨up rfl (up rfl (up rfl (up rfl (up rfl hs0)))), up rfl (up rfl (up rfl (up rfl (up rfl hs1)))), up rfl (up rfl (up rfl (up rfl (up rfl hs2)))), up rfl (up rfl (up rfl (up rfl (up rfl hs3)))), up rfl (up rfl (up rfl (up rfl (up rfl hs5)))), tp, up rfl (up rfl (up rfl (up rfl (up rfl hs7)))), up rfl (up rfl (up rfl (up rfl (up rfl hs8)))), up rfl (up rfl (up rfl (up rfl (up rfl hs9)))), up rfl (up rfl (up rfl (up rfl (up rfl hs10)))), up rfl (up rfl (up rfl (up rfl (up rfl hs11)))), up rfl (up rfl (up rfl (up rfl (up rfl hs12)))), up rfl (up rfl (up rfl (up rfl (up rfl hs13)))), up rfl (up rfl (up rfl (up rfl (up rfl hs14)))), up rfl (up rfl (up rfl (up rfl (up rfl hs15)))), up rfl (up rfl (up rfl (up rfl (up rfl hs17)))), up rfl (up rfl (up rfl (up rfl (up rfl hs32)))), up rfl (up rfl (up rfl (up rfl (up rfl hs36)))), up rfl (up rfl (up rfl (up rfl (up rfl hs55)))), up rfl (up rfl (up rfl (up rfl (up rfl hs86)))), up rfl (up rfl (up rfl (up rfl (up rfl hs111)))), up rfl (up rfl (up rfl (up rfl (up rfl hs126))))⟩ ?_
        rintro τ ⟨hs0, hs1, hs2, hs3, hs5, hs6, hs7, hs8, hs9, hs10, hs11, hs12, hs13, hs14, hs15, hs17, hs32, hs36, hs55, hs86, hs111, hs126⟩
        refine CW.ret ?_
        refine ret1 (v := .bool true) rfl (by exact (.tmp (AF_ev rfl hs6) .nil)) ?_
        have hst := hst.drop
        have hst := hst.drop
        have hst := hst.drop
        have hst := hst.drop
        have hst := hst.drop
        have hst := hst.drop
        exact ⟨p, hp0, rfl, hst⟩
end Go.Proofs.Ytdlcjoonhojpfaa
