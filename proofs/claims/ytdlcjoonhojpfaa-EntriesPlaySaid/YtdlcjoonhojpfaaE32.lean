/- The calls of the package entries, walked through operation by operation. -/
import Derived.Test.YtdlcjoonhojpfaaE0
import Derived.Test.YtdlcjoonhojpfaaT1
import Derived.Test.YtdlcjoonhojpfaaE1
import Derived.Test.YtdlcjoonhojpfaaE2
import Derived.Test.YtdlcjoonhojpfaaE3
import Derived.Test.YtdlcjoonhojpfaaE4
import Derived.Test.YtdlcjoonhojpfaaE5
import Derived.Test.YtdlcjoonhojpfaaE6
import Derived.Test.YtdlcjoonhojpfaaE9
import Derived.Test.YtdlcjoonhojpfaaE10
import Derived.Test.YtdlcjoonhojpfaaE11
import Derived.Test.YtdlcjoonhojpfaaE14
import Derived.Test.YtdlcjoonhojpfaaE15
import Derived.Test.YtdlcjoonhojpfaaE16
import Derived.Test.YtdlcjoonhojpfaaE22
import Derived.Test.YtdlcjoonhojpfaaE23
import Derived.Test.YtdlcjoonhojpfaaE24
import Derived.Test.YtdlcjoonhojpfaaE25
import Derived.Test.YtdlcjoonhojpfaaE26
import Derived.Test.YtdlcjoonhojpfaaE27
import Derived.Test.YtdlcjoonhojpfaaE28
import Derived.Test.YtdlcjoonhojpfaaE29
import Derived.Test.YtdlcjoonhojpfaaE30
import Derived.Test.YtdlcjoonhojpfaaE31
namespace Go.Proofs.Ytdlcjoonhojpfaa
open Go.RowKit Go.SL Go.E17
attribute [local irreducible] Go.SL.RW Go.SL.CW Go.SL.RD Go.SL.Hd Go.SL.St
set_option linter.unusedVariables false
set_option linter.unusedSimpArgs false

theorem nm51 : (Try.f51.name == "runtime.NumGoroutine") = false := by kernel_rfl
theorem nm55 : (Try.f55.name == "runtime.NumGoroutine") = false := by kernel_rfl
theorem nm56 : (Try.f56.name == "runtime.NumGoroutine") = false := by kernel_rfl
theorem nm57 : (Try.f57.name == "runtime.NumGoroutine") = false := by kernel_rfl
theorem sz46 : (Try.prog.info? 46).map (·.size) = some 4 := by kernel_rfl

theorem Las_at {p : Pers} {w : World} {H : List Assn} {sz m c b o : Nat} {xs : List Value} (l : Las p sz (.slice (some ⟨b, o, none⟩) m c) m xs) (s : St p w H) (h0 : 0 < m) {j : Nat} {u : Value} (hu : xs[j]? = some u) : w.cell? ⟨b, o + j, none⟩ = some u := by
  obtain ⟨_, X, c', he, _, h | ⟨b', o', hX, hc⟩⟩ := l.src s
  · omega
  · cases he; cases hX; exact hc j u hu
theorem logRange {p : Pers} {w : World} {R : List Assn} {b : Nat} {i t : Int} {es : List Ent} (s : St p w (LogB p b i t es :: R)) : 0 ≤ i ∧ i ≤ 1099511627776 := by
  obtain ⟨_, _, h, _⟩ := logOpen s; exact h
theorem fromL_ok {p : Pers} {i k m : Int} {es : List Ent} (h : EsOk p es) : EsOk p (fromL i es k m) := by
  unfold fromL
  split
  · exact EsOk.nil
  · exact (h.drop _).take _

set_option maxHeartbeats 4000000 in
theorem play_walk {p : Pers} {w : World} {R : List Assn} {p0 : Pers} {X W : Option Addr} {c e : Nat} {l : List Ent} {os : List LOp} (hp0 : p0.le p) (i0 t0 : Int) (hi0 : -9223372036854775808 ≤ i0 ∧ i0 ≤ 9223372036854775807) (hlm : l.length ≤ 9223372036854775807) (hom : os.length ≤ 9223372036854775807) (hL : Las p 4 (.slice X l.length c) l.length (flat l)) (hEL : EsLas p l) (hO : Las p 4 (.slice W os.length e) os.length (os.flatMap LOp.enc)) (hK : LsOk p os) (hst : St p w (R)) :
    Calls Try.prog 13 #[.agg #[.int .i64 i0, .int .i64 t0], .slice X l.length c, .slice W os.length e] w fun e w => ∃ q, p0.le q ∧ e = .returned (.bool true) ∧ St q w R := by
  refine enter Try.func13 rfl (by simp) (n := 223) rfl fun τ hτ => ?_
  have hs0 : τ 0 = .agg #[.int .i64 i0, .int .i64 t0] := hτ 0 (by simp)
  have hs1 : τ 1 = .slice X l.length c := hτ 1 (by simp)
  have hs2 : τ 2 = .slice W os.length e := hτ 2 (by simp)
  clear hτ
  refine CW.seq ?_
  refine CW.region ?_
  refine RW.hard Wd.a ?_
  refine H.box (v := .agg #[.int .i64 i0, .int .i64 t0]) (AF_ev rfl hs0) hst fun b1 w hst => ?_
  refine RW.soft Wd.a (v := .bool false) (by exact E.assign rfl) ?_
  refine RW.fin (fun τ => τ 0 = .agg #[.int .i64 i0, .int .i64 t0] ∧ τ 1 = .slice X l.length c ∧ τ 2 = .slice W os.length e ∧ τ 3 = .pointer (some ⟨b1, 0, none⟩) ∧ τ 6 = .bool false) ⟨up rfl (up rfl hs0), up rfl (up rfl hs1), up rfl (up rfl hs2), up rfl tp, tp⟩ ?_
  rintro τ ⟨hs0, hs1, hs2, hs3, hs6⟩
  refine CW.seq ?_
  refine CW.region ?_
  refine RW.hard Wd.a ?_
  refine H.call0 Try.func24 nm24 rfl map0 (Calls.mono (ent_shown p.le_refl hst) ?_)
  rintro _ w ⟨p, hle, rfl, hst⟩
  have hp0 := hp0.le hle
  have hO := hO.le hle
  have hK := hK.le hle
  have hL := hL.le hle
  have hEL := hEL.le hle
  refine ⟨_, rfl, ?_⟩
  show RW _ _ _ _ _ _ _
  refine RW.soft Wd.a (v := .bool true) (by exact E.assign (AF_ev rfl tp)) ?_
  refine RW.fin (fun τ => τ 0 = .agg #[.int .i64 i0, .int .i64 t0] ∧ τ 1 = .slice X l.length c ∧ τ 2 = .slice W os.length e ∧ τ 3 = .pointer (some ⟨b1, 0, none⟩) ∧ τ 6 = .bool false ∧ τ 7 = .bool true) ⟨up rfl (up rfl hs0), up rfl (up rfl hs1), up rfl (up rfl hs2), up rfl (up rfl hs3), up rfl (up rfl hs6), tp⟩ ?_
  rintro τ ⟨hs0, hs1, hs2, hs3, hs6, hs7⟩
  refine CW.seq ?_
  refine CW.regionD [0, 1, 3, 4, 5] (fun w => w.cell? ⟨b1, 0, none⟩ = some (.int .i64 i0) ∧ w.cell? ⟨b1, 1, none⟩ = some (.int .i64 t0)) mixed ?_
  have hst := hst.drew
  generalize w.drew = w at hst ⊢
  have hS : w.cell? ⟨b1, 0, none⟩ = some (.int .i64 i0) ∧ w.cell? ⟨b1, 1, none⟩ = some (.int .i64 t0) := ⟨hst.cell .here rfl, hst.cell .here rfl⟩
  refine RD.take 0 rfl (by kernel_rfl) Wd.a (v := .pointer (some ⟨b1, 0, none⟩)) (fun w hS => by exact E.indexAddrA (b := b1) (o := 0) (i := 0) Try.underlying43 sz3 (AF_ev rfl hs3) rfl (by omega) (by omega) (by simp)) hS ?_
  refine RD.take 1 rfl (by kernel_rfl) Wd.a (v := .int .i64 i0) (fun w hS => by exact E.load (a := ⟨b1, 0, none⟩) Try.underlying3 rfl (AF_ev rfl tp) hS.1) hS ?_
  refine RD.take 3 rfl (by kernel_rfl) Wd.a (v := .pointer (some ⟨b1, 1, none⟩)) (fun w hS => by exact E.indexAddrA (b := b1) (o := 0) (i := 1) Try.underlying43 sz3 (AF_ev rfl (up rfl (up rfl hs3))) rfl (by omega) (by omega) (by simp)) hS ?_
  refine RD.take 4 rfl (by kernel_rfl) Wd.a (v := .int .i64 t0) (fun w hS => by exact E.load (a := ⟨b1, 1, none⟩) Try.underlying3 rfl (AF_ev rfl tp) hS.2) hS ?_
  refine RD.take 5 rfl (by kernel_rfl) Wd.a (v := .slice X l.length c) (fun w hS => by exact E.move (AF_ev rfl (up rfl (up rfl (up rfl (up rfl hs1)))))) hS ?_
  refine RD.only 2 rfl (by kernel_rfl) Wd.a ?_
  obtain ⟨kk2, hkk2⟩ : ∃ z, z = nearF i0 := ⟨_, rfl⟩
  have hrkk2 := nearF_range i0
  rw [← hkk2] at hrkk2
  refine H.call0 Try.func26 nm26 rfl (map1 (AF_ev rfl (up rfl (up rfl (up rfl tp))))) (Calls.mono (near17C (v := kk2) i0 (by omega) hkk2.symm hst) ?_)
  rintro _ w ⟨rfl, hst⟩
  refine ⟨_, rfl, ?_⟩
  have hS : w.cell? ⟨b1, 0, none⟩ = some (.int .i64 i0) ∧ w.cell? ⟨b1, 1, none⟩ = some (.int .i64 t0) := ⟨hst.cell .here rfl, hst.cell .here rfl⟩
  refine ⟨fun _ => hS, ?_⟩
  refine RD.only 6 rfl (by kernel_rfl) Wd.a ?_
  have hst := hst.emp
  refine H.call0 Try.func27 nm27 rfl (map1 (AF_ev rfl (up rfl tp))) (Calls.mono (ent_few2 (Las.tells hL) hEL (by omega) p.le_refl hst) ?_)
  rintro _ w ⟨p, vX3, es5, hle, rfl, hokes5, hl20es5, hfwes5, hst⟩
  obtain ⟨X3, c4, rfl, hcX3, hmX3, hlX3, hbX3⟩ := hst.shape
  have hp0 := hp0.le hle
  have hO := hO.le hle
  have hK := hK.le hle
  have hL := hL.le hle
  have hEL := hEL.le hle
  refine ⟨_, rfl, ?_⟩
  have hS : w.cell? ⟨b1, 0, none⟩ = some (.int .i64 i0) ∧ w.cell? ⟨b1, 1, none⟩ = some (.int .i64 t0) := ⟨hst.cell (.there (.there .here)) rfl, hst.cell (.there (.there .here)) rfl⟩
  refine ⟨fun _ => hS, ?_⟩
  refine RD.only 7 rfl (by kernel_rfl) Wd.a ?_
  obtain ⟨ia6, hia6⟩ : ∃ z, z = max 0 (min kk2 1099511627776) := ⟨_, rfl⟩
  have hria6 : 0 ≤ ia6 ∧ ia6 ≤ 1099511627776 := by omega
  refine H.call0 Try.func25 nm25 rfl (map3 (AF_ev rfl (up rfl tp)) (AF_ev rfl (up rfl (up rfl (up rfl tp)))) (AF_ev rfl tp)) (Calls.mono (ent_NewC (i' := ia6) kk2 t0 Own.tells hokes5 (by first | simp | omega) (by omega) hia6.symm hst) ?_)
  rintro _ w ⟨p, b7, es8, hle, rfl, hvses8, hst⟩
  have hp0 := hp0.le hle
  have hO := hO.le hle
  have hK := hK.le hle
  have hL := hL.le hle
  have hEL := hEL.le hle
  have hokes5 := hokes5.le hle
  have htses8 := ts_eq hvses8
  have hvles8 := vs_len hvses8
  refine ⟨_, rfl, ?_⟩
  have hS : w.cell? ⟨b1, 0, none⟩ = some (.int .i64 i0) ∧ w.cell? ⟨b1, 1, none⟩ = some (.int .i64 t0) := ⟨hst.cell (.there (.there (.there .here))) rfl, hst.cell (.there (.there (.there .here))) rfl⟩
  refine ⟨fun _ => hS, ?_⟩
  refine RD.only 8 rfl (by kernel_rfl) Wd.a (Hd.value (v := .pointer (some ⟨b7, 0, none⟩)) (by exact E.assign (AF_ev rfl tp)) ⟨fun h => Bool.noConfusion ((show needs _ _ _ = false by kernel_rfl).symm.trans h), ?_⟩)
  refine RD.fin (by kernel_rfl) (fun τ => τ 0 = .agg #[.int .i64 i0, .int .i64 t0] ∧ τ 1 = .slice X l.length c ∧ τ 2 = .slice W os.length e ∧ τ 3 = .pointer (some ⟨b1, 0, none⟩) ∧ τ 6 = .bool false ∧ τ 7 = .bool true ∧ τ 8 = .pointer (some ⟨b7, 0, none⟩)) ⟨up rfl (up rfl (up rfl (up rfl (up rfl (up rfl (up rfl (up rfl (up rfl hs0)))))))), up rfl (up rfl (up rfl (up rfl (up rfl (up rfl (up rfl (up rfl (up rfl hs1)))))))), up rfl (up rfl (up rfl (up rfl (up rfl (up rfl (up rfl (up rfl (up rfl hs2)))))))), up rfl (up rfl (up rfl (up rfl (up rfl (up rfl (up rfl (up rfl (up rfl hs3)))))))), up rfl (up rfl (up rfl (up rfl (up rfl (up rfl (up rfl (up rfl (up rfl hs6)))))))), up rfl (up rfl (up rfl (up rfl (up rfl (up rfl (up rfl (up rfl (up rfl hs7)))))))), tp⟩ ?_
  rintro τ ⟨hs0, hs1, hs2, hs3, hs6, hs7, hs8⟩
  refine CW.seq ?_
  refine CW.regionD [0, 1, 3, 4, 5] (fun w => w.cell? ⟨b1, 0, none⟩ = some (.int .i64 i0) ∧ w.cell? ⟨b1, 1, none⟩ = some (.int .i64 t0)) mixed ?_
  have hst := hst.drew
  generalize w.drew = w at hst ⊢
  have hS : w.cell? ⟨b1, 0, none⟩ = some (.int .i64 i0) ∧ w.cell? ⟨b1, 1, none⟩ = some (.int .i64 t0) := ⟨hst.cell (.there (.there (.there .here))) rfl, hst.cell (.there (.there (.there .here))) rfl⟩
  refine RD.take 0 rfl (by kernel_rfl) Wd.a (v := .pointer (some ⟨b1, 0, none⟩)) (fun w hS => by exact E.indexAddrA (b := b1) (o := 0) (i := 0) Try.underlying43 sz3 (AF_ev rfl hs3) rfl (by omega) (by omega) (by simp)) hS ?_
  refine RD.take 1 rfl (by kernel_rfl) Wd.a (v := .int .i64 i0) (fun w hS => by exact E.load (a := ⟨b1, 0, none⟩) Try.underlying3 rfl (AF_ev rfl tp) hS.1) hS ?_
  refine RD.take 3 rfl (by kernel_rfl) Wd.a (v := .pointer (some ⟨b1, 1, none⟩)) (fun w hS => by exact E.indexAddrA (b := b1) (o := 0) (i := 1) Try.underlying43 sz3 (AF_ev rfl (up rfl (up rfl hs3))) rfl (by omega) (by omega) (by simp)) hS ?_
  refine RD.take 4 rfl (by kernel_rfl) Wd.a (v := .int .i64 t0) (fun w hS => by exact E.load (a := ⟨b1, 1, none⟩) Try.underlying3 rfl (AF_ev rfl tp) hS.2) hS ?_
  refine RD.take 5 rfl (by kernel_rfl) Wd.a (v := .slice X l.length c) (fun w hS => by exact E.move (AF_ev rfl (up rfl (up rfl (up rfl (up rfl hs1)))))) hS ?_
  refine RD.only 2 rfl (by kernel_rfl) Wd.a ?_
  refine H.call0 Try.func26 nm26 rfl (map1 (AF_ev rfl (up rfl (up rfl (up rfl tp))))) (Calls.mono (near17C (v := kk2) i0 (by omega) hkk2.symm hst) ?_)
  rintro _ w ⟨rfl, hst⟩
  refine ⟨_, rfl, ?_⟩
  have hS : w.cell? ⟨b1, 0, none⟩ = some (.int .i64 i0) ∧ w.cell? ⟨b1, 1, none⟩ = some (.int .i64 t0) := ⟨hst.cell (.there (.there (.there .here))) rfl, hst.cell (.there (.there (.there .here))) rfl⟩
  refine ⟨fun _ => hS, ?_⟩
  refine RD.only 6 rfl (by kernel_rfl) Wd.a ?_
  have hst := hst.emp
  refine H.call0 Try.func27 nm27 rfl (map1 (AF_ev rfl (up rfl tp))) (Calls.mono (ent_few2 (Las.tells hL) hEL (by omega) p.le_refl hst) ?_)
  rintro _ w ⟨p, vX10, es12, hle, rfl, hokes12, hl20es12, hfwes12, hst⟩
  obtain ⟨X10, c11, rfl, hcX10, hmX10, hlX10, hbX10⟩ := hst.shape
  have hp0 := hp0.le hle
  have hO := hO.le hle
  have hK := hK.le hle
  have hL := hL.le hle
  have hEL := hEL.le hle
  have hokes5 := hokes5.le hle
  have hst := logLe hle (hst.take (.there (.there .here)))
  refine ⟨_, rfl, ?_⟩
  have hS : w.cell? ⟨b1, 0, none⟩ = some (.int .i64 i0) ∧ w.cell? ⟨b1, 1, none⟩ = some (.int .i64 t0) := ⟨hst.cell (.there (.there (.there (.there (.there .here))))) rfl, hst.cell (.there (.there (.there (.there (.there .here))))) rfl⟩
  refine ⟨fun _ => hS, ?_⟩
  refine RD.only 7 rfl (by kernel_rfl) Wd.a ?_
  have hst := hst.take (.there .here)
  refine H.call0 Try.func51 nm51 rfl (map3 (AF_ev rfl (up rfl tp)) (AF_ev rfl (up rfl (up rfl (up rfl tp)))) (AF_ev rfl tp)) (Calls.mono (ref_NewC (i' := ia6) kk2 t0 Own.tells hokes12 (by omega) (by omega) hia6.symm hst) ?_)
  rintro _ w ⟨br13, rfl, hst⟩
  refine ⟨_, rfl, ?_⟩
  have hS : w.cell? ⟨b1, 0, none⟩ = some (.int .i64 i0) ∧ w.cell? ⟨b1, 1, none⟩ = some (.int .i64 t0) := ⟨hst.cell (.there (.there (.there (.there (.there (.there .here)))))) rfl, hst.cell (.there (.there (.there (.there (.there (.there .here)))))) rfl⟩
  refine ⟨fun _ => hS, ?_⟩
  refine RD.only 8 rfl (by kernel_rfl) Wd.a (Hd.value (v := .pointer (some ⟨br13, 0, none⟩)) (by exact E.assign (AF_ev rfl tp)) ⟨fun h => Bool.noConfusion ((show needs _ _ _ = false by kernel_rfl).symm.trans h), ?_⟩)
  refine RD.fin (by kernel_rfl) (fun τ => τ 0 = .agg #[.int .i64 i0, .int .i64 t0] ∧ τ 1 = .slice X l.length c ∧ τ 2 = .slice W os.length e ∧ τ 3 = .pointer (some ⟨b1, 0, none⟩) ∧ τ 6 = .bool false ∧ τ 7 = .bool true ∧ τ 8 = .pointer (some ⟨b7, 0, none⟩) ∧ τ 9 = .pointer (some ⟨br13, 0, none⟩)) ⟨up rfl (up rfl (up rfl (up rfl (up rfl (up rfl (up rfl (up rfl (up rfl hs0)))))))), up rfl (up rfl (up rfl (up rfl (up rfl (up rfl (up rfl (up rfl (up rfl hs1)))))))), up rfl (up rfl (up rfl (up rfl (up rfl (up rfl (up rfl (up rfl (up rfl hs2)))))))), up rfl (up rfl (up rfl (up rfl (up rfl (up rfl (up rfl (up rfl (up rfl hs3)))))))), up rfl (up rfl (up rfl (up rfl (up rfl (up rfl (up rfl (up rfl (up rfl hs6)))))))), up rfl (up rfl (up rfl (up rfl (up rfl (up rfl (up rfl (up rfl (up rfl hs7)))))))), up rfl (up rfl (up rfl (up rfl (up rfl (up rfl (up rfl (up rfl (up rfl hs8)))))))), tp⟩ ?_
  rintro τ ⟨hs0, hs1, hs2, hs3, hs6, hs7, hs8, hs9⟩
  refine CW.seq ?_
  refine CW.seq ?_
  refine CW.region ?_
  refine RW.soft Wd.a (v := .bool true) (by exact E.move (AF_ev rfl hs7)) ?_
  refine RW.soft Wd.a (v := .bool false) (by exact E.not (b := true) (AF_ev rfl tp)) ?_
  refine RW.soft Wd.a (v := .bool false) (by exact E.move (AF_ev rfl tp)) ?_
  refine RW.soft (by exact Wd.yes (x := 46) rfl (AF_ev rfl tp)) (v := .pointer (some ⟨b7, 0, none⟩)) (by exact E.move (AF_ev rfl (up rfl (up rfl (up rfl hs8))))) ?_
  refine RW.soft (by exact Wd.yes (x := 46) rfl (AF_ev rfl (up rfl tp))) (v := .bool false) (by exact E.eqlP (p := (some ⟨b7, 0, none⟩)) Try.underlying47 (AF_ev rfl tp) rfl) ?_
  refine RW.soft Wd.a (v := .bool false) (by exact E.pickF (AF_ev rfl (up rfl (up rfl tp))) (AF_ev rfl tp)) ?_
  refine RW.fin (fun τ => τ 0 = .agg #[.int .i64 i0, .int .i64 t0] ∧ τ 1 = .slice X l.length c ∧ τ 2 = .slice W os.length e ∧ τ 3 = .pointer (some ⟨b1, 0, none⟩) ∧ τ 6 = .bool false ∧ τ 7 = .bool true ∧ τ 8 = .pointer (some ⟨b7, 0, none⟩) ∧ τ 9 = .pointer (some ⟨br13, 0, none⟩) ∧ τ 49 = .bool false) ⟨up rfl (up rfl (up rfl (up rfl (up rfl (up rfl hs0))))), up rfl (up rfl (up rfl (up rfl (up rfl (up rfl hs1))))), up rfl (up rfl (up rfl (up rfl (up rfl (up rfl hs2))))), up rfl (up rfl (up rfl (up rfl (up rfl (up rfl hs3))))), up rfl (up rfl (up rfl (up rfl (up rfl (up rfl hs6))))), up rfl (up rfl (up rfl (up rfl (up rfl (up rfl hs7))))), up rfl (up rfl (up rfl (up rfl (up rfl (up rfl hs8))))), up rfl (up rfl (up rfl (up rfl (up rfl (up rfl hs9))))), tp⟩ ?_
  rintro τ ⟨hs0, hs1, hs2, hs3, hs6, hs7, hs8, hs9, hs49⟩
  refine CW.condF (AF_ev rfl hs49) ?_
  refine CW.skip ?_
  refine Th.n ?_
  refine CW.seq ?_
  refine CW.seq ?_
  have hve : vs es8 = vs es12 := hvses8.trans (hfwes5.trans hfwes12.symm)
  have hlve := vs_len hvses8
  refine CW.region ?_
  refine RW.soft Wd.a (v := .int .i64 0) (by exact E.assign rfl) ?_
  refine RW.fin (fun τ => τ 0 = .agg #[.int .i64 i0, .int .i64 t0] ∧ τ 1 = .slice X l.length c ∧ τ 2 = .slice W os.length e ∧ τ 3 = .pointer (some ⟨b1, 0, none⟩) ∧ τ 6 = .bool false ∧ τ 7 = .bool true ∧ τ 8 = .pointer (some ⟨b7, 0, none⟩) ∧ τ 9 = .pointer (some ⟨br13, 0, none⟩) ∧ τ 10 = .int .i64 0 ∧ τ 49 = .bool false) ⟨up rfl hs0, up rfl hs1, up rfl hs2, up rfl hs3, up rfl hs6, up rfl hs7, up rfl hs8, up rfl hs9, tp, up rfl hs49⟩ ?_
  rintro τ ⟨hs0, hs1, hs2, hs3, hs6, hs7, hs8, hs9, hs10, hs49⟩
  refine CW.block ?_
  have hst := hst.take (.there (.there .here))
  have hst := (hst.take (.there (.there .here))).drop
  have hst := (hst.take (.there (.there .here))).drop
  have hst := (hst.take (.there (.there .here))).drop
  have hst := (hst.take (.there (.there .here))).drop
  have hst := (hst.take (.there (.there .here))).drop
  refine CW.loop (fun (k : Nat) (τ : Fr) (w : World) => ∃ (p : Pers) (j : Nat) (bg : Nat) (i t : Int) (es ys : List Ent), p0.le p ∧ Las p 4 (.slice W os.length e) os.length (os.flatMap LOp.enc) ∧ LsOk p os ∧ vs es = vs ys ∧ es.length ≤ 20 + 20 * j ∧ j ≤ 60 ∧ j ≤ os.length ∧ k = os.length - j ∧ τ 2 = .slice W os.length e ∧ τ 8 = .pointer (some ⟨bg, 0, none⟩) ∧ τ 9 = .pointer (some ⟨br13, 0, none⟩) ∧ τ 10 = .int .i64 ((j : Nat) : Int) ∧ St p w (LogB p bg i t es :: RefB p br13 i t ys :: R)) (os.length - 0) ⟨p, 0, b7, ia6, t0, es8, es12, hp0, hO, hK, hve, (by omega), (by omega), (by omega), rfl, hs2, hs8, hs9, (int_eq (a := 0) hs10 (by omega)), hst⟩ ?_
  clear hst
  rintro k τ w ⟨p, j, bg, i, t, es, ys, hp0, hO, hK, hv, hle20, hj60, hjo, hkj, hs2, hs8, hs9, hs10, hst⟩
  refine CW.seq ?_
  refine CW.seq ?_
  refine CW.cut (fun τ => τ 2 = .slice W os.length e ∧ τ 8 = .pointer (some ⟨bg, 0, none⟩) ∧ τ 9 = .pointer (some ⟨br13, 0, none⟩) ∧ τ 10 = .int .i64 ((j : Nat) : Int) ∧ τ 57 = .bool ((decide (((j : Nat) : Int) < ((os.length : Nat) : Int))) && (decide (((j : Nat) : Int) < 60)))) ?_ ?_
  · refine CW.region ?_
    refine RW.soft Wd.a (v := .int .i64 ((j : Nat) : Int)) (by exact E.move (AF_ev rfl hs10)) ?_
    refine RW.soft Wd.a (v := .slice W os.length e) (by exact E.move (AF_ev rfl (up rfl hs2))) ?_
    refine RW.soft Wd.a (v := .int .i64 ((os.length : Nat) : Int)) (by exact E.lenS (p := W) (l := os.length) (c := e) Try.underlying98 (AF_ev rfl tp)) ?_
    refine RW.soft Wd.a (v := .bool (decide (((j : Nat) : Int) < ((os.length : Nat) : Int)))) (by exact E.lss (k := .i64) (a := ((j : Nat) : Int)) (b := ((os.length : Nat) : Int)) (AF_ev rfl (up rfl (up rfl tp))) (AF_ev rfl tp)) ?_
    refine RW.soft Wd.a (v := .bool (decide (((j : Nat) : Int) < ((os.length : Nat) : Int)))) (by exact E.move (AF_ev rfl tp)) ?_
    refine Or.elim (Bool.eq_false_or_eq_true (decide (((j : Nat) : Int) < ((os.length : Nat) : Int)))) (fun hg14 => ?_) (fun hg14 => ?_)
    · have hg14_ := hg14
      try simp only [decide_eq_true_eq, decide_eq_false_iff_not, Bool.and_eq_true, Bool.or_eq_true, Bool.and_eq_false_iff, Bool.or_eq_false_iff, Bool.not_eq_true', Bool.not_eq_false', beq_iff_eq, beq_eq_false_iff_ne, bne_iff_ne, bne_eq_false_iff_eq, ne_eq, Int.not_lt, Int.not_le, gt_iff_lt, ge_iff_le] at hg14_
      refine RW.soft (by exact Wd.yes (x := 54) rfl (AF_ev rfl (Eq.trans tp (congrArg Value.bool hg14)))) (v := .int .i64 ((j : Nat) : Int)) (by exact E.move (AF_ev rfl (up rfl (up rfl (up rfl (up rfl (up rfl hs10))))))) ?_
      refine RW.soft (by exact Wd.yes (x := 54) rfl (AF_ev rfl (up rfl (Eq.trans tp (congrArg Value.bool hg14))))) (v := .bool (decide (((j : Nat) : Int) < 60))) (by exact E.lss (k := .i64) (a := ((j : Nat) : Int)) (b := 60) (AF_ev rfl tp) rfl) ?_
      refine RW.soft Wd.a (v := .bool (decide (((j : Nat) : Int) < 60))) (by exact E.pickT (AF_ev rfl (up rfl (up rfl (Eq.trans tp (congrArg Value.bool hg14))))) (AF_ev rfl tp)) ?_
      refine RW.nil ⟨rfl, rfl, up rfl (up rfl (up rfl (up rfl (up rfl (up rfl (up rfl (up rfl hs2))))))), up rfl (up rfl (up rfl (up rfl (up rfl (up rfl (up rfl (up rfl hs8))))))), up rfl (up rfl (up rfl (up rfl (up rfl (up rfl (up rfl (up rfl hs9))))))), up rfl (up rfl (up rfl (up rfl (up rfl (up rfl (up rfl (up rfl hs10))))))), (bool_eq (a := decide (((j : Nat) : Int) < 60)) tp (by simp only [hg14, Bool.true_and, Bool.false_and, Bool.true_or, Bool.false_or]))⟩
    · have hg14_ := hg14
      try simp only [decide_eq_true_eq, decide_eq_false_iff_not, Bool.and_eq_true, Bool.or_eq_true, Bool.and_eq_false_iff, Bool.or_eq_false_iff, Bool.not_eq_true', Bool.not_eq_false', beq_iff_eq, beq_eq_false_iff_ne, bne_iff_ne, bne_eq_false_iff_eq, ne_eq, Int.not_lt, Int.not_le, gt_iff_lt, ge_iff_le] at hg14_
      refine RW.pass (by exact Wd.no (x := 54) (b := false) rfl (AF_ev rfl (Eq.trans tp (congrArg Value.bool hg14))) rfl) ?_
      refine RW.pass (by exact Wd.no (x := 54) (b := false) rfl (AF_ev rfl (up rfl (Eq.trans tp (congrArg Value.bool hg14)))) rfl) ?_
      refine RW.soft Wd.a (v := .bool false) (by exact E.pickF (AF_ev rfl (up rfl (up rfl (Eq.trans tp (congrArg Value.bool hg14))))) rfl) ?_
      refine RW.nil ⟨rfl, rfl, up rfl (up rfl (up rfl (up rfl (up rfl (up rfl (up rfl (up rfl hs2))))))), up rfl (up rfl (up rfl (up rfl (up rfl (up rfl (up rfl (up rfl hs8))))))), up rfl (up rfl (up rfl (up rfl (up rfl (up rfl (up rfl (up rfl hs9))))))), up rfl (up rfl (up rfl (up rfl (up rfl (up rfl (up rfl (up rfl hs10))))))), (bool_eq (a := false) tp (by simp only [hg14, Bool.true_and, Bool.false_and, Bool.true_or, Bool.false_or]))⟩
  rintro τ ⟨hs2, hs8, hs9, hs10, hs57⟩
  refine CW.cond (AF_ev rfl hs57) (fun hc15 => ?_) (fun hc15 => ?_)
  · have hc15_ := hc15
    try simp only [decide_eq_true_eq, decide_eq_false_iff_not, Bool.and_eq_true, Bool.or_eq_true, Bool.and_eq_false_iff, Bool.or_eq_false_iff, Bool.not_eq_true', Bool.not_eq_false', beq_iff_eq, beq_eq_false_iff_ne, bne_iff_ne, bne_eq_false_iff_eq, ne_eq, Int.not_lt, Int.not_le, gt_iff_lt, ge_iff_le] at hc15_
    refine CW.skip ?_
    refine Th.n ?_
    refine CW.seq ?_
    refine CW.block ?_
    refine CW.seq ?_
    refine CW.seq ?_
    have hjb : j < os.length ∧ j < 60 := by omega
    have hri0 := logRange hst
    obtain ⟨bo, oo, rfl, -⟩ := hO.place (by omega)
    obtain ⟨⟨kd, ix, tm, Z, d, z⟩, ho⟩ : ∃ o, os[j]? = some o := ⟨os[j]'(by omega), List.getElem?_eq_getElem (by omega)⟩
    have hko := hK _ (List.mem_of_getElem? ho)
    have hL2 := hko.2.2.1
    have hEL2 := hko.2.2.2
    simp only [LOk] at hko
    obtain ⟨⟨hkd, hix, htm⟩, hzm, -, -⟩ := hko
    have hlen := vs_len hv
    refine CW.region ?_
    refine RW.soft Wd.a (v := .slice (some ⟨bo, oo, none⟩) os.length e) (by exact E.move (AF_ev rfl hs2)) ?_
    refine RW.soft Wd.a (v := .int .i64 ((j : Nat) : Int)) (by exact E.move (AF_ev rfl (up rfl hs10))) ?_
    refine RW.soft Wd.a (v := .pointer (some ⟨bo, oo + j * 4, none⟩)) (by exact E.indexAddr (b := bo) (o := oo) (l := os.length) (c := e) (i := ((j : Nat) : Int)) Try.underlying98 sz46 (AF_ev rfl (up rfl tp)) (AF_ev rfl tp) (by omega) (by omega) (by simp)) ?_
    refine RW.soft Wd.a (v := .pointer (some ⟨bo, oo + j * 4, none⟩)) (by exact E.fieldAddr (b := bo) (o := oo + j * 4) (f := { name := "Kind", type := 3, offset := 0, embedded := false, tag := "", pkgPath := "", byteOffset := 0 }) (AF_ev rfl tp) Try.underlying46 rfl sz3 rfl) ?_
    refine RW.soft Wd.a (v := .int .i64 kd) (by exact E.load (a := ⟨bo, oo + j * 4, none⟩) Try.underlying3 rfl (AF_ev rfl tp) (Las_at hO hst (by omega) (flat_get LOp.enc_len ho (j := 0) rfl))) ?_
    refine RW.hard Wd.a ?_
    refine H.call0 Try.func52 nm52 rfl (map2 (AF_ev rfl tp) rfl) (Calls.mono (kind17 kd 8 (by omega) (by omega) hst) ?_)
    rintro _ w ⟨rfl, hst⟩
    refine ⟨_, rfl, ?_⟩
    show RW _ _ _ _ _ _ _
    refine RW.soft Wd.a (v := .bool ((kindF kd 8) == 7)) (by exact E.eql (k := .i64) (a := kindF kd 8) (b := 7) (AF_ev rfl tp) rfl) ?_
    refine RW.fin (fun τ => τ 2 = .slice (some ⟨bo, oo, none⟩) os.length e ∧ τ 8 = .pointer (some ⟨bg, 0, none⟩) ∧ τ 9 = .pointer (some ⟨br13, 0, none⟩) ∧ τ 10 = .int .i64 ((j : Nat) : Int) ∧ τ 57 = .bool true ∧ τ 66 = .bool ((kindF kd 8) == 7)) ⟨up rfl (up rfl (up rfl (up rfl (up rfl (up rfl (up rfl hs2)))))), up rfl (up rfl (up rfl (up rfl (up rfl (up rfl (up rfl hs8)))))), up rfl (up rfl (up rfl (up rfl (up rfl (up rfl (up rfl hs9)))))), up rfl (up rfl (up rfl (up rfl (up rfl (up rfl (up rfl hs10)))))), up rfl (up rfl (up rfl (up rfl (up rfl (up rfl (up rfl (Eq.trans hs57 (congrArg Value.bool hc15)))))))), tp⟩ ?_
    rintro τ ⟨hs2, hs8, hs9, hs10, hs57, hs66⟩
    refine CW.cond (AF_ev rfl hs66) (fun hc16 => ?_) (fun hc16 => ?_)
    · have hc16_ := hc16
      try simp only [decide_eq_true_eq, decide_eq_false_iff_not, Bool.and_eq_true, Bool.or_eq_true, Bool.and_eq_false_iff, Bool.or_eq_false_iff, Bool.not_eq_true', Bool.not_eq_false', beq_iff_eq, beq_eq_false_iff_ne, bne_iff_ne, bne_eq_false_iff_eq, ne_eq, Int.not_lt, Int.not_le, gt_iff_lt, ge_iff_le] at hc16_
      refine CW.seq ?_
      refine CW.region ?_
      refine RW.soft Wd.a (v := .pointer (some ⟨bg, 0, none⟩)) (by exact E.move (AF_ev rfl hs8)) ?_
      refine RW.soft Wd.a (v := .pointer (some ⟨bg, 0, none⟩)) (by exact E.assign (AF_ev rfl tp)) ?_
      refine RW.fin (fun τ => τ 2 = .slice (some ⟨bo, oo, none⟩) os.length e ∧ τ 8 = .pointer (some ⟨bg, 0, none⟩) ∧ τ 9 = .pointer (some ⟨br13, 0, none⟩) ∧ τ 10 = .int .i64 ((j : Nat) : Int) ∧ τ 11 = .pointer (some ⟨bg, 0, none⟩) ∧ τ 57 = .bool true ∧ τ 66 = .bool true) ⟨up rfl (up rfl hs2), up rfl (up rfl hs8), up rfl (up rfl hs9), up rfl (up rfl hs10), tp, up rfl (up rfl hs57), up rfl (up rfl (Eq.trans hs66 (congrArg Value.bool hc16)))⟩ ?_
      rintro τ ⟨hs2, hs8, hs9, hs10, hs11, hs57, hs66⟩
      refine CW.seq ?_
      refine CW.region ?_
      refine RW.soft Wd.a (v := .pointer (some ⟨bg, 0, none⟩)) (by exact E.move (AF_ev rfl hs8)) ?_
      refine RW.hard Wd.a ?_
      refine H.call0 Try.func28 nm28 rfl (map1 (AF_ev rfl tp)) (Calls.mono (ent_Clone hst) ?_)
      rintro _ w ⟨b17, rfl, hst⟩
      refine ⟨_, rfl, ?_⟩
      show RW _ _ _ _ _ _ _
      refine RW.soft Wd.a (v := .pointer (some ⟨b17, 0, none⟩)) (by exact E.assign (AF_ev rfl tp)) ?_
      refine RW.fin (fun τ => τ 2 = .slice (some ⟨bo, oo, none⟩) os.length e ∧ τ 8 = .pointer (some ⟨b17, 0, none⟩) ∧ τ 9 = .pointer (some ⟨br13, 0, none⟩) ∧ τ 10 = .int .i64 ((j : Nat) : Int) ∧ τ 11 = .pointer (some ⟨bg, 0, none⟩) ∧ τ 57 = .bool true ∧ τ 66 = .bool true) ⟨up rfl (up rfl (up rfl hs2)), tp, up rfl (up rfl (up rfl hs9)), up rfl (up rfl (up rfl hs10)), up rfl (up rfl (up rfl hs11)), up rfl (up rfl (up rfl hs57)), up rfl (up rfl (up rfl hs66))⟩ ?_
      rintro τ ⟨hs2, hs8, hs9, hs10, hs11, hs57, hs66⟩
      refine CW.seq ?_
      refine CW.seq ?_
      refine CW.region ?_
      refine RW.soft Wd.a (v := .pointer (some ⟨b17, 0, none⟩)) (by exact E.move (AF_ev rfl hs8)) ?_
      refine RW.soft Wd.a (v := .bool false) (by exact E.eqlP (p := (some ⟨b17, 0, none⟩)) Try.underlying47 (AF_ev rfl tp) rfl) ?_
      refine RW.fin (fun τ => τ 2 = .slice (some ⟨bo, oo, none⟩) os.length e ∧ τ 8 = .pointer (some ⟨b17, 0, none⟩) ∧ τ 9 = .pointer (some ⟨br13, 0, none⟩) ∧ τ 10 = .int .i64 ((j : Nat) : Int) ∧ τ 11 = .pointer (some ⟨bg, 0, none⟩) ∧ τ 57 = .bool true ∧ τ 66 = .bool true ∧ τ 71 = .bool false) ⟨up rfl (up rfl hs2), up rfl (up rfl hs8), up rfl (up rfl hs9), up rfl (up rfl hs10), up rfl (up rfl hs11), up rfl (up rfl hs57), up rfl (up rfl hs66), tp⟩ ?_
      rintro τ ⟨hs2, hs8, hs9, hs10, hs11, hs57, hs66, hs71⟩
      refine CW.condF (AF_ev rfl hs71) ?_
      refine CW.skip ?_
      refine Th.n ?_
      refine CW.seq ?_
      refine CW.region ?_
      refine RW.soft Wd.a (v := .pointer (some ⟨bg, 0, none⟩)) (by exact E.move (AF_ev rfl hs11)) ?_
      refine RW.soft Wd.a (v := .agg #[.int .i64 55, .int .i64 0, .slice none 0 0, .slice none 0 0]) (by exact E.build (vs := #[(0, .int .i64 55)]) (bld1 rfl) (by kernel_rfl)) ?_
      have hst := hst.take (.there .here)
      refine RW.hard Wd.a ?_
      refine H.call0 Try.func53 nm53 rfl (map2 (AF_ev rfl (up rfl tp)) (AF_ev rfl tp)) (Calls.mono (ent_Append (x := mkE 55) (mkE_ok [55] _ (by simp)) (by omega) hst) ?_)
      rintro _ w ⟨p, y, hle, hvy, hoky, rfl, hst⟩
      have hp0 := hp0.le hle
      have hO := hO.le hle
      have hK := hK.le hle
      have hL2 := hL2.le hle
      have hEL2 := hEL2.le hle
      have hst := logLe hle (hst.take (.there .here))
      have hst := refLe hle (hst.take (.there (.there .here)))
      refine ⟨_, rfl, ?_⟩
      show RW _ _ _ _ _ _ _
      refine RW.fin (fun τ => τ 2 = .slice (some ⟨bo, oo, none⟩) os.length e ∧ τ 8 = .pointer (some ⟨b17, 0, none⟩) ∧ τ 9 = .pointer (some ⟨br13, 0, none⟩) ∧ τ 10 = .int .i64 ((j : Nat) : Int) ∧ τ 11 = .pointer (some ⟨bg, 0, none⟩) ∧ τ 57 = .bool true ∧ τ 66 = .bool true ∧ τ 71 = .bool false) ⟨up rfl (up rfl (up rfl hs2)), up rfl (up rfl (up rfl hs8)), up rfl (up rfl (up rfl hs9)), up rfl (up rfl (up rfl hs10)), up rfl (up rfl (up rfl hs11)), up rfl (up rfl (up rfl hs57)), up rfl (up rfl (up rfl hs66)), up rfl (up rfl (up rfl hs71))⟩ ?_
      rintro τ ⟨hs2, hs8, hs9, hs10, hs11, hs57, hs66, hs71⟩
      refine CW.seq ?_
      refine CW.region ?_
      refine RW.soft Wd.a (v := .pointer (some ⟨bg, 0, none⟩)) (by exact E.move (AF_ev rfl hs11)) ?_
      refine RW.soft Wd.a (v := .pointer (some ⟨bg, 0, none⟩)) (by exact E.move (AF_ev rfl (up rfl hs11))) ?_
      have hst := hst.take (.there (.there .here))
      refine RW.hard Wd.a ?_
      refine H.call0 Try.func31 nm31 rfl (map1 (AF_ev rfl tp)) (Calls.mono (ent_FirstL hst) ?_)
      rintro _ w ⟨rfl, hst⟩
      refine ⟨_, rfl, ?_⟩
      show RW _ _ _ _ _ _ _
      refine RW.hard Wd.a ?_
      refine H.buildSlice (e := 3) (cs := #[.int .i64 5, .int .i64 6, .int .i64 7]) (vs := #[(0, .int .i64 5), (1, .int .i64 6), (2, .int .i64 7)]) (bld3 rfl rfl rfl) (fun _ => by kernel_rfl) hst fun b18 w hst => ?_
      have hst := hst.ownNew (n := 3) (cap := 3) (sz := 1) (xs := iv [5, 6, 7]) (by omega) (by simp [maxLen]) rfl rfl
      refine RW.hard Wd.a ?_
      refine H.call0 Try.func54 nm54 rfl (map1 (AF_ev rfl tp)) (Calls.mono (ent_ofC (us := [5, 6, 7]) rfl rfl Own.tells (by simp) hst) ?_)
      rintro _ w ⟨vX19, rfl, hst⟩
      obtain ⟨X19, c20, rfl, hcX19, hmX19, hlX19, hbX19⟩ := hst.shape
      refine ⟨_, rfl, ?_⟩
      show RW _ _ _ _ _ _ _
      have hst := hst.take (.there (.there .here))
      refine RW.hard Wd.a ?_
      refine H.call0 Try.func29 nm29 rfl (map4 (AF_ev rfl (up rfl (up rfl (up rfl (up rfl tp))))) (AF_ev rfl (up rfl (up rfl tp))) rfl (AF_ev rfl tp)) (Calls.mono (ent_Join (i + 1) 0 (by omega) (by simp only [List.length_append, List.length_map, List.length_cons, List.length_nil]; omega) Own.tells (mkE_ok [5, 6, 7]) hst) ?_)
      rintro _ w ⟨p, es21, hle, rfl, hvses21, hst⟩
      have hp0 := hp0.le hle
      have hO := hO.le hle
      have hK := hK.le hle
      have hL2 := hL2.le hle
      have hEL2 := hEL2.le hle
      have hjles21 := joinL_len (α := Int × Int × List Int × List Int) (i := i) (t := t) (idx := i + 1) (tm := 0) (T := ts (es ++ [y])) (U := ts ([5, 6, 7].map mkE)) (a := vs (es ++ [y])) (b := vs ([5, 6, 7].map mkE)) (by simp [vs, ts]) (by simp [vs, ts])
      rw [← hvses21] at hjles21; simp only [vs, List.length_map] at hjles21
      have hst := refLe hle (hst.take (.there (.there (.there .here))))
      have hst := logLe hle (hst.take (.there (.there (.there (.there .here)))))
      refine ⟨_, rfl, ?_⟩
      show RW _ _ _ _ _ _ _
      refine RW.fin (fun τ => τ 2 = .slice (some ⟨bo, oo, none⟩) os.length e ∧ τ 8 = .pointer (some ⟨b17, 0, none⟩) ∧ τ 9 = .pointer (some ⟨br13, 0, none⟩) ∧ τ 10 = .int .i64 ((j : Nat) : Int) ∧ τ 11 = .pointer (some ⟨bg, 0, none⟩) ∧ τ 57 = .bool true ∧ τ 66 = .bool true ∧ τ 71 = .bool false) ⟨up rfl (up rfl (up rfl (up rfl (up rfl (up rfl hs2))))), up rfl (up rfl (up rfl (up rfl (up rfl (up rfl hs8))))), up rfl (up rfl (up rfl (up rfl (up rfl (up rfl hs9))))), up rfl (up rfl (up rfl (up rfl (up rfl (up rfl hs10))))), up rfl (up rfl (up rfl (up rfl (up rfl (up rfl hs11))))), up rfl (up rfl (up rfl (up rfl (up rfl (up rfl hs57))))), up rfl (up rfl (up rfl (up rfl (up rfl (up rfl hs66))))), up rfl (up rfl (up rfl (up rfl (up rfl (up rfl hs71)))))⟩ ?_
      rintro τ ⟨hs2, hs8, hs9, hs10, hs11, hs57, hs66, hs71⟩
      simp only [List.length_append, List.length_cons, List.length_nil] at hjles21
      refine CW.region ?_
      refine RW.soft Wd.a (v := .pointer (some ⟨bg, 0, none⟩)) (by exact E.move (AF_ev rfl hs11)) ?_
      refine RW.soft Wd.a (v := .pointer (some ⟨bg, 0, none⟩)) (by exact E.move (AF_ev rfl (up rfl hs11))) ?_
      have hst := hst.take (.there (.there .here))
      refine RW.hard Wd.a ?_
      refine H.call0 Try.func30 nm30 rfl (map1 (AF_ev rfl tp)) (Calls.mono (ent_LastL (v := i + ((es21.length : Nat) : Int)) rfl hst) ?_)
      rintro _ w ⟨rfl, hst⟩
      refine ⟨_, rfl, ?_⟩
      show RW _ _ _ _ _ _ _
      refine RW.soft Wd.a (v := .int .i64 (i + ((es21.length : Nat) : Int) + 3)) (by exact E.add (k := .i64) (a := i + ((es21.length : Nat) : Int)) (b := 3) (AF_ev rfl tp) rfl (show IntKind.i64.wrap ((i + ((es21.length : Nat) : Int)) + 3) = i + ((es21.length : Nat) : Int) + 3 from (by rw [IntWalk.i64_in _ (by omega)] <;> omega))) ?_
      refine RW.hard Wd.a ?_
      refine H.call0 Try.func37 nm37 rfl (map3 (AF_ev rfl (up rfl (up rfl (up rfl tp)))) (AF_ev rfl tp) rfl) (Calls.mono (ent_Base_drop (i + ((es21.length : Nat) : Int) + 3) 9 hst) ?_)
      rintro _ w ⟨r22, rfl, hst⟩
      refine ⟨_, rfl, ?_⟩
      show RW _ _ _ _ _ _ _
      refine RW.fin (fun τ => τ 2 = .slice (some ⟨bo, oo, none⟩) os.length e ∧ τ 8 = .pointer (some ⟨b17, 0, none⟩) ∧ τ 9 = .pointer (some ⟨br13, 0, none⟩) ∧ τ 10 = .int .i64 ((j : Nat) : Int) ∧ τ 11 = .pointer (some ⟨bg, 0, none⟩) ∧ τ 57 = .bool true ∧ τ 66 = .bool true ∧ τ 71 = .bool false) ⟨up rfl (up rfl (up rfl (up rfl (up rfl hs2)))), up rfl (up rfl (up rfl (up rfl (up rfl hs8)))), up rfl (up rfl (up rfl (up rfl (up rfl hs9)))), up rfl (up rfl (up rfl (up rfl (up rfl hs10)))), up rfl (up rfl (up rfl (up rfl (up rfl hs11)))), up rfl (up rfl (up rfl (up rfl (up rfl hs57)))), up rfl (up rfl (up rfl (up rfl (up rfl hs66)))), up rfl (up rfl (up rfl (up rfl (up rfl hs71))))⟩ ?_
      rintro τ ⟨hs2, hs8, hs9, hs10, hs11, hs57, hs66, hs71⟩
      refine CW.seq ?_
      refine CW.region ?_
      refine RW.soft Wd.a (v := .pointer (some ⟨b17, 0, none⟩)) (by exact E.move (AF_ev rfl hs8)) ?_
      refine RW.soft Wd.a (v := .pointer (some ⟨br13, 0, none⟩)) (by exact E.move (AF_ev rfl (up rfl hs9))) ?_
      refine RW.soft Wd.a (v := .slice (some ⟨bo, oo, none⟩) os.length e) (by exact E.move (AF_ev rfl (up rfl (up rfl hs2)))) ?_
      refine RW.soft Wd.a (v := .int .i64 ((j : Nat) : Int)) (by exact E.move (AF_ev rfl (up rfl (up rfl (up rfl hs10))))) ?_
      refine RW.soft Wd.a (v := .pointer (some ⟨bo, oo + j * 4, none⟩)) (by exact E.indexAddr (b := bo) (o := oo) (l := os.length) (c := e) (i := ((j : Nat) : Int)) Try.underlying98 sz46 (AF_ev rfl (up rfl tp)) (AF_ev rfl tp) (by omega) (by omega) (by simp)) ?_
      refine RW.soft Wd.a (v := .agg #[.int .i64 kd, .int .i64 ix, .int .i64 tm, .slice Z z.length d]) (by exact E.loadN (b := bo) (o := oo + j * 4) (cs := (LOp.enc ⟨kd, ix, tm, Z, d, z⟩)) Try.underlying46 rfl sz46 (AF_ev rfl tp) rfl (fun j_ u hu => by rw [Nat.add_assoc]; exact Las_at hO hst (by omega) (flat_get LOp.enc_len ho hu))) ?_
      have hst := hst.take (.there .here)
      have hst := hst.take (.there .here)
      refine RW.hard Wd.a ?_
      refine H.call0 Try.func55 nm55 rfl (map3 (AF_ev rfl (up rfl (up rfl (up rfl (up rfl (up rfl tp)))))) (AF_ev rfl (up rfl (up rfl (up rfl (up rfl tp))))) (AF_ev rfl tp)) (Calls.mono (ent_does p.le_refl kd ix tm hkd hix hv (by omega) hzm hL2 hEL2 hst) ?_)
      rintro _ w ⟨p, i25, t26, es23, ys24, hle, hv2, hlen2, rfl, hst⟩
      have hri2 := logRange hst
      have hp0 := hp0.le hle
      have hO := hO.le hle
      have hK := hK.le hle
      have hL2 := hL2.le hle
      have hEL2 := hEL2.le hle
      have hlv2 := vs_len hv2
      have hT2 := ts_eq hv2
      refine ⟨_, rfl, ?_⟩
      show RW _ _ _ _ _ _ _
      refine RW.soft Wd.a (v := .bool true) (by exact E.assign (AF_ev rfl tp)) ?_
      refine RW.fin (fun τ => τ 2 = .slice (some ⟨bo, oo, none⟩) os.length e ∧ τ 8 = .pointer (some ⟨b17, 0, none⟩) ∧ τ 9 = .pointer (some ⟨br13, 0, none⟩) ∧ τ 10 = .int .i64 ((j : Nat) : Int) ∧ τ 11 = .pointer (some ⟨bg, 0, none⟩) ∧ τ 12 = .bool true ∧ τ 57 = .bool true ∧ τ 66 = .bool true ∧ τ 71 = .bool false) ⟨up rfl (up rfl (up rfl (up rfl (up rfl (up rfl (up rfl (up rfl hs2))))))), up rfl (up rfl (up rfl (up rfl (up rfl (up rfl (up rfl (up rfl hs8))))))), up rfl (up rfl (up rfl (up rfl (up rfl (up rfl (up rfl (up rfl hs9))))))), up rfl (up rfl (up rfl (up rfl (up rfl (up rfl (up rfl (up rfl hs10))))))), up rfl (up rfl (up rfl (up rfl (up rfl (up rfl (up rfl (up rfl hs11))))))), tp, up rfl (up rfl (up rfl (up rfl (up rfl (up rfl (up rfl (up rfl hs57))))))), up rfl (up rfl (up rfl (up rfl (up rfl (up rfl (up rfl (up rfl hs66))))))), up rfl (up rfl (up rfl (up rfl (up rfl (up rfl (up rfl (up rfl hs71)))))))⟩ ?_
      rintro τ ⟨hs2, hs8, hs9, hs10, hs11, hs12, hs57, hs66, hs71⟩
      refine CW.seq ?_
      refine CW.region ?_
      refine RW.soft Wd.a (v := .pointer (some ⟨b17, 0, none⟩)) (by exact E.move (AF_ev rfl hs8)) ?_
      refine RW.hard Wd.a ?_
      refine H.call0 Try.func34 nm34 rfl (map3 (AF_ev rfl tp) rfl rfl) (Calls.mono (ent_From 0 2000 (by omega) hst) ?_)
      rintro _ w ⟨p, vX27, es29, hle, rfl, hokes29, hvses29, hst⟩
      obtain ⟨X27, c28, rfl, hcX27, hmX27, hlX27, hbX27⟩ := hst.shape
      have hp0 := hp0.le hle
      have hO := hO.le hle
      have hK := hK.le hle
      have hL2 := hL2.le hle
      have hEL2 := hEL2.le hle
      have hvles29 := congrArg List.length hvses29
      simp only [vs, List.length_map] at hvles29
      have hfles29 := fromL_len (i := i25) (k := 0) (most := 2000) (es := es23)
      have hst := refLe hle (hst.take (.there (.there .here)))
      refine ⟨_, rfl, ?_⟩
      show RW _ _ _ _ _ _ _
      refine RW.soft Wd.a (v := .slice X27 es29.length c28) (by exact E.assign (AF_ev rfl tp)) ?_
      refine RW.fin (fun τ => τ 2 = .slice (some ⟨bo, oo, none⟩) os.length e ∧ τ 8 = .pointer (some ⟨b17, 0, none⟩) ∧ τ 9 = .pointer (some ⟨br13, 0, none⟩) ∧ τ 10 = .int .i64 ((j : Nat) : Int) ∧ τ 11 = .pointer (some ⟨bg, 0, none⟩) ∧ τ 12 = .bool true ∧ τ 13 = .slice X27 es29.length c28 ∧ τ 57 = .bool true ∧ τ 66 = .bool true ∧ τ 71 = .bool false) ⟨up rfl (up rfl (up rfl hs2)), up rfl (up rfl (up rfl hs8)), up rfl (up rfl (up rfl hs9)), up rfl (up rfl (up rfl hs10)), up rfl (up rfl (up rfl hs11)), up rfl (up rfl (up rfl hs12)), tp, up rfl (up rfl (up rfl hs57)), up rfl (up rfl (up rfl hs66)), up rfl (up rfl (up rfl hs71))⟩ ?_
      rintro τ ⟨hs2, hs8, hs9, hs10, hs11, hs12, hs13, hs57, hs66, hs71⟩
      refine CW.seq ?_
      obtain ⟨Xr, cr, hri, hrn, hrE, hrc, hrX, hst⟩ := refOpen hst
      have hEy := hrE
      refine CW.region ?_
      refine RW.soft Wd.a (v := .slice X27 es29.length c28) (by exact E.move (AF_ev rfl hs13)) ?_
      refine RW.soft Wd.a (v := .pointer (some ⟨br13, 0, none⟩)) (by exact E.move (AF_ev rfl (up rfl hs9))) ?_
      refine RW.soft Wd.a (v := .pointer (some ⟨br13, 0, none⟩)) (by exact E.nilCheck (a := ⟨br13, 0, none⟩) (AF_ev rfl tp)) ?_
      refine RW.soft Wd.a (v := .pointer (some ⟨br13, 2, none⟩)) (by exact E.fieldAddr (b := br13) (o := 0) (f := { name := "L", type := 44, offset := 2, embedded := false, tag := "", pkgPath := "", byteOffset := 16 }) (AF_ev rfl tp) Try.underlying106 rfl sz44 rfl) ?_
      refine RW.soft Wd.a (v := .slice Xr ys24.length cr) (by exact E.load (a := ⟨br13, 2, none⟩) Try.underlying44 rfl (AF_ev rfl tp) (hst.cell .here rfl)) ?_
      have hst := hst.take (.there .here)
      have hst := hst.take (.there (.there .here))
      refine RW.hard Wd.a ?_
      refine H.call0 Try.func56 nm56 rfl (map2 (AF_ev rfl (up rfl (up rfl (up rfl (up rfl tp))))) (AF_ev rfl tp)) (Calls.mono (ent_SameL Own.tells Own.tells hokes29 hEy (by rw [hvses29, fromL_all (by omega) (by omega)]; exact hv2) (by omega) hst) ?_)
      rintro _ w ⟨rfl, hst⟩
      refine ⟨_, rfl, ?_⟩
      show RW _ _ _ _ _ _ _
      refine RW.soft Wd.a (v := .bool true) (by exact E.assign (AF_ev rfl tp)) ?_
      refine RW.fin (fun τ => τ 2 = .slice (some ⟨bo, oo, none⟩) os.length e ∧ τ 8 = .pointer (some ⟨b17, 0, none⟩) ∧ τ 9 = .pointer (some ⟨br13, 0, none⟩) ∧ τ 10 = .int .i64 ((j : Nat) : Int) ∧ τ 11 = .pointer (some ⟨bg, 0, none⟩) ∧ τ 12 = .bool true ∧ τ 13 = .slice X27 es29.length c28 ∧ τ 14 = .bool true ∧ τ 57 = .bool true ∧ τ 66 = .bool true ∧ τ 71 = .bool false) ⟨up rfl (up rfl (up rfl (up rfl (up rfl (up rfl (up rfl hs2)))))), up rfl (up rfl (up rfl (up rfl (up rfl (up rfl (up rfl hs8)))))), up rfl (up rfl (up rfl (up rfl (up rfl (up rfl (up rfl hs9)))))), up rfl (up rfl (up rfl (up rfl (up rfl (up rfl (up rfl hs10)))))), up rfl (up rfl (up rfl (up rfl (up rfl (up rfl (up rfl hs11)))))), up rfl (up rfl (up rfl (up rfl (up rfl (up rfl (up rfl hs12)))))), up rfl (up rfl (up rfl (up rfl (up rfl (up rfl (up rfl hs13)))))), tp, up rfl (up rfl (up rfl (up rfl (up rfl (up rfl (up rfl hs57)))))), up rfl (up rfl (up rfl (up rfl (up rfl (up rfl (up rfl hs66)))))), up rfl (up rfl (up rfl (up rfl (up rfl (up rfl (up rfl hs71))))))⟩ ?_
      rintro τ ⟨hs2, hs8, hs9, hs10, hs11, hs12, hs13, hs14, hs57, hs66, hs71⟩
      refine CW.seq ?_
      have hst := hst.take (.there .here)
      have hst := hst.take (.there (.there .here))
      have hst := refClose hri hrn hEy hst
      refine CW.regionD [0, 1, 2, 3, 4, 5, 7, 8, 9, 10, 11, 14, 15, 16, 17, 18, 19, 21, 22, 23, 24, 25] (fun w => w.cell? ⟨bo, oo + j * 4 + 1, none⟩ = some (.int .i64 ix) ∧ w.cell? ⟨bo, oo + j * 4 + 2, none⟩ = some (.int .i64 tm)) mixed ?_
      have hst := hst.drew
      generalize w.drew = w at hst ⊢
      have hS : w.cell? ⟨bo, oo + j * 4 + 1, none⟩ = some (.int .i64 ix) ∧ w.cell? ⟨bo, oo + j * 4 + 2, none⟩ = some (.int .i64 tm) := ⟨(by rw [Nat.add_assoc]; exact Las_at hO hst (by omega) (flat_get LOp.enc_len ho (j := 1) rfl)), (by rw [Nat.add_assoc]; exact Las_at hO hst (by omega) (flat_get LOp.enc_len ho (j := 2) rfl))⟩
      refine RD.take 0 rfl (by kernel_rfl) Wd.a (v := .pointer (some ⟨b17, 0, none⟩)) (fun w hS => by exact E.move (AF_ev rfl hs8)) hS ?_
      refine RD.take 1 rfl (by kernel_rfl) Wd.a (v := .slice (some ⟨bo, oo, none⟩) os.length e) (fun w hS => by exact E.move (AF_ev rfl (up rfl hs2))) hS ?_
      refine RD.take 2 rfl (by kernel_rfl) Wd.a (v := .int .i64 ((j : Nat) : Int)) (fun w hS => by exact E.move (AF_ev rfl (up rfl (up rfl hs10)))) hS ?_
      refine RD.take 3 rfl (by kernel_rfl) Wd.a (v := .pointer (some ⟨bo, oo + j * 4, none⟩)) (fun w hS => by exact E.indexAddr (b := bo) (o := oo) (l := os.length) (c := e) (i := ((j : Nat) : Int)) Try.underlying98 sz46 (AF_ev rfl (up rfl tp)) (AF_ev rfl tp) (by omega) (by omega) (by simp)) hS ?_
      refine RD.take 4 rfl (by kernel_rfl) Wd.a (v := .pointer (some ⟨bo, oo + j * 4 + 1, none⟩)) (fun w hS => by exact E.fieldAddr (b := bo) (o := oo + j * 4) (f := { name := "Index", type := 3, offset := 1, embedded := false, tag := "", pkgPath := "", byteOffset := 8 }) (AF_ev rfl tp) Try.underlying46 rfl sz3 rfl) hS ?_
      refine RD.take 5 rfl (by kernel_rfl) Wd.a (v := .int .i64 ix) (fun w hS => by exact E.load (a := ⟨bo, oo + j * 4 + 1, none⟩) Try.underlying3 rfl (AF_ev rfl tp) hS.1) hS ?_
      refine RD.take 7 rfl (by kernel_rfl) Wd.a (v := .slice (some ⟨bo, oo, none⟩) os.length e) (fun w hS => by exact E.move (AF_ev rfl (up rfl (up rfl (up rfl (up rfl (up rfl (up rfl hs2)))))))) hS ?_
      refine RD.take 8 rfl (by kernel_rfl) Wd.a (v := .int .i64 ((j : Nat) : Int)) (fun w hS => by exact E.move (AF_ev rfl (up rfl (up rfl (up rfl (up rfl (up rfl (up rfl (up rfl hs10))))))))) hS ?_
      refine RD.take 9 rfl (by kernel_rfl) Wd.a (v := .pointer (some ⟨bo, oo + j * 4, none⟩)) (fun w hS => by exact E.indexAddr (b := bo) (o := oo) (l := os.length) (c := e) (i := ((j : Nat) : Int)) Try.underlying98 sz46 (AF_ev rfl (up rfl tp)) (AF_ev rfl tp) (by omega) (by omega) (by simp)) hS ?_
      refine RD.take 10 rfl (by kernel_rfl) Wd.a (v := .pointer (some ⟨bo, oo + j * 4 + 2, none⟩)) (fun w hS => by exact E.fieldAddr (b := bo) (o := oo + j * 4) (f := { name := "Term", type := 3, offset := 2, embedded := false, tag := "", pkgPath := "", byteOffset := 16 }) (AF_ev rfl tp) Try.underlying46 rfl sz3 rfl) hS ?_
      refine RD.take 11 rfl (by kernel_rfl) Wd.a (v := .int .i64 tm) (fun w hS => by exact E.load (a := ⟨bo, oo + j * 4 + 2, none⟩) Try.underlying3 rfl (AF_ev rfl tp) hS.2) hS ?_
      refine RD.take 14 rfl (by kernel_rfl) Wd.a (v := .pointer (some ⟨br13, 0, none⟩)) (fun w hS => by exact E.move (AF_ev rfl (up rfl (up rfl (up rfl (up rfl (up rfl (up rfl (up rfl (up rfl (up rfl (up rfl (up rfl hs9))))))))))))) hS ?_
      refine RD.take 15 rfl (by kernel_rfl) Wd.a (v := .slice (some ⟨bo, oo, none⟩) os.length e) (fun w hS => by exact E.move (AF_ev rfl (up rfl (up rfl (up rfl (up rfl (up rfl (up rfl (up rfl (up rfl (up rfl (up rfl (up rfl (up rfl hs2)))))))))))))) hS ?_
      refine RD.take 16 rfl (by kernel_rfl) Wd.a (v := .int .i64 ((j : Nat) : Int)) (fun w hS => by exact E.move (AF_ev rfl (up rfl (up rfl (up rfl (up rfl (up rfl (up rfl (up rfl (up rfl (up rfl (up rfl (up rfl (up rfl (up rfl hs10))))))))))))))) hS ?_
      refine RD.take 17 rfl (by kernel_rfl) Wd.a (v := .pointer (some ⟨bo, oo + j * 4, none⟩)) (fun w hS => by exact E.indexAddr (b := bo) (o := oo) (l := os.length) (c := e) (i := ((j : Nat) : Int)) Try.underlying98 sz46 (AF_ev rfl (up rfl tp)) (AF_ev rfl tp) (by omega) (by omega) (by simp)) hS ?_
      refine RD.take 18 rfl (by kernel_rfl) Wd.a (v := .pointer (some ⟨bo, oo + j * 4 + 1, none⟩)) (fun w hS => by exact E.fieldAddr (b := bo) (o := oo + j * 4) (f := { name := "Index", type := 3, offset := 1, embedded := false, tag := "", pkgPath := "", byteOffset := 8 }) (AF_ev rfl tp) Try.underlying46 rfl sz3 rfl) hS ?_
      refine RD.take 19 rfl (by kernel_rfl) Wd.a (v := .int .i64 ix) (fun w hS => by exact E.load (a := ⟨bo, oo + j * 4 + 1, none⟩) Try.underlying3 rfl (AF_ev rfl tp) hS.1) hS ?_
      refine RD.take 21 rfl (by kernel_rfl) Wd.a (v := .slice (some ⟨bo, oo, none⟩) os.length e) (fun w hS => by exact E.move (AF_ev rfl (up rfl (up rfl (up rfl (up rfl (up rfl (up rfl (up rfl (up rfl (up rfl (up rfl (up rfl (up rfl (up rfl (up rfl (up rfl (up rfl (up rfl hs2))))))))))))))))))) hS ?_
      refine RD.take 22 rfl (by kernel_rfl) Wd.a (v := .int .i64 ((j : Nat) : Int)) (fun w hS => by exact E.move (AF_ev rfl (up rfl (up rfl (up rfl (up rfl (up rfl (up rfl (up rfl (up rfl (up rfl (up rfl (up rfl (up rfl (up rfl (up rfl (up rfl (up rfl (up rfl (up rfl hs10)))))))))))))))))))) hS ?_
      refine RD.take 23 rfl (by kernel_rfl) Wd.a (v := .pointer (some ⟨bo, oo + j * 4, none⟩)) (fun w hS => by exact E.indexAddr (b := bo) (o := oo) (l := os.length) (c := e) (i := ((j : Nat) : Int)) Try.underlying98 sz46 (AF_ev rfl (up rfl tp)) (AF_ev rfl tp) (by omega) (by omega) (by simp)) hS ?_
      refine RD.take 24 rfl (by kernel_rfl) Wd.a (v := .pointer (some ⟨bo, oo + j * 4 + 2, none⟩)) (fun w hS => by exact E.fieldAddr (b := bo) (o := oo + j * 4) (f := { name := "Term", type := 3, offset := 2, embedded := false, tag := "", pkgPath := "", byteOffset := 16 }) (AF_ev rfl tp) Try.underlying46 rfl sz3 rfl) hS ?_
      refine RD.take 25 rfl (by kernel_rfl) Wd.a (v := .int .i64 tm) (fun w hS => by exact E.load (a := ⟨bo, oo + j * 4 + 2, none⟩) Try.underlying3 rfl (AF_ev rfl tp) hS.2) hS ?_
      refine RD.only 6 rfl (by kernel_rfl) Wd.a ?_
      obtain ⟨kk30, hkk30⟩ : ∃ z, z = nearF ix := ⟨_, rfl⟩
      have hrkk30 := nearF_range ix
      rw [← hkk30] at hrkk30
      refine H.call0 Try.func26 nm26 rfl (map1 (AF_ev rfl (up rfl (up rfl (up rfl (up rfl (up rfl (up rfl (up rfl (up rfl (up rfl (up rfl (up rfl (up rfl (up rfl (up rfl (up rfl (up rfl tp)))))))))))))))))) (Calls.mono (near17C (v := kk30) ix (by omega) hkk30.symm hst) ?_)
      rintro _ w ⟨rfl, hst⟩
      refine ⟨_, rfl, ?_⟩
      have hS : w.cell? ⟨bo, oo + j * 4 + 1, none⟩ = some (.int .i64 ix) ∧ w.cell? ⟨bo, oo + j * 4 + 2, none⟩ = some (.int .i64 tm) := ⟨(by rw [Nat.add_assoc]; exact Las_at hO hst (by omega) (flat_get LOp.enc_len ho (j := 1) rfl)), (by rw [Nat.add_assoc]; exact Las_at hO hst (by omega) (flat_get LOp.enc_len ho (j := 2) rfl))⟩
      refine ⟨fun _ => hS, ?_⟩
      refine RD.only 12 rfl (by kernel_rfl) Wd.a ?_
      refine H.call0 Try.func52 nm52 rfl (map2 (AF_ev rfl (up rfl (up rfl (up rfl (up rfl (up rfl (up rfl (up rfl (up rfl (up rfl (up rfl (up rfl (up rfl tp))))))))))))) rfl) (Calls.mono (kind17 tm 9 (by omega) (by omega) hst) ?_)
      rintro _ w ⟨rfl, hst⟩
      refine ⟨_, rfl, ?_⟩
      have hS : w.cell? ⟨bo, oo + j * 4 + 1, none⟩ = some (.int .i64 ix) ∧ w.cell? ⟨bo, oo + j * 4 + 2, none⟩ = some (.int .i64 tm) := ⟨(by rw [Nat.add_assoc]; exact Las_at hO hst (by omega) (flat_get LOp.enc_len ho (j := 1) rfl)), (by rw [Nat.add_assoc]; exact Las_at hO hst (by omega) (flat_get LOp.enc_len ho (j := 2) rfl))⟩
      refine ⟨fun _ => hS, ?_⟩
      refine RD.only 13 rfl (by kernel_rfl) Wd.a ?_
      have hst := hst.take (.there (.there .here))
      refine H.call0 Try.func34 nm34 rfl (map3 (AF_ev rfl (up rfl (up rfl (up rfl (up rfl (up rfl (up rfl (up rfl (up rfl (up rfl (up rfl (up rfl (up rfl (up rfl (up rfl (up rfl (up rfl (up rfl (up rfl (up rfl (up rfl (up rfl (up rfl (up rfl tp)))))))))))))))))))))))) (AF_ev rfl (up rfl tp)) (AF_ev rfl tp)) (Calls.mono (ent_From kk30 (kindF tm 9) (by omega) hst) ?_)
      rintro _ w ⟨p, vX31, es33, hle, rfl, hokes33, hvses33, hst⟩
      obtain ⟨X31, c32, rfl, hcX31, hmX31, hlX31, hbX31⟩ := hst.shape
      have hp0 := hp0.le hle
      have hO := hO.le hle
      have hK := hK.le hle
      have hL2 := hL2.le hle
      have hEL2 := hEL2.le hle
      have hokes29 := hokes29.le hle
      have hEy := hEy.le hle
      have hvles33 := congrArg List.length hvses33
      simp only [vs, List.length_map] at hvles33
      have hfles33 := fromL_len (i := i25) (k := kk30) (most := kindF tm 9) (es := es23)
      have hst := refLe hle (hst.take (.there (.there .here)))
      refine ⟨_, rfl, ?_⟩
      have hS : w.cell? ⟨bo, oo + j * 4 + 1, none⟩ = some (.int .i64 ix) ∧ w.cell? ⟨bo, oo + j * 4 + 2, none⟩ = some (.int .i64 tm) := ⟨(by rw [Nat.add_assoc]; exact Las_at hO hst (by omega) (flat_get LOp.enc_len ho (j := 1) rfl)), (by rw [Nat.add_assoc]; exact Las_at hO hst (by omega) (flat_get LOp.enc_len ho (j := 2) rfl))⟩
      refine ⟨fun _ => hS, ?_⟩
      refine RD.only 20 rfl (by kernel_rfl) Wd.a ?_
      refine H.call0 Try.func26 nm26 rfl (map1 (AF_ev rfl (up rfl (up rfl (up rfl (up rfl (up rfl (up rfl (up rfl (up rfl tp)))))))))) (Calls.mono (near17C (v := kk30) ix (by omega) hkk30.symm hst) ?_)
      rintro _ w ⟨rfl, hst⟩
      refine ⟨_, rfl, ?_⟩
      have hS : w.cell? ⟨bo, oo + j * 4 + 1, none⟩ = some (.int .i64 ix) ∧ w.cell? ⟨bo, oo + j * 4 + 2, none⟩ = some (.int .i64 tm) := ⟨(by rw [Nat.add_assoc]; exact Las_at hO hst (by omega) (flat_get LOp.enc_len ho (j := 1) rfl)), (by rw [Nat.add_assoc]; exact Las_at hO hst (by omega) (flat_get LOp.enc_len ho (j := 2) rfl))⟩
      refine ⟨fun _ => hS, ?_⟩
      refine RD.only 26 rfl (by kernel_rfl) Wd.a ?_
      refine H.call0 Try.func52 nm52 rfl (map2 (AF_ev rfl (up rfl (up rfl (up rfl (up rfl tp))))) rfl) (Calls.mono (kind17 tm 9 (by omega) (by omega) hst) ?_)
      rintro _ w ⟨rfl, hst⟩
      refine ⟨_, rfl, ?_⟩
      have hS : w.cell? ⟨bo, oo + j * 4 + 1, none⟩ = some (.int .i64 ix) ∧ w.cell? ⟨bo, oo + j * 4 + 2, none⟩ = some (.int .i64 tm) := ⟨(by rw [Nat.add_assoc]; exact Las_at hO hst (by omega) (flat_get LOp.enc_len ho (j := 1) rfl)), (by rw [Nat.add_assoc]; exact Las_at hO hst (by omega) (flat_get LOp.enc_len ho (j := 2) rfl))⟩
      refine ⟨fun _ => hS, ?_⟩
      refine RD.only 27 rfl (by kernel_rfl) Wd.a ?_
      refine H.call0 Try.func57 nm57 rfl (map3 (AF_ev rfl (up rfl (up rfl (up rfl (up rfl (up rfl (up rfl (up rfl (up rfl (up rfl (up rfl (up rfl (up rfl (up rfl (up rfl (up rfl tp)))))))))))))))) (AF_ev rfl (up rfl tp)) (AF_ev rfl tp)) (Calls.mono (ref_From kk30 (kindF tm 9) (by omega) hst) ?_)
      rintro _ w ⟨vX35, rfl, hst⟩
      obtain ⟨X35, c36, rfl, hcX35, hmX35, hlX35, hbX35⟩ := hst.shape
      refine ⟨_, rfl, ?_⟩
      have hS : w.cell? ⟨bo, oo + j * 4 + 1, none⟩ = some (.int .i64 ix) ∧ w.cell? ⟨bo, oo + j * 4 + 2, none⟩ = some (.int .i64 tm) := ⟨(by rw [Nat.add_assoc]; exact Las_at hO hst (by omega) (flat_get LOp.enc_len ho (j := 1) rfl)), (by rw [Nat.add_assoc]; exact Las_at hO hst (by omega) (flat_get LOp.enc_len ho (j := 2) rfl))⟩
      refine ⟨fun _ => hS, ?_⟩
      refine RD.only 28 rfl (by kernel_rfl) Wd.a ?_
      have hst := hst.take (.there (.there .here))
      refine H.call0 Try.func56 nm56 rfl (map2 (AF_ev rfl (up rfl (up rfl (up rfl tp)))) (AF_ev rfl tp)) (Calls.mono (ent_SameL Own.tells Own.tells hokes33 (fromL_ok hEy) (by rw [hvses33, fromL_vs, fromL_vs, hv2]) (by omega) hst) ?_)
      rintro _ w ⟨rfl, hst⟩
      refine ⟨_, rfl, ?_⟩
      have hS : w.cell? ⟨bo, oo + j * 4 + 1, none⟩ = some (.int .i64 ix) ∧ w.cell? ⟨bo, oo + j * 4 + 2, none⟩ = some (.int .i64 tm) := ⟨(by rw [Nat.add_assoc]; exact Las_at hO hst (by omega) (flat_get LOp.enc_len ho (j := 1) rfl)), (by rw [Nat.add_assoc]; exact Las_at hO hst (by omega) (flat_get LOp.enc_len ho (j := 2) rfl))⟩
      refine ⟨fun _ => hS, ?_⟩
      refine RD.only 29 rfl (by kernel_rfl) Wd.a (Hd.value (v := .bool true) (by exact E.assign (AF_ev rfl tp)) ⟨fun h => Bool.noConfusion ((show needs _ _ _ = false by kernel_rfl).symm.trans h), ?_⟩)
      refine RD.fin (by kernel_rfl) (fun τ => τ 2 = .slice (some ⟨bo, oo, none⟩) os.length e ∧ τ 8 = .pointer (some ⟨b17, 0, none⟩) ∧ τ 9 = .pointer (some ⟨br13, 0, none⟩) ∧ τ 10 = .int .i64 ((j : Nat) : Int) ∧ τ 11 = .pointer (some ⟨bg, 0, none⟩) ∧ τ 12 = .bool true ∧ τ 13 = .slice X27 es29.length c28 ∧ τ 14 = .bool true ∧ τ 15 = .bool true ∧ τ 57 = .bool true ∧ τ 66 = .bool true ∧ τ 71 = .bool false) ⟨up rfl (up rfl (up rfl (up rfl (up rfl (up rfl (up rfl (up rfl (up rfl (up rfl (up rfl (up rfl (up rfl (up rfl (up rfl (up rfl (up rfl (up rfl (up rfl (up rfl (up rfl (up rfl (up rfl (up rfl (up rfl (up rfl (up rfl (up rfl (up rfl (up rfl hs2))))))))))))))))))))))))))))), up rfl (up rfl (up rfl (up rfl (up rfl (up rfl (up rfl (up rfl (up rfl (up rfl (up rfl (up rfl (up rfl (up rfl (up rfl (up rfl (up rfl (up rfl (up rfl (up rfl (up rfl (up rfl (up rfl (up rfl (up rfl (up rfl (up rfl (up rfl (up rfl (up rfl hs8))))))))))))))))))))))))))))), up rfl (up rfl (up rfl (up rfl (up rfl (up rfl (up rfl (up rfl (up rfl (up rfl (up rfl (up rfl (up rfl (up rfl (up rfl (up rfl (up rfl (up rfl (up rfl (up rfl (up rfl (up rfl (up rfl (up rfl (up rfl (up rfl (up rfl (up rfl (up rfl (up rfl hs9))))))))))))))))))))))))))))), up rfl (up rfl (up rfl (up rfl (up rfl (up rfl (up rfl (up rfl (up rfl (up rfl (up rfl (up rfl (up rfl (up rfl (up rfl (up rfl (up rfl (up rfl (up rfl (up rfl (up rfl (up rfl (up rfl (up rfl (up rfl (up rfl (up rfl (up rfl (up rfl (up rfl hs10))))))))))))))))))))))))))))), up rfl (up rfl (up rfl (up rfl (up rfl (up rfl (up rfl (up rfl (up rfl (up rfl (up rfl (up rfl (up rfl (up rfl (up rfl (up rfl (up rfl (up rfl (up rfl (up rfl (up rfl (up rfl (up rfl (up rfl (up rfl (up rfl (up rfl (up rfl (up rfl (up rfl hs11))))))))))))))))))))))))))))), up rfl (up rfl (up rfl (up rfl (up rfl (up rfl (up rfl (up rfl (up rfl (up rfl (up rfl (up rfl (up rfl (up rfl (up rfl (up rfl (up rfl (up rfl (up rfl (up rfl (up rfl (up rfl (up rfl (up rfl (up rfl (up rfl (up rfl (up rfl (up rfl (up rfl hs12))))))))))))))))))))))))))))), up rfl (up rfl (up rfl (up rfl (up rfl (up rfl (up rfl (up rfl (up rfl (up rfl (up rfl (up rfl (up rfl (up rfl (up rfl (up rfl (up rfl (up rfl (up rfl (up rfl (up rfl (up rfl (up rfl (up rfl (up rfl (up rfl (up rfl (up rfl (up rfl (up rfl hs13))))))))))))))))))))))))))))), up rfl (up rfl (up rfl (up rfl (up rfl (up rfl (up rfl (up rfl (up rfl (up rfl (up rfl (up rfl (up rfl (up rfl (up rfl (up rfl (up rfl (up rfl (up rfl (up rfl (up rfl (up rfl (up rfl (up rfl (up rfl (up rfl (up rfl (up rfl (up rfl (up rfl hs14))))))))))))))))))))))))))))), tp, up rfl (up rfl (up rfl (up rfl (up rfl (up rfl (up rfl (up rfl (up rfl (up rfl (up rfl (up rfl (up rfl (up rfl (up rfl (up rfl (up rfl (up rfl (up rfl (up rfl (up rfl (up rfl (up rfl (up rfl (up rfl (up rfl (up rfl (up rfl (up rfl (up rfl hs57))))))))))))))))))))))))))))), up rfl (up rfl (up rfl (up rfl (up rfl (up rfl (up rfl (up rfl (up rfl (up rfl (up rfl (up rfl (up rfl (up rfl (up rfl (up rfl (up rfl (up rfl (up rfl (up rfl (up rfl (up rfl (up rfl (up rfl (up rfl (up rfl (up rfl (up rfl (up rfl (up rfl hs66))))))))))))))))))))))))))))), up rfl (up rfl (up rfl (up rfl (up rfl (up rfl (up rfl (up rfl (up rfl (up rfl (up rfl (up rfl (up rfl (up rfl (up rfl (up rfl (up rfl (up rfl (up rfl (up rfl (up rfl (up rfl (up rfl (up rfl (up rfl (up rfl (up rfl (up rfl (up rfl (up rfl hs71)))))))))))))))))))))))))))))⟩ ?_
      rintro τ ⟨hs2, hs8, hs9, hs10, hs11, hs12, hs13, hs14, hs15, hs57, hs66, hs71⟩
      refine CW.seq ?_
      refine CW.seq ?_
      have hst := hst.take (.there (.there .here))
      obtain ⟨Xr, cr, hri, hrn, hrE, hrc, hrX, hst⟩ := refOpen hst
      have hEy := hrE
      refine CW.regionD [0, 1, 2, 3, 4, 5, 6, 7, 8, 9, 10, 11, 13, 14, 15, 16, 17, 18, 21, 23, 25] (fun w => w.cell? ⟨br13, 0, none⟩ = some (.int .i64 i25)) mixed ?_
      have hst := hst.drew
      generalize w.drew = w at hst ⊢
      have hS : w.cell? ⟨br13, 0, none⟩ = some (.int .i64 i25) := hst.cell .here rfl
      refine RD.take 0 rfl (by kernel_rfl) Wd.a (v := .bool true) (fun w hS => by exact E.move (AF_ev rfl hs12)) hS ?_
      refine RD.take 1 rfl (by kernel_rfl) Wd.a (v := .bool false) (fun w hS => by exact E.not (b := true) (AF_ev rfl tp)) hS ?_
      refine RD.take 2 rfl (by kernel_rfl) Wd.a (v := .bool false) (fun w hS => by exact E.move (AF_ev rfl tp)) hS ?_
      refine RD.take 3 rfl (by kernel_rfl) (by exact Wd.yes (x := 132) rfl (AF_ev rfl tp)) (v := .bool true) (fun w hS => by exact E.move (AF_ev rfl (up rfl (up rfl (up rfl hs14))))) hS ?_
      refine RD.take 4 rfl (by kernel_rfl) (by exact Wd.yes (x := 132) rfl (AF_ev rfl (up rfl tp))) (v := .bool false) (fun w hS => by exact E.not (b := true) (AF_ev rfl tp)) hS ?_
      refine RD.take 5 rfl (by kernel_rfl) Wd.a (v := .bool false) (fun w hS => by exact E.pickF (AF_ev rfl (up rfl (up rfl tp))) (AF_ev rfl tp)) hS ?_
      refine RD.take 6 rfl (by kernel_rfl) Wd.a (v := .bool false) (fun w hS => by exact E.move (AF_ev rfl tp)) hS ?_
      refine RD.take 7 rfl (by kernel_rfl) (by exact Wd.yes (x := 136) rfl (AF_ev rfl tp)) (v := .bool true) (fun w hS => by exact E.move (AF_ev rfl (up rfl (up rfl (up rfl (up rfl (up rfl (up rfl (up rfl hs15))))))))) hS ?_
      refine RD.take 8 rfl (by kernel_rfl) (by exact Wd.yes (x := 136) rfl (AF_ev rfl (up rfl tp))) (v := .bool false) (fun w hS => by exact E.not (b := true) (AF_ev rfl tp)) hS ?_
      refine RD.take 9 rfl (by kernel_rfl) Wd.a (v := .bool false) (fun w hS => by exact E.pickF (AF_ev rfl (up rfl (up rfl tp))) (AF_ev rfl tp)) hS ?_
      refine RD.take 10 rfl (by kernel_rfl) Wd.a (v := .bool false) (fun w hS => by exact E.move (AF_ev rfl tp)) hS ?_
      refine RD.take 11 rfl (by kernel_rfl) (by exact Wd.yes (x := 140) rfl (AF_ev rfl tp)) (v := .pointer (some ⟨b17, 0, none⟩)) (fun w hS => by exact E.move (AF_ev rfl (up rfl (up rfl (up rfl (up rfl (up rfl (up rfl (up rfl (up rfl (up rfl (up rfl (up rfl hs8))))))))))))) hS ?_
      refine RD.take 13 rfl (by kernel_rfl) (by exact Wd.yes (x := 140) rfl (AF_ev rfl (up rfl tp))) (v := .pointer (some ⟨br13, 0, none⟩)) (fun w hS => by exact E.move (AF_ev rfl (up rfl (up rfl (up rfl (up rfl (up rfl (up rfl (up rfl (up rfl (up rfl (up rfl (up rfl (up rfl hs9)))))))))))))) hS ?_
      refine RD.take 14 rfl (by kernel_rfl) (by exact Wd.yes (x := 140) rfl (AF_ev rfl (up rfl (up rfl tp)))) (v := .pointer (some ⟨br13, 0, none⟩)) (fun w hS => by exact E.nilCheck (a := ⟨br13, 0, none⟩) (AF_ev rfl tp)) hS ?_
      refine RD.take 15 rfl (by kernel_rfl) (by exact Wd.yes (x := 140) rfl (AF_ev rfl (up rfl (up rfl (up rfl tp))))) (v := .pointer (some ⟨br13, 0, none⟩)) (fun w hS => by exact E.fieldAddr (b := br13) (o := 0) (f := { name := "Index", type := 3, offset := 0, embedded := false, tag := "", pkgPath := "", byteOffset := 0 }) (AF_ev rfl tp) Try.underlying106 rfl sz3 rfl) hS ?_
      refine RD.take 16 rfl (by kernel_rfl) (by exact Wd.yes (x := 140) rfl (AF_ev rfl (up rfl (up rfl (up rfl (up rfl tp)))))) (v := .int .i64 i25) (fun w hS => by exact E.load (a := ⟨br13, 0, none⟩) Try.underlying3 rfl (AF_ev rfl tp) hS) hS ?_
      refine RD.take 17 rfl (by kernel_rfl) (by exact Wd.yes (x := 140) rfl (AF_ev rfl (up rfl (up rfl (up rfl (up rfl (up rfl tp))))))) (v := .int .i64 (i25 + 1)) (fun w hS => by exact E.add (k := .i64) (a := i25) (b := 1) (AF_ev rfl tp) rfl (show IntKind.i64.wrap (i25 + 1) = i25 + 1 from (by rw [IntWalk.i64_in _ (by omega)]))) hS ?_
      refine RD.only 12 rfl (by kernel_rfl) (by exact Wd.yes (x := 140) rfl (AF_ev rfl (up rfl (up rfl (up rfl (up rfl (up rfl (up rfl tp)))))))) ?_
      have hst := hst.take (.there (.there (.there (.there .here))))
      refine H.call0 Try.func31 nm31 rfl (map1 (AF_ev rfl (up rfl (up rfl (up rfl (up rfl (up rfl tp))))))) (Calls.mono (ent_FirstL hst) ?_)
      rintro _ w ⟨rfl, hst⟩
      refine ⟨_, rfl, ?_⟩
      have hS : w.cell? ⟨br13, 0, none⟩ = some (.int .i64 i25) := hst.cell (.there .here) rfl
      refine ⟨fun _ => hS, ?_⟩
      refine RD.take 18 rfl (by kernel_rfl) (by exact Wd.yes (x := 140) rfl (AF_ev rfl (up rfl (up rfl (up rfl (up rfl (up rfl (up rfl (up rfl tp))))))))) (v := .bool false) (fun w hS => by exact E.b (a := (i25 + 1) != (i25 + 1)) (E.neq (k := .i64) (a := i25 + 1) (b := i25 + 1) (AF_ev rfl tp) (AF_ev rfl (up rfl tp))) (by simp)) hS ?_
      refine RD.only 19 rfl (by kernel_rfl) Wd.a (Hd.value (v := .bool false) (by exact E.pickF (AF_ev rfl (up rfl (up rfl (up rfl (up rfl (up rfl (up rfl (up rfl (up rfl tp))))))))) (AF_ev rfl tp)) ⟨fun _ => hS, ?_⟩)
      refine RD.only 20 rfl (by kernel_rfl) Wd.a (Hd.value (v := .bool false) (by exact E.move (AF_ev rfl tp)) ⟨fun _ => hS, ?_⟩)
      refine RD.take 21 rfl (by kernel_rfl) (by exact Wd.yes (x := 150) rfl (AF_ev rfl tp)) (v := .pointer (some ⟨b17, 0, none⟩)) (fun w hS => by exact E.move (AF_ev rfl (up rfl (up rfl (up rfl (up rfl (up rfl (up rfl (up rfl (up rfl (up rfl (up rfl (up rfl (up rfl (up rfl (up rfl (up rfl (up rfl (up rfl (up rfl (up rfl (up rfl (up rfl hs8))))))))))))))))))))))) hS ?_
      refine RD.take 23 rfl (by kernel_rfl) (by exact Wd.yes (x := 150) rfl (AF_ev rfl (up rfl tp))) (v := .pointer (some ⟨br13, 0, none⟩)) (fun w hS => by exact E.move (AF_ev rfl (up rfl (up rfl (up rfl (up rfl (up rfl (up rfl (up rfl (up rfl (up rfl (up rfl (up rfl (up rfl (up rfl (up rfl (up rfl (up rfl (up rfl (up rfl (up rfl (up rfl (up rfl (up rfl hs9)))))))))))))))))))))))) hS ?_
      refine RD.only 22 rfl (by kernel_rfl) (by exact Wd.yes (x := 150) rfl (AF_ev rfl (up rfl (up rfl tp)))) ?_
      refine H.call0 Try.func30 nm30 rfl (map1 (AF_ev rfl (up rfl tp))) (Calls.mono (ent_LastL (v := i25 + ((es23.length : Nat) : Int)) rfl hst) ?_)
      rintro _ w ⟨rfl, hst⟩
      refine ⟨_, rfl, ?_⟩
      have hS : w.cell? ⟨br13, 0, none⟩ = some (.int .i64 i25) := hst.cell (.there .here) rfl
      refine ⟨fun _ => hS, ?_⟩
      refine RD.only 24 rfl (by kernel_rfl) (by exact Wd.yes (x := 150) rfl (AF_ev rfl (up rfl (up rfl (up rfl tp))))) ?_
      have hst := hst.take (.there .here)
      refine H.call0 Try.func58 nm58 rfl (map1 (AF_ev rfl (up rfl tp))) (Calls.mono (ref_Last (by omega) (by omega) hst) ?_)
      rintro _ w ⟨rfl, hst⟩
      refine ⟨_, rfl, ?_⟩
      have hS : w.cell? ⟨br13, 0, none⟩ = some (.int .i64 i25) := hst.cell .here rfl
      refine ⟨fun _ => hS, ?_⟩
      refine RD.take 25 rfl (by kernel_rfl) (by exact Wd.yes (x := 150) rfl (AF_ev rfl (up rfl (up rfl (up rfl (up rfl tp)))))) (v := .bool false) (fun w hS => by exact E.b (a := (i25 + ((es23.length : Nat) : Int)) != (i25 + ((ys24.length : Nat) : Int))) (E.neq (k := .i64) (a := i25 + ((es23.length : Nat) : Int)) (b := i25 + ((ys24.length : Nat) : Int)) (AF_ev rfl (up rfl tp)) (AF_ev rfl tp)) (by rw [bne_eq_false_iff_eq]; omega)) hS ?_
      refine RD.only 26 rfl (by kernel_rfl) Wd.a (Hd.value (v := .bool false) (by exact E.pickF (AF_ev rfl (up rfl (up rfl (up rfl (up rfl (up rfl tp)))))) (AF_ev rfl tp)) ⟨fun _ => hS, ?_⟩)
      refine RD.fin (by kernel_rfl) (fun τ => τ 2 = .slice (some ⟨bo, oo, none⟩) os.length e ∧ τ 8 = .pointer (some ⟨b17, 0, none⟩) ∧ τ 9 = .pointer (some ⟨br13, 0, none⟩) ∧ τ 10 = .int .i64 ((j : Nat) : Int) ∧ τ 11 = .pointer (some ⟨bg, 0, none⟩) ∧ τ 12 = .bool true ∧ τ 13 = .slice X27 es29.length c28 ∧ τ 14 = .bool true ∧ τ 15 = .bool true ∧ τ 57 = .bool true ∧ τ 66 = .bool true ∧ τ 71 = .bool false ∧ τ 156 = .bool false) ⟨up rfl (up rfl (up rfl (up rfl (up rfl (up rfl (up rfl (up rfl (up rfl (up rfl (up rfl (up rfl (up rfl (up rfl (up rfl (up rfl (up rfl (up rfl (up rfl (up rfl (up rfl (up rfl (up rfl (up rfl (up rfl (up rfl (up rfl hs2)))))))))))))))))))))))))), up rfl (up rfl (up rfl (up rfl (up rfl (up rfl (up rfl (up rfl (up rfl (up rfl (up rfl (up rfl (up rfl (up rfl (up rfl (up rfl (up rfl (up rfl (up rfl (up rfl (up rfl (up rfl (up rfl (up rfl (up rfl (up rfl (up rfl hs8)))))))))))))))))))))))))), up rfl (up rfl (up rfl (up rfl (up rfl (up rfl (up rfl (up rfl (up rfl (up rfl (up rfl (up rfl (up rfl (up rfl (up rfl (up rfl (up rfl (up rfl (up rfl (up rfl (up rfl (up rfl (up rfl (up rfl (up rfl (up rfl (up rfl hs9)))))))))))))))))))))))))), up rfl (up rfl (up rfl (up rfl (up rfl (up rfl (up rfl (up rfl (up rfl (up rfl (up rfl (up rfl (up rfl (up rfl (up rfl (up rfl (up rfl (up rfl (up rfl (up rfl (up rfl (up rfl (up rfl (up rfl (up rfl (up rfl (up rfl hs10)))))))))))))))))))))))))), up rfl (up rfl (up rfl (up rfl (up rfl (up rfl (up rfl (up rfl (up rfl (up rfl (up rfl (up rfl (up rfl (up rfl (up rfl (up rfl (up rfl (up rfl (up rfl (up rfl (up rfl (up rfl (up rfl (up rfl (up rfl (up rfl (up rfl hs11)))))))))))))))))))))))))), up rfl (up rfl (up rfl (up rfl (up rfl (up rfl (up rfl (up rfl (up rfl (up rfl (up rfl (up rfl (up rfl (up rfl (up rfl (up rfl (up rfl (up rfl (up rfl (up rfl (up rfl (up rfl (up rfl (up rfl (up rfl (up rfl (up rfl hs12)))))))))))))))))))))))))), up rfl (up rfl (up rfl (up rfl (up rfl (up rfl (up rfl (up rfl (up rfl (up rfl (up rfl (up rfl (up rfl (up rfl (up rfl (up rfl (up rfl (up rfl (up rfl (up rfl (up rfl (up rfl (up rfl (up rfl (up rfl (up rfl (up rfl hs13)))))))))))))))))))))))))), up rfl (up rfl (up rfl (up rfl (up rfl (up rfl (up rfl (up rfl (up rfl (up rfl (up rfl (up rfl (up rfl (up rfl (up rfl (up rfl (up rfl (up rfl (up rfl (up rfl (up rfl (up rfl (up rfl (up rfl (up rfl (up rfl (up rfl hs14)))))))))))))))))))))))))), up rfl (up rfl (up rfl (up rfl (up rfl (up rfl (up rfl (up rfl (up rfl (up rfl (up rfl (up rfl (up rfl (up rfl (up rfl (up rfl (up rfl (up rfl (up rfl (up rfl (up rfl (up rfl (up rfl (up rfl (up rfl (up rfl (up rfl hs15)))))))))))))))))))))))))), up rfl (up rfl (up rfl (up rfl (up rfl (up rfl (up rfl (up rfl (up rfl (up rfl (up rfl (up rfl (up rfl (up rfl (up rfl (up rfl (up rfl (up rfl (up rfl (up rfl (up rfl (up rfl (up rfl (up rfl (up rfl (up rfl (up rfl hs57)))))))))))))))))))))))))), up rfl (up rfl (up rfl (up rfl (up rfl (up rfl (up rfl (up rfl (up rfl (up rfl (up rfl (up rfl (up rfl (up rfl (up rfl (up rfl (up rfl (up rfl (up rfl (up rfl (up rfl (up rfl (up rfl (up rfl (up rfl (up rfl (up rfl hs66)))))))))))))))))))))))))), up rfl (up rfl (up rfl (up rfl (up rfl (up rfl (up rfl (up rfl (up rfl (up rfl (up rfl (up rfl (up rfl (up rfl (up rfl (up rfl (up rfl (up rfl (up rfl (up rfl (up rfl (up rfl (up rfl (up rfl (up rfl (up rfl (up rfl hs71)))))))))))))))))))))))))), tp⟩ ?_
      rintro τ ⟨hs2, hs8, hs9, hs10, hs11, hs12, hs13, hs14, hs15, hs57, hs66, hs71, hs156⟩
      refine CW.condF (AF_ev rfl hs156) ?_
      refine CW.skip ?_
      refine Th.n ?_
      refine CW.seq ?_
      refine CW.seq ?_
      have hst := hst.take (.there (.there .here))
      have hst := hst.take (.there .here)
      have hst := refClose hri hrn hEy hst
      have hl3 := hvles29
      refine CW.region ?_
      refine RW.soft Wd.a (v := .int .i64 0) (by exact E.assign rfl) ?_
      refine RW.fin (fun τ => τ 2 = .slice (some ⟨bo, oo, none⟩) os.length e ∧ τ 8 = .pointer (some ⟨b17, 0, none⟩) ∧ τ 9 = .pointer (some ⟨br13, 0, none⟩) ∧ τ 10 = .int .i64 ((j : Nat) : Int) ∧ τ 11 = .pointer (some ⟨bg, 0, none⟩) ∧ τ 12 = .bool true ∧ τ 13 = .slice X27 es29.length c28 ∧ τ 14 = .bool true ∧ τ 15 = .bool true ∧ τ 16 = .int .i64 0 ∧ τ 57 = .bool true ∧ τ 66 = .bool true ∧ τ 71 = .bool false ∧ τ 156 = .bool false) ⟨up rfl hs2, up rfl hs8, up rfl hs9, up rfl hs10, up rfl hs11, up rfl hs12, up rfl hs13, up rfl hs14, up rfl hs15, tp, up rfl hs57, up rfl hs66, up rfl hs71, up rfl hs156⟩ ?_
      rintro τ ⟨hs2, hs8, hs9, hs10, hs11, hs12, hs13, hs14, hs15, hs16, hs57, hs66, hs71, hs156⟩
      refine CW.block ?_
      have hst := hst.take (.there (.there (.there (.there .here))))
      have hst := hst.take (.there .here)
      have hst := hst.take (.there (.there .here))
      have hst := (hst.take (.there (.there (.there .here)))).drop
      have hst := (hst.take (.there (.there (.there .here)))).drop
      have hst := (hst.take (.there (.there (.there .here)))).drop
      have hst := (hst.take (.there (.there (.there .here)))).drop
      refine CW.loop (fun (k : Nat) (τ : Fr) (w : World) => ∃ (m : Nat) (xs : List Value), m ≤ es29.length ∧ k = es29.length - m ∧ τ 2 = .slice (some ⟨bo, oo, none⟩) os.length e ∧ τ 8 = .pointer (some ⟨b17, 0, none⟩) ∧ τ 9 = .pointer (some ⟨br13, 0, none⟩) ∧ τ 10 = .int .i64 ((j : Nat) : Int) ∧ τ 13 = .slice X27 es29.length c28 ∧ τ 16 = .int .i64 ((m : Nat) : Int) ∧ St p w (LogB p b17 i25 t26 es23 :: RefB p br13 i25 t26 ys24 :: Own 58 4 (.slice X27 es29.length c28) es29.length xs :: R)) (es29.length - 0) ⟨0, _, by omega, rfl, hs2, hs8, hs9, hs10, hs13, (int_eq (a := 0) hs16 (by omega)), hst⟩ ?_
      clear hst
      rintro k τ w ⟨m, xs, hm, hkm, hs2, hs8, hs9, hs10, hs13, hs16, hst⟩
      refine CW.seq ?_
      refine CW.seq ?_
      refine CW.region ?_
      refine RW.soft Wd.a (v := .int .i64 ((m : Nat) : Int)) (by exact E.move (AF_ev rfl hs16)) ?_
      refine RW.soft Wd.a (v := .slice X27 es29.length c28) (by exact E.move (AF_ev rfl (up rfl hs13))) ?_
      refine RW.soft Wd.a (v := .int .i64 ((es29.length : Nat) : Int)) (by exact E.lenS (p := X27) (l := es29.length) (c := c28) Try.underlying44 (AF_ev rfl tp)) ?_
      refine RW.soft Wd.a (v := .bool (decide (((m : Nat) : Int) < ((es29.length : Nat) : Int)))) (by exact E.lss (k := .i64) (a := ((m : Nat) : Int)) (b := ((es29.length : Nat) : Int)) (AF_ev rfl (up rfl (up rfl tp))) (AF_ev rfl tp)) ?_
      refine RW.fin (fun τ => τ 2 = .slice (some ⟨bo, oo, none⟩) os.length e ∧ τ 8 = .pointer (some ⟨b17, 0, none⟩) ∧ τ 9 = .pointer (some ⟨br13, 0, none⟩) ∧ τ 10 = .int .i64 ((j : Nat) : Int) ∧ τ 13 = .slice X27 es29.length c28 ∧ τ 16 = .int .i64 ((m : Nat) : Int) ∧ τ 160 = .bool (decide (((m : Nat) : Int) < ((es29.length : Nat) : Int)))) ⟨up rfl (up rfl (up rfl (up rfl hs2))), up rfl (up rfl (up rfl (up rfl hs8))), up rfl (up rfl (up rfl (up rfl hs9))), up rfl (up rfl (up rfl (up rfl hs10))), up rfl (up rfl (up rfl (up rfl hs13))), up rfl (up rfl (up rfl (up rfl hs16))), tp⟩ ?_
      rintro τ ⟨hs2, hs8, hs9, hs10, hs13, hs16, hs160⟩
      refine CW.cond (AF_ev rfl hs160) (fun hc37 => ?_) (fun hc37 => ?_)
      · have hc37_ := hc37
        try simp only [decide_eq_true_eq, decide_eq_false_iff_not, Bool.and_eq_true, Bool.or_eq_true, Bool.and_eq_false_iff, Bool.or_eq_false_iff, Bool.not_eq_true', Bool.not_eq_false', beq_iff_eq, beq_eq_false_iff_ne, bne_iff_ne, bne_eq_false_iff_eq, ne_eq, Int.not_lt, Int.not_le, gt_iff_lt, ge_iff_le] at hc37_
        refine CW.skip ?_
        refine Th.n ?_
        refine CW.seq ?_
        refine CW.block ?_
        obtain ⟨g3, rfl⟩ := hbX27 (by omega)
        refine CW.region ?_
        refine RW.soft Wd.a (v := .slice (some ⟨g3, 0, none⟩) es29.length c28) (by exact E.move (AF_ev rfl hs13)) ?_
        refine RW.soft Wd.a (v := .int .i64 ((m : Nat) : Int)) (by exact E.move (AF_ev rfl (up rfl hs16))) ?_
        refine RW.soft Wd.a (v := .agg #[.int .i64 88, .int .i64 0, .slice none 0 0, .slice none 0 0]) (by exact E.build (vs := #[(0, .int .i64 88)]) (bld1 rfl) (by kernel_rfl)) ?_
        refine RW.soft Wd.a (v := .pointer (some ⟨g3, m * 4, none⟩)) (by exact E.indexAddr (b := g3) (o := 0) (l := es29.length) (c := c28) (i := ((m : Nat) : Int)) Try.underlying44 sz58 (AF_ev rfl (up rfl (up rfl tp))) (AF_ev rfl (up rfl tp)) (by omega) (by omega) (by simp)) ?_
        refine RW.hard Wd.a ?_
        refine H.storeOwn (b := g3) (o := m * 4) (k := es29.length) (c := c28) (v := .agg #[.int .i64 88, .int .i64 0, .slice none 0 0, .slice none 0 0]) (AF_ev rfl tp) (AF_ev rfl (up rfl tp)) hst (.there (.there .here)) (by omega) sz58 (show m * 4 + 4 ≤ es29.length * 4 by omega) (by simp [Value.cells, Value.oneCell']) fun xs38 w hst => ?_
        refine RW.nil ?_
        refine Bl.n ?_
        refine Th.n ?_
        refine CW.region ?_
        refine RW.soft Wd.a (v := .int .i64 ((m : Nat) : Int)) (by exact E.move (AF_ev rfl (u0 (up rfl (up rfl (up rfl (up rfl hs16))))))) ?_
        refine RW.soft Wd.a (v := .int .i64 (((m : Nat) : Int) + 1)) (by exact E.add (k := .i64) (a := ((m : Nat) : Int)) (b := 1) (AF_ev rfl tp) rfl (show IntKind.i64.wrap (((m : Nat) : Int) + 1) = ((m : Nat) : Int) + 1 from (by rw [IntWalk.i64_in _ (by omega)]))) ?_
        refine RW.soft Wd.a (v := .int .i64 (((m : Nat) : Int) + 1)) (by exact E.assign (AF_ev rfl tp)) ?_
        refine RW.nil ?_
        refine Th.n ?_
        have hst := hst.take (.there (.there .here))
        have hst := hst.take (.there (.there .here))
        exact ⟨es29.length - (m + 1), by omega, m + 1, xs38, (by omega), (by omega), up rfl (up rfl (up rfl (u0 (up rfl (up rfl (up rfl (up rfl hs2))))))), up rfl (up rfl (up rfl (u0 (up rfl (up rfl (up rfl (up rfl hs8))))))), up rfl (up rfl (up rfl (u0 (up rfl (up rfl (up rfl (up rfl hs9))))))), up rfl (up rfl (up rfl (u0 (up rfl (up rfl (up rfl (up rfl hs10))))))), up rfl (up rfl (up rfl (u0 (up rfl (up rfl (up rfl (up rfl hs13))))))), (int_eq (a := ((m : Nat) : Int) + 1) tp (by omega)), hst⟩
      · have hc37_ := hc37
        try simp only [decide_eq_true_eq, decide_eq_false_iff_not, Bool.and_eq_true, Bool.or_eq_true, Bool.and_eq_false_iff, Bool.or_eq_false_iff, Bool.not_eq_true', Bool.not_eq_false', beq_iff_eq, beq_eq_false_iff_ne, bne_iff_ne, bne_eq_false_iff_eq, ne_eq, Int.not_lt, Int.not_le, gt_iff_lt, ge_iff_le] at hc37_
        refine CW.exit ?_
        refine Th.x ?_
        refine Th.x ?_
        refine Bl.x ?_
        refine Th.n ?_
        refine CW.seq ?_
        have hst := hst.take (.there .here)
        obtain ⟨Xr, cr, hri, hrn, hrE, hrc, hrX, hst⟩ := refOpen hst
        have hEy := hrE
        refine CW.region ?_
        refine RW.soft Wd.a (v := .pointer (some ⟨br13, 0, none⟩)) (by exact E.move (AF_ev rfl hs9)) ?_
        refine RW.soft Wd.a (v := .pointer (some ⟨br13, 0, none⟩)) (by exact E.nilCheck (a := ⟨br13, 0, none⟩) (AF_ev rfl tp)) ?_
        refine RW.soft Wd.a (v := .pointer (some ⟨br13, 0, none⟩)) (by exact E.fieldAddr (b := br13) (o := 0) (f := { name := "Index", type := 3, offset := 0, embedded := false, tag := "", pkgPath := "", byteOffset := 0 }) (AF_ev rfl tp) Try.underlying106 rfl sz3 rfl) ?_
        refine RW.soft Wd.a (v := .int .i64 i25) (by exact E.load (a := ⟨br13, 0, none⟩) Try.underlying3 rfl (AF_ev rfl tp) (hst.cell .here rfl)) ?_
        refine RW.soft Wd.a (v := .int .i64 (i25 - 1)) (by exact E.sub (k := .i64) (a := i25) (b := 1) (AF_ev rfl tp) rfl (show IntKind.i64.wrap (i25 - 1) = i25 - 1 from (by rw [IntWalk.i64_in _ (by omega)]))) ?_
        refine RW.soft Wd.a (v := .int .i64 (i25 - 1)) (by exact E.assign (AF_ev rfl tp)) ?_
        refine RW.fin (fun τ => τ 2 = .slice (some ⟨bo, oo, none⟩) os.length e ∧ τ 8 = .pointer (some ⟨b17, 0, none⟩) ∧ τ 9 = .pointer (some ⟨br13, 0, none⟩) ∧ τ 10 = .int .i64 ((j : Nat) : Int) ∧ τ 13 = .slice X27 es29.length c28 ∧ τ 16 = .int .i64 ((m : Nat) : Int) ∧ τ 17 = .int .i64 (i25 - 1) ∧ τ 160 = .bool false) ⟨up rfl (up rfl (up rfl (up rfl (up rfl (up rfl hs2))))), up rfl (up rfl (up rfl (up rfl (up rfl (up rfl hs8))))), up rfl (up rfl (up rfl (up rfl (up rfl (up rfl hs9))))), up rfl (up rfl (up rfl (up rfl (up rfl (up rfl hs10))))), up rfl (up rfl (up rfl (up rfl (up rfl (up rfl hs13))))), up rfl (up rfl (up rfl (up rfl (up rfl (up rfl hs16))))), tp, up rfl (up rfl (up rfl (up rfl (up rfl (up rfl (Eq.trans hs160 (congrArg Value.bool hc37)))))))⟩ ?_
        rintro τ ⟨hs2, hs8, hs9, hs10, hs13, hs16, hs17, hs160⟩
        refine CW.block ?_
        have hst := hst.take (.there .here)
        have hst := hst.take (.there .here)
        have hst := refClose hri hrn hEy hst
        have hst := hst.take (.there .here)
        have hst := (hst.take (.there (.there .here))).drop
        refine CW.loop (fun (k : Nat) (τ : Fr) (w : World) => ∃ (p : Pers) (m : Nat), p0.le p ∧ Las p 4 (.slice (some ⟨bo, oo, none⟩) os.length e) os.length (os.flatMap LOp.enc) ∧ LsOk p os ∧ EsOk p ys24 ∧ m ≤ ys24.length + 3 ∧ k = ys24.length + 3 - m ∧ τ 2 = .slice (some ⟨bo, oo, none⟩) os.length e ∧ τ 8 = .pointer (some ⟨b17, 0, none⟩) ∧ τ 9 = .pointer (some ⟨br13, 0, none⟩) ∧ τ 10 = .int .i64 ((j : Nat) : Int) ∧ τ 17 = .int .i64 (i25 - 1 + ((m : Nat) : Int)) ∧ St p w (LogB p b17 i25 t26 es23 :: RefB p br13 i25 t26 ys24 :: R)) (ys24.length + 3 - 0) ⟨p, 0, hp0, hO, hK, hEy, (by omega), rfl, hs2, hs8, hs9, hs10, (int_eq (a := i25 - 1) hs17 (by omega)), hst⟩ ?_
        clear hst
        rintro k τ w ⟨p, m, hp0, hO, hK, hEy, hm, hkm, hs2, hs8, hs9, hs10, hs17, hst⟩
        refine CW.seq ?_
        refine CW.seq ?_
        refine CW.region ?_
        refine RW.soft Wd.a (v := .int .i64 (i25 - 1 + ((m : Nat) : Int))) (by exact E.move (AF_ev rfl hs17)) ?_
        refine RW.soft Wd.a (v := .pointer (some ⟨br13, 0, none⟩)) (by exact E.move (AF_ev rfl (up rfl hs9))) ?_
        have hst := hst.take (.there .here)
        refine RW.hard Wd.a ?_
        refine H.call0 Try.func58 nm58 rfl (map1 (AF_ev rfl tp)) (Calls.mono (ref_LastL hst) ?_)
        rintro _ w ⟨rfl, hst⟩
        refine ⟨_, rfl, ?_⟩
        show RW _ _ _ _ _ _ _
        refine RW.soft Wd.a (v := .int .i64 (i25 + ((ys24.length : Nat) : Int) + 1)) (by exact E.add (k := .i64) (a := i25 + ((ys24.length : Nat) : Int)) (b := 1) (AF_ev rfl tp) rfl (show IntKind.i64.wrap ((i25 + ((ys24.length : Nat) : Int)) + 1) = i25 + ((ys24.length : Nat) : Int) + 1 from (by rw [IntWalk.i64_in _ (by omega)] <;> omega))) ?_
        refine RW.soft Wd.a (v := .bool (decide ((i25 - 1 + ((m : Nat) : Int)) ≤ (i25 + ((ys24.length : Nat) : Int) + 1)))) (by exact E.leq (k := .i64) (a := i25 - 1 + ((m : Nat) : Int)) (b := i25 + ((ys24.length : Nat) : Int) + 1) (AF_ev rfl (up rfl (up rfl (up rfl tp)))) (AF_ev rfl tp)) ?_
        refine RW.fin (fun τ => τ 2 = .slice (some ⟨bo, oo, none⟩) os.length e ∧ τ 8 = .pointer (some ⟨b17, 0, none⟩) ∧ τ 9 = .pointer (some ⟨br13, 0, none⟩) ∧ τ 10 = .int .i64 ((j : Nat) : Int) ∧ τ 17 = .int .i64 (i25 - 1 + ((m : Nat) : Int)) ∧ τ 176 = .bool (decide ((i25 - 1 + ((m : Nat) : Int)) ≤ (i25 + ((ys24.length : Nat) : Int) + 1)))) ⟨up rfl (up rfl (up rfl (up rfl (up rfl hs2)))), up rfl (up rfl (up rfl (up rfl (up rfl hs8)))), up rfl (up rfl (up rfl (up rfl (up rfl hs9)))), up rfl (up rfl (up rfl (up rfl (up rfl hs10)))), up rfl (up rfl (up rfl (up rfl (up rfl hs17)))), tp⟩ ?_
        rintro τ ⟨hs2, hs8, hs9, hs10, hs17, hs176⟩
        refine CW.cond (AF_ev rfl hs176) (fun hc39 => ?_) (fun hc39 => ?_)
        · have hc39_ := hc39
          try simp only [decide_eq_true_eq, decide_eq_false_iff_not, Bool.and_eq_true, Bool.or_eq_true, Bool.and_eq_false_iff, Bool.or_eq_false_iff, Bool.not_eq_true', Bool.not_eq_false', beq_iff_eq, beq_eq_false_iff_ne, bne_iff_ne, bne_eq_false_iff_eq, ne_eq, Int.not_lt, Int.not_le, gt_iff_lt, ge_iff_le] at hc39_
          refine CW.skip ?_
          refine Th.n ?_
          refine CW.seq ?_
          refine CW.block ?_
          refine CW.seq ?_
          refine CW.region ?_
          refine RW.soft Wd.a (v := .pointer (some ⟨b17, 0, none⟩)) (by exact E.move (AF_ev rfl hs8)) ?_
          refine RW.soft Wd.a (v := .int .i64 (i25 - 1 + ((m : Nat) : Int))) (by exact E.move (AF_ev rfl (up rfl hs17))) ?_
          have hst := hst.take (.there .here)
          refine RW.hard Wd.a ?_
          refine H.call0 Try.func32 nm32 rfl (map2 (AF_ev rfl (up rfl tp)) (AF_ev rfl tp)) (Calls.mono (ent_TermL (v := termT i25 t26 (ts es23) (i25 - 1 + ((m : Nat) : Int))) (u := termE i25 (ts es23) (i25 - 1 + ((m : Nat) : Int))) (i25 - 1 + ((m : Nat) : Int)) (by omega) rfl rfl hst) ?_)
          rintro _ w ⟨rfl, hst⟩
          refine ⟨_, rfl, ?_⟩
          show RW _ _ _ _ _ _ _
          refine RW.soft Wd.a (v := .tuple #[.int .i64 (termT i25 t26 (ts es23) (i25 - 1 + ((m : Nat) : Int))), .int .i64 (termE i25 (ts es23) (i25 - 1 + ((m : Nat) : Int)))]) (by exact E.move (AF_ev rfl tp)) ?_
          refine RW.soft Wd.a (v := .int .i64 (termT i25 t26 (ts es23) (i25 - 1 + ((m : Nat) : Int)))) (by exact E.extract (vs := #[.int .i64 (termT i25 t26 (ts es23) (i25 - 1 + ((m : Nat) : Int))), .int .i64 (termE i25 (ts es23) (i25 - 1 + ((m : Nat) : Int)))]) (AF_ev rfl tp) rfl) ?_
          refine RW.soft Wd.a (v := .int .i64 (termE i25 (ts es23) (i25 - 1 + ((m : Nat) : Int)))) (by exact E.extract (vs := #[.int .i64 (termT i25 t26 (ts es23) (i25 - 1 + ((m : Nat) : Int))), .int .i64 (termE i25 (ts es23) (i25 - 1 + ((m : Nat) : Int)))]) (AF_ev rfl (up rfl tp)) rfl) ?_
          refine RW.soft Wd.a (v := .int .i64 (termT i25 t26 (ts es23) (i25 - 1 + ((m : Nat) : Int)))) (by exact E.assign (AF_ev rfl (up rfl tp))) ?_
          refine RW.soft Wd.a (v := .int .i64 (termE i25 (ts es23) (i25 - 1 + ((m : Nat) : Int)))) (by exact E.assign (AF_ev rfl (up rfl tp))) ?_
          refine RW.fin (fun τ => τ 2 = .slice (some ⟨bo, oo, none⟩) os.length e ∧ τ 8 = .pointer (some ⟨b17, 0, none⟩) ∧ τ 9 = .pointer (some ⟨br13, 0, none⟩) ∧ τ 10 = .int .i64 ((j : Nat) : Int) ∧ τ 17 = .int .i64 (i25 - 1 + ((m : Nat) : Int)) ∧ τ 18 = .int .i64 (termT i25 t26 (ts es23) (i25 - 1 + ((m : Nat) : Int))) ∧ τ 19 = .int .i64 (termE i25 (ts es23) (i25 - 1 + ((m : Nat) : Int))) ∧ τ 176 = .bool true) ⟨up rfl (up rfl (up rfl (up rfl (up rfl (up rfl (up rfl (up rfl hs2))))))), up rfl (up rfl (up rfl (up rfl (up rfl (up rfl (up rfl (up rfl hs8))))))), up rfl (up rfl (up rfl (up rfl (up rfl (up rfl (up rfl (up rfl hs9))))))), up rfl (up rfl (up rfl (up rfl (up rfl (up rfl (up rfl (up rfl hs10))))))), up rfl (up rfl (up rfl (up rfl (up rfl (up rfl (up rfl (up rfl hs17))))))), up rfl tp, tp, up rfl (up rfl (up rfl (up rfl (up rfl (up rfl (up rfl (up rfl (Eq.trans hs176 (congrArg Value.bool hc39)))))))))⟩ ?_
          rintro τ ⟨hs2, hs8, hs9, hs10, hs17, hs18, hs19, hs176⟩
          refine CW.seq ?_
          refine CW.region ?_
          refine RW.soft Wd.a (v := .pointer (some ⟨br13, 0, none⟩)) (by exact E.move (AF_ev rfl hs9)) ?_
          refine RW.soft Wd.a (v := .int .i64 (i25 - 1 + ((m : Nat) : Int))) (by exact E.move (AF_ev rfl (up rfl hs17))) ?_
          have hst := hst.take (.there .here)
          refine RW.hard Wd.a ?_
          refine H.call0 Try.func59 nm59 rfl (map2 (AF_ev rfl (up rfl tp)) (AF_ev rfl tp)) (Calls.mono (ref_Term (i25 - 1 + ((m : Nat) : Int)) (by omega) hst) ?_)
          rintro _ w ⟨rfl, hst⟩
          refine ⟨_, rfl, ?_⟩
          show RW _ _ _ _ _ _ _
          refine RW.soft Wd.a (v := .tuple #[.int .i64 (termT i25 t26 (ts ys24) (i25 - 1 + ((m : Nat) : Int))), .int .i64 (termE i25 (ts ys24) (i25 - 1 + ((m : Nat) : Int)))]) (by exact E.move (AF_ev rfl tp)) ?_
          refine RW.soft Wd.a (v := .int .i64 (termT i25 t26 (ts ys24) (i25 - 1 + ((m : Nat) : Int)))) (by exact E.extract (vs := #[.int .i64 (termT i25 t26 (ts ys24) (i25 - 1 + ((m : Nat) : Int))), .int .i64 (termE i25 (ts ys24) (i25 - 1 + ((m : Nat) : Int)))]) (AF_ev rfl tp) rfl) ?_
          refine RW.soft Wd.a (v := .int .i64 (termE i25 (ts ys24) (i25 - 1 + ((m : Nat) : Int)))) (by exact E.extract (vs := #[.int .i64 (termT i25 t26 (ts ys24) (i25 - 1 + ((m : Nat) : Int))), .int .i64 (termE i25 (ts ys24) (i25 - 1 + ((m : Nat) : Int)))]) (AF_ev rfl (up rfl tp)) rfl) ?_
          refine RW.soft Wd.a (v := .int .i64 (termT i25 t26 (ts ys24) (i25 - 1 + ((m : Nat) : Int)))) (by exact E.assign (AF_ev rfl (up rfl tp))) ?_
          refine RW.soft Wd.a (v := .int .i64 (termE i25 (ts ys24) (i25 - 1 + ((m : Nat) : Int)))) (by exact E.assign (AF_ev rfl (up rfl tp))) ?_
          refine RW.fin (fun τ => τ 2 = .slice (some ⟨bo, oo, none⟩) os.length e ∧ τ 8 = .pointer (some ⟨b17, 0, none⟩) ∧ τ 9 = .pointer (some ⟨br13, 0, none⟩) ∧ τ 10 = .int .i64 ((j : Nat) : Int) ∧ τ 17 = .int .i64 (i25 - 1 + ((m : Nat) : Int)) ∧ τ 18 = .int .i64 (termT i25 t26 (ts es23) (i25 - 1 + ((m : Nat) : Int))) ∧ τ 19 = .int .i64 (termE i25 (ts es23) (i25 - 1 + ((m : Nat) : Int))) ∧ τ 20 = .int .i64 (termT i25 t26 (ts ys24) (i25 - 1 + ((m : Nat) : Int))) ∧ τ 21 = .int .i64 (termE i25 (ts ys24) (i25 - 1 + ((m : Nat) : Int))) ∧ τ 176 = .bool true) ⟨up rfl (up rfl (up rfl (up rfl (up rfl (up rfl (up rfl (up rfl hs2))))))), up rfl (up rfl (up rfl (up rfl (up rfl (up rfl (up rfl (up rfl hs8))))))), up rfl (up rfl (up rfl (up rfl (up rfl (up rfl (up rfl (up rfl hs9))))))), up rfl (up rfl (up rfl (up rfl (up rfl (up rfl (up rfl (up rfl hs10))))))), up rfl (up rfl (up rfl (up rfl (up rfl (up rfl (up rfl (up rfl hs17))))))), up rfl (up rfl (up rfl (up rfl (up rfl (up rfl (up rfl (up rfl hs18))))))), up rfl (up rfl (up rfl (up rfl (up rfl (up rfl (up rfl (up rfl hs19))))))), up rfl tp, tp, up rfl (up rfl (up rfl (up rfl (up rfl (up rfl (up rfl (up rfl hs176)))))))⟩ ?_
          rintro τ ⟨hs2, hs8, hs9, hs10, hs17, hs18, hs19, hs20, hs21, hs176⟩
          refine CW.seq ?_
          refine CW.region ?_
          refine RW.soft Wd.a (v := .pointer (some ⟨b17, 0, none⟩)) (by exact E.move (AF_ev rfl hs8)) ?_
          refine RW.soft Wd.a (v := .int .i64 (i25 - 1 + ((m : Nat) : Int))) (by exact E.move (AF_ev rfl (up rfl hs17))) ?_
          have hst := hst.take (.there .here)
          refine RW.hard Wd.a ?_
          refine H.call0 Try.func35 nm35 rfl (map2 (AF_ev rfl (up rfl tp)) (AF_ev rfl tp)) (Calls.mono (ent_AtX (i25 - 1 + ((m : Nat) : Int)) hst) ?_)
          rintro _ w ⟨p, y, hle, hvy, hoky, rfl, hst⟩
          have hp0 := hp0.le hle
          have hO := hO.le hle
          have hK := hK.le hle
          have hEy := hEy.le hle
          have hst := refLe hle (hst.take (.there .here))
          refine ⟨_, rfl, ?_⟩
          show RW _ _ _ _ _ _ _
          refine RW.soft Wd.a (v := .tuple #[.agg #[.int .i64 y.term, .int .i64 y.kind, .slice y.X y.ns.length y.xc, .slice y.Y y.ms.length y.yc], .int .i64 (atE i25 es23 (i25 - 1 + ((m : Nat) : Int)))]) (by exact E.move (AF_ev rfl tp)) ?_
          refine RW.soft Wd.a (v := .agg #[.int .i64 y.term, .int .i64 y.kind, .slice y.X y.ns.length y.xc, .slice y.Y y.ms.length y.yc]) (by exact E.extract (vs := #[.agg #[.int .i64 y.term, .int .i64 y.kind, .slice y.X y.ns.length y.xc, .slice y.Y y.ms.length y.yc], .int .i64 (atE i25 es23 (i25 - 1 + ((m : Nat) : Int)))]) (AF_ev rfl tp) rfl) ?_
          refine RW.soft Wd.a (v := .int .i64 (atE i25 es23 (i25 - 1 + ((m : Nat) : Int)))) (by exact E.extract (vs := #[.agg #[.int .i64 y.term, .int .i64 y.kind, .slice y.X y.ns.length y.xc, .slice y.Y y.ms.length y.yc], .int .i64 (atE i25 es23 (i25 - 1 + ((m : Nat) : Int)))]) (AF_ev rfl (up rfl tp)) rfl) ?_
          refine RW.hard Wd.a ?_
          refine H.alloc zr58 hst fun b40 w hst => ?_
          refine RW.hard Wd.a ?_
          refine H.store (b := b40) (o := 0) (v := .agg #[.int .i64 y.term, .int .i64 y.kind, .slice y.X y.ns.length y.xc, .slice y.Y y.ms.length y.yc]) (c' := #[.int .i64 y.term, .int .i64 y.kind, .slice y.X y.ns.length y.xc, .slice y.Y y.ms.length y.yc]) (AF_ev rfl tp) (AF_ev rfl (up rfl (up rfl tp))) hst .here sz58 (by simp [Value.cells]) (by simp [Value.cells, Value.oneCell']) rfl fun w hst => ?_
          refine RW.soft Wd.a (v := .int .i64 (atE i25 es23 (i25 - 1 + ((m : Nat) : Int)))) (by exact E.assign (AF_ev rfl (u0 (up rfl tp)))) ?_
          refine RW.fin (fun τ => τ 2 = .slice (some ⟨bo, oo, none⟩) os.length e ∧ τ 8 = .pointer (some ⟨b17, 0, none⟩) ∧ τ 9 = .pointer (some ⟨br13, 0, none⟩) ∧ τ 10 = .int .i64 ((j : Nat) : Int) ∧ τ 17 = .int .i64 (i25 - 1 + ((m : Nat) : Int)) ∧ τ 18 = .int .i64 (termT i25 t26 (ts es23) (i25 - 1 + ((m : Nat) : Int))) ∧ τ 19 = .int .i64 (termE i25 (ts es23) (i25 - 1 + ((m : Nat) : Int))) ∧ τ 20 = .int .i64 (termT i25 t26 (ts ys24) (i25 - 1 + ((m : Nat) : Int))) ∧ τ 21 = .int .i64 (termE i25 (ts ys24) (i25 - 1 + ((m : Nat) : Int))) ∧ τ 22 = .pointer (some ⟨b40, 0, none⟩) ∧ τ 23 = .int .i64 (atE i25 es23 (i25 - 1 + ((m : Nat) : Int))) ∧ τ 176 = .bool true) ⟨up rfl (u0 (up rfl (up rfl (up rfl (up rfl (up rfl (up rfl (up rfl hs2)))))))), up rfl (u0 (up rfl (up rfl (up rfl (up rfl (up rfl (up rfl (up rfl hs8)))))))), up rfl (u0 (up rfl (up rfl (up rfl (up rfl (up rfl (up rfl (up rfl hs9)))))))), up rfl (u0 (up rfl (up rfl (up rfl (up rfl (up rfl (up rfl (up rfl hs10)))))))), up rfl (u0 (up rfl (up rfl (up rfl (up rfl (up rfl (up rfl (up rfl hs17)))))))), up rfl (u0 (up rfl (up rfl (up rfl (up rfl (up rfl (up rfl (up rfl hs18)))))))), up rfl (u0 (up rfl (up rfl (up rfl (up rfl (up rfl (up rfl (up rfl hs19)))))))), up rfl (u0 (up rfl (up rfl (up rfl (up rfl (up rfl (up rfl (up rfl hs20)))))))), up rfl (u0 (up rfl (up rfl (up rfl (up rfl (up rfl (up rfl (up rfl hs21)))))))), up rfl (u0 tp), tp, up rfl (u0 (up rfl (up rfl (up rfl (up rfl (up rfl (up rfl (up rfl hs176))))))))⟩ ?_
          rintro τ ⟨hs2, hs8, hs9, hs10, hs17, hs18, hs19, hs20, hs21, hs22, hs23, hs176⟩
          refine CW.seq ?_
          refine CW.region ?_
          refine RW.soft Wd.a (v := .pointer (some ⟨br13, 0, none⟩)) (by exact E.move (AF_ev rfl hs9)) ?_
          refine RW.soft Wd.a (v := .int .i64 (i25 - 1 + ((m : Nat) : Int))) (by exact E.move (AF_ev rfl (up rfl hs17))) ?_
          have hst := hst.take (.there .here)
          refine RW.hard Wd.a ?_
          refine H.call0 Try.func60 nm60 rfl (map2 (AF_ev rfl (up rfl tp)) (AF_ev rfl tp)) (Calls.mono (ref_At (i25 - 1 + ((m : Nat) : Int)) (by omega) hst) ?_)
          rintro _ w ⟨x41, hx41, rfl, hst⟩
          refine ⟨_, rfl, ?_⟩
          show RW _ _ _ _ _ _ _
          refine RW.soft Wd.a (v := .tuple #[.agg #[.int .i64 x41.term, .int .i64 x41.kind, .slice x41.X x41.ns.length x41.xc, .slice x41.Y x41.ms.length x41.yc], .int .i64 (atE i25 ys24 (i25 - 1 + ((m : Nat) : Int)))]) (by exact E.move (AF_ev rfl tp)) ?_
          refine RW.soft Wd.a (v := .agg #[.int .i64 x41.term, .int .i64 x41.kind, .slice x41.X x41.ns.length x41.xc, .slice x41.Y x41.ms.length x41.yc]) (by exact E.extract (vs := #[.agg #[.int .i64 x41.term, .int .i64 x41.kind, .slice x41.X x41.ns.length x41.xc, .slice x41.Y x41.ms.length x41.yc], .int .i64 (atE i25 ys24 (i25 - 1 + ((m : Nat) : Int)))]) (AF_ev rfl tp) rfl) ?_
          refine RW.soft Wd.a (v := .int .i64 (atE i25 ys24 (i25 - 1 + ((m : Nat) : Int)))) (by exact E.extract (vs := #[.agg #[.int .i64 x41.term, .int .i64 x41.kind, .slice x41.X x41.ns.length x41.xc, .slice x41.Y x41.ms.length x41.yc], .int .i64 (atE i25 ys24 (i25 - 1 + ((m : Nat) : Int)))]) (AF_ev rfl (up rfl tp)) rfl) ?_
          refine RW.hard Wd.a ?_
          refine H.alloc zr58 hst fun b42 w hst => ?_
          refine RW.hard Wd.a ?_
          refine H.store (b := b42) (o := 0) (v := .agg #[.int .i64 x41.term, .int .i64 x41.kind, .slice x41.X x41.ns.length x41.xc, .slice x41.Y x41.ms.length x41.yc]) (c' := #[.int .i64 x41.term, .int .i64 x41.kind, .slice x41.X x41.ns.length x41.xc, .slice x41.Y x41.ms.length x41.yc]) (AF_ev rfl tp) (AF_ev rfl (up rfl (up rfl tp))) hst .here sz58 (by simp [Value.cells]) (by simp [Value.cells, Value.oneCell']) rfl fun w hst => ?_
          refine RW.soft Wd.a (v := .int .i64 (atE i25 ys24 (i25 - 1 + ((m : Nat) : Int)))) (by exact E.assign (AF_ev rfl (u0 (up rfl tp)))) ?_
          refine RW.fin (fun τ => τ 2 = .slice (some ⟨bo, oo, none⟩) os.length e ∧ τ 8 = .pointer (some ⟨b17, 0, none⟩) ∧ τ 9 = .pointer (some ⟨br13, 0, none⟩) ∧ τ 10 = .int .i64 ((j : Nat) : Int) ∧ τ 17 = .int .i64 (i25 - 1 + ((m : Nat) : Int)) ∧ τ 18 = .int .i64 (termT i25 t26 (ts es23) (i25 - 1 + ((m : Nat) : Int))) ∧ τ 19 = .int .i64 (termE i25 (ts es23) (i25 - 1 + ((m : Nat) : Int))) ∧ τ 20 = .int .i64 (termT i25 t26 (ts ys24) (i25 - 1 + ((m : Nat) : Int))) ∧ τ 21 = .int .i64 (termE i25 (ts ys24) (i25 - 1 + ((m : Nat) : Int))) ∧ τ 22 = .pointer (some ⟨b40, 0, none⟩) ∧ τ 23 = .int .i64 (atE i25 es23 (i25 - 1 + ((m : Nat) : Int))) ∧ τ 24 = .pointer (some ⟨b42, 0, none⟩) ∧ τ 25 = .int .i64 (atE i25 ys24 (i25 - 1 + ((m : Nat) : Int))) ∧ τ 176 = .bool true) ⟨up rfl (u0 (up rfl (up rfl (up rfl (up rfl (up rfl (up rfl (up rfl hs2)))))))), up rfl (u0 (up rfl (up rfl (up rfl (up rfl (up rfl (up rfl (up rfl hs8)))))))), up rfl (u0 (up rfl (up rfl (up rfl (up rfl (up rfl (up rfl (up rfl hs9)))))))), up rfl (u0 (up rfl (up rfl (up rfl (up rfl (up rfl (up rfl (up rfl hs10)))))))), up rfl (u0 (up rfl (up rfl (up rfl (up rfl (up rfl (up rfl (up rfl hs17)))))))), up rfl (u0 (up rfl (up rfl (up rfl (up rfl (up rfl (up rfl (up rfl hs18)))))))), up rfl (u0 (up rfl (up rfl (up rfl (up rfl (up rfl (up rfl (up rfl hs19)))))))), up rfl (u0 (up rfl (up rfl (up rfl (up rfl (up rfl (up rfl (up rfl hs20)))))))), up rfl (u0 (up rfl (up rfl (up rfl (up rfl (up rfl (up rfl (up rfl hs21)))))))), up rfl (u0 (up rfl (up rfl (up rfl (up rfl (up rfl (up rfl (up rfl hs22)))))))), up rfl (u0 (up rfl (up rfl (up rfl (up rfl (up rfl (up rfl (up rfl hs23)))))))), up rfl (u0 tp), tp, up rfl (u0 (up rfl (up rfl (up rfl (up rfl (up rfl (up rfl (up rfl hs176))))))))⟩ ?_
          rintro τ ⟨hs2, hs8, hs9, hs10, hs17, hs18, hs19, hs20, hs21, hs22, hs23, hs24, hs25, hs176⟩
          refine CW.seq ?_
          refine CW.region ?_
          refine RW.soft Wd.a (v := .agg #[.int .i64 y.term, .int .i64 y.kind, .slice y.X y.ns.length y.xc, .slice y.Y y.ms.length y.yc]) (by exact E.loadN (b := b40) (o := 0) (cs := [.int .i64 y.term, .int .i64 y.kind, .slice y.X y.ns.length y.xc, .slice y.Y y.ms.length y.yc]) Try.underlying58 rfl sz58 (AF_ev rfl hs22) rfl (hst.cellsIn (.there (.there .here)) rfl)) ?_
          refine RW.soft Wd.a (v := .agg #[.int .i64 x41.term, .int .i64 x41.kind, .slice x41.X x41.ns.length x41.xc, .slice x41.Y x41.ms.length x41.yc]) (by exact E.loadN (b := b42) (o := 0) (cs := [.int .i64 x41.term, .int .i64 x41.kind, .slice x41.X x41.ns.length x41.xc, .slice x41.Y x41.ms.length x41.yc]) Try.underlying58 rfl sz58 (AF_ev rfl (up rfl hs24)) rfl (hst.cellsIn .here rfl)) ?_
          have hokx : EOk p x41 := by rw [hx41]; exact atX_ok hEy
          have hvx : y.view = x41.view := by rw [hvy, hx41]; exact atX_view hv2
          refine RW.hard Wd.a ?_
          refine H.call0 Try.func36 nm36 rfl (map2 (AF_ev rfl (up rfl tp)) (AF_ev rfl tp)) (Calls.mono (ent_Same hoky hokx hvx hst) ?_)
          rintro _ w ⟨rfl, hst⟩
          refine ⟨_, rfl, ?_⟩
          show RW _ _ _ _ _ _ _
          refine RW.soft Wd.a (v := .bool true) (by exact E.assign (AF_ev rfl tp)) ?_
          refine RW.fin (fun τ => τ 2 = .slice (some ⟨bo, oo, none⟩) os.length e ∧ τ 8 = .pointer (some ⟨b17, 0, none⟩) ∧ τ 9 = .pointer (some ⟨br13, 0, none⟩) ∧ τ 10 = .int .i64 ((j : Nat) : Int) ∧ τ 17 = .int .i64 (i25 - 1 + ((m : Nat) : Int)) ∧ τ 18 = .int .i64 (termT i25 t26 (ts es23) (i25 - 1 + ((m : Nat) : Int))) ∧ τ 19 = .int .i64 (termE i25 (ts es23) (i25 - 1 + ((m : Nat) : Int))) ∧ τ 20 = .int .i64 (termT i25 t26 (ts ys24) (i25 - 1 + ((m : Nat) : Int))) ∧ τ 21 = .int .i64 (termE i25 (ts ys24) (i25 - 1 + ((m : Nat) : Int))) ∧ τ 22 = .pointer (some ⟨b40, 0, none⟩) ∧ τ 23 = .int .i64 (atE i25 es23 (i25 - 1 + ((m : Nat) : Int))) ∧ τ 24 = .pointer (some ⟨b42, 0, none⟩) ∧ τ 25 = .int .i64 (atE i25 ys24 (i25 - 1 + ((m : Nat) : Int))) ∧ τ 26 = .bool true ∧ τ 176 = .bool true) ⟨up rfl (up rfl (up rfl (up rfl hs2))), up rfl (up rfl (up rfl (up rfl hs8))), up rfl (up rfl (up rfl (up rfl hs9))), up rfl (up rfl (up rfl (up rfl hs10))), up rfl (up rfl (up rfl (up rfl hs17))), up rfl (up rfl (up rfl (up rfl hs18))), up rfl (up rfl (up rfl (up rfl hs19))), up rfl (up rfl (up rfl (up rfl hs20))), up rfl (up rfl (up rfl (up rfl hs21))), up rfl (up rfl (up rfl (up rfl hs22))), up rfl (up rfl (up rfl (up rfl hs23))), up rfl (up rfl (up rfl (up rfl hs24))), up rfl (up rfl (up rfl (up rfl hs25))), tp, up rfl (up rfl (up rfl (up rfl hs176)))⟩ ?_
          rintro τ ⟨hs2, hs8, hs9, hs10, hs17, hs18, hs19, hs20, hs21, hs22, hs23, hs24, hs25, hs26, hs176⟩
          refine CW.seq ?_
          refine CW.region ?_
          refine RW.soft Wd.a (v := .int .i64 (termT i25 t26 (ts es23) (i25 - 1 + ((m : Nat) : Int)))) (by exact E.move (AF_ev rfl hs18)) ?_
          refine RW.soft Wd.a (v := .int .i64 (termT i25 t26 (ts ys24) (i25 - 1 + ((m : Nat) : Int)))) (by exact E.move (AF_ev rfl (up rfl hs20))) ?_
          refine RW.soft Wd.a (v := .bool false) (by exact E.b (a := (termT i25 t26 (ts es23) (i25 - 1 + ((m : Nat) : Int))) != (termT i25 t26 (ts ys24) (i25 - 1 + ((m : Nat) : Int)))) (E.neq (k := .i64) (a := termT i25 t26 (ts es23) (i25 - 1 + ((m : Nat) : Int))) (b := termT i25 t26 (ts ys24) (i25 - 1 + ((m : Nat) : Int))) (AF_ev rfl (up rfl tp)) (AF_ev rfl tp)) (by rw [bne_eq_false_iff_eq, hT2])) ?_
          refine RW.soft Wd.a (v := .bool false) (by exact E.move (AF_ev rfl tp)) ?_
          refine RW.soft (by exact Wd.yes (x := 209) rfl (AF_ev rfl tp)) (v := .int .i64 (termE i25 (ts es23) (i25 - 1 + ((m : Nat) : Int)))) (by exact E.move (AF_ev rfl (up rfl (up rfl (up rfl (up rfl hs19)))))) ?_
          refine RW.soft (by exact Wd.yes (x := 209) rfl (AF_ev rfl (up rfl tp))) (v := .int .i64 (termE i25 (ts ys24) (i25 - 1 + ((m : Nat) : Int)))) (by exact E.move (AF_ev rfl (up rfl (up rfl (up rfl (up rfl (up rfl hs21))))))) ?_
          refine RW.soft (by exact Wd.yes (x := 209) rfl (AF_ev rfl (up rfl (up rfl tp)))) (v := .bool false) (by exact E.b (a := (termE i25 (ts es23) (i25 - 1 + ((m : Nat) : Int))) != (termE i25 (ts ys24) (i25 - 1 + ((m : Nat) : Int)))) (E.neq (k := .i64) (a := termE i25 (ts es23) (i25 - 1 + ((m : Nat) : Int))) (b := termE i25 (ts ys24) (i25 - 1 + ((m : Nat) : Int))) (AF_ev rfl (up rfl tp)) (AF_ev rfl tp)) (by rw [bne_eq_false_iff_eq, hT2])) ?_
          refine RW.soft Wd.a (v := .bool false) (by exact E.pickF (AF_ev rfl (up rfl (up rfl (up rfl tp)))) (AF_ev rfl tp)) ?_
          refine RW.soft Wd.a (v := .bool false) (by exact E.move (AF_ev rfl tp)) ?_
          refine RW.soft (by exact Wd.yes (x := 214) rfl (AF_ev rfl tp)) (v := .bool true) (by exact E.move (AF_ev rfl (up rfl (up rfl (up rfl (up rfl (up rfl (up rfl (up rfl (up rfl (up rfl hs26))))))))))) ?_
          refine RW.soft (by exact Wd.yes (x := 214) rfl (AF_ev rfl (up rfl tp))) (v := .bool false) (by exact E.not (b := true) (AF_ev rfl tp)) ?_
          refine RW.soft Wd.a (v := .bool false) (by exact E.pickF (AF_ev rfl (up rfl (up rfl tp))) (AF_ev rfl tp)) ?_
          refine RW.soft Wd.a (v := .bool false) (by exact E.move (AF_ev rfl tp)) ?_
          refine RW.soft (by exact Wd.yes (x := 218) rfl (AF_ev rfl tp)) (v := .int .i64 (atE i25 es23 (i25 - 1 + ((m : Nat) : Int)))) (by exact E.move (AF_ev rfl (up rfl (up rfl (up rfl (up rfl (up rfl (up rfl (up rfl (up rfl (up rfl (up rfl (up rfl (up rfl (up rfl hs23))))))))))))))) ?_
          refine RW.soft (by exact Wd.yes (x := 218) rfl (AF_ev rfl (up rfl tp))) (v := .int .i64 (atE i25 ys24 (i25 - 1 + ((m : Nat) : Int)))) (by exact E.move (AF_ev rfl (up rfl (up rfl (up rfl (up rfl (up rfl (up rfl (up rfl (up rfl (up rfl (up rfl (up rfl (up rfl (up rfl (up rfl hs25)))))))))))))))) ?_
          refine RW.soft (by exact Wd.yes (x := 218) rfl (AF_ev rfl (up rfl (up rfl tp)))) (v := .bool false) (by exact E.b (a := (atE i25 es23 (i25 - 1 + ((m : Nat) : Int))) != (atE i25 ys24 (i25 - 1 + ((m : Nat) : Int)))) (E.neq (k := .i64) (a := atE i25 es23 (i25 - 1 + ((m : Nat) : Int))) (b := atE i25 ys24 (i25 - 1 + ((m : Nat) : Int))) (AF_ev rfl (up rfl tp)) (AF_ev rfl tp)) (by rw [bne_eq_false_iff_eq]; exact atE_len hlv2)) ?_
          refine RW.soft Wd.a (v := .bool false) (by exact E.pickF (AF_ev rfl (up rfl (up rfl (up rfl tp)))) (AF_ev rfl tp)) ?_
          refine RW.fin (fun τ => τ 2 = .slice (some ⟨bo, oo, none⟩) os.length e ∧ τ 8 = .pointer (some ⟨b17, 0, none⟩) ∧ τ 9 = .pointer (some ⟨br13, 0, none⟩) ∧ τ 10 = .int .i64 ((j : Nat) : Int) ∧ τ 17 = .int .i64 (i25 - 1 + ((m : Nat) : Int)) ∧ τ 18 = .int .i64 (termT i25 t26 (ts es23) (i25 - 1 + ((m : Nat) : Int))) ∧ τ 19 = .int .i64 (termE i25 (ts es23) (i25 - 1 + ((m : Nat) : Int))) ∧ τ 20 = .int .i64 (termT i25 t26 (ts ys24) (i25 - 1 + ((m : Nat) : Int))) ∧ τ 21 = .int .i64 (termE i25 (ts ys24) (i25 - 1 + ((m : Nat) : Int))) ∧ τ 22 = .pointer (some ⟨b40, 0, none⟩) ∧ τ 23 = .int .i64 (atE i25 es23 (i25 - 1 + ((m : Nat) : Int))) ∧ τ 24 = .pointer (some ⟨b42, 0, none⟩) ∧ τ 25 = .int .i64 (atE i25 ys24 (i25 - 1 + ((m : Nat) : Int))) ∧ τ 26 = .bool true ∧ τ 176 = .bool true ∧ τ 222 = .bool false) ⟨up rfl (up rfl (up rfl (up rfl (up rfl (up rfl (up rfl (up rfl (up rfl (up rfl (up rfl (up rfl (up rfl (up rfl (up rfl (up rfl (up rfl hs2)))))))))))))))), up rfl (up rfl (up rfl (up rfl (up rfl (up rfl (up rfl (up rfl (up rfl (up rfl (up rfl (up rfl (up rfl (up rfl (up rfl (up rfl (up rfl hs8)))))))))))))))), up rfl (up rfl (up rfl (up rfl (up rfl (up rfl (up rfl (up rfl (up rfl (up rfl (up rfl (up rfl (up rfl (up rfl (up rfl (up rfl (up rfl hs9)))))))))))))))), up rfl (up rfl (up rfl (up rfl (up rfl (up rfl (up rfl (up rfl (up rfl (up rfl (up rfl (up rfl (up rfl (up rfl (up rfl (up rfl (up rfl hs10)))))))))))))))), up rfl (up rfl (up rfl (up rfl (up rfl (up rfl (up rfl (up rfl (up rfl (up rfl (up rfl (up rfl (up rfl (up rfl (up rfl (up rfl (up rfl hs17)))))))))))))))), up rfl (up rfl (up rfl (up rfl (up rfl (up rfl (up rfl (up rfl (up rfl (up rfl (up rfl (up rfl (up rfl (up rfl (up rfl (up rfl (up rfl hs18)))))))))))))))), up rfl (up rfl (up rfl (up rfl (up rfl (up rfl (up rfl (up rfl (up rfl (up rfl (up rfl (up rfl (up rfl (up rfl (up rfl (up rfl (up rfl hs19)))))))))))))))), up rfl (up rfl (up rfl (up rfl (up rfl (up rfl (up rfl (up rfl (up rfl (up rfl (up rfl (up rfl (up rfl (up rfl (up rfl (up rfl (up rfl hs20)))))))))))))))), up rfl (up rfl (up rfl (up rfl (up rfl (up rfl (up rfl (up rfl (up rfl (up rfl (up rfl (up rfl (up rfl (up rfl (up rfl (up rfl (up rfl hs21)))))))))))))))), up rfl (up rfl (up rfl (up rfl (up rfl (up rfl (up rfl (up rfl (up rfl (up rfl (up rfl (up rfl (up rfl (up rfl (up rfl (up rfl (up rfl hs22)))))))))))))))), up rfl (up rfl (up rfl (up rfl (up rfl (up rfl (up rfl (up rfl (up rfl (up rfl (up rfl (up rfl (up rfl (up rfl (up rfl (up rfl (up rfl hs23)))))))))))))))), up rfl (up rfl (up rfl (up rfl (up rfl (up rfl (up rfl (up rfl (up rfl (up rfl (up rfl (up rfl (up rfl (up rfl (up rfl (up rfl (up rfl hs24)))))))))))))))), up rfl (up rfl (up rfl (up rfl (up rfl (up rfl (up rfl (up rfl (up rfl (up rfl (up rfl (up rfl (up rfl (up rfl (up rfl (up rfl (up rfl hs25)))))))))))))))), up rfl (up rfl (up rfl (up rfl (up rfl (up rfl (up rfl (up rfl (up rfl (up rfl (up rfl (up rfl (up rfl (up rfl (up rfl (up rfl (up rfl hs26)))))))))))))))), up rfl (up rfl (up rfl (up rfl (up rfl (up rfl (up rfl (up rfl (up rfl (up rfl (up rfl (up rfl (up rfl (up rfl (up rfl (up rfl (up rfl hs176)))))))))))))))), tp⟩ ?_
          rintro τ ⟨hs2, hs8, hs9, hs10, hs17, hs18, hs19, hs20, hs21, hs22, hs23, hs24, hs25, hs26, hs176, hs222⟩
          refine CW.condF (AF_ev rfl hs222) ?_
          refine CW.skip ?_
          refine Bl.n ?_
          refine Th.n ?_
          refine CW.region ?_
          refine RW.soft Wd.a (v := .int .i64 (i25 - 1 + ((m : Nat) : Int))) (by exact E.move (AF_ev rfl hs17)) ?_
          refine RW.soft Wd.a (v := .int .i64 (i25 - 1 + ((m : Nat) : Int) + 1)) (by exact E.add (k := .i64) (a := i25 - 1 + ((m : Nat) : Int)) (b := 1) (AF_ev rfl tp) rfl (show IntKind.i64.wrap ((i25 - 1 + ((m : Nat) : Int)) + 1) = i25 - 1 + ((m : Nat) : Int) + 1 from (by rw [IntWalk.i64_in _ (by omega)] <;> omega))) ?_
          refine RW.soft Wd.a (v := .int .i64 (i25 - 1 + ((m : Nat) : Int) + 1)) (by exact E.assign (AF_ev rfl tp)) ?_
          refine RW.nil ?_
          refine Th.n ?_
          have hst := hst.take (.there .here)
          have hst := hst.take (.there (.there (.there .here)))
          have hst := (hst.take (.there (.there .here))).drop
          have hst := (hst.take (.there (.there .here))).drop
          exact ⟨ys24.length + 3 - (m + 1), by omega, p, m + 1, hp0, hO, hK, hEy, (by omega), (by omega), up rfl (up rfl (up rfl hs2)), up rfl (up rfl (up rfl hs8)), up rfl (up rfl (up rfl hs9)), up rfl (up rfl (up rfl hs10)), (int_eq (a := i25 - 1 + ((m : Nat) : Int) + 1) tp (by omega)), hst⟩
        · have hc39_ := hc39
          try simp only [decide_eq_true_eq, decide_eq_false_iff_not, Bool.and_eq_true, Bool.or_eq_true, Bool.and_eq_false_iff, Bool.or_eq_false_iff, Bool.not_eq_true', Bool.not_eq_false', beq_iff_eq, beq_eq_false_iff_ne, bne_iff_ne, bne_eq_false_iff_eq, ne_eq, Int.not_lt, Int.not_le, gt_iff_lt, ge_iff_le] at hc39_
          refine CW.exit ?_
          refine Th.x ?_
          refine Th.x ?_
          refine Bl.x ?_
          refine Bl.n ?_
          refine Th.n ?_
          refine CW.region ?_
          refine RW.soft Wd.a (v := .int .i64 ((j : Nat) : Int)) (by exact E.move (AF_ev rfl hs10)) ?_
          refine RW.soft Wd.a (v := .int .i64 (((j : Nat) : Int) + 1)) (by exact E.add (k := .i64) (a := ((j : Nat) : Int)) (b := 1) (AF_ev rfl tp) rfl (show IntKind.i64.wrap (((j : Nat) : Int) + 1) = ((j : Nat) : Int) + 1 from (by rw [IntWalk.i64_in _ (by omega)]))) ?_
          refine RW.soft Wd.a (v := .int .i64 (((j : Nat) : Int) + 1)) (by exact E.assign (AF_ev rfl tp)) ?_
          refine RW.nil ?_
          refine Th.n ?_
          have hst := hst.take (.there .here)
          exact ⟨os.length - (j + 1), by omega, p, j + 1, b17, i25, t26, es23, ys24, hp0, hO, hK, hv2, (by omega), (by omega), (by omega), (by omega), up rfl (up rfl (up rfl hs2)), up rfl (up rfl (up rfl hs8)), up rfl (up rfl (up rfl hs9)), (int_eq (a := ((j : Nat) : Int) + 1) tp (by omega)), hst⟩
    · have hc16_ := hc16
      try simp only [decide_eq_true_eq, decide_eq_false_iff_not, Bool.and_eq_true, Bool.or_eq_true, Bool.and_eq_false_iff, Bool.or_eq_false_iff, Bool.not_eq_true', Bool.not_eq_false', beq_iff_eq, beq_eq_false_iff_ne, bne_iff_ne, bne_eq_false_iff_eq, ne_eq, Int.not_lt, Int.not_le, gt_iff_lt, ge_iff_le] at hc16_
      refine CW.skip ?_
      refine Th.n ?_
      refine CW.seq ?_
      refine CW.region ?_
      refine RW.soft Wd.a (v := .pointer (some ⟨bg, 0, none⟩)) (by exact E.move (AF_ev rfl hs8)) ?_
      refine RW.soft Wd.a (v := .pointer (some ⟨br13, 0, none⟩)) (by exact E.move (AF_ev rfl (up rfl hs9))) ?_
      refine RW.soft Wd.a (v := .slice (some ⟨bo, oo, none⟩) os.length e) (by exact E.move (AF_ev rfl (up rfl (up rfl hs2)))) ?_
      refine RW.soft Wd.a (v := .int .i64 ((j : Nat) : Int)) (by exact E.move (AF_ev rfl (up rfl (up rfl (up rfl hs10))))) ?_
      refine RW.soft Wd.a (v := .pointer (some ⟨bo, oo + j * 4, none⟩)) (by exact E.indexAddr (b := bo) (o := oo) (l := os.length) (c := e) (i := ((j : Nat) : Int)) Try.underlying98 sz46 (AF_ev rfl (up rfl tp)) (AF_ev rfl tp) (by omega) (by omega) (by simp)) ?_
      refine RW.soft Wd.a (v := .agg #[.int .i64 kd, .int .i64 ix, .int .i64 tm, .slice Z z.length d]) (by exact E.loadN (b := bo) (o := oo + j * 4) (cs := (LOp.enc ⟨kd, ix, tm, Z, d, z⟩)) Try.underlying46 rfl sz46 (AF_ev rfl tp) rfl (fun j_ u hu => by rw [Nat.add_assoc]; exact Las_at hO hst (by omega) (flat_get LOp.enc_len ho hu))) ?_
      have hst := hst.take (.there .here)
      have hst := hst.take (.there .here)
      refine RW.hard Wd.a ?_
      refine H.call0 Try.func55 nm55 rfl (map3 (AF_ev rfl (up rfl (up rfl (up rfl (up rfl (up rfl tp)))))) (AF_ev rfl (up rfl (up rfl (up rfl (up rfl tp))))) (AF_ev rfl tp)) (Calls.mono (ent_does p.le_refl kd ix tm hkd hix hv (by omega) hzm hL2 hEL2 hst) ?_)
      rintro _ w ⟨p, i45, t46, es43, ys44, hle, hv2, hlen2, rfl, hst⟩
      have hri2 := logRange hst
      have hp0 := hp0.le hle
      have hO := hO.le hle
      have hK := hK.le hle
      have hL2 := hL2.le hle
      have hEL2 := hEL2.le hle
      have hlv2 := vs_len hv2
      have hT2 := ts_eq hv2
      refine ⟨_, rfl, ?_⟩
      show RW _ _ _ _ _ _ _
      refine RW.soft Wd.a (v := .bool true) (by exact E.assign (AF_ev rfl tp)) ?_
      refine RW.fin (fun τ => τ 2 = .slice (some ⟨bo, oo, none⟩) os.length e ∧ τ 8 = .pointer (some ⟨bg, 0, none⟩) ∧ τ 9 = .pointer (some ⟨br13, 0, none⟩) ∧ τ 10 = .int .i64 ((j : Nat) : Int) ∧ τ 12 = .bool true ∧ τ 57 = .bool true ∧ τ 66 = .bool false) ⟨up rfl (up rfl (up rfl (up rfl (up rfl (up rfl (up rfl (up rfl hs2))))))), up rfl (up rfl (up rfl (up rfl (up rfl (up rfl (up rfl (up rfl hs8))))))), up rfl (up rfl (up rfl (up rfl (up rfl (up rfl (up rfl (up rfl hs9))))))), up rfl (up rfl (up rfl (up rfl (up rfl (up rfl (up rfl (up rfl hs10))))))), tp, up rfl (up rfl (up rfl (up rfl (up rfl (up rfl (up rfl (up rfl hs57))))))), up rfl (up rfl (up rfl (up rfl (up rfl (up rfl (up rfl (up rfl (Eq.trans hs66 (congrArg Value.bool hc16)))))))))⟩ ?_
      rintro τ ⟨hs2, hs8, hs9, hs10, hs12, hs57, hs66⟩
      refine CW.seq ?_
      refine CW.region ?_
      refine RW.soft Wd.a (v := .pointer (some ⟨bg, 0, none⟩)) (by exact E.move (AF_ev rfl hs8)) ?_
      refine RW.hard Wd.a ?_
      refine H.call0 Try.func34 nm34 rfl (map3 (AF_ev rfl tp) rfl rfl) (Calls.mono (ent_From 0 2000 (by omega) hst) ?_)
      rintro _ w ⟨p, vX47, es49, hle, rfl, hokes49, hvses49, hst⟩
      obtain ⟨X47, c48, rfl, hcX47, hmX47, hlX47, hbX47⟩ := hst.shape
      have hp0 := hp0.le hle
      have hO := hO.le hle
      have hK := hK.le hle
      have hL2 := hL2.le hle
      have hEL2 := hEL2.le hle
      have hvles49 := congrArg List.length hvses49
      simp only [vs, List.length_map] at hvles49
      have hfles49 := fromL_len (i := i45) (k := 0) (most := 2000) (es := es43)
      have hst := refLe hle (hst.take (.there (.there .here)))
      refine ⟨_, rfl, ?_⟩
      show RW _ _ _ _ _ _ _
      refine RW.soft Wd.a (v := .slice X47 es49.length c48) (by exact E.assign (AF_ev rfl tp)) ?_
      refine RW.fin (fun τ => τ 2 = .slice (some ⟨bo, oo, none⟩) os.length e ∧ τ 8 = .pointer (some ⟨bg, 0, none⟩) ∧ τ 9 = .pointer (some ⟨br13, 0, none⟩) ∧ τ 10 = .int .i64 ((j : Nat) : Int) ∧ τ 12 = .bool true ∧ τ 13 = .slice X47 es49.length c48 ∧ τ 57 = .bool true ∧ τ 66 = .bool false) ⟨up rfl (up rfl (up rfl hs2)), up rfl (up rfl (up rfl hs8)), up rfl (up rfl (up rfl hs9)), up rfl (up rfl (up rfl hs10)), up rfl (up rfl (up rfl hs12)), tp, up rfl (up rfl (up rfl hs57)), up rfl (up rfl (up rfl hs66))⟩ ?_
      rintro τ ⟨hs2, hs8, hs9, hs10, hs12, hs13, hs57, hs66⟩
      refine CW.seq ?_
      obtain ⟨Xr, cr, hri, hrn, hrE, hrc, hrX, hst⟩ := refOpen hst
      have hEy := hrE
      refine CW.region ?_
      refine RW.soft Wd.a (v := .slice X47 es49.length c48) (by exact E.move (AF_ev rfl hs13)) ?_
      refine RW.soft Wd.a (v := .pointer (some ⟨br13, 0, none⟩)) (by exact E.move (AF_ev rfl (up rfl hs9))) ?_
      refine RW.soft Wd.a (v := .pointer (some ⟨br13, 0, none⟩)) (by exact E.nilCheck (a := ⟨br13, 0, none⟩) (AF_ev rfl tp)) ?_
      refine RW.soft Wd.a (v := .pointer (some ⟨br13, 2, none⟩)) (by exact E.fieldAddr (b := br13) (o := 0) (f := { name := "L", type := 44, offset := 2, embedded := false, tag := "", pkgPath := "", byteOffset := 16 }) (AF_ev rfl tp) Try.underlying106 rfl sz44 rfl) ?_
      refine RW.soft Wd.a (v := .slice Xr ys44.length cr) (by exact E.load (a := ⟨br13, 2, none⟩) Try.underlying44 rfl (AF_ev rfl tp) (hst.cell .here rfl)) ?_
      have hst := hst.take (.there .here)
      have hst := hst.take (.there (.there .here))
      refine RW.hard Wd.a ?_
      refine H.call0 Try.func56 nm56 rfl (map2 (AF_ev rfl (up rfl (up rfl (up rfl (up rfl tp))))) (AF_ev rfl tp)) (Calls.mono (ent_SameL Own.tells Own.tells hokes49 hEy (by rw [hvses49, fromL_all (by omega) (by omega)]; exact hv2) (by omega) hst) ?_)
      rintro _ w ⟨rfl, hst⟩
      refine ⟨_, rfl, ?_⟩
      show RW _ _ _ _ _ _ _
      refine RW.soft Wd.a (v := .bool true) (by exact E.assign (AF_ev rfl tp)) ?_
      refine RW.fin (fun τ => τ 2 = .slice (some ⟨bo, oo, none⟩) os.length e ∧ τ 8 = .pointer (some ⟨bg, 0, none⟩) ∧ τ 9 = .pointer (some ⟨br13, 0, none⟩) ∧ τ 10 = .int .i64 ((j : Nat) : Int) ∧ τ 12 = .bool true ∧ τ 13 = .slice X47 es49.length c48 ∧ τ 14 = .bool true ∧ τ 57 = .bool true ∧ τ 66 = .bool false) ⟨up rfl (up rfl (up rfl (up rfl (up rfl (up rfl (up rfl hs2)))))), up rfl (up rfl (up rfl (up rfl (up rfl (up rfl (up rfl hs8)))))), up rfl (up rfl (up rfl (up rfl (up rfl (up rfl (up rfl hs9)))))), up rfl (up rfl (up rfl (up rfl (up rfl (up rfl (up rfl hs10)))))), up rfl (up rfl (up rfl (up rfl (up rfl (up rfl (up rfl hs12)))))), up rfl (up rfl (up rfl (up rfl (up rfl (up rfl (up rfl hs13)))))), tp, up rfl (up rfl (up rfl (up rfl (up rfl (up rfl (up rfl hs57)))))), up rfl (up rfl (up rfl (up rfl (up rfl (up rfl (up rfl hs66))))))⟩ ?_
      rintro τ ⟨hs2, hs8, hs9, hs10, hs12, hs13, hs14, hs57, hs66⟩
      refine CW.seq ?_
      have hst := hst.take (.there .here)
      have hst := hst.take (.there (.there .here))
      have hst := refClose hri hrn hEy hst
      refine CW.regionD [0, 1, 2, 3, 4, 5, 7, 8, 9, 10, 11, 14, 15, 16, 17, 18, 19, 21, 22, 23, 24, 25] (fun w => w.cell? ⟨bo, oo + j * 4 + 1, none⟩ = some (.int .i64 ix) ∧ w.cell? ⟨bo, oo + j * 4 + 2, none⟩ = some (.int .i64 tm)) mixed ?_
      have hst := hst.drew
      generalize w.drew = w at hst ⊢
      have hS : w.cell? ⟨bo, oo + j * 4 + 1, none⟩ = some (.int .i64 ix) ∧ w.cell? ⟨bo, oo + j * 4 + 2, none⟩ = some (.int .i64 tm) := ⟨(by rw [Nat.add_assoc]; exact Las_at hO hst (by omega) (flat_get LOp.enc_len ho (j := 1) rfl)), (by rw [Nat.add_assoc]; exact Las_at hO hst (by omega) (flat_get LOp.enc_len ho (j := 2) rfl))⟩
      refine RD.take 0 rfl (by kernel_rfl) Wd.a (v := .pointer (some ⟨bg, 0, none⟩)) (fun w hS => by exact E.move (AF_ev rfl hs8)) hS ?_
      refine RD.take 1 rfl (by kernel_rfl) Wd.a (v := .slice (some ⟨bo, oo, none⟩) os.length e) (fun w hS => by exact E.move (AF_ev rfl (up rfl hs2))) hS ?_
      refine RD.take 2 rfl (by kernel_rfl) Wd.a (v := .int .i64 ((j : Nat) : Int)) (fun w hS => by exact E.move (AF_ev rfl (up rfl (up rfl hs10)))) hS ?_
      refine RD.take 3 rfl (by kernel_rfl) Wd.a (v := .pointer (some ⟨bo, oo + j * 4, none⟩)) (fun w hS => by exact E.indexAddr (b := bo) (o := oo) (l := os.length) (c := e) (i := ((j : Nat) : Int)) Try.underlying98 sz46 (AF_ev rfl (up rfl tp)) (AF_ev rfl tp) (by omega) (by omega) (by simp)) hS ?_
      refine RD.take 4 rfl (by kernel_rfl) Wd.a (v := .pointer (some ⟨bo, oo + j * 4 + 1, none⟩)) (fun w hS => by exact E.fieldAddr (b := bo) (o := oo + j * 4) (f := { name := "Index", type := 3, offset := 1, embedded := false, tag := "", pkgPath := "", byteOffset := 8 }) (AF_ev rfl tp) Try.underlying46 rfl sz3 rfl) hS ?_
      refine RD.take 5 rfl (by kernel_rfl) Wd.a (v := .int .i64 ix) (fun w hS => by exact E.load (a := ⟨bo, oo + j * 4 + 1, none⟩) Try.underlying3 rfl (AF_ev rfl tp) hS.1) hS ?_
      refine RD.take 7 rfl (by kernel_rfl) Wd.a (v := .slice (some ⟨bo, oo, none⟩) os.length e) (fun w hS => by exact E.move (AF_ev rfl (up rfl (up rfl (up rfl (up rfl (up rfl (up rfl hs2)))))))) hS ?_
      refine RD.take 8 rfl (by kernel_rfl) Wd.a (v := .int .i64 ((j : Nat) : Int)) (fun w hS => by exact E.move (AF_ev rfl (up rfl (up rfl (up rfl (up rfl (up rfl (up rfl (up rfl hs10))))))))) hS ?_
      refine RD.take 9 rfl (by kernel_rfl) Wd.a (v := .pointer (some ⟨bo, oo + j * 4, none⟩)) (fun w hS => by exact E.indexAddr (b := bo) (o := oo) (l := os.length) (c := e) (i := ((j : Nat) : Int)) Try.underlying98 sz46 (AF_ev rfl (up rfl tp)) (AF_ev rfl tp) (by omega) (by omega) (by simp)) hS ?_
      refine RD.take 10 rfl (by kernel_rfl) Wd.a (v := .pointer (some ⟨bo, oo + j * 4 + 2, none⟩)) (fun w hS => by exact E.fieldAddr (b := bo) (o := oo + j * 4) (f := { name := "Term", type := 3, offset := 2, embedded := false, tag := "", pkgPath := "", byteOffset := 16 }) (AF_ev rfl tp) Try.underlying46 rfl sz3 rfl) hS ?_
      refine RD.take 11 rfl (by kernel_rfl) Wd.a (v := .int .i64 tm) (fun w hS => by exact E.load (a := ⟨bo, oo + j * 4 + 2, none⟩) Try.underlying3 rfl (AF_ev rfl tp) hS.2) hS ?_
      refine RD.take 14 rfl (by kernel_rfl) Wd.a (v := .pointer (some ⟨br13, 0, none⟩)) (fun w hS => by exact E.move (AF_ev rfl (up rfl (up rfl (up rfl (up rfl (up rfl (up rfl (up rfl (up rfl (up rfl (up rfl (up rfl hs9))))))))))))) hS ?_
      refine RD.take 15 rfl (by kernel_rfl) Wd.a (v := .slice (some ⟨bo, oo, none⟩) os.length e) (fun w hS => by exact E.move (AF_ev rfl (up rfl (up rfl (up rfl (up rfl (up rfl (up rfl (up rfl (up rfl (up rfl (up rfl (up rfl (up rfl hs2)))))))))))))) hS ?_
      refine RD.take 16 rfl (by kernel_rfl) Wd.a (v := .int .i64 ((j : Nat) : Int)) (fun w hS => by exact E.move (AF_ev rfl (up rfl (up rfl (up rfl (up rfl (up rfl (up rfl (up rfl (up rfl (up rfl (up rfl (up rfl (up rfl (up rfl hs10))))))))))))))) hS ?_
      refine RD.take 17 rfl (by kernel_rfl) Wd.a (v := .pointer (some ⟨bo, oo + j * 4, none⟩)) (fun w hS => by exact E.indexAddr (b := bo) (o := oo) (l := os.length) (c := e) (i := ((j : Nat) : Int)) Try.underlying98 sz46 (AF_ev rfl (up rfl tp)) (AF_ev rfl tp) (by omega) (by omega) (by simp)) hS ?_
      refine RD.take 18 rfl (by kernel_rfl) Wd.a (v := .pointer (some ⟨bo, oo + j * 4 + 1, none⟩)) (fun w hS => by exact E.fieldAddr (b := bo) (o := oo + j * 4) (f := { name := "Index", type := 3, offset := 1, embedded := false, tag := "", pkgPath := "", byteOffset := 8 }) (AF_ev rfl tp) Try.underlying46 rfl sz3 rfl) hS ?_
      refine RD.take 19 rfl (by kernel_rfl) Wd.a (v := .int .i64 ix) (fun w hS => by exact E.load (a := ⟨bo, oo + j * 4 + 1, none⟩) Try.underlying3 rfl (AF_ev rfl tp) hS.1) hS ?_
      refine RD.take 21 rfl (by kernel_rfl) Wd.a (v := .slice (some ⟨bo, oo, none⟩) os.length e) (fun w hS => by exact E.move (AF_ev rfl (up rfl (up rfl (up rfl (up rfl (up rfl (up rfl (up rfl (up rfl (up rfl (up rfl (up rfl (up rfl (up rfl (up rfl (up rfl (up rfl (up rfl hs2))))))))))))))))))) hS ?_
      refine RD.take 22 rfl (by kernel_rfl) Wd.a (v := .int .i64 ((j : Nat) : Int)) (fun w hS => by exact E.move (AF_ev rfl (up rfl (up rfl (up rfl (up rfl (up rfl (up rfl (up rfl (up rfl (up rfl (up rfl (up rfl (up rfl (up rfl (up rfl (up rfl (up rfl (up rfl (up rfl hs10)))))))))))))))))))) hS ?_
      refine RD.take 23 rfl (by kernel_rfl) Wd.a (v := .pointer (some ⟨bo, oo + j * 4, none⟩)) (fun w hS => by exact E.indexAddr (b := bo) (o := oo) (l := os.length) (c := e) (i := ((j : Nat) : Int)) Try.underlying98 sz46 (AF_ev rfl (up rfl tp)) (AF_ev rfl tp) (by omega) (by omega) (by simp)) hS ?_
      refine RD.take 24 rfl (by kernel_rfl) Wd.a (v := .pointer (some ⟨bo, oo + j * 4 + 2, none⟩)) (fun w hS => by exact E.fieldAddr (b := bo) (o := oo + j * 4) (f := { name := "Term", type := 3, offset := 2, embedded := false, tag := "", pkgPath := "", byteOffset := 16 }) (AF_ev rfl tp) Try.underlying46 rfl sz3 rfl) hS ?_
      refine RD.take 25 rfl (by kernel_rfl) Wd.a (v := .int .i64 tm) (fun w hS => by exact E.load (a := ⟨bo, oo + j * 4 + 2, none⟩) Try.underlying3 rfl (AF_ev rfl tp) hS.2) hS ?_
      refine RD.only 6 rfl (by kernel_rfl) Wd.a ?_
      obtain ⟨kk50, hkk50⟩ : ∃ z, z = nearF ix := ⟨_, rfl⟩
      have hrkk50 := nearF_range ix
      rw [← hkk50] at hrkk50
      refine H.call0 Try.func26 nm26 rfl (map1 (AF_ev rfl (up rfl (up rfl (up rfl (up rfl (up rfl (up rfl (up rfl (up rfl (up rfl (up rfl (up rfl (up rfl (up rfl (up rfl (up rfl (up rfl tp)))))))))))))))))) (Calls.mono (near17C (v := kk50) ix (by omega) hkk50.symm hst) ?_)
      rintro _ w ⟨rfl, hst⟩
      refine ⟨_, rfl, ?_⟩
      have hS : w.cell? ⟨bo, oo + j * 4 + 1, none⟩ = some (.int .i64 ix) ∧ w.cell? ⟨bo, oo + j * 4 + 2, none⟩ = some (.int .i64 tm) := ⟨(by rw [Nat.add_assoc]; exact Las_at hO hst (by omega) (flat_get LOp.enc_len ho (j := 1) rfl)), (by rw [Nat.add_assoc]; exact Las_at hO hst (by omega) (flat_get LOp.enc_len ho (j := 2) rfl))⟩
      refine ⟨fun _ => hS, ?_⟩
      refine RD.only 12 rfl (by kernel_rfl) Wd.a ?_
      refine H.call0 Try.func52 nm52 rfl (map2 (AF_ev rfl (up rfl (up rfl (up rfl (up rfl (up rfl (up rfl (up rfl (up rfl (up rfl (up rfl (up rfl (up rfl tp))))))))))))) rfl) (Calls.mono (kind17 tm 9 (by omega) (by omega) hst) ?_)
      rintro _ w ⟨rfl, hst⟩
      refine ⟨_, rfl, ?_⟩
      have hS : w.cell? ⟨bo, oo + j * 4 + 1, none⟩ = some (.int .i64 ix) ∧ w.cell? ⟨bo, oo + j * 4 + 2, none⟩ = some (.int .i64 tm) := ⟨(by rw [Nat.add_assoc]; exact Las_at hO hst (by omega) (flat_get LOp.enc_len ho (j := 1) rfl)), (by rw [Nat.add_assoc]; exact Las_at hO hst (by omega) (flat_get LOp.enc_len ho (j := 2) rfl))⟩
      refine ⟨fun _ => hS, ?_⟩
      refine RD.only 13 rfl (by kernel_rfl) Wd.a ?_
      have hst := hst.take (.there (.there .here))
      refine H.call0 Try.func34 nm34 rfl (map3 (AF_ev rfl (up rfl (up rfl (up rfl (up rfl (up rfl (up rfl (up rfl (up rfl (up rfl (up rfl (up rfl (up rfl (up rfl (up rfl (up rfl (up rfl (up rfl (up rfl (up rfl (up rfl (up rfl (up rfl (up rfl tp)))))))))))))))))))))))) (AF_ev rfl (up rfl tp)) (AF_ev rfl tp)) (Calls.mono (ent_From kk50 (kindF tm 9) (by omega) hst) ?_)
      rintro _ w ⟨p, vX51, es53, hle, rfl, hokes53, hvses53, hst⟩
      obtain ⟨X51, c52, rfl, hcX51, hmX51, hlX51, hbX51⟩ := hst.shape
      have hp0 := hp0.le hle
      have hO := hO.le hle
      have hK := hK.le hle
      have hL2 := hL2.le hle
      have hEL2 := hEL2.le hle
      have hokes49 := hokes49.le hle
      have hEy := hEy.le hle
      have hvles53 := congrArg List.length hvses53
      simp only [vs, List.length_map] at hvles53
      have hfles53 := fromL_len (i := i45) (k := kk50) (most := kindF tm 9) (es := es43)
      have hst := refLe hle (hst.take (.there (.there .here)))
      refine ⟨_, rfl, ?_⟩
      have hS : w.cell? ⟨bo, oo + j * 4 + 1, none⟩ = some (.int .i64 ix) ∧ w.cell? ⟨bo, oo + j * 4 + 2, none⟩ = some (.int .i64 tm) := ⟨(by rw [Nat.add_assoc]; exact Las_at hO hst (by omega) (flat_get LOp.enc_len ho (j := 1) rfl)), (by rw [Nat.add_assoc]; exact Las_at hO hst (by omega) (flat_get LOp.enc_len ho (j := 2) rfl))⟩
      refine ⟨fun _ => hS, ?_⟩
      refine RD.only 20 rfl (by kernel_rfl) Wd.a ?_
      refine H.call0 Try.func26 nm26 rfl (map1 (AF_ev rfl (up rfl (up rfl (up rfl (up rfl (up rfl (up rfl (up rfl (up rfl tp)))))))))) (Calls.mono (near17C (v := kk50) ix (by omega) hkk50.symm hst) ?_)
      rintro _ w ⟨rfl, hst⟩
      refine ⟨_, rfl, ?_⟩
      have hS : w.cell? ⟨bo, oo + j * 4 + 1, none⟩ = some (.int .i64 ix) ∧ w.cell? ⟨bo, oo + j * 4 + 2, none⟩ = some (.int .i64 tm) := ⟨(by rw [Nat.add_assoc]; exact Las_at hO hst (by omega) (flat_get LOp.enc_len ho (j := 1) rfl)), (by rw [Nat.add_assoc]; exact Las_at hO hst (by omega) (flat_get LOp.enc_len ho (j := 2) rfl))⟩
      refine ⟨fun _ => hS, ?_⟩
      refine RD.only 26 rfl (by kernel_rfl) Wd.a ?_
      refine H.call0 Try.func52 nm52 rfl (map2 (AF_ev rfl (up rfl (up rfl (up rfl (up rfl tp))))) rfl) (Calls.mono (kind17 tm 9 (by omega) (by omega) hst) ?_)
      rintro _ w ⟨rfl, hst⟩
      refine ⟨_, rfl, ?_⟩
      have hS : w.cell? ⟨bo, oo + j * 4 + 1, none⟩ = some (.int .i64 ix) ∧ w.cell? ⟨bo, oo + j * 4 + 2, none⟩ = some (.int .i64 tm) := ⟨(by rw [Nat.add_assoc]; exact Las_at hO hst (by omega) (flat_get LOp.enc_len ho (j := 1) rfl)), (by rw [Nat.add_assoc]; exact Las_at hO hst (by omega) (flat_get LOp.enc_len ho (j := 2) rfl))⟩
      refine ⟨fun _ => hS, ?_⟩
      refine RD.only 27 rfl (by kernel_rfl) Wd.a ?_
      refine H.call0 Try.func57 nm57 rfl (map3 (AF_ev rfl (up rfl (up rfl (up rfl (up rfl (up rfl (up rfl (up rfl (up rfl (up rfl (up rfl (up rfl (up rfl (up rfl (up rfl (up rfl tp)))))))))))))))) (AF_ev rfl (up rfl tp)) (AF_ev rfl tp)) (Calls.mono (ref_From kk50 (kindF tm 9) (by omega) hst) ?_)
      rintro _ w ⟨vX55, rfl, hst⟩
      obtain ⟨X55, c56, rfl, hcX55, hmX55, hlX55, hbX55⟩ := hst.shape
      refine ⟨_, rfl, ?_⟩
      have hS : w.cell? ⟨bo, oo + j * 4 + 1, none⟩ = some (.int .i64 ix) ∧ w.cell? ⟨bo, oo + j * 4 + 2, none⟩ = some (.int .i64 tm) := ⟨(by rw [Nat.add_assoc]; exact Las_at hO hst (by omega) (flat_get LOp.enc_len ho (j := 1) rfl)), (by rw [Nat.add_assoc]; exact Las_at hO hst (by omega) (flat_get LOp.enc_len ho (j := 2) rfl))⟩
      refine ⟨fun _ => hS, ?_⟩
      refine RD.only 28 rfl (by kernel_rfl) Wd.a ?_
      have hst := hst.take (.there (.there .here))
      refine H.call0 Try.func56 nm56 rfl (map2 (AF_ev rfl (up rfl (up rfl (up rfl tp)))) (AF_ev rfl tp)) (Calls.mono (ent_SameL Own.tells Own.tells hokes53 (fromL_ok hEy) (by rw [hvses53, fromL_vs, fromL_vs, hv2]) (by omega) hst) ?_)
      rintro _ w ⟨rfl, hst⟩
      refine ⟨_, rfl, ?_⟩
      have hS : w.cell? ⟨bo, oo + j * 4 + 1, none⟩ = some (.int .i64 ix) ∧ w.cell? ⟨bo, oo + j * 4 + 2, none⟩ = some (.int .i64 tm) := ⟨(by rw [Nat.add_assoc]; exact Las_at hO hst (by omega) (flat_get LOp.enc_len ho (j := 1) rfl)), (by rw [Nat.add_assoc]; exact Las_at hO hst (by omega) (flat_get LOp.enc_len ho (j := 2) rfl))⟩
      refine ⟨fun _ => hS, ?_⟩
      refine RD.only 29 rfl (by kernel_rfl) Wd.a (Hd.value (v := .bool true) (by exact E.assign (AF_ev rfl tp)) ⟨fun h => Bool.noConfusion ((show needs _ _ _ = false by kernel_rfl).symm.trans h), ?_⟩)
      refine RD.fin (by kernel_rfl) (fun τ => τ 2 = .slice (some ⟨bo, oo, none⟩) os.length e ∧ τ 8 = .pointer (some ⟨bg, 0, none⟩) ∧ τ 9 = .pointer (some ⟨br13, 0, none⟩) ∧ τ 10 = .int .i64 ((j : Nat) : Int) ∧ τ 12 = .bool true ∧ τ 13 = .slice X47 es49.length c48 ∧ τ 14 = .bool true ∧ τ 15 = .bool true ∧ τ 57 = .bool true ∧ τ 66 = .bool false) ⟨up rfl (up rfl (up rfl (up rfl (up rfl (up rfl (up rfl (up rfl (up rfl (up rfl (up rfl (up rfl (up rfl (up rfl (up rfl (up rfl (up rfl (up rfl (up rfl (up rfl (up rfl (up rfl (up rfl (up rfl (up rfl (up rfl (up rfl (up rfl (up rfl (up rfl hs2))))))))))))))))))))))))))))), up rfl (up rfl (up rfl (up rfl (up rfl (up rfl (up rfl (up rfl (up rfl (up rfl (up rfl (up rfl (up rfl (up rfl (up rfl (up rfl (up rfl (up rfl (up rfl (up rfl (up rfl (up rfl (up rfl (up rfl (up rfl (up rfl (up rfl (up rfl (up rfl (up rfl hs8))))))))))))))))))))))))))))), up rfl (up rfl (up rfl (up rfl (up rfl (up rfl (up rfl (up rfl (up rfl (up rfl (up rfl (up rfl (up rfl (up rfl (up rfl (up rfl (up rfl (up rfl (up rfl (up rfl (up rfl (up rfl (up rfl (up rfl (up rfl (up rfl (up rfl (up rfl (up rfl (up rfl hs9))))))))))))))))))))))))))))), up rfl (up rfl (up rfl (up rfl (up rfl (up rfl (up rfl (up rfl (up rfl (up rfl (up rfl (up rfl (up rfl (up rfl (up rfl (up rfl (up rfl (up rfl (up rfl (up rfl (up rfl (up rfl (up rfl (up rfl (up rfl (up rfl (up rfl (up rfl (up rfl (up rfl hs10))))))))))))))))))))))))))))), up rfl (up rfl (up rfl (up rfl (up rfl (up rfl (up rfl (up rfl (up rfl (up rfl (up rfl (up rfl (up rfl (up rfl (up rfl (up rfl (up rfl (up rfl (up rfl (up rfl (up rfl (up rfl (up rfl (up rfl (up rfl (up rfl (up rfl (up rfl (up rfl (up rfl hs12))))))))))))))))))))))))))))), up rfl (up rfl (up rfl (up rfl (up rfl (up rfl (up rfl (up rfl (up rfl (up rfl (up rfl (up rfl (up rfl (up rfl (up rfl (up rfl (up rfl (up rfl (up rfl (up rfl (up rfl (up rfl (up rfl (up rfl (up rfl (up rfl (up rfl (up rfl (up rfl (up rfl hs13))))))))))))))))))))))))))))), up rfl (up rfl (up rfl (up rfl (up rfl (up rfl (up rfl (up rfl (up rfl (up rfl (up rfl (up rfl (up rfl (up rfl (up rfl (up rfl (up rfl (up rfl (up rfl (up rfl (up rfl (up rfl (up rfl (up rfl (up rfl (up rfl (up rfl (up rfl (up rfl (up rfl hs14))))))))))))))))))))))))))))), tp, up rfl (up rfl (up rfl (up rfl (up rfl (up rfl (up rfl (up rfl (up rfl (up rfl (up rfl (up rfl (up rfl (up rfl (up rfl (up rfl (up rfl (up rfl (up rfl (up rfl (up rfl (up rfl (up rfl (up rfl (up rfl (up rfl (up rfl (up rfl (up rfl (up rfl hs57))))))))))))))))))))))))))))), up rfl (up rfl (up rfl (up rfl (up rfl (up rfl (up rfl (up rfl (up rfl (up rfl (up rfl (up rfl (up rfl (up rfl (up rfl (up rfl (up rfl (up rfl (up rfl (up rfl (up rfl (up rfl (up rfl (up rfl (up rfl (up rfl (up rfl (up rfl (up rfl (up rfl hs66)))))))))))))))))))))))))))))⟩ ?_
      rintro τ ⟨hs2, hs8, hs9, hs10, hs12, hs13, hs14, hs15, hs57, hs66⟩
      refine CW.seq ?_
      refine CW.seq ?_
      have hst := hst.take (.there (.there .here))
      obtain ⟨Xr, cr, hri, hrn, hrE, hrc, hrX, hst⟩ := refOpen hst
      have hEy := hrE
      refine CW.regionD [0, 1, 2, 3, 4, 5, 6, 7, 8, 9, 10, 11, 13, 14, 15, 16, 17, 18, 21, 23, 25] (fun w => w.cell? ⟨br13, 0, none⟩ = some (.int .i64 i45)) mixed ?_
      have hst := hst.drew
      generalize w.drew = w at hst ⊢
      have hS : w.cell? ⟨br13, 0, none⟩ = some (.int .i64 i45) := hst.cell .here rfl
      refine RD.take 0 rfl (by kernel_rfl) Wd.a (v := .bool true) (fun w hS => by exact E.move (AF_ev rfl hs12)) hS ?_
      refine RD.take 1 rfl (by kernel_rfl) Wd.a (v := .bool false) (fun w hS => by exact E.not (b := true) (AF_ev rfl tp)) hS ?_
      refine RD.take 2 rfl (by kernel_rfl) Wd.a (v := .bool false) (fun w hS => by exact E.move (AF_ev rfl tp)) hS ?_
      refine RD.take 3 rfl (by kernel_rfl) (by exact Wd.yes (x := 132) rfl (AF_ev rfl tp)) (v := .bool true) (fun w hS => by exact E.move (AF_ev rfl (up rfl (up rfl (up rfl hs14))))) hS ?_
      refine RD.take 4 rfl (by kernel_rfl) (by exact Wd.yes (x := 132) rfl (AF_ev rfl (up rfl tp))) (v := .bool false) (fun w hS => by exact E.not (b := true) (AF_ev rfl tp)) hS ?_
      refine RD.take 5 rfl (by kernel_rfl) Wd.a (v := .bool false) (fun w hS => by exact E.pickF (AF_ev rfl (up rfl (up rfl tp))) (AF_ev rfl tp)) hS ?_
      refine RD.take 6 rfl (by kernel_rfl) Wd.a (v := .bool false) (fun w hS => by exact E.move (AF_ev rfl tp)) hS ?_
      refine RD.take 7 rfl (by kernel_rfl) (by exact Wd.yes (x := 136) rfl (AF_ev rfl tp)) (v := .bool true) (fun w hS => by exact E.move (AF_ev rfl (up rfl (up rfl (up rfl (up rfl (up rfl (up rfl (up rfl hs15))))))))) hS ?_
      refine RD.take 8 rfl (by kernel_rfl) (by exact Wd.yes (x := 136) rfl (AF_ev rfl (up rfl tp))) (v := .bool false) (fun w hS => by exact E.not (b := true) (AF_ev rfl tp)) hS ?_
      refine RD.take 9 rfl (by kernel_rfl) Wd.a (v := .bool false) (fun w hS => by exact E.pickF (AF_ev rfl (up rfl (up rfl tp))) (AF_ev rfl tp)) hS ?_
      refine RD.take 10 rfl (by kernel_rfl) Wd.a (v := .bool false) (fun w hS => by exact E.move (AF_ev rfl tp)) hS ?_
      refine RD.take 11 rfl (by kernel_rfl) (by exact Wd.yes (x := 140) rfl (AF_ev rfl tp)) (v := .pointer (some ⟨bg, 0, none⟩)) (fun w hS => by exact E.move (AF_ev rfl (up rfl (up rfl (up rfl (up rfl (up rfl (up rfl (up rfl (up rfl (up rfl (up rfl (up rfl hs8))))))))))))) hS ?_
      refine RD.take 13 rfl (by kernel_rfl) (by exact Wd.yes (x := 140) rfl (AF_ev rfl (up rfl tp))) (v := .pointer (some ⟨br13, 0, none⟩)) (fun w hS => by exact E.move (AF_ev rfl (up rfl (up rfl (up rfl (up rfl (up rfl (up rfl (up rfl (up rfl (up rfl (up rfl (up rfl (up rfl hs9)))))))))))))) hS ?_
      refine RD.take 14 rfl (by kernel_rfl) (by exact Wd.yes (x := 140) rfl (AF_ev rfl (up rfl (up rfl tp)))) (v := .pointer (some ⟨br13, 0, none⟩)) (fun w hS => by exact E.nilCheck (a := ⟨br13, 0, none⟩) (AF_ev rfl tp)) hS ?_
      refine RD.take 15 rfl (by kernel_rfl) (by exact Wd.yes (x := 140) rfl (AF_ev rfl (up rfl (up rfl (up rfl tp))))) (v := .pointer (some ⟨br13, 0, none⟩)) (fun w hS => by exact E.fieldAddr (b := br13) (o := 0) (f := { name := "Index", type := 3, offset := 0, embedded := false, tag := "", pkgPath := "", byteOffset := 0 }) (AF_ev rfl tp) Try.underlying106 rfl sz3 rfl) hS ?_
      refine RD.take 16 rfl (by kernel_rfl) (by exact Wd.yes (x := 140) rfl (AF_ev rfl (up rfl (up rfl (up rfl (up rfl tp)))))) (v := .int .i64 i45) (fun w hS => by exact E.load (a := ⟨br13, 0, none⟩) Try.underlying3 rfl (AF_ev rfl tp) hS) hS ?_
      refine RD.take 17 rfl (by kernel_rfl) (by exact Wd.yes (x := 140) rfl (AF_ev rfl (up rfl (up rfl (up rfl (up rfl (up rfl tp))))))) (v := .int .i64 (i45 + 1)) (fun w hS => by exact E.add (k := .i64) (a := i45) (b := 1) (AF_ev rfl tp) rfl (show IntKind.i64.wrap (i45 + 1) = i45 + 1 from (by rw [IntWalk.i64_in _ (by omega)]))) hS ?_
      refine RD.only 12 rfl (by kernel_rfl) (by exact Wd.yes (x := 140) rfl (AF_ev rfl (up rfl (up rfl (up rfl (up rfl (up rfl (up rfl tp)))))))) ?_
      have hst := hst.take (.there (.there (.there (.there .here))))
      refine H.call0 Try.func31 nm31 rfl (map1 (AF_ev rfl (up rfl (up rfl (up rfl (up rfl (up rfl tp))))))) (Calls.mono (ent_FirstL hst) ?_)
      rintro _ w ⟨rfl, hst⟩
      refine ⟨_, rfl, ?_⟩
      have hS : w.cell? ⟨br13, 0, none⟩ = some (.int .i64 i45) := hst.cell (.there .here) rfl
      refine ⟨fun _ => hS, ?_⟩
      refine RD.take 18 rfl (by kernel_rfl) (by exact Wd.yes (x := 140) rfl (AF_ev rfl (up rfl (up rfl (up rfl (up rfl (up rfl (up rfl (up rfl tp))))))))) (v := .bool false) (fun w hS => by exact E.b (a := (i45 + 1) != (i45 + 1)) (E.neq (k := .i64) (a := i45 + 1) (b := i45 + 1) (AF_ev rfl tp) (AF_ev rfl (up rfl tp))) (by simp)) hS ?_
      refine RD.only 19 rfl (by kernel_rfl) Wd.a (Hd.value (v := .bool false) (by exact E.pickF (AF_ev rfl (up rfl (up rfl (up rfl (up rfl (up rfl (up rfl (up rfl (up rfl tp))))))))) (AF_ev rfl tp)) ⟨fun _ => hS, ?_⟩)
      refine RD.only 20 rfl (by kernel_rfl) Wd.a (Hd.value (v := .bool false) (by exact E.move (AF_ev rfl tp)) ⟨fun _ => hS, ?_⟩)
      refine RD.take 21 rfl (by kernel_rfl) (by exact Wd.yes (x := 150) rfl (AF_ev rfl tp)) (v := .pointer (some ⟨bg, 0, none⟩)) (fun w hS => by exact E.move (AF_ev rfl (up rfl (up rfl (up rfl (up rfl (up rfl (up rfl (up rfl (up rfl (up rfl (up rfl (up rfl (up rfl (up rfl (up rfl (up rfl (up rfl (up rfl (up rfl (up rfl (up rfl (up rfl hs8))))))))))))))))))))))) hS ?_
      refine RD.take 23 rfl (by kernel_rfl) (by exact Wd.yes (x := 150) rfl (AF_ev rfl (up rfl tp))) (v := .pointer (some ⟨br13, 0, none⟩)) (fun w hS => by exact E.move (AF_ev rfl (up rfl (up rfl (up rfl (up rfl (up rfl (up rfl (up rfl (up rfl (up rfl (up rfl (up rfl (up rfl (up rfl (up rfl (up rfl (up rfl (up rfl (up rfl (up rfl (up rfl (up rfl (up rfl hs9)))))))))))))))))))))))) hS ?_
      refine RD.only 22 rfl (by kernel_rfl) (by exact Wd.yes (x := 150) rfl (AF_ev rfl (up rfl (up rfl tp)))) ?_
      refine H.call0 Try.func30 nm30 rfl (map1 (AF_ev rfl (up rfl tp))) (Calls.mono (ent_LastL (v := i45 + ((es43.length : Nat) : Int)) rfl hst) ?_)
      rintro _ w ⟨rfl, hst⟩
      refine ⟨_, rfl, ?_⟩
      have hS : w.cell? ⟨br13, 0, none⟩ = some (.int .i64 i45) := hst.cell (.there .here) rfl
      refine ⟨fun _ => hS, ?_⟩
      refine RD.only 24 rfl (by kernel_rfl) (by exact Wd.yes (x := 150) rfl (AF_ev rfl (up rfl (up rfl (up rfl tp))))) ?_
      have hst := hst.take (.there .here)
      refine H.call0 Try.func58 nm58 rfl (map1 (AF_ev rfl (up rfl tp))) (Calls.mono (ref_Last (by omega) (by omega) hst) ?_)
      rintro _ w ⟨rfl, hst⟩
      refine ⟨_, rfl, ?_⟩
      have hS : w.cell? ⟨br13, 0, none⟩ = some (.int .i64 i45) := hst.cell .here rfl
      refine ⟨fun _ => hS, ?_⟩
      refine RD.take 25 rfl (by kernel_rfl) (by exact Wd.yes (x := 150) rfl (AF_ev rfl (up rfl (up rfl (up rfl (up rfl tp)))))) (v := .bool false) (fun w hS => by exact E.b (a := (i45 + ((es43.length : Nat) : Int)) != (i45 + ((ys44.length : Nat) : Int))) (E.neq (k := .i64) (a := i45 + ((es43.length : Nat) : Int)) (b := i45 + ((ys44.length : Nat) : Int)) (AF_ev rfl (up rfl tp)) (AF_ev rfl tp)) (by rw [bne_eq_false_iff_eq]; omega)) hS ?_
      refine RD.only 26 rfl (by kernel_rfl) Wd.a (Hd.value (v := .bool false) (by exact E.pickF (AF_ev rfl (up rfl (up rfl (up rfl (up rfl (up rfl tp)))))) (AF_ev rfl tp)) ⟨fun _ => hS, ?_⟩)
      refine RD.fin (by kernel_rfl) (fun τ => τ 2 = .slice (some ⟨bo, oo, none⟩) os.length e ∧ τ 8 = .pointer (some ⟨bg, 0, none⟩) ∧ τ 9 = .pointer (some ⟨br13, 0, none⟩) ∧ τ 10 = .int .i64 ((j : Nat) : Int) ∧ τ 12 = .bool true ∧ τ 13 = .slice X47 es49.length c48 ∧ τ 14 = .bool true ∧ τ 15 = .bool true ∧ τ 57 = .bool true ∧ τ 66 = .bool false ∧ τ 156 = .bool false) ⟨up rfl (up rfl (up rfl (up rfl (up rfl (up rfl (up rfl (up rfl (up rfl (up rfl (up rfl (up rfl (up rfl (up rfl (up rfl (up rfl (up rfl (up rfl (up rfl (up rfl (up rfl (up rfl (up rfl (up rfl (up rfl (up rfl (up rfl hs2)))))))))))))))))))))))))), up rfl (up rfl (up rfl (up rfl (up rfl (up rfl (up rfl (up rfl (up rfl (up rfl (up rfl (up rfl (up rfl (up rfl (up rfl (up rfl (up rfl (up rfl (up rfl (up rfl (up rfl (up rfl (up rfl (up rfl (up rfl (up rfl (up rfl hs8)))))))))))))))))))))))))), up rfl (up rfl (up rfl (up rfl (up rfl (up rfl (up rfl (up rfl (up rfl (up rfl (up rfl (up rfl (up rfl (up rfl (up rfl (up rfl (up rfl (up rfl (up rfl (up rfl (up rfl (up rfl (up rfl (up rfl (up rfl (up rfl (up rfl hs9)))))))))))))))))))))))))), up rfl (up rfl (up rfl (up rfl (up rfl (up rfl (up rfl (up rfl (up rfl (up rfl (up rfl (up rfl (up rfl (up rfl (up rfl (up rfl (up rfl (up rfl (up rfl (up rfl (up rfl (up rfl (up rfl (up rfl (up rfl (up rfl (up rfl hs10)))))))))))))))))))))))))), up rfl (up rfl (up rfl (up rfl (up rfl (up rfl (up rfl (up rfl (up rfl (up rfl (up rfl (up rfl (up rfl (up rfl (up rfl (up rfl (up rfl (up rfl (up rfl (up rfl (up rfl (up rfl (up rfl (up rfl (up rfl (up rfl (up rfl hs12)))))))))))))))))))))))))), up rfl (up rfl (up rfl (up rfl (up rfl (up rfl (up rfl (up rfl (up rfl (up rfl (up rfl (up rfl (up rfl (up rfl (up rfl (up rfl (up rfl (up rfl (up rfl (up rfl (up rfl (up rfl (up rfl (up rfl (up rfl (up rfl (up rfl hs13)))))))))))))))))))))))))), up rfl (up rfl (up rfl (up rfl (up rfl (up rfl (up rfl (up rfl (up rfl (up rfl (up rfl (up rfl (up rfl (up rfl (up rfl (up rfl (up rfl (up rfl (up rfl (up rfl (up rfl (up rfl (up rfl (up rfl (up rfl (up rfl (up rfl hs14)))))))))))))))))))))))))), up rfl (up rfl (up rfl (up rfl (up rfl (up rfl (up rfl (up rfl (up rfl (up rfl (up rfl (up rfl (up rfl (up rfl (up rfl (up rfl (up rfl (up rfl (up rfl (up rfl (up rfl (up rfl (up rfl (up rfl (up rfl (up rfl (up rfl hs15)))))))))))))))))))))))))), up rfl (up rfl (up rfl (up rfl (up rfl (up rfl (up rfl (up rfl (up rfl (up rfl (up rfl (up rfl (up rfl (up rfl (up rfl (up rfl (up rfl (up rfl (up rfl (up rfl (up rfl (up rfl (up rfl (up rfl (up rfl (up rfl (up rfl hs57)))))))))))))))))))))))))), up rfl (up rfl (up rfl (up rfl (up rfl (up rfl (up rfl (up rfl (up rfl (up rfl (up rfl (up rfl (up rfl (up rfl (up rfl (up rfl (up rfl (up rfl (up rfl (up rfl (up rfl (up rfl (up rfl (up rfl (up rfl (up rfl (up rfl hs66)))))))))))))))))))))))))), tp⟩ ?_
      rintro τ ⟨hs2, hs8, hs9, hs10, hs12, hs13, hs14, hs15, hs57, hs66, hs156⟩
      refine CW.condF (AF_ev rfl hs156) ?_
      refine CW.skip ?_
      refine Th.n ?_
      refine CW.seq ?_
      refine CW.seq ?_
      have hst := hst.take (.there (.there .here))
      have hst := hst.take (.there .here)
      have hst := refClose hri hrn hEy hst
      have hl3 := hvles49
      refine CW.region ?_
      refine RW.soft Wd.a (v := .int .i64 0) (by exact E.assign rfl) ?_
      refine RW.fin (fun τ => τ 2 = .slice (some ⟨bo, oo, none⟩) os.length e ∧ τ 8 = .pointer (some ⟨bg, 0, none⟩) ∧ τ 9 = .pointer (some ⟨br13, 0, none⟩) ∧ τ 10 = .int .i64 ((j : Nat) : Int) ∧ τ 12 = .bool true ∧ τ 13 = .slice X47 es49.length c48 ∧ τ 14 = .bool true ∧ τ 15 = .bool true ∧ τ 16 = .int .i64 0 ∧ τ 57 = .bool true ∧ τ 66 = .bool false ∧ τ 156 = .bool false) ⟨up rfl hs2, up rfl hs8, up rfl hs9, up rfl hs10, up rfl hs12, up rfl hs13, up rfl hs14, up rfl hs15, tp, up rfl hs57, up rfl hs66, up rfl hs156⟩ ?_
      rintro τ ⟨hs2, hs8, hs9, hs10, hs12, hs13, hs14, hs15, hs16, hs57, hs66, hs156⟩
      refine CW.block ?_
      have hst := hst.take (.there (.there (.there (.there .here))))
      have hst := hst.take (.there .here)
      have hst := hst.take (.there (.there .here))
      have hst := (hst.take (.there (.there (.there .here)))).drop
      have hst := (hst.take (.there (.there (.there .here)))).drop
      refine CW.loop (fun (k : Nat) (τ : Fr) (w : World) => ∃ (m : Nat) (xs : List Value), m ≤ es49.length ∧ k = es49.length - m ∧ τ 2 = .slice (some ⟨bo, oo, none⟩) os.length e ∧ τ 8 = .pointer (some ⟨bg, 0, none⟩) ∧ τ 9 = .pointer (some ⟨br13, 0, none⟩) ∧ τ 10 = .int .i64 ((j : Nat) : Int) ∧ τ 13 = .slice X47 es49.length c48 ∧ τ 16 = .int .i64 ((m : Nat) : Int) ∧ St p w (LogB p bg i45 t46 es43 :: RefB p br13 i45 t46 ys44 :: Own 58 4 (.slice X47 es49.length c48) es49.length xs :: R)) (es49.length - 0) ⟨0, _, by omega, rfl, hs2, hs8, hs9, hs10, hs13, (int_eq (a := 0) hs16 (by omega)), hst⟩ ?_
      clear hst
      rintro k τ w ⟨m, xs, hm, hkm, hs2, hs8, hs9, hs10, hs13, hs16, hst⟩
      refine CW.seq ?_
      refine CW.seq ?_
      refine CW.region ?_
      refine RW.soft Wd.a (v := .int .i64 ((m : Nat) : Int)) (by exact E.move (AF_ev rfl hs16)) ?_
      refine RW.soft Wd.a (v := .slice X47 es49.length c48) (by exact E.move (AF_ev rfl (up rfl hs13))) ?_
      refine RW.soft Wd.a (v := .int .i64 ((es49.length : Nat) : Int)) (by exact E.lenS (p := X47) (l := es49.length) (c := c48) Try.underlying44 (AF_ev rfl tp)) ?_
      refine RW.soft Wd.a (v := .bool (decide (((m : Nat) : Int) < ((es49.length : Nat) : Int)))) (by exact E.lss (k := .i64) (a := ((m : Nat) : Int)) (b := ((es49.length : Nat) : Int)) (AF_ev rfl (up rfl (up rfl tp))) (AF_ev rfl tp)) ?_
      refine RW.fin (fun τ => τ 2 = .slice (some ⟨bo, oo, none⟩) os.length e ∧ τ 8 = .pointer (some ⟨bg, 0, none⟩) ∧ τ 9 = .pointer (some ⟨br13, 0, none⟩) ∧ τ 10 = .int .i64 ((j : Nat) : Int) ∧ τ 13 = .slice X47 es49.length c48 ∧ τ 16 = .int .i64 ((m : Nat) : Int) ∧ τ 160 = .bool (decide (((m : Nat) : Int) < ((es49.length : Nat) : Int)))) ⟨up rfl (up rfl (up rfl (up rfl hs2))), up rfl (up rfl (up rfl (up rfl hs8))), up rfl (up rfl (up rfl (up rfl hs9))), up rfl (up rfl (up rfl (up rfl hs10))), up rfl (up rfl (up rfl (up rfl hs13))), up rfl (up rfl (up rfl (up rfl hs16))), tp⟩ ?_
      rintro τ ⟨hs2, hs8, hs9, hs10, hs13, hs16, hs160⟩
      refine CW.cond (AF_ev rfl hs160) (fun hc57 => ?_) (fun hc57 => ?_)
      · have hc57_ := hc57
        try simp only [decide_eq_true_eq, decide_eq_false_iff_not, Bool.and_eq_true, Bool.or_eq_true, Bool.and_eq_false_iff, Bool.or_eq_false_iff, Bool.not_eq_true', Bool.not_eq_false', beq_iff_eq, beq_eq_false_iff_ne, bne_iff_ne, bne_eq_false_iff_eq, ne_eq, Int.not_lt, Int.not_le, gt_iff_lt, ge_iff_le] at hc57_
        refine CW.skip ?_
        refine Th.n ?_
        refine CW.seq ?_
        refine CW.block ?_
        obtain ⟨g3, rfl⟩ := hbX47 (by omega)
        refine CW.region ?_
        refine RW.soft Wd.a (v := .slice (some ⟨g3, 0, none⟩) es49.length c48) (by exact E.move (AF_ev rfl hs13)) ?_
        refine RW.soft Wd.a (v := .int .i64 ((m : Nat) : Int)) (by exact E.move (AF_ev rfl (up rfl hs16))) ?_
        refine RW.soft Wd.a (v := .agg #[.int .i64 88, .int .i64 0, .slice none 0 0, .slice none 0 0]) (by exact E.build (vs := #[(0, .int .i64 88)]) (bld1 rfl) (by kernel_rfl)) ?_
        refine RW.soft Wd.a (v := .pointer (some ⟨g3, m * 4, none⟩)) (by exact E.indexAddr (b := g3) (o := 0) (l := es49.length) (c := c48) (i := ((m : Nat) : Int)) Try.underlying44 sz58 (AF_ev rfl (up rfl (up rfl tp))) (AF_ev rfl (up rfl tp)) (by omega) (by omega) (by simp)) ?_
        refine RW.hard Wd.a ?_
        refine H.storeOwn (b := g3) (o := m * 4) (k := es49.length) (c := c48) (v := .agg #[.int .i64 88, .int .i64 0, .slice none 0 0, .slice none 0 0]) (AF_ev rfl tp) (AF_ev rfl (up rfl tp)) hst (.there (.there .here)) (by omega) sz58 (show m * 4 + 4 ≤ es49.length * 4 by omega) (by simp [Value.cells, Value.oneCell']) fun xs58 w hst => ?_
        refine RW.nil ?_
        refine Bl.n ?_
        refine Th.n ?_
        refine CW.region ?_
        refine RW.soft Wd.a (v := .int .i64 ((m : Nat) : Int)) (by exact E.move (AF_ev rfl (u0 (up rfl (up rfl (up rfl (up rfl hs16))))))) ?_
        refine RW.soft Wd.a (v := .int .i64 (((m : Nat) : Int) + 1)) (by exact E.add (k := .i64) (a := ((m : Nat) : Int)) (b := 1) (AF_ev rfl tp) rfl (show IntKind.i64.wrap (((m : Nat) : Int) + 1) = ((m : Nat) : Int) + 1 from (by rw [IntWalk.i64_in _ (by omega)]))) ?_
        refine RW.soft Wd.a (v := .int .i64 (((m : Nat) : Int) + 1)) (by exact E.assign (AF_ev rfl tp)) ?_
        refine RW.nil ?_
        refine Th.n ?_
        have hst := hst.take (.there (.there .here))
        have hst := hst.take (.there (.there .here))
        exact ⟨es49.length - (m + 1), by omega, m + 1, xs58, (by omega), (by omega), up rfl (up rfl (up rfl (u0 (up rfl (up rfl (up rfl (up rfl hs2))))))), up rfl (up rfl (up rfl (u0 (up rfl (up rfl (up rfl (up rfl hs8))))))), up rfl (up rfl (up rfl (u0 (up rfl (up rfl (up rfl (up rfl hs9))))))), up rfl (up rfl (up rfl (u0 (up rfl (up rfl (up rfl (up rfl hs10))))))), up rfl (up rfl (up rfl (u0 (up rfl (up rfl (up rfl (up rfl hs13))))))), (int_eq (a := ((m : Nat) : Int) + 1) tp (by omega)), hst⟩
      · have hc57_ := hc57
        try simp only [decide_eq_true_eq, decide_eq_false_iff_not, Bool.and_eq_true, Bool.or_eq_true, Bool.and_eq_false_iff, Bool.or_eq_false_iff, Bool.not_eq_true', Bool.not_eq_false', beq_iff_eq, beq_eq_false_iff_ne, bne_iff_ne, bne_eq_false_iff_eq, ne_eq, Int.not_lt, Int.not_le, gt_iff_lt, ge_iff_le] at hc57_
        refine CW.exit ?_
        refine Th.x ?_
        refine Th.x ?_
        refine Bl.x ?_
        refine Th.n ?_
        refine CW.seq ?_
        have hst := hst.take (.there .here)
        obtain ⟨Xr, cr, hri, hrn, hrE, hrc, hrX, hst⟩ := refOpen hst
        have hEy := hrE
        refine CW.region ?_
        refine RW.soft Wd.a (v := .pointer (some ⟨br13, 0, none⟩)) (by exact E.move (AF_ev rfl hs9)) ?_
        refine RW.soft Wd.a (v := .pointer (some ⟨br13, 0, none⟩)) (by exact E.nilCheck (a := ⟨br13, 0, none⟩) (AF_ev rfl tp)) ?_
        refine RW.soft Wd.a (v := .pointer (some ⟨br13, 0, none⟩)) (by exact E.fieldAddr (b := br13) (o := 0) (f := { name := "Index", type := 3, offset := 0, embedded := false, tag := "", pkgPath := "", byteOffset := 0 }) (AF_ev rfl tp) Try.underlying106 rfl sz3 rfl) ?_
        refine RW.soft Wd.a (v := .int .i64 i45) (by exact E.load (a := ⟨br13, 0, none⟩) Try.underlying3 rfl (AF_ev rfl tp) (hst.cell .here rfl)) ?_
        refine RW.soft Wd.a (v := .int .i64 (i45 - 1)) (by exact E.sub (k := .i64) (a := i45) (b := 1) (AF_ev rfl tp) rfl (show IntKind.i64.wrap (i45 - 1) = i45 - 1 from (by rw [IntWalk.i64_in _ (by omega)]))) ?_
        refine RW.soft Wd.a (v := .int .i64 (i45 - 1)) (by exact E.assign (AF_ev rfl tp)) ?_
        refine RW.fin (fun τ => τ 2 = .slice (some ⟨bo, oo, none⟩) os.length e ∧ τ 8 = .pointer (some ⟨bg, 0, none⟩) ∧ τ 9 = .pointer (some ⟨br13, 0, none⟩) ∧ τ 10 = .int .i64 ((j : Nat) : Int) ∧ τ 13 = .slice X47 es49.length c48 ∧ τ 16 = .int .i64 ((m : Nat) : Int) ∧ τ 17 = .int .i64 (i45 - 1) ∧ τ 160 = .bool false) ⟨up rfl (up rfl (up rfl (up rfl (up rfl (up rfl hs2))))), up rfl (up rfl (up rfl (up rfl (up rfl (up rfl hs8))))), up rfl (up rfl (up rfl (up rfl (up rfl (up rfl hs9))))), up rfl (up rfl (up rfl (up rfl (up rfl (up rfl hs10))))), up rfl (up rfl (up rfl (up rfl (up rfl (up rfl hs13))))), up rfl (up rfl (up rfl (up rfl (up rfl (up rfl hs16))))), tp, up rfl (up rfl (up rfl (up rfl (up rfl (up rfl (Eq.trans hs160 (congrArg Value.bool hc57)))))))⟩ ?_
        rintro τ ⟨hs2, hs8, hs9, hs10, hs13, hs16, hs17, hs160⟩
        refine CW.block ?_
        have hst := hst.take (.there .here)
        have hst := hst.take (.there .here)
        have hst := refClose hri hrn hEy hst
        have hst := hst.take (.there .here)
        have hst := (hst.take (.there (.there .here))).drop
        refine CW.loop (fun (k : Nat) (τ : Fr) (w : World) => ∃ (p : Pers) (m : Nat), p0.le p ∧ Las p 4 (.slice (some ⟨bo, oo, none⟩) os.length e) os.length (os.flatMap LOp.enc) ∧ LsOk p os ∧ EsOk p ys44 ∧ m ≤ ys44.length + 3 ∧ k = ys44.length + 3 - m ∧ τ 2 = .slice (some ⟨bo, oo, none⟩) os.length e ∧ τ 8 = .pointer (some ⟨bg, 0, none⟩) ∧ τ 9 = .pointer (some ⟨br13, 0, none⟩) ∧ τ 10 = .int .i64 ((j : Nat) : Int) ∧ τ 17 = .int .i64 (i45 - 1 + ((m : Nat) : Int)) ∧ St p w (LogB p bg i45 t46 es43 :: RefB p br13 i45 t46 ys44 :: R)) (ys44.length + 3 - 0) ⟨p, 0, hp0, hO, hK, hEy, (by omega), rfl, hs2, hs8, hs9, hs10, (int_eq (a := i45 - 1) hs17 (by omega)), hst⟩ ?_
        clear hst
        rintro k τ w ⟨p, m, hp0, hO, hK, hEy, hm, hkm, hs2, hs8, hs9, hs10, hs17, hst⟩
        refine CW.seq ?_
        refine CW.seq ?_
        refine CW.region ?_
        refine RW.soft Wd.a (v := .int .i64 (i45 - 1 + ((m : Nat) : Int))) (by exact E.move (AF_ev rfl hs17)) ?_
        refine RW.soft Wd.a (v := .pointer (some ⟨br13, 0, none⟩)) (by exact E.move (AF_ev rfl (up rfl hs9))) ?_
        have hst := hst.take (.there .here)
        refine RW.hard Wd.a ?_
        refine H.call0 Try.func58 nm58 rfl (map1 (AF_ev rfl tp)) (Calls.mono (ref_LastL hst) ?_)
        rintro _ w ⟨rfl, hst⟩
        refine ⟨_, rfl, ?_⟩
        show RW _ _ _ _ _ _ _
        refine RW.soft Wd.a (v := .int .i64 (i45 + ((ys44.length : Nat) : Int) + 1)) (by exact E.add (k := .i64) (a := i45 + ((ys44.length : Nat) : Int)) (b := 1) (AF_ev rfl tp) rfl (show IntKind.i64.wrap ((i45 + ((ys44.length : Nat) : Int)) + 1) = i45 + ((ys44.length : Nat) : Int) + 1 from (by rw [IntWalk.i64_in _ (by omega)] <;> omega))) ?_
        refine RW.soft Wd.a (v := .bool (decide ((i45 - 1 + ((m : Nat) : Int)) ≤ (i45 + ((ys44.length : Nat) : Int) + 1)))) (by exact E.leq (k := .i64) (a := i45 - 1 + ((m : Nat) : Int)) (b := i45 + ((ys44.length : Nat) : Int) + 1) (AF_ev rfl (up rfl (up rfl (up rfl tp)))) (AF_ev rfl tp)) ?_
        refine RW.fin (fun τ => τ 2 = .slice (some ⟨bo, oo, none⟩) os.length e ∧ τ 8 = .pointer (some ⟨bg, 0, none⟩) ∧ τ 9 = .pointer (some ⟨br13, 0, none⟩) ∧ τ 10 = .int .i64 ((j : Nat) : Int) ∧ τ 17 = .int .i64 (i45 - 1 + ((m : Nat) : Int)) ∧ τ 176 = .bool (decide ((i45 - 1 + ((m : Nat) : Int)) ≤ (i45 + ((ys44.length : Nat) : Int) + 1)))) ⟨up rfl (up rfl (up rfl (up rfl (up rfl hs2)))), up rfl (up rfl (up rfl (up rfl (up rfl hs8)))), up rfl (up rfl (up rfl (up rfl (up rfl hs9)))), up rfl (up rfl (up rfl (up rfl (up rfl hs10)))), up rfl (up rfl (up rfl (up rfl (up rfl hs17)))), tp⟩ ?_
        rintro τ ⟨hs2, hs8, hs9, hs10, hs17, hs176⟩
        refine CW.cond (AF_ev rfl hs176) (fun hc59 => ?_) (fun hc59 => ?_)
        · have hc59_ := hc59
          try simp only [decide_eq_true_eq, decide_eq_false_iff_not, Bool.and_eq_true, Bool.or_eq_true, Bool.and_eq_false_iff, Bool.or_eq_false_iff, Bool.not_eq_true', Bool.not_eq_false', beq_iff_eq, beq_eq_false_iff_ne, bne_iff_ne, bne_eq_false_iff_eq, ne_eq, Int.not_lt, Int.not_le, gt_iff_lt, ge_iff_le] at hc59_
          refine CW.skip ?_
          refine Th.n ?_
          refine CW.seq ?_
          refine CW.block ?_
          refine CW.seq ?_
          refine CW.region ?_
          refine RW.soft Wd.a (v := .pointer (some ⟨bg, 0, none⟩)) (by exact E.move (AF_ev rfl hs8)) ?_
          refine RW.soft Wd.a (v := .int .i64 (i45 - 1 + ((m : Nat) : Int))) (by exact E.move (AF_ev rfl (up rfl hs17))) ?_
          have hst := hst.take (.there .here)
          refine RW.hard Wd.a ?_
          refine H.call0 Try.func32 nm32 rfl (map2 (AF_ev rfl (up rfl tp)) (AF_ev rfl tp)) (Calls.mono (ent_TermL (v := termT i45 t46 (ts es43) (i45 - 1 + ((m : Nat) : Int))) (u := termE i45 (ts es43) (i45 - 1 + ((m : Nat) : Int))) (i45 - 1 + ((m : Nat) : Int)) (by omega) rfl rfl hst) ?_)
          rintro _ w ⟨rfl, hst⟩
          refine ⟨_, rfl, ?_⟩
          show RW _ _ _ _ _ _ _
          refine RW.soft Wd.a (v := .tuple #[.int .i64 (termT i45 t46 (ts es43) (i45 - 1 + ((m : Nat) : Int))), .int .i64 (termE i45 (ts es43) (i45 - 1 + ((m : Nat) : Int)))]) (by exact E.move (AF_ev rfl tp)) ?_
          refine RW.soft Wd.a (v := .int .i64 (termT i45 t46 (ts es43) (i45 - 1 + ((m : Nat) : Int)))) (by exact E.extract (vs := #[.int .i64 (termT i45 t46 (ts es43) (i45 - 1 + ((m : Nat) : Int))), .int .i64 (termE i45 (ts es43) (i45 - 1 + ((m : Nat) : Int)))]) (AF_ev rfl tp) rfl) ?_
          refine RW.soft Wd.a (v := .int .i64 (termE i45 (ts es43) (i45 - 1 + ((m : Nat) : Int)))) (by exact E.extract (vs := #[.int .i64 (termT i45 t46 (ts es43) (i45 - 1 + ((m : Nat) : Int))), .int .i64 (termE i45 (ts es43) (i45 - 1 + ((m : Nat) : Int)))]) (AF_ev rfl (up rfl tp)) rfl) ?_
          refine RW.soft Wd.a (v := .int .i64 (termT i45 t46 (ts es43) (i45 - 1 + ((m : Nat) : Int)))) (by exact E.assign (AF_ev rfl (up rfl tp))) ?_
          refine RW.soft Wd.a (v := .int .i64 (termE i45 (ts es43) (i45 - 1 + ((m : Nat) : Int)))) (by exact E.assign (AF_ev rfl (up rfl tp))) ?_
          refine RW.fin (fun τ => τ 2 = .slice (some ⟨bo, oo, none⟩) os.length e ∧ τ 8 = .pointer (some ⟨bg, 0, none⟩) ∧ τ 9 = .pointer (some ⟨br13, 0, none⟩) ∧ τ 10 = .int .i64 ((j : Nat) : Int) ∧ τ 17 = .int .i64 (i45 - 1 + ((m : Nat) : Int)) ∧ τ 18 = .int .i64 (termT i45 t46 (ts es43) (i45 - 1 + ((m : Nat) : Int))) ∧ τ 19 = .int .i64 (termE i45 (ts es43) (i45 - 1 + ((m : Nat) : Int))) ∧ τ 176 = .bool true) ⟨up rfl (up rfl (up rfl (up rfl (up rfl (up rfl (up rfl (up rfl hs2))))))), up rfl (up rfl (up rfl (up rfl (up rfl (up rfl (up rfl (up rfl hs8))))))), up rfl (up rfl (up rfl (up rfl (up rfl (up rfl (up rfl (up rfl hs9))))))), up rfl (up rfl (up rfl (up rfl (up rfl (up rfl (up rfl (up rfl hs10))))))), up rfl (up rfl (up rfl (up rfl (up rfl (up rfl (up rfl (up rfl hs17))))))), up rfl tp, tp, up rfl (up rfl (up rfl (up rfl (up rfl (up rfl (up rfl (up rfl (Eq.trans hs176 (congrArg Value.bool hc59)))))))))⟩ ?_
          rintro τ ⟨hs2, hs8, hs9, hs10, hs17, hs18, hs19, hs176⟩
          refine CW.seq ?_
          refine CW.region ?_
          refine RW.soft Wd.a (v := .pointer (some ⟨br13, 0, none⟩)) (by exact E.move (AF_ev rfl hs9)) ?_
          refine RW.soft Wd.a (v := .int .i64 (i45 - 1 + ((m : Nat) : Int))) (by exact E.move (AF_ev rfl (up rfl hs17))) ?_
          have hst := hst.take (.there .here)
          refine RW.hard Wd.a ?_
          refine H.call0 Try.func59 nm59 rfl (map2 (AF_ev rfl (up rfl tp)) (AF_ev rfl tp)) (Calls.mono (ref_Term (i45 - 1 + ((m : Nat) : Int)) (by omega) hst) ?_)
          rintro _ w ⟨rfl, hst⟩
          refine ⟨_, rfl, ?_⟩
          show RW _ _ _ _ _ _ _
          refine RW.soft Wd.a (v := .tuple #[.int .i64 (termT i45 t46 (ts ys44) (i45 - 1 + ((m : Nat) : Int))), .int .i64 (termE i45 (ts ys44) (i45 - 1 + ((m : Nat) : Int)))]) (by exact E.move (AF_ev rfl tp)) ?_
          refine RW.soft Wd.a (v := .int .i64 (termT i45 t46 (ts ys44) (i45 - 1 + ((m : Nat) : Int)))) (by exact E.extract (vs := #[.int .i64 (termT i45 t46 (ts ys44) (i45 - 1 + ((m : Nat) : Int))), .int .i64 (termE i45 (ts ys44) (i45 - 1 + ((m : Nat) : Int)))]) (AF_ev rfl tp) rfl) ?_
          refine RW.soft Wd.a (v := .int .i64 (termE i45 (ts ys44) (i45 - 1 + ((m : Nat) : Int)))) (by exact E.extract (vs := #[.int .i64 (termT i45 t46 (ts ys44) (i45 - 1 + ((m : Nat) : Int))), .int .i64 (termE i45 (ts ys44) (i45 - 1 + ((m : Nat) : Int)))]) (AF_ev rfl (up rfl tp)) rfl) ?_
          refine RW.soft Wd.a (v := .int .i64 (termT i45 t46 (ts ys44) (i45 - 1 + ((m : Nat) : Int)))) (by exact E.assign (AF_ev rfl (up rfl tp))) ?_
          refine RW.soft Wd.a (v := .int .i64 (termE i45 (ts ys44) (i45 - 1 + ((m : Nat) : Int)))) (by exact E.assign (AF_ev rfl (up rfl tp))) ?_
          refine RW.fin (fun τ => τ 2 = .slice (some ⟨bo, oo, none⟩) os.length e ∧ τ 8 = .pointer (some ⟨bg, 0, none⟩) ∧ τ 9 = .pointer (some ⟨br13, 0, none⟩) ∧ τ 10 = .int .i64 ((j : Nat) : Int) ∧ τ 17 = .int .i64 (i45 - 1 + ((m : Nat) : Int)) ∧ τ 18 = .int .i64 (termT i45 t46 (ts es43) (i45 - 1 + ((m : Nat) : Int))) ∧ τ 19 = .int .i64 (termE i45 (ts es43) (i45 - 1 + ((m : Nat) : Int))) ∧ τ 20 = .int .i64 (termT i45 t46 (ts ys44) (i45 - 1 + ((m : Nat) : Int))) ∧ τ 21 = .int .i64 (termE i45 (ts ys44) (i45 - 1 + ((m : Nat) : Int))) ∧ τ 176 = .bool true) ⟨up rfl (up rfl (up rfl (up rfl (up rfl (up rfl (up rfl (up rfl hs2))))))), up rfl (up rfl (up rfl (up rfl (up rfl (up rfl (up rfl (up rfl hs8))))))), up rfl (up rfl (up rfl (up rfl (up rfl (up rfl (up rfl (up rfl hs9))))))), up rfl (up rfl (up rfl (up rfl (up rfl (up rfl (up rfl (up rfl hs10))))))), up rfl (up rfl (up rfl (up rfl (up rfl (up rfl (up rfl (up rfl hs17))))))), up rfl (up rfl (up rfl (up rfl (up rfl (up rfl (up rfl (up rfl hs18))))))), up rfl (up rfl (up rfl (up rfl (up rfl (up rfl (up rfl (up rfl hs19))))))), up rfl tp, tp, up rfl (up rfl (up rfl (up rfl (up rfl (up rfl (up rfl (up rfl hs176)))))))⟩ ?_
          rintro τ ⟨hs2, hs8, hs9, hs10, hs17, hs18, hs19, hs20, hs21, hs176⟩
          refine CW.seq ?_
          refine CW.region ?_
          refine RW.soft Wd.a (v := .pointer (some ⟨bg, 0, none⟩)) (by exact E.move (AF_ev rfl hs8)) ?_
          refine RW.soft Wd.a (v := .int .i64 (i45 - 1 + ((m : Nat) : Int))) (by exact E.move (AF_ev rfl (up rfl hs17))) ?_
          have hst := hst.take (.there .here)
          refine RW.hard Wd.a ?_
          refine H.call0 Try.func35 nm35 rfl (map2 (AF_ev rfl (up rfl tp)) (AF_ev rfl tp)) (Calls.mono (ent_AtX (i45 - 1 + ((m : Nat) : Int)) hst) ?_)
          rintro _ w ⟨p, y, hle, hvy, hoky, rfl, hst⟩
          have hp0 := hp0.le hle
          have hO := hO.le hle
          have hK := hK.le hle
          have hEy := hEy.le hle
          have hst := refLe hle (hst.take (.there .here))
          refine ⟨_, rfl, ?_⟩
          show RW _ _ _ _ _ _ _
          refine RW.soft Wd.a (v := .tuple #[.agg #[.int .i64 y.term, .int .i64 y.kind, .slice y.X y.ns.length y.xc, .slice y.Y y.ms.length y.yc], .int .i64 (atE i45 es43 (i45 - 1 + ((m : Nat) : Int)))]) (by exact E.move (AF_ev rfl tp)) ?_
          refine RW.soft Wd.a (v := .agg #[.int .i64 y.term, .int .i64 y.kind, .slice y.X y.ns.length y.xc, .slice y.Y y.ms.length y.yc]) (by exact E.extract (vs := #[.agg #[.int .i64 y.term, .int .i64 y.kind, .slice y.X y.ns.length y.xc, .slice y.Y y.ms.length y.yc], .int .i64 (atE i45 es43 (i45 - 1 + ((m : Nat) : Int)))]) (AF_ev rfl tp) rfl) ?_
          refine RW.soft Wd.a (v := .int .i64 (atE i45 es43 (i45 - 1 + ((m : Nat) : Int)))) (by exact E.extract (vs := #[.agg #[.int .i64 y.term, .int .i64 y.kind, .slice y.X y.ns.length y.xc, .slice y.Y y.ms.length y.yc], .int .i64 (atE i45 es43 (i45 - 1 + ((m : Nat) : Int)))]) (AF_ev rfl (up rfl tp)) rfl) ?_
          refine RW.hard Wd.a ?_
          refine H.alloc zr58 hst fun b60 w hst => ?_
          refine RW.hard Wd.a ?_
          refine H.store (b := b60) (o := 0) (v := .agg #[.int .i64 y.term, .int .i64 y.kind, .slice y.X y.ns.length y.xc, .slice y.Y y.ms.length y.yc]) (c' := #[.int .i64 y.term, .int .i64 y.kind, .slice y.X y.ns.length y.xc, .slice y.Y y.ms.length y.yc]) (AF_ev rfl tp) (AF_ev rfl (up rfl (up rfl tp))) hst .here sz58 (by simp [Value.cells]) (by simp [Value.cells, Value.oneCell']) rfl fun w hst => ?_
          refine RW.soft Wd.a (v := .int .i64 (atE i45 es43 (i45 - 1 + ((m : Nat) : Int)))) (by exact E.assign (AF_ev rfl (u0 (up rfl tp)))) ?_
          refine RW.fin (fun τ => τ 2 = .slice (some ⟨bo, oo, none⟩) os.length e ∧ τ 8 = .pointer (some ⟨bg, 0, none⟩) ∧ τ 9 = .pointer (some ⟨br13, 0, none⟩) ∧ τ 10 = .int .i64 ((j : Nat) : Int) ∧ τ 17 = .int .i64 (i45 - 1 + ((m : Nat) : Int)) ∧ τ 18 = .int .i64 (termT i45 t46 (ts es43) (i45 - 1 + ((m : Nat) : Int))) ∧ τ 19 = .int .i64 (termE i45 (ts es43) (i45 - 1 + ((m : Nat) : Int))) ∧ τ 20 = .int .i64 (termT i45 t46 (ts ys44) (i45 - 1 + ((m : Nat) : Int))) ∧ τ 21 = .int .i64 (termE i45 (ts ys44) (i45 - 1 + ((m : Nat) : Int))) ∧ τ 22 = .pointer (some ⟨b60, 0, none⟩) ∧ τ 23 = .int .i64 (atE i45 es43 (i45 - 1 + ((m : Nat) : Int))) ∧ τ 176 = .bool true) ⟨up rfl (u0 (up rfl (up rfl (up rfl (up rfl (up rfl (up rfl (up rfl hs2)))))))), up rfl (u0 (up rfl (up rfl (up rfl (up rfl (up rfl (up rfl (up rfl hs8)))))))), up rfl (u0 (up rfl (up rfl (up rfl (up rfl (up rfl (up rfl (up rfl hs9)))))))), up rfl (u0 (up rfl (up rfl (up rfl (up rfl (up rfl (up rfl (up rfl hs10)))))))), up rfl (u0 (up rfl (up rfl (up rfl (up rfl (up rfl (up rfl (up rfl hs17)))))))), up rfl (u0 (up rfl (up rfl (up rfl (up rfl (up rfl (up rfl (up rfl hs18)))))))), up rfl (u0 (up rfl (up rfl (up rfl (up rfl (up rfl (up rfl (up rfl hs19)))))))), up rfl (u0 (up rfl (up rfl (up rfl (up rfl (up rfl (up rfl (up rfl hs20)))))))), up rfl (u0 (up rfl (up rfl (up rfl (up rfl (up rfl (up rfl (up rfl hs21)))))))), up rfl (u0 tp), tp, up rfl (u0 (up rfl (up rfl (up rfl (up rfl (up rfl (up rfl (up rfl hs176))))))))⟩ ?_
          rintro τ ⟨hs2, hs8, hs9, hs10, hs17, hs18, hs19, hs20, hs21, hs22, hs23, hs176⟩
          refine CW.seq ?_
          refine CW.region ?_
          refine RW.soft Wd.a (v := .pointer (some ⟨br13, 0, none⟩)) (by exact E.move (AF_ev rfl hs9)) ?_
          refine RW.soft Wd.a (v := .int .i64 (i45 - 1 + ((m : Nat) : Int))) (by exact E.move (AF_ev rfl (up rfl hs17))) ?_
          have hst := hst.take (.there .here)
          refine RW.hard Wd.a ?_
          refine H.call0 Try.func60 nm60 rfl (map2 (AF_ev rfl (up rfl tp)) (AF_ev rfl tp)) (Calls.mono (ref_At (i45 - 1 + ((m : Nat) : Int)) (by omega) hst) ?_)
          rintro _ w ⟨x61, hx61, rfl, hst⟩
          refine ⟨_, rfl, ?_⟩
          show RW _ _ _ _ _ _ _
          refine RW.soft Wd.a (v := .tuple #[.agg #[.int .i64 x61.term, .int .i64 x61.kind, .slice x61.X x61.ns.length x61.xc, .slice x61.Y x61.ms.length x61.yc], .int .i64 (atE i45 ys44 (i45 - 1 + ((m : Nat) : Int)))]) (by exact E.move (AF_ev rfl tp)) ?_
          refine RW.soft Wd.a (v := .agg #[.int .i64 x61.term, .int .i64 x61.kind, .slice x61.X x61.ns.length x61.xc, .slice x61.Y x61.ms.length x61.yc]) (by exact E.extract (vs := #[.agg #[.int .i64 x61.term, .int .i64 x61.kind, .slice x61.X x61.ns.length x61.xc, .slice x61.Y x61.ms.length x61.yc], .int .i64 (atE i45 ys44 (i45 - 1 + ((m : Nat) : Int)))]) (AF_ev rfl tp) rfl) ?_
          refine RW.soft Wd.a (v := .int .i64 (atE i45 ys44 (i45 - 1 + ((m : Nat) : Int)))) (by exact E.extract (vs := #[.agg #[.int .i64 x61.term, .int .i64 x61.kind, .slice x61.X x61.ns.length x61.xc, .slice x61.Y x61.ms.length x61.yc], .int .i64 (atE i45 ys44 (i45 - 1 + ((m : Nat) : Int)))]) (AF_ev rfl (up rfl tp)) rfl) ?_
          refine RW.hard Wd.a ?_
          refine H.alloc zr58 hst fun b62 w hst => ?_
          refine RW.hard Wd.a ?_
          refine H.store (b := b62) (o := 0) (v := .agg #[.int .i64 x61.term, .int .i64 x61.kind, .slice x61.X x61.ns.length x61.xc, .slice x61.Y x61.ms.length x61.yc]) (c' := #[.int .i64 x61.term, .int .i64 x61.kind, .slice x61.X x61.ns.length x61.xc, .slice x61.Y x61.ms.length x61.yc]) (AF_ev rfl tp) (AF_ev rfl (up rfl (up rfl tp))) hst .here sz58 (by simp [Value.cells]) (by simp [Value.cells, Value.oneCell']) rfl fun w hst => ?_
          refine RW.soft Wd.a (v := .int .i64 (atE i45 ys44 (i45 - 1 + ((m : Nat) : Int)))) (by exact E.assign (AF_ev rfl (u0 (up rfl tp)))) ?_
          refine RW.fin (fun τ => τ 2 = .slice (some ⟨bo, oo, none⟩) os.length e ∧ τ 8 = .pointer (some ⟨bg, 0, none⟩) ∧ τ 9 = .pointer (some ⟨br13, 0, none⟩) ∧ τ 10 = .int .i64 ((j : Nat) : Int) ∧ τ 17 = .int .i64 (i45 - 1 + ((m : Nat) : Int)) ∧ τ 18 = .int .i64 (termT i45 t46 (ts es43) (i45 - 1 + ((m : Nat) : Int))) ∧ τ 19 = .int .i64 (termE i45 (ts es43) (i45 - 1 + ((m : Nat) : Int))) ∧ τ 20 = .int .i64 (termT i45 t46 (ts ys44) (i45 - 1 + ((m : Nat) : Int))) ∧ τ 21 = .int .i64 (termE i45 (ts ys44) (i45 - 1 + ((m : Nat) : Int))) ∧ τ 22 = .pointer (some ⟨b60, 0, none⟩) ∧ τ 23 = .int .i64 (atE i45 es43 (i45 - 1 + ((m : Nat) : Int))) ∧ τ 24 = .pointer (some ⟨b62, 0, none⟩) ∧ τ 25 = .int .i64 (atE i45 ys44 (i45 - 1 + ((m : Nat) : Int))) ∧ τ 176 = .bool true) ⟨up rfl (u0 (up rfl (up rfl (up rfl (up rfl (up rfl (up rfl (up rfl hs2)))))))), up rfl (u0 (up rfl (up rfl (up rfl (up rfl (up rfl (up rfl (up rfl hs8)))))))), up rfl (u0 (up rfl (up rfl (up rfl (up rfl (up rfl (up rfl (up rfl hs9)))))))), up rfl (u0 (up rfl (up rfl (up rfl (up rfl (up rfl (up rfl (up rfl hs10)))))))), up rfl (u0 (up rfl (up rfl (up rfl (up rfl (up rfl (up rfl (up rfl hs17)))))))), up rfl (u0 (up rfl (up rfl (up rfl (up rfl (up rfl (up rfl (up rfl hs18)))))))), up rfl (u0 (up rfl (up rfl (up rfl (up rfl (up rfl (up rfl (up rfl hs19)))))))), up rfl (u0 (up rfl (up rfl (up rfl (up rfl (up rfl (up rfl (up rfl hs20)))))))), up rfl (u0 (up rfl (up rfl (up rfl (up rfl (up rfl (up rfl (up rfl hs21)))))))), up rfl (u0 (up rfl (up rfl (up rfl (up rfl (up rfl (up rfl (up rfl hs22)))))))), up rfl (u0 (up rfl (up rfl (up rfl (up rfl (up rfl (up rfl (up rfl hs23)))))))), up rfl (u0 tp), tp, up rfl (u0 (up rfl (up rfl (up rfl (up rfl (up rfl (up rfl (up rfl hs176))))))))⟩ ?_
          rintro τ ⟨hs2, hs8, hs9, hs10, hs17, hs18, hs19, hs20, hs21, hs22, hs23, hs24, hs25, hs176⟩
          refine CW.seq ?_
          refine CW.region ?_
          refine RW.soft Wd.a (v := .agg #[.int .i64 y.term, .int .i64 y.kind, .slice y.X y.ns.length y.xc, .slice y.Y y.ms.length y.yc]) (by exact E.loadN (b := b60) (o := 0) (cs := [.int .i64 y.term, .int .i64 y.kind, .slice y.X y.ns.length y.xc, .slice y.Y y.ms.length y.yc]) Try.underlying58 rfl sz58 (AF_ev rfl hs22) rfl (hst.cellsIn (.there (.there .here)) rfl)) ?_
          refine RW.soft Wd.a (v := .agg #[.int .i64 x61.term, .int .i64 x61.kind, .slice x61.X x61.ns.length x61.xc, .slice x61.Y x61.ms.length x61.yc]) (by exact E.loadN (b := b62) (o := 0) (cs := [.int .i64 x61.term, .int .i64 x61.kind, .slice x61.X x61.ns.length x61.xc, .slice x61.Y x61.ms.length x61.yc]) Try.underlying58 rfl sz58 (AF_ev rfl (up rfl hs24)) rfl (hst.cellsIn .here rfl)) ?_
          have hokx : EOk p x61 := by rw [hx61]; exact atX_ok hEy
          have hvx : y.view = x61.view := by rw [hvy, hx61]; exact atX_view hv2
          refine RW.hard Wd.a ?_
          refine H.call0 Try.func36 nm36 rfl (map2 (AF_ev rfl (up rfl tp)) (AF_ev rfl tp)) (Calls.mono (ent_Same hoky hokx hvx hst) ?_)
          rintro _ w ⟨rfl, hst⟩
          refine ⟨_, rfl, ?_⟩
          show RW _ _ _ _ _ _ _
          refine RW.soft Wd.a (v := .bool true) (by exact E.assign (AF_ev rfl tp)) ?_
          refine RW.fin (fun τ => τ 2 = .slice (some ⟨bo, oo, none⟩) os.length e ∧ τ 8 = .pointer (some ⟨bg, 0, none⟩) ∧ τ 9 = .pointer (some ⟨br13, 0, none⟩) ∧ τ 10 = .int .i64 ((j : Nat) : Int) ∧ τ 17 = .int .i64 (i45 - 1 + ((m : Nat) : Int)) ∧ τ 18 = .int .i64 (termT i45 t46 (ts es43) (i45 - 1 + ((m : Nat) : Int))) ∧ τ 19 = .int .i64 (termE i45 (ts es43) (i45 - 1 + ((m : Nat) : Int))) ∧ τ 20 = .int .i64 (termT i45 t46 (ts ys44) (i45 - 1 + ((m : Nat) : Int))) ∧ τ 21 = .int .i64 (termE i45 (ts ys44) (i45 - 1 + ((m : Nat) : Int))) ∧ τ 22 = .pointer (some ⟨b60, 0, none⟩) ∧ τ 23 = .int .i64 (atE i45 es43 (i45 - 1 + ((m : Nat) : Int))) ∧ τ 24 = .pointer (some ⟨b62, 0, none⟩) ∧ τ 25 = .int .i64 (atE i45 ys44 (i45 - 1 + ((m : Nat) : Int))) ∧ τ 26 = .bool true ∧ τ 176 = .bool true) ⟨up rfl (up rfl (up rfl (up rfl hs2))), up rfl (up rfl (up rfl (up rfl hs8))), up rfl (up rfl (up rfl (up rfl hs9))), up rfl (up rfl (up rfl (up rfl hs10))), up rfl (up rfl (up rfl (up rfl hs17))), up rfl (up rfl (up rfl (up rfl hs18))), up rfl (up rfl (up rfl (up rfl hs19))), up rfl (up rfl (up rfl (up rfl hs20))), up rfl (up rfl (up rfl (up rfl hs21))), up rfl (up rfl (up rfl (up rfl hs22))), up rfl (up rfl (up rfl (up rfl hs23))), up rfl (up rfl (up rfl (up rfl hs24))), up rfl (up rfl (up rfl (up rfl hs25))), tp, up rfl (up rfl (up rfl (up rfl hs176)))⟩ ?_
          rintro τ ⟨hs2, hs8, hs9, hs10, hs17, hs18, hs19, hs20, hs21, hs22, hs23, hs24, hs25, hs26, hs176⟩
          refine CW.seq ?_
          refine CW.region ?_
          refine RW.soft Wd.a (v := .int .i64 (termT i45 t46 (ts es43) (i45 - 1 + ((m : Nat) : Int)))) (by exact E.move (AF_ev rfl hs18)) ?_
          refine RW.soft Wd.a (v := .int .i64 (termT i45 t46 (ts ys44) (i45 - 1 + ((m : Nat) : Int)))) (by exact E.move (AF_ev rfl (up rfl hs20))) ?_
          refine RW.soft Wd.a (v := .bool false) (by exact E.b (a := (termT i45 t46 (ts es43) (i45 - 1 + ((m : Nat) : Int))) != (termT i45 t46 (ts ys44) (i45 - 1 + ((m : Nat) : Int)))) (E.neq (k := .i64) (a := termT i45 t46 (ts es43) (i45 - 1 + ((m : Nat) : Int))) (b := termT i45 t46 (ts ys44) (i45 - 1 + ((m : Nat) : Int))) (AF_ev rfl (up rfl tp)) (AF_ev rfl tp)) (by rw [bne_eq_false_iff_eq, hT2])) ?_
          refine RW.soft Wd.a (v := .bool false) (by exact E.move (AF_ev rfl tp)) ?_
          refine RW.soft (by exact Wd.yes (x := 209) rfl (AF_ev rfl tp)) (v := .int .i64 (termE i45 (ts es43) (i45 - 1 + ((m : Nat) : Int)))) (by exact E.move (AF_ev rfl (up rfl (up rfl (up rfl (up rfl hs19)))))) ?_
          refine RW.soft (by exact Wd.yes (x := 209) rfl (AF_ev rfl (up rfl tp))) (v := .int .i64 (termE i45 (ts ys44) (i45 - 1 + ((m : Nat) : Int)))) (by exact E.move (AF_ev rfl (up rfl (up rfl (up rfl (up rfl (up rfl hs21))))))) ?_
          refine RW.soft (by exact Wd.yes (x := 209) rfl (AF_ev rfl (up rfl (up rfl tp)))) (v := .bool false) (by exact E.b (a := (termE i45 (ts es43) (i45 - 1 + ((m : Nat) : Int))) != (termE i45 (ts ys44) (i45 - 1 + ((m : Nat) : Int)))) (E.neq (k := .i64) (a := termE i45 (ts es43) (i45 - 1 + ((m : Nat) : Int))) (b := termE i45 (ts ys44) (i45 - 1 + ((m : Nat) : Int))) (AF_ev rfl (up rfl tp)) (AF_ev rfl tp)) (by rw [bne_eq_false_iff_eq, hT2])) ?_
          refine RW.soft Wd.a (v := .bool false) (by exact E.pickF (AF_ev rfl (up rfl (up rfl (up rfl tp)))) (AF_ev rfl tp)) ?_
          refine RW.soft Wd.a (v := .bool false) (by exact E.move (AF_ev rfl tp)) ?_
          refine RW.soft (by exact Wd.yes (x := 214) rfl (AF_ev rfl tp)) (v := .bool true) (by exact E.move (AF_ev rfl (up rfl (up rfl (up rfl (up rfl (up rfl (up rfl (up rfl (up rfl (up rfl hs26))))))))))) ?_
          refine RW.soft (by exact Wd.yes (x := 214) rfl (AF_ev rfl (up rfl tp))) (v := .bool false) (by exact E.not (b := true) (AF_ev rfl tp)) ?_
          refine RW.soft Wd.a (v := .bool false) (by exact E.pickF (AF_ev rfl (up rfl (up rfl tp))) (AF_ev rfl tp)) ?_
          refine RW.soft Wd.a (v := .bool false) (by exact E.move (AF_ev rfl tp)) ?_
          refine RW.soft (by exact Wd.yes (x := 218) rfl (AF_ev rfl tp)) (v := .int .i64 (atE i45 es43 (i45 - 1 + ((m : Nat) : Int)))) (by exact E.move (AF_ev rfl (up rfl (up rfl (up rfl (up rfl (up rfl (up rfl (up rfl (up rfl (up rfl (up rfl (up rfl (up rfl (up rfl hs23))))))))))))))) ?_
          refine RW.soft (by exact Wd.yes (x := 218) rfl (AF_ev rfl (up rfl tp))) (v := .int .i64 (atE i45 ys44 (i45 - 1 + ((m : Nat) : Int)))) (by exact E.move (AF_ev rfl (up rfl (up rfl (up rfl (up rfl (up rfl (up rfl (up rfl (up rfl (up rfl (up rfl (up rfl (up rfl (up rfl (up rfl hs25)))))))))))))))) ?_
          refine RW.soft (by exact Wd.yes (x := 218) rfl (AF_ev rfl (up rfl (up rfl tp)))) (v := .bool false) (by exact E.b (a := (atE i45 es43 (i45 - 1 + ((m : Nat) : Int))) != (atE i45 ys44 (i45 - 1 + ((m : Nat) : Int)))) (E.neq (k := .i64) (a := atE i45 es43 (i45 - 1 + ((m : Nat) : Int))) (b := atE i45 ys44 (i45 - 1 + ((m : Nat) : Int))) (AF_ev rfl (up rfl tp)) (AF_ev rfl tp)) (by rw [bne_eq_false_iff_eq]; exact atE_len hlv2)) ?_
          refine RW.soft Wd.a (v := .bool false) (by exact E.pickF (AF_ev rfl (up rfl (up rfl (up rfl tp)))) (AF_ev rfl tp)) ?_
          refine RW.fin (fun τ => τ 2 = .slice (some ⟨bo, oo, none⟩) os.length e ∧ τ 8 = .pointer (some ⟨bg, 0, none⟩) ∧ τ 9 = .pointer (some ⟨br13, 0, none⟩) ∧ τ 10 = .int .i64 ((j : Nat) : Int) ∧ τ 17 = .int .i64 (i45 - 1 + ((m : Nat) : Int)) ∧ τ 18 = .int .i64 (termT i45 t46 (ts es43) (i45 - 1 + ((m : Nat) : Int))) ∧ τ 19 = .int .i64 (termE i45 (ts es43) (i45 - 1 + ((m : Nat) : Int))) ∧ τ 20 = .int .i64 (termT i45 t46 (ts ys44) (i45 - 1 + ((m : Nat) : Int))) ∧ τ 21 = .int .i64 (termE i45 (ts ys44) (i45 - 1 + ((m : Nat) : Int))) ∧ τ 22 = .pointer (some ⟨b60, 0, none⟩) ∧ τ 23 = .int .i64 (atE i45 es43 (i45 - 1 + ((m : Nat) : Int))) ∧ τ 24 = .pointer (some ⟨b62, 0, none⟩) ∧ τ 25 = .int .i64 (atE i45 ys44 (i45 - 1 + ((m : Nat) : Int))) ∧ τ 26 = .bool true ∧ τ 176 = .bool true ∧ τ 222 = .bool false) ⟨up rfl (up rfl (up rfl (up rfl (up rfl (up rfl (up rfl (up rfl (up rfl (up rfl (up rfl (up rfl (up rfl (up rfl (up rfl (up rfl (up rfl hs2)))))))))))))))), up rfl (up rfl (up rfl (up rfl (up rfl (up rfl (up rfl (up rfl (up rfl (up rfl (up rfl (up rfl (up rfl (up rfl (up rfl (up rfl (up rfl hs8)))))))))))))))), up rfl (up rfl (up rfl (up rfl (up rfl (up rfl (up rfl (up rfl (up rfl (up rfl (up rfl (up rfl (up rfl (up rfl (up rfl (up rfl (up rfl hs9)))))))))))))))), up rfl (up rfl (up rfl (up rfl (up rfl (up rfl (up rfl (up rfl (up rfl (up rfl (up rfl (up rfl (up rfl (up rfl (up rfl (up rfl (up rfl hs10)))))))))))))))), up rfl (up rfl (up rfl (up rfl (up rfl (up rfl (up rfl (up rfl (up rfl (up rfl (up rfl (up rfl (up rfl (up rfl (up rfl (up rfl (up rfl hs17)))))))))))))))), up rfl (up rfl (up rfl (up rfl (up rfl (up rfl (up rfl (up rfl (up rfl (up rfl (up rfl (up rfl (up rfl (up rfl (up rfl (up rfl (up rfl hs18)))))))))))))))), up rfl (up rfl (up rfl (up rfl (up rfl (up rfl (up rfl (up rfl (up rfl (up rfl (up rfl (up rfl (up rfl (up rfl (up rfl (up rfl (up rfl hs19)))))))))))))))), up rfl (up rfl (up rfl (up rfl (up rfl (up rfl (up rfl (up rfl (up rfl (up rfl (up rfl (up rfl (up rfl (up rfl (up rfl (up rfl (up rfl hs20)))))))))))))))), up rfl (up rfl (up rfl (up rfl (up rfl (up rfl (up rfl (up rfl (up rfl (up rfl (up rfl (up rfl (up rfl (up rfl (up rfl (up rfl (up rfl hs21)))))))))))))))), up rfl (up rfl (up rfl (up rfl (up rfl (up rfl (up rfl (up rfl (up rfl (up rfl (up rfl (up rfl (up rfl (up rfl (up rfl (up rfl (up rfl hs22)))))))))))))))), up rfl (up rfl (up rfl (up rfl (up rfl (up rfl (up rfl (up rfl (up rfl (up rfl (up rfl (up rfl (up rfl (up rfl (up rfl (up rfl (up rfl hs23)))))))))))))))), up rfl (up rfl (up rfl (up rfl (up rfl (up rfl (up rfl (up rfl (up rfl (up rfl (up rfl (up rfl (up rfl (up rfl (up rfl (up rfl (up rfl hs24)))))))))))))))), up rfl (up rfl (up rfl (up rfl (up rfl (up rfl (up rfl (up rfl (up rfl (up rfl (up rfl (up rfl (up rfl (up rfl (up rfl (up rfl (up rfl hs25)))))))))))))))), up rfl (up rfl (up rfl (up rfl (up rfl (up rfl (up rfl (up rfl (up rfl (up rfl (up rfl (up rfl (up rfl (up rfl (up rfl (up rfl (up rfl hs26)))))))))))))))), up rfl (up rfl (up rfl (up rfl (up rfl (up rfl (up rfl (up rfl (up rfl (up rfl (up rfl (up rfl (up rfl (up rfl (up rfl (up rfl (up rfl hs176)))))))))))))))), tp⟩ ?_
          rintro τ ⟨hs2, hs8, hs9, hs10, hs17, hs18, hs19, hs20, hs21, hs22, hs23, hs24, hs25, hs26, hs176, hs222⟩
          refine CW.condF (AF_ev rfl hs222) ?_
          refine CW.skip ?_
          refine Bl.n ?_
          refine Th.n ?_
          refine CW.region ?_
          refine RW.soft Wd.a (v := .int .i64 (i45 - 1 + ((m : Nat) : Int))) (by exact E.move (AF_ev rfl hs17)) ?_
          refine RW.soft Wd.a (v := .int .i64 (i45 - 1 + ((m : Nat) : Int) + 1)) (by exact E.add (k := .i64) (a := i45 - 1 + ((m : Nat) : Int)) (b := 1) (AF_ev rfl tp) rfl (show IntKind.i64.wrap ((i45 - 1 + ((m : Nat) : Int)) + 1) = i45 - 1 + ((m : Nat) : Int) + 1 from (by rw [IntWalk.i64_in _ (by omega)] <;> omega))) ?_
          refine RW.soft Wd.a (v := .int .i64 (i45 - 1 + ((m : Nat) : Int) + 1)) (by exact E.assign (AF_ev rfl tp)) ?_
          refine RW.nil ?_
          refine Th.n ?_
          have hst := hst.take (.there .here)
          have hst := hst.take (.there (.there (.there .here)))
          have hst := (hst.take (.there (.there .here))).drop
          have hst := (hst.take (.there (.there .here))).drop
          exact ⟨ys44.length + 3 - (m + 1), by omega, p, m + 1, hp0, hO, hK, hEy, (by omega), (by omega), up rfl (up rfl (up rfl hs2)), up rfl (up rfl (up rfl hs8)), up rfl (up rfl (up rfl hs9)), up rfl (up rfl (up rfl hs10)), (int_eq (a := i45 - 1 + ((m : Nat) : Int) + 1) tp (by omega)), hst⟩
        · have hc59_ := hc59
          try simp only [decide_eq_true_eq, decide_eq_false_iff_not, Bool.and_eq_true, Bool.or_eq_true, Bool.and_eq_false_iff, Bool.or_eq_false_iff, Bool.not_eq_true', Bool.not_eq_false', beq_iff_eq, beq_eq_false_iff_ne, bne_iff_ne, bne_eq_false_iff_eq, ne_eq, Int.not_lt, Int.not_le, gt_iff_lt, ge_iff_le] at hc59_
          refine CW.exit ?_
          refine Th.x ?_
          refine Th.x ?_
          refine Bl.x ?_
          refine Bl.n ?_
          refine Th.n ?_
          refine CW.region ?_
          refine RW.soft Wd.a (v := .int .i64 ((j : Nat) : Int)) (by exact E.move (AF_ev rfl hs10)) ?_
          refine RW.soft Wd.a (v := .int .i64 (((j : Nat) : Int) + 1)) (by exact E.add (k := .i64) (a := ((j : Nat) : Int)) (b := 1) (AF_ev rfl tp) rfl (show IntKind.i64.wrap (((j : Nat) : Int) + 1) = ((j : Nat) : Int) + 1 from (by rw [IntWalk.i64_in _ (by omega)]))) ?_
          refine RW.soft Wd.a (v := .int .i64 (((j : Nat) : Int) + 1)) (by exact E.assign (AF_ev rfl tp)) ?_
          refine RW.nil ?_
          refine Th.n ?_
          have hst := hst.take (.there .here)
          exact ⟨os.length - (j + 1), by omega, p, j + 1, bg, i45, t46, es43, ys44, hp0, hO, hK, hv2, (by omega), (by omega), (by omega), (by omega), up rfl (up rfl (up rfl hs2)), up rfl (up rfl (up rfl hs8)), up rfl (up rfl (up rfl hs9)), (int_eq (a := ((j : Nat) : Int) + 1) tp (by omega)), hst⟩
  · have hc15_ := hc15
    try simp only [decide_eq_true_eq, decide_eq_false_iff_not, Bool.and_eq_true, Bool.or_eq_true, Bool.and_eq_false_iff, Bool.or_eq_false_iff, Bool.not_eq_true', Bool.not_eq_false', beq_iff_eq, beq_eq_false_iff_ne, bne_iff_ne, bne_eq_false_iff_eq, ne_eq, Int.not_lt, Int.not_le, gt_iff_lt, ge_iff_le] at hc15_
    refine CW.exit ?_
    refine Th.x ?_
    refine Th.x ?_
    refine Bl.x ?_
    refine Th.n ?_
    refine CW.seq ?_
    refine CW.region ?_
    refine RW.soft Wd.a (v := .bool true) (by exact E.assign rfl) ?_
    refine RW.fin (fun τ => τ 2 = .slice W os.length e ∧ τ 6 = .bool true ∧ τ 8 = .pointer (some ⟨bg, 0, none⟩) ∧ τ 9 = .pointer (some ⟨br13, 0, none⟩) ∧ τ 10 = .int .i64 ((j : Nat) : Int) ∧ τ 57 = .bool false) ⟨up rfl hs2, tp, up rfl hs8, up rfl hs9, up rfl hs10, up rfl (Eq.trans hs57 (congrArg Value.bool hc15))⟩ ?_
    rintro τ ⟨hs2, hs6, hs8, hs9, hs10, hs57⟩
    refine CW.ret ?_
    refine ret1 (v := .bool true) rfl (by exact (.tmp (AF_ev rfl hs6) .nil)) ?_
    have hst := hst.drop
    have hst := hst.drop
    exact ⟨p, hp0, rfl, hst⟩
end Go.Proofs.Ytdlcjoonhojpfaa
