/- The calls of the package entries, walked through operation by operation. -/
import Derived.Test.YtdlcjoonhojpfaaE0
import Derived.Test.YtdlcjoonhojpfaaT1
import Derived.Test.YtdlcjoonhojpfaaE1
import Derived.Test.YtdlcjoonhojpfaaE2
import Derived.Test.YtdlcjoonhojpfaaE3
import Derived.Test.YtdlcjoonhojpfaaE4
import Derived.Test.YtdlcjoonhojpfaaE5
import Derived.Test.YtdlcjoonhojpfaaE6
import Derived.Test.YtdlcjoonhojpfaaE9
import Derived.Test.YtdlcjoonhojpfaaE10
import Derived.Test.YtdlcjoonhojpfaaE11
import Derived.Test.YtdlcjoonhojpfaaE14
import Derived.Test.YtdlcjoonhojpfaaE15
namespace Go.Proofs.Ytdlcjoonhojpfaa
open Go.RowKit Go.SL Go.E17
attribute [local irreducible] Go.SL.RW Go.SL.CW Go.SL.RD Go.SL.Hd Go.SL.St
set_option linter.unusedVariables false
set_option linter.unusedSimpArgs false

theorem nm34 : (Try.f34.name == "runtime.NumGoroutine") = false := by kernel_rfl
theorem nm35 : (Try.f35.name == "runtime.NumGoroutine") = false := by kernel_rfl
theorem nm36 : (Try.f36.name == "runtime.NumGoroutine") = false := by kernel_rfl

theorem fromL_len {α : Type} {i k most : Int} {es : List α} : ((fromL i es k most).length : Int) = if max k (i + 1) ≤ i + (es.length : Nat) then max 0 (min most (i + (es.length : Nat) - max k (i + 1) + 1)) else 0 := by
  unfold fromL
  by_cases h : max k (i + 1) > i + (es.length : Nat) ∨ most < 1
  · rw [if_pos h, List.length_nil]; split <;> omega
  · rw [if_neg h, if_pos (by omega), List.length_take, List.length_drop]; omega
theorem from_elem {i k most : Int} {es es3 : List Ent} {j : Nat} {z : Ent} (h : vs es3 = vs (fromL i es k most)) (hz : es3[j]? = some z) :
    ∃ x, es[(max k (i + 1) + (j : Int) - (i + 1)).toNat]? = some x ∧ x.view = z.view ∧ max k (i + 1) + (j : Int) ≤ i + (es.length : Nat) := by
  have h1 : (vs es3)[j]? = some z.view := by simp [vs, hz]
  rw [h] at h1
  have h2 : ∃ x, (fromL i es k most)[j]? = some x ∧ x.view = z.view := by
    simp only [vs, List.getElem?_map, Option.map_eq_some_iff] at h1; exact h1
  obtain ⟨x, hx, hv⟩ := h2
  unfold fromL at hx
  split at hx
  · simp at hx
  · rename_i hc
    rw [List.getElem?_take] at hx
    split at hx
    · rename_i hj
      rw [List.getElem?_drop] at hx
      have hlt := (List.getElem?_eq_some_iff.1 hx).1
      refine ⟨x, ?_, hv, by omega⟩
      rw [← hx]; congr 1; omega
    · cases hx

theorem from_walk {p : Pers} {w : World} {R : List Assn} {p0 : Pers} {X : Option Addr} {c : Nat} {l : List Ent} (hp0 : p0.le p) (i0 t0 k0 u : Int) (hi0 : -9223372036854775808 ≤ i0 ∧ i0 ≤ 9223372036854775807) (hk0 : -9223372036854775808 ≤ k0 ∧ k0 ≤ 9223372036854775807) (hu0 : -9223372036854775808 ≤ u ∧ u ≤ 9223372036854775807) (hlm : l.length ≤ 9223372036854775807) (hL : Las p 4 (.slice X l.length c) l.length (flat l)) (hEL : EsLas p l) (hst : St p w (R)) :
    Calls Try.prog 7 #[.agg #[.int .i64 i0, .int .i64 t0], .slice X l.length c, .agg #[.int .i64 k0, .int .i64 u]] w fun e w => ∃ q, p0.le q ∧ e = .returned (.bool true) ∧ St q w R := by
  refine enter Try.func7 rfl (by simp) (n := 87) rfl fun τ hτ => ?_
  have hs0 : τ 0 = .agg #[.int .i64 i0, .int .i64 t0] := hτ 0 (by simp)
  have hs1 : τ 1 = .slice X l.length c := hτ 1 (by simp)
  have hs2 : τ 2 = .agg #[.int .i64 k0, .int .i64 u] := hτ 2 (by simp)
  clear hτ
  refine CW.seq ?_
  refine CW.region ?_
  refine RW.hard Wd.a ?_
  refine H.box (v := .agg #[.int .i64 i0, .int .i64 t0]) (AF_ev rfl hs0) hst fun b1 w hst => ?_
  refine RW.hard Wd.a ?_
  refine H.box (v := .agg #[.int .i64 k0, .int .i64 u]) (AF_ev rfl (up rfl hs2)) hst fun b2 w hst => ?_
  refine RW.soft Wd.a (v := .bool false) (by exact E.assign rfl) ?_
  refine RW.fin (fun τ => τ 0 = .agg #[.int .i64 i0, .int .i64 t0] ∧ τ 1 = .slice X l.length c ∧ τ 2 = .agg #[.int .i64 k0, .int .i64 u] ∧ τ 3 = .pointer (some ⟨b1, 0, none⟩) ∧ τ 5 = .pointer (some ⟨b2, 0, none⟩) ∧ τ 6 = .bool false) ⟨up rfl (up rfl (up rfl hs0)), up rfl (up rfl (up rfl hs1)), up rfl (up rfl (up rfl hs2)), up rfl (up rfl tp), up rfl tp, tp⟩ ?_
  rintro τ ⟨hs0, hs1, hs2, hs3, hs5, hs6⟩
  refine CW.seq ?_
  refine CW.region ?_
  refine RW.hard Wd.a ?_
  refine H.call0 Try.func24 nm24 rfl map0 (Calls.mono (ent_shown p.le_refl hst) ?_)
  rintro _ w ⟨p, hle, rfl, hst⟩
  have hp0 := hp0.le hle
  have hL := hL.le hle
  have hEL := hEL.le hle
  refine ⟨_, rfl, ?_⟩
  show RW _ _ _ _ _ _ _
  refine RW.soft Wd.a (v := .bool true) (by exact E.assign (AF_ev rfl tp)) ?_
  refine RW.fin (fun τ => τ 0 = .agg #[.int .i64 i0, .int .i64 t0] ∧ τ 1 = .slice X l.length c ∧ τ 2 = .agg #[.int .i64 k0, .int .i64 u] ∧ τ 3 = .pointer (some ⟨b1, 0, none⟩) ∧ τ 5 = .pointer (some ⟨b2, 0, none⟩) ∧ τ 6 = .bool false ∧ τ 7 = .bool true) ⟨up rfl (up rfl hs0), up rfl (up rfl hs1), up rfl (up rfl hs2), up rfl (up rfl hs3), up rfl (up rfl hs5), up rfl (up rfl hs6), tp⟩ ?_
  rintro τ ⟨hs0, hs1, hs2, hs3, hs5, hs6, hs7⟩
  refine CW.seq ?_
  refine CW.regionD [0, 1, 3, 4, 5] (fun w => w.cell? ⟨b1, 0, none⟩ = some (.int .i64 i0) ∧ w.cell? ⟨b1, 1, none⟩ = some (.int .i64 t0)) mixed ?_
  have hst := hst.drew
  generalize w.drew = w at hst ⊢
  have hS : w.cell? ⟨b1, 0, none⟩ = some (.int .i64 i0) ∧ w.cell? ⟨b1, 1, none⟩ = some (.int .i64 t0) := ⟨hst.cell (.there .here) rfl, hst.cell (.there .here) rfl⟩
  refine RD.take 0 rfl (by kernel_rfl) Wd.a (v := .pointer (some ⟨b1, 0, none⟩)) (fun w hS => by exact E.indexAddrA (b := b1) (o := 0) (i := 0) Try.underlying43 sz3 (AF_ev rfl hs3) rfl (by omega) (by omega) (by simp)) hS ?_
  refine RD.take 1 rfl (by kernel_rfl) Wd.a (v := .int .i64 i0) (fun w hS => by exact E.load (a := ⟨b1, 0, none⟩) Try.underlying3 rfl (AF_ev rfl tp) hS.1) hS ?_
  refine RD.take 3 rfl (by kernel_rfl) Wd.a (v := .pointer (some ⟨b1, 1, none⟩)) (fun w hS => by exact E.indexAddrA (b := b1) (o := 0) (i := 1) Try.underlying43 sz3 (AF_ev rfl (up rfl (up rfl hs3))) rfl (by omega) (by omega) (by simp)) hS ?_
  refine RD.take 4 rfl (by kernel_rfl) Wd.a (v := .int .i64 t0) (fun w hS => by exact E.load (a := ⟨b1, 1, none⟩) Try.underlying3 rfl (AF_ev rfl tp) hS.2) hS ?_
  refine RD.take 5 rfl (by kernel_rfl) Wd.a (v := .slice X l.length c) (fun w hS => by exact E.move (AF_ev rfl (up rfl (up rfl (up rfl (up rfl hs1)))))) hS ?_
  obtain ⟨kk3, hkk3⟩ : ∃ z, z = nearF i0 := ⟨_, rfl⟩
  have hrkk3 := nearF_range i0
  rw [← hkk3] at hrkk3
  refine RD.only 2 rfl (by kernel_rfl) Wd.a ?_
  refine H.call0 Try.func26 nm26 rfl (map1 (AF_ev rfl (up rfl (up rfl (up rfl tp))))) (Calls.mono (near17C (v := kk3) i0 (by omega) hkk3.symm hst) ?_)
  rintro _ w ⟨rfl, hst⟩
  refine ⟨_, rfl, ?_⟩
  have hS : w.cell? ⟨b1, 0, none⟩ = some (.int .i64 i0) ∧ w.cell? ⟨b1, 1, none⟩ = some (.int .i64 t0) := ⟨hst.cell (.there .here) rfl, hst.cell (.there .here) rfl⟩
  refine ⟨fun _ => hS, ?_⟩
  have hst := hst.emp
  refine RD.only 6 rfl (by kernel_rfl) Wd.a ?_
  refine H.call0 Try.func27 nm27 rfl (map1 (AF_ev rfl (up rfl tp))) (Calls.mono (ent_few (Las.tells hL) hEL (by omega) p.le_refl hst) ?_)
  rintro _ w ⟨p, vX4, es6, hle, rfl, hokes6, hl20es6, hst⟩
  obtain ⟨X4, c5, rfl, hcX4, hmX4, hlX4, hbX4⟩ := hst.shape
  have hp0 := hp0.le hle
  have hL := hL.le hle
  have hEL := hEL.le hle
  refine ⟨_, rfl, ?_⟩
  have hS : w.cell? ⟨b1, 0, none⟩ = some (.int .i64 i0) ∧ w.cell? ⟨b1, 1, none⟩ = some (.int .i64 t0) := ⟨hst.cell (.there (.there (.there .here))) rfl, hst.cell (.there (.there (.there .here))) rfl⟩
  refine ⟨fun _ => hS, ?_⟩
  obtain ⟨ia7, hia7⟩ : ∃ z, z = max 0 (min kk3 1099511627776) := ⟨_, rfl⟩
  have hria7 : 0 ≤ ia7 ∧ ia7 ≤ 1099511627776 := by omega
  refine RD.only 7 rfl (by kernel_rfl) Wd.a ?_
  refine H.call0 Try.func25 nm25 rfl (map3 (AF_ev rfl (up rfl tp)) (AF_ev rfl (up rfl (up rfl (up rfl tp)))) (AF_ev rfl tp)) (Calls.mono (ent_NewC (i' := ia7) kk3 t0 Own.tells hokes6 (by first | simp | omega) (by omega) hia7.symm hst) ?_)
  rintro _ w ⟨p, b8, es9, hle, rfl, hvses9, hst⟩
  have hp0 := hp0.le hle
  have hL := hL.le hle
  have hEL := hEL.le hle
  have hokes6 := hokes6.le hle
  have htses9 := ts_eq hvses9
  have hvles9 := vs_len hvses9
  refine ⟨_, rfl, ?_⟩
  have hS : w.cell? ⟨b1, 0, none⟩ = some (.int .i64 i0) ∧ w.cell? ⟨b1, 1, none⟩ = some (.int .i64 t0) := ⟨hst.cell (.there (.there (.there (.there .here)))) rfl, hst.cell (.there (.there (.there (.there .here)))) rfl⟩
  refine ⟨fun _ => hS, ?_⟩
  refine RD.only 8 rfl (by kernel_rfl) Wd.a (Hd.value (v := .pointer (some ⟨b8, 0, none⟩)) (by exact E.assign (AF_ev rfl tp)) ⟨fun h => Bool.noConfusion ((show needs _ _ _ = false by kernel_rfl).symm.trans h), ?_⟩)
  refine RD.fin (by kernel_rfl) (fun τ => τ 0 = .agg #[.int .i64 i0, .int .i64 t0] ∧ τ 1 = .slice X l.length c ∧ τ 2 = .agg #[.int .i64 k0, .int .i64 u] ∧ τ 3 = .pointer (some ⟨b1, 0, none⟩) ∧ τ 5 = .pointer (some ⟨b2, 0, none⟩) ∧ τ 6 = .bool false ∧ τ 7 = .bool true ∧ τ 8 = .pointer (some ⟨b8, 0, none⟩)) ⟨up rfl (up rfl (up rfl (up rfl (up rfl (up rfl (up rfl (up rfl (up rfl hs0)))))))), up rfl (up rfl (up rfl (up rfl (up rfl (up rfl (up rfl (up rfl (up rfl hs1)))))))), up rfl (up rfl (up rfl (up rfl (up rfl (up rfl (up rfl (up rfl (up rfl hs2)))))))), up rfl (up rfl (up rfl (up rfl (up rfl (up rfl (up rfl (up rfl (up rfl hs3)))))))), up rfl (up rfl (up rfl (up rfl (up rfl (up rfl (up rfl (up rfl (up rfl hs5)))))))), up rfl (up rfl (up rfl (up rfl (up rfl (up rfl (up rfl (up rfl (up rfl hs6)))))))), up rfl (up rfl (up rfl (up rfl (up rfl (up rfl (up rfl (up rfl (up rfl hs7)))))))), tp⟩ ?_
  rintro τ ⟨hs0, hs1, hs2, hs3, hs5, hs6, hs7, hs8⟩
  refine CW.seq ?_
  refine CW.seq ?_
  refine CW.region ?_
  refine RW.soft Wd.a (v := .bool true) (by exact E.move (AF_ev rfl hs7)) ?_
  refine RW.soft Wd.a (v := .bool false) (by exact E.not (b := true) (AF_ev rfl tp)) ?_
  refine RW.soft Wd.a (v := .bool false) (by exact E.move (AF_ev rfl tp)) ?_
  refine RW.soft (by exact Wd.yes (x := 27) rfl (AF_ev rfl tp)) (v := .pointer (some ⟨b8, 0, none⟩)) (by exact E.move (AF_ev rfl (up rfl (up rfl (up rfl hs8))))) ?_
  refine RW.soft (by exact Wd.yes (x := 27) rfl (AF_ev rfl (up rfl tp))) (v := .bool false) (by exact E.eqlP (p := (some ⟨b8, 0, none⟩)) Try.underlying47 (AF_ev rfl tp) rfl) ?_
  refine RW.soft Wd.a (v := .bool false) (by exact E.pickF (AF_ev rfl (up rfl (up rfl tp))) (AF_ev rfl tp)) ?_
  refine RW.fin (fun τ => τ 0 = .agg #[.int .i64 i0, .int .i64 t0] ∧ τ 1 = .slice X l.length c ∧ τ 2 = .agg #[.int .i64 k0, .int .i64 u] ∧ τ 3 = .pointer (some ⟨b1, 0, none⟩) ∧ τ 5 = .pointer (some ⟨b2, 0, none⟩) ∧ τ 6 = .bool false ∧ τ 7 = .bool true ∧ τ 8 = .pointer (some ⟨b8, 0, none⟩) ∧ τ 30 = .bool false) ⟨up rfl (up rfl (up rfl (up rfl (up rfl (up rfl hs0))))), up rfl (up rfl (up rfl (up rfl (up rfl (up rfl hs1))))), up rfl (up rfl (up rfl (up rfl (up rfl (up rfl hs2))))), up rfl (up rfl (up rfl (up rfl (up rfl (up rfl hs3))))), up rfl (up rfl (up rfl (up rfl (up rfl (up rfl hs5))))), up rfl (up rfl (up rfl (up rfl (up rfl (up rfl hs6))))), up rfl (up rfl (up rfl (up rfl (up rfl (up rfl hs7))))), up rfl (up rfl (up rfl (up rfl (up rfl (up rfl hs8))))), tp⟩ ?_
  rintro τ ⟨hs0, hs1, hs2, hs3, hs5, hs6, hs7, hs8, hs30⟩
  refine CW.condF (AF_ev rfl hs30) ?_
  refine CW.skip ?_
  refine Th.n ?_
  refine CW.seq ?_
  refine CW.regionD [0, 1, 2, 4, 5] (fun w => w.cell? ⟨b2, 0, none⟩ = some (.int .i64 k0) ∧ w.cell? ⟨b2, 1, none⟩ = some (.int .i64 u)) mixed ?_
  have hst := hst.drew
  generalize w.drew = w at hst ⊢
  have hS : w.cell? ⟨b2, 0, none⟩ = some (.int .i64 k0) ∧ w.cell? ⟨b2, 1, none⟩ = some (.int .i64 u) := ⟨hst.cell (.there (.there (.there .here))) rfl, hst.cell (.there (.there (.there .here))) rfl⟩
  refine RD.take 0 rfl (by kernel_rfl) Wd.a (v := .pointer (some ⟨b8, 0, none⟩)) (fun w hS => by exact E.move (AF_ev rfl hs8)) hS ?_
  refine RD.take 1 rfl (by kernel_rfl) Wd.a (v := .pointer (some ⟨b2, 0, none⟩)) (fun w hS => by exact E.indexAddrA (b := b2) (o := 0) (i := 0) Try.underlying43 sz3 (AF_ev rfl (up rfl hs5)) rfl (by omega) (by omega) (by simp)) hS ?_
  refine RD.take 2 rfl (by kernel_rfl) Wd.a (v := .int .i64 k0) (fun w hS => by exact E.load (a := ⟨b2, 0, none⟩) Try.underlying3 rfl (AF_ev rfl tp) hS.1) hS ?_
  refine RD.take 4 rfl (by kernel_rfl) Wd.a (v := .pointer (some ⟨b2, 1, none⟩)) (fun w hS => by exact E.indexAddrA (b := b2) (o := 0) (i := 1) Try.underlying43 sz3 (AF_ev rfl (up rfl (up rfl (up rfl hs5)))) rfl (by omega) (by omega) (by simp)) hS ?_
  refine RD.take 5 rfl (by kernel_rfl) Wd.a (v := .int .i64 u) (fun w hS => by exact E.load (a := ⟨b2, 1, none⟩) Try.underlying3 rfl (AF_ev rfl tp) hS.2) hS ?_
  obtain ⟨kk10, hkk10⟩ : ∃ z, z = nearF k0 := ⟨_, rfl⟩
  have hrkk10 := nearF_range k0
  rw [← hkk10] at hrkk10
  refine RD.only 3 rfl (by kernel_rfl) Wd.a ?_
  refine H.call0 Try.func26 nm26 rfl (map1 (AF_ev rfl (up rfl (up rfl tp)))) (Calls.mono (near17C (v := kk10) k0 (by omega) hkk10.symm hst) ?_)
  rintro _ w ⟨rfl, hst⟩
  refine ⟨_, rfl, ?_⟩
  have hS : w.cell? ⟨b2, 0, none⟩ = some (.int .i64 k0) ∧ w.cell? ⟨b2, 1, none⟩ = some (.int .i64 u) := ⟨hst.cell (.there (.there (.there .here))) rfl, hst.cell (.there (.there (.there .here))) rfl⟩
  refine ⟨fun _ => hS, ?_⟩
  refine RD.only 6 rfl (by kernel_rfl) Wd.a ?_
  refine H.call0 Try.func34 nm34 rfl (map3 (AF_ev rfl (up rfl (up rfl (up rfl (up rfl (up rfl tp)))))) (AF_ev rfl tp) (AF_ev rfl (up rfl tp))) (Calls.mono (ent_From kk10 u (by omega) hst) ?_)
  rintro _ w ⟨p, vX11, es13, hle, rfl, hokes13, hvses13, hst⟩
  obtain ⟨X11, c12, rfl, hcX11, hmX11, hlX11, hbX11⟩ := hst.shape
  have hp0 := hp0.le hle
  have hL := hL.le hle
  have hEL := hEL.le hle
  have hokes6 := hokes6.le hle
  have hvles13 := congrArg List.length hvses13
  simp only [vs, List.length_map] at hvles13
  have hfles13 := fromL_len (i := ia7) (k := kk10) (most := u) (es := es9)
  refine ⟨_, rfl, ?_⟩
  have hS : w.cell? ⟨b2, 0, none⟩ = some (.int .i64 k0) ∧ w.cell? ⟨b2, 1, none⟩ = some (.int .i64 u) := ⟨hst.cell (.there (.there (.there (.there .here)))) rfl, hst.cell (.there (.there (.there (.there .here)))) rfl⟩
  refine ⟨fun _ => hS, ?_⟩
  refine RD.only 7 rfl (by kernel_rfl) Wd.a (Hd.value (v := .slice X11 es13.length c12) (by exact E.assign (AF_ev rfl tp)) ⟨fun h => Bool.noConfusion ((show needs _ _ _ = false by kernel_rfl).symm.trans h), ?_⟩)
  refine RD.fin (by kernel_rfl) (fun τ => τ 0 = .agg #[.int .i64 i0, .int .i64 t0] ∧ τ 1 = .slice X l.length c ∧ τ 2 = .agg #[.int .i64 k0, .int .i64 u] ∧ τ 3 = .pointer (some ⟨b1, 0, none⟩) ∧ τ 5 = .pointer (some ⟨b2, 0, none⟩) ∧ τ 6 = .bool false ∧ τ 7 = .bool true ∧ τ 8 = .pointer (some ⟨b8, 0, none⟩) ∧ τ 9 = .slice X11 es13.length c12 ∧ τ 30 = .bool false) ⟨up rfl (up rfl (up rfl (up rfl (up rfl (up rfl (up rfl (up rfl hs0))))))), up rfl (up rfl (up rfl (up rfl (up rfl (up rfl (up rfl (up rfl hs1))))))), up rfl (up rfl (up rfl (up rfl (up rfl (up rfl (up rfl (up rfl hs2))))))), up rfl (up rfl (up rfl (up rfl (up rfl (up rfl (up rfl (up rfl hs3))))))), up rfl (up rfl (up rfl (up rfl (up rfl (up rfl (up rfl (up rfl hs5))))))), up rfl (up rfl (up rfl (up rfl (up rfl (up rfl (up rfl (up rfl hs6))))))), up rfl (up rfl (up rfl (up rfl (up rfl (up rfl (up rfl (up rfl hs7))))))), up rfl (up rfl (up rfl (up rfl (up rfl (up rfl (up rfl (up rfl hs8))))))), tp, up rfl (up rfl (up rfl (up rfl (up rfl (up rfl (up rfl (up rfl hs30)))))))⟩ ?_
  rintro τ ⟨hs0, hs1, hs2, hs3, hs5, hs6, hs7, hs8, hs9, hs30⟩
  refine CW.seq ?_
  refine CW.region ?_
  refine RW.soft Wd.a (v := .pointer (some ⟨b2, 0, none⟩)) (by exact E.indexAddrA (b := b2) (o := 0) (i := 0) Try.underlying43 sz3 (AF_ev rfl hs5) rfl (by omega) (by omega) (by simp)) ?_
  refine RW.soft Wd.a (v := .int .i64 k0) (by exact E.load (a := ⟨b2, 0, none⟩) Try.underlying3 rfl (AF_ev rfl tp) (hst.cell (.there (.there (.there (.there .here)))) rfl)) ?_
  refine RW.hard Wd.a ?_
  refine H.call0 Try.func26 nm26 rfl (map1 (AF_ev rfl tp)) (Calls.mono (near17C (v := kk10) k0 (by omega) hkk10.symm hst) ?_)
  rintro _ w ⟨rfl, hst⟩
  refine ⟨_, rfl, ?_⟩
  show RW _ _ _ _ _ _ _
  refine RW.soft Wd.a (v := .pointer (some ⟨b8, 0, none⟩)) (by exact E.move (AF_ev rfl (up rfl (up rfl (up rfl hs8))))) ?_
  have hst := hst.take (.there .here)
  refine RW.hard Wd.a ?_
  refine H.call0 Try.func31 nm31 rfl (map1 (AF_ev rfl tp)) (Calls.mono (ent_FirstL hst) ?_)
  rintro _ w ⟨rfl, hst⟩
  refine ⟨_, rfl, ?_⟩
  show RW _ _ _ _ _ _ _
  refine RW.soft Wd.a (v := .int .i64 (max kk10 (ia7 + 1))) (by exact E.max (k := .i64) (a := kk10) (b := ia7 + 1) (AF_ev rfl (up rfl (up rfl tp))) (AF_ev rfl tp) (by rw [Int.max_def]; split <;> split <;> omega)) ?_
  refine RW.soft Wd.a (v := .int .i64 (max kk10 (ia7 + 1))) (by exact E.assign (AF_ev rfl tp)) ?_
  refine RW.fin (fun τ => τ 0 = .agg #[.int .i64 i0, .int .i64 t0] ∧ τ 1 = .slice X l.length c ∧ τ 2 = .agg #[.int .i64 k0, .int .i64 u] ∧ τ 3 = .pointer (some ⟨b1, 0, none⟩) ∧ τ 5 = .pointer (some ⟨b2, 0, none⟩) ∧ τ 6 = .bool false ∧ τ 7 = .bool true ∧ τ 8 = .pointer (some ⟨b8, 0, none⟩) ∧ τ 9 = .slice X11 es13.length c12 ∧ τ 10 = .int .i64 (max kk10 (ia7 + 1)) ∧ τ 30 = .bool false) ⟨up rfl (up rfl (up rfl (up rfl (up rfl (up rfl (up rfl hs0)))))), up rfl (up rfl (up rfl (up rfl (up rfl (up rfl (up rfl hs1)))))), up rfl (up rfl (up rfl (up rfl (up rfl (up rfl (up rfl hs2)))))), up rfl (up rfl (up rfl (up rfl (up rfl (up rfl (up rfl hs3)))))), up rfl (up rfl (up rfl (up rfl (up rfl (up rfl (up rfl hs5)))))), up rfl (up rfl (up rfl (up rfl (up rfl (up rfl (up rfl hs6)))))), up rfl (up rfl (up rfl (up rfl (up rfl (up rfl (up rfl hs7)))))), up rfl (up rfl (up rfl (up rfl (up rfl (up rfl (up rfl hs8)))))), up rfl (up rfl (up rfl (up rfl (up rfl (up rfl (up rfl hs9)))))), tp, up rfl (up rfl (up rfl (up rfl (up rfl (up rfl (up rfl hs30))))))⟩ ?_
  rintro τ ⟨hs0, hs1, hs2, hs3, hs5, hs6, hs7, hs8, hs9, hs10, hs30⟩
  refine CW.seq ?_
  refine CW.region ?_
  refine RW.soft Wd.a (v := .int .i64 0) (by exact E.assign rfl) ?_
  refine RW.fin (fun τ => τ 0 = .agg #[.int .i64 i0, .int .i64 t0] ∧ τ 1 = .slice X l.length c ∧ τ 2 = .agg #[.int .i64 k0, .int .i64 u] ∧ τ 3 = .pointer (some ⟨b1, 0, none⟩) ∧ τ 5 = .pointer (some ⟨b2, 0, none⟩) ∧ τ 6 = .bool false ∧ τ 7 = .bool true ∧ τ 8 = .pointer (some ⟨b8, 0, none⟩) ∧ τ 9 = .slice X11 es13.length c12 ∧ τ 10 = .int .i64 (max kk10 (ia7 + 1)) ∧ τ 11 = .int .i64 0 ∧ τ 30 = .bool false) ⟨up rfl hs0, up rfl hs1, up rfl hs2, up rfl hs3, up rfl hs5, up rfl hs6, up rfl hs7, up rfl hs8, up rfl hs9, up rfl hs10, tp, up rfl hs30⟩ ?_
  rintro τ ⟨hs0, hs1, hs2, hs3, hs5, hs6, hs7, hs8, hs9, hs10, hs11, hs30⟩
  refine CW.seq ?_
  refine CW.seq ?_
  refine CW.region ?_
  refine RW.soft Wd.a (v := .int .i64 (max kk10 (ia7 + 1))) (by exact E.move (AF_ev rfl hs10)) ?_
  refine RW.soft Wd.a (v := .pointer (some ⟨b8, 0, none⟩)) (by exact E.move (AF_ev rfl (up rfl hs8))) ?_
  refine RW.hard Wd.a ?_
  refine H.call0 Try.func30 nm30 rfl (map1 (AF_ev rfl tp)) (Calls.mono (ent_LastL (v := ia7 + ((es9.length : Nat) : Int)) rfl hst) ?_)
  rintro _ w ⟨rfl, hst⟩
  refine ⟨_, rfl, ?_⟩
  show RW _ _ _ _ _ _ _
  refine RW.soft Wd.a (v := .bool (decide ((max kk10 (ia7 + 1)) ≤ (ia7 + ((es9.length : Nat) : Int))))) (by exact E.leq (k := .i64) (a := max kk10 (ia7 + 1)) (b := ia7 + ((es9.length : Nat) : Int)) (AF_ev rfl (up rfl (up rfl tp))) (AF_ev rfl tp)) ?_
  refine RW.fin (fun τ => τ 0 = .agg #[.int .i64 i0, .int .i64 t0] ∧ τ 1 = .slice X l.length c ∧ τ 2 = .agg #[.int .i64 k0, .int .i64 u] ∧ τ 3 = .pointer (some ⟨b1, 0, none⟩) ∧ τ 5 = .pointer (some ⟨b2, 0, none⟩) ∧ τ 6 = .bool false ∧ τ 7 = .bool true ∧ τ 8 = .pointer (some ⟨b8, 0, none⟩) ∧ τ 9 = .slice X11 es13.length c12 ∧ τ 10 = .int .i64 (max kk10 (ia7 + 1)) ∧ τ 11 = .int .i64 0 ∧ τ 30 = .bool false ∧ τ 47 = .bool (decide ((max kk10 (ia7 + 1)) ≤ (ia7 + ((es9.length : Nat) : Int))))) ⟨up rfl (up rfl (up rfl (up rfl hs0))), up rfl (up rfl (up rfl (up rfl hs1))), up rfl (up rfl (up rfl (up rfl hs2))), up rfl (up rfl (up rfl (up rfl hs3))), up rfl (up rfl (up rfl (up rfl hs5))), up rfl (up rfl (up rfl (up rfl hs6))), up rfl (up rfl (up rfl (up rfl hs7))), up rfl (up rfl (up rfl (up rfl hs8))), up rfl (up rfl (up rfl (up rfl hs9))), up rfl (up rfl (up rfl (up rfl hs10))), up rfl (up rfl (up rfl (up rfl hs11))), up rfl (up rfl (up rfl (up rfl hs30))), tp⟩ ?_
  rintro τ ⟨hs0, hs1, hs2, hs3, hs5, hs6, hs7, hs8, hs9, hs10, hs11, hs30, hs47⟩
  refine CW.cond (AF_ev rfl hs47) (fun hc15 => ?_) (fun hc15 => ?_)
  · have hc15_ := hc15
    try simp only [decide_eq_true_eq, decide_eq_false_iff_not, Bool.and_eq_true, Bool.or_eq_true, Bool.and_eq_false_iff, Bool.or_eq_false_iff, Bool.not_eq_true', Bool.not_eq_false', beq_iff_eq, beq_eq_false_iff_ne, bne_iff_ne, bne_eq_false_iff_eq, ne_eq, Int.not_lt, Int.not_le, gt_iff_lt, ge_iff_le] at hc15_
    refine CW.regionD [0, 1, 2, 4] (fun w => w.cell? ⟨b2, 1, none⟩ = some (.int .i64 u)) mixed ?_
    have hst := hst.drew
    generalize w.drew = w at hst ⊢
    have hS : w.cell? ⟨b2, 1, none⟩ = some (.int .i64 u) := hst.cell (.there (.there (.there (.there .here)))) rfl
    refine RD.take 0 rfl (by kernel_rfl) Wd.a (v := .pointer (some ⟨b2, 1, none⟩)) (fun w hS => by exact E.indexAddrA (b := b2) (o := 0) (i := 1) Try.underlying43 sz3 (AF_ev rfl hs5) rfl (by omega) (by omega) (by simp)) hS ?_
    refine RD.take 1 rfl (by kernel_rfl) Wd.a (v := .int .i64 u) (fun w hS => by exact E.load (a := ⟨b2, 1, none⟩) Try.underlying3 rfl (AF_ev rfl tp) hS) hS ?_
    refine RD.take 2 rfl (by kernel_rfl) Wd.a (v := .pointer (some ⟨b8, 0, none⟩)) (fun w hS => by exact E.move (AF_ev rfl (up rfl (up rfl hs8)))) hS ?_
    refine RD.take 4 rfl (by kernel_rfl) Wd.a (v := .int .i64 (max kk10 (ia7 + 1))) (fun w hS => by exact E.move (AF_ev rfl (up rfl (up rfl (up rfl hs10))))) hS ?_
    refine RD.only 3 rfl (by kernel_rfl) Wd.a ?_
    refine H.call0 Try.func30 nm30 rfl (map1 (AF_ev rfl (up rfl tp))) (Calls.mono (ent_LastL (v := ia7 + ((es9.length : Nat) : Int)) rfl hst) ?_)
    rintro _ w ⟨rfl, hst⟩
    refine ⟨_, rfl, ?_⟩
    have hS : w.cell? ⟨b2, 1, none⟩ = some (.int .i64 u) := hst.cell (.there (.there (.there (.there .here)))) rfl
    refine ⟨fun _ => hS, ?_⟩
    refine RD.only 5 rfl (by kernel_rfl) Wd.a (Hd.value (v := .int .i64 (ia7 + ((es9.length : Nat) : Int) - (max kk10 (ia7 + 1)))) (by exact E.sub (k := .i64) (a := ia7 + ((es9.length : Nat) : Int)) (b := max kk10 (ia7 + 1)) (AF_ev rfl tp) (AF_ev rfl (up rfl tp)) (show IntKind.i64.wrap ((ia7 + ((es9.length : Nat) : Int)) - (max kk10 (ia7 + 1))) = ia7 + ((es9.length : Nat) : Int) - (max kk10 (ia7 + 1)) from (by rw [IntWalk.i64_in _ (by omega)] <;> omega))) ⟨fun _ => hS, ?_⟩)
    refine RD.only 6 rfl (by kernel_rfl) Wd.a (Hd.value (v := .int .i64 (ia7 + ((es9.length : Nat) : Int) - (max kk10 (ia7 + 1)) + 1)) (by exact E.add (k := .i64) (a := ia7 + ((es9.length : Nat) : Int) - (max kk10 (ia7 + 1))) (b := 1) (AF_ev rfl tp) rfl (show IntKind.i64.wrap ((ia7 + ((es9.length : Nat) : Int) - (max kk10 (ia7 + 1))) + 1) = ia7 + ((es9.length : Nat) : Int) - (max kk10 (ia7 + 1)) + 1 from (by rw [IntWalk.i64_in _ (by omega)] <;> omega))) ⟨fun _ => hS, ?_⟩)
    refine RD.only 7 rfl (by kernel_rfl) Wd.a (Hd.value (v := .int .i64 (min u (ia7 + ((es9.length : Nat) : Int) - (max kk10 (ia7 + 1)) + 1))) (by exact E.min (k := .i64) (a := u) (b := ia7 + ((es9.length : Nat) : Int) - (max kk10 (ia7 + 1)) + 1) (AF_ev rfl (up rfl (up rfl (up rfl (up rfl (up rfl tp)))))) (AF_ev rfl tp) (by rw [Int.min_def]; split <;> split <;> omega)) ⟨fun _ => hS, ?_⟩)
    refine RD.only 8 rfl (by kernel_rfl) Wd.a (Hd.value (v := .int .i64 (max 0 (min u (ia7 + ((es9.length : Nat) : Int) - (max kk10 (ia7 + 1)) + 1)))) (by exact E.max (k := .i64) (a := 0) (b := min u (ia7 + ((es9.length : Nat) : Int) - (max kk10 (ia7 + 1)) + 1)) rfl (AF_ev rfl tp) (by rw [Int.max_def]; split <;> split <;> omega)) ⟨fun _ => hS, ?_⟩)
    refine RD.only 9 rfl (by kernel_rfl) Wd.a (Hd.value (v := .int .i64 (max 0 (min u (ia7 + ((es9.length : Nat) : Int) - (max kk10 (ia7 + 1)) + 1)))) (by exact E.assign (AF_ev rfl tp)) ⟨fun h => Bool.noConfusion ((show needs _ _ _ = false by kernel_rfl).symm.trans h), ?_⟩)
    refine RD.fin (by kernel_rfl) (fun τ => τ 0 = .agg #[.int .i64 i0, .int .i64 t0] ∧ τ 1 = .slice X l.length c ∧ τ 2 = .agg #[.int .i64 k0, .int .i64 u] ∧ τ 3 = .pointer (some ⟨b1, 0, none⟩) ∧ τ 5 = .pointer (some ⟨b2, 0, none⟩) ∧ τ 6 = .bool false ∧ τ 7 = .bool true ∧ τ 8 = .pointer (some ⟨b8, 0, none⟩) ∧ τ 9 = .slice X11 es13.length c12 ∧ τ 10 = .int .i64 (max kk10 (ia7 + 1)) ∧ τ 11 = .int .i64 (max 0 (min u (ia7 + ((es9.length : Nat) : Int) - (max kk10 (ia7 + 1)) + 1))) ∧ τ 30 = .bool false ∧ τ 47 = .bool true) ⟨up rfl (up rfl (up rfl (up rfl (up rfl (up rfl (up rfl (up rfl (up rfl (up rfl hs0))))))))), up rfl (up rfl (up rfl (up rfl (up rfl (up rfl (up rfl (up rfl (up rfl (up rfl hs1))))))))), up rfl (up rfl (up rfl (up rfl (up rfl (up rfl (up rfl (up rfl (up rfl (up rfl hs2))))))))), up rfl (up rfl (up rfl (up rfl (up rfl (up rfl (up rfl (up rfl (up rfl (up rfl hs3))))))))), up rfl (up rfl (up rfl (up rfl (up rfl (up rfl (up rfl (up rfl (up rfl (up rfl hs5))))))))), up rfl (up rfl (up rfl (up rfl (up rfl (up rfl (up rfl (up rfl (up rfl (up rfl hs6))))))))), up rfl (up rfl (up rfl (up rfl (up rfl (up rfl (up rfl (up rfl (up rfl (up rfl hs7))))))))), up rfl (up rfl (up rfl (up rfl (up rfl (up rfl (up rfl (up rfl (up rfl (up rfl hs8))))))))), up rfl (up rfl (up rfl (up rfl (up rfl (up rfl (up rfl (up rfl (up rfl (up rfl hs9))))))))), up rfl (up rfl (up rfl (up rfl (up rfl (up rfl (up rfl (up rfl (up rfl (up rfl hs10))))))))), tp, up rfl (up rfl (up rfl (up rfl (up rfl (up rfl (up rfl (up rfl (up rfl (up rfl hs30))))))))), up rfl (up rfl (up rfl (up rfl (up rfl (up rfl (up rfl (up rfl (up rfl (up rfl (Eq.trans hs47 (congrArg Value.bool hc15)))))))))))⟩ ?_
    rintro τ ⟨hs0, hs1, hs2, hs3, hs5, hs6, hs7, hs8, hs9, hs10, hs11, hs30, hs47⟩
    refine CW.seq ?_
    refine CW.seq ?_
    have hlen3 : ((es13.length : Nat) : Int) = max 0 (min u (ia7 + ((es9.length : Nat) : Int) - (max kk10 (ia7 + 1)) + 1)) := by omega
    refine CW.region ?_
    refine RW.soft Wd.a (v := .slice X11 es13.length c12) (by exact E.move (AF_ev rfl hs9)) ?_
    refine RW.soft Wd.a (v := .int .i64 ((es13.length : Nat) : Int)) (by exact E.lenS (p := X11) (l := es13.length) (c := c12) Try.underlying44 (AF_ev rfl tp)) ?_
    refine RW.soft Wd.a (v := .int .i64 (max 0 (min u (ia7 + ((es9.length : Nat) : Int) - (max kk10 (ia7 + 1)) + 1)))) (by exact E.move (AF_ev rfl (up rfl (up rfl hs11)))) ?_
    refine RW.soft Wd.a (v := .bool false) (by exact E.b (a := ((es13.length : Nat) : Int) != (max 0 (min u (ia7 + ((es9.length : Nat) : Int) - (max kk10 (ia7 + 1)) + 1)))) (E.neq (k := .i64) (a := ((es13.length : Nat) : Int)) (b := max 0 (min u (ia7 + ((es9.length : Nat) : Int) - (max kk10 (ia7 + 1)) + 1))) (AF_ev rfl (up rfl tp)) (AF_ev rfl tp)) (by rw [bne_eq_false_iff_eq]; exact hlen3)) ?_
    refine RW.fin (fun τ => τ 0 = .agg #[.int .i64 i0, .int .i64 t0] ∧ τ 1 = .slice X l.length c ∧ τ 2 = .agg #[.int .i64 k0, .int .i64 u] ∧ τ 3 = .pointer (some ⟨b1, 0, none⟩) ∧ τ 5 = .pointer (some ⟨b2, 0, none⟩) ∧ τ 6 = .bool false ∧ τ 7 = .bool true ∧ τ 8 = .pointer (some ⟨b8, 0, none⟩) ∧ τ 9 = .slice X11 es13.length c12 ∧ τ 10 = .int .i64 (max kk10 (ia7 + 1)) ∧ τ 11 = .int .i64 (max 0 (min u (ia7 + ((es9.length : Nat) : Int) - (max kk10 (ia7 + 1)) + 1))) ∧ τ 30 = .bool false ∧ τ 47 = .bool true ∧ τ 60 = .bool false) ⟨up rfl (up rfl (up rfl (up rfl hs0))), up rfl (up rfl (up rfl (up rfl hs1))), up rfl (up rfl (up rfl (up rfl hs2))), up rfl (up rfl (up rfl (up rfl hs3))), up rfl (up rfl (up rfl (up rfl hs5))), up rfl (up rfl (up rfl (up rfl hs6))), up rfl (up rfl (up rfl (up rfl hs7))), up rfl (up rfl (up rfl (up rfl hs8))), up rfl (up rfl (up rfl (up rfl hs9))), up rfl (up rfl (up rfl (up rfl hs10))), up rfl (up rfl (up rfl (up rfl hs11))), up rfl (up rfl (up rfl (up rfl hs30))), up rfl (up rfl (up rfl (up rfl hs47))), tp⟩ ?_
    rintro τ ⟨hs0, hs1, hs2, hs3, hs5, hs6, hs7, hs8, hs9, hs10, hs11, hs30, hs47, hs60⟩
    refine CW.condF (AF_ev rfl hs60) ?_
    refine CW.skip ?_
    refine Th.n ?_
    refine CW.seq ?_
    refine CW.seq ?_
    refine CW.region ?_
    refine RW.soft Wd.a (v := .int .i64 0) (by exact E.assign rfl) ?_
    refine RW.fin (fun τ => τ 0 = .agg #[.int .i64 i0, .int .i64 t0] ∧ τ 1 = .slice X l.length c ∧ τ 2 = .agg #[.int .i64 k0, .int .i64 u] ∧ τ 3 = .pointer (some ⟨b1, 0, none⟩) ∧ τ 5 = .pointer (some ⟨b2, 0, none⟩) ∧ τ 6 = .bool false ∧ τ 7 = .bool true ∧ τ 8 = .pointer (some ⟨b8, 0, none⟩) ∧ τ 9 = .slice X11 es13.length c12 ∧ τ 10 = .int .i64 (max kk10 (ia7 + 1)) ∧ τ 11 = .int .i64 (max 0 (min u (ia7 + ((es9.length : Nat) : Int) - (max kk10 (ia7 + 1)) + 1))) ∧ τ 12 = .int .i64 0 ∧ τ 30 = .bool false ∧ τ 47 = .bool true ∧ τ 60 = .bool false) ⟨up rfl hs0, up rfl hs1, up rfl hs2, up rfl hs3, up rfl hs5, up rfl hs6, up rfl hs7, up rfl hs8, up rfl hs9, up rfl hs10, up rfl hs11, tp, up rfl hs30, up rfl hs47, up rfl hs60⟩ ?_
    rintro τ ⟨hs0, hs1, hs2, hs3, hs5, hs6, hs7, hs8, hs9, hs10, hs11, hs12, hs30, hs47, hs60⟩
    refine CW.block ?_
    have hst := hst.take (.there .here)
    have hst := hst.take (.there .here)
    have hst := (hst.take (.there (.there .here))).drop
    have hst := (hst.take (.there (.there .here))).drop
    have hst := (hst.take (.there (.there .here))).drop
    have hst := (hst.take (.there (.there .here))).drop
    refine CW.loop (fun (k : Nat) (τ : Fr) (w : World) => ∃ (p : Pers) (j : Nat), p0.le p ∧ EsOk p es13 ∧ j ≤ es13.length ∧ k = es13.length - j ∧ τ 8 = .pointer (some ⟨b8, 0, none⟩) ∧ τ 9 = .slice X11 es13.length c12 ∧ τ 10 = .int .i64 (max kk10 (ia7 + 1)) ∧ τ 12 = .int .i64 ((j : Nat) : Int) ∧ St p w (LogB p b8 ia7 t0 es9 :: Own 58 4 (.slice X11 es13.length c12) es13.length (flat es13) :: R)) (es13.length - 0) ⟨p, 0, hp0, hokes13, by omega, rfl, hs8, hs9, hs10, (int_eq (a := 0) hs12 (by omega)), hst⟩ ?_
    clear hst
    rintro k τ w ⟨p, j, hp0, hokes13, hj, hkj, hs8, hs9, hs10, hs12, hst⟩
    refine CW.seq ?_
    refine CW.seq ?_
    refine CW.region ?_
    refine RW.soft Wd.a (v := .int .i64 ((j : Nat) : Int)) (by exact E.move (AF_ev rfl hs12)) ?_
    refine RW.soft Wd.a (v := .slice X11 es13.length c12) (by exact E.move (AF_ev rfl (up rfl hs9))) ?_
    refine RW.soft Wd.a (v := .int .i64 ((es13.length : Nat) : Int)) (by exact E.lenS (p := X11) (l := es13.length) (c := c12) Try.underlying44 (AF_ev rfl tp)) ?_
    refine RW.soft Wd.a (v := .bool (decide (((j : Nat) : Int) < ((es13.length : Nat) : Int)))) (by exact E.lss (k := .i64) (a := ((j : Nat) : Int)) (b := ((es13.length : Nat) : Int)) (AF_ev rfl (up rfl (up rfl tp))) (AF_ev rfl tp)) ?_
    refine RW.fin (fun τ => τ 8 = .pointer (some ⟨b8, 0, none⟩) ∧ τ 9 = .slice X11 es13.length c12 ∧ τ 10 = .int .i64 (max kk10 (ia7 + 1)) ∧ τ 12 = .int .i64 ((j : Nat) : Int) ∧ τ 64 = .bool (decide (((j : Nat) : Int) < ((es13.length : Nat) : Int)))) ⟨up rfl (up rfl (up rfl (up rfl hs8))), up rfl (up rfl (up rfl (up rfl hs9))), up rfl (up rfl (up rfl (up rfl hs10))), up rfl (up rfl (up rfl (up rfl hs12))), tp⟩ ?_
    rintro τ ⟨hs8, hs9, hs10, hs12, hs64⟩
    refine CW.cond (AF_ev rfl hs64) (fun hc16 => ?_) (fun hc16 => ?_)
    · have hc16_ := hc16
      try simp only [decide_eq_true_eq, decide_eq_false_iff_not, Bool.and_eq_true, Bool.or_eq_true, Bool.and_eq_false_iff, Bool.or_eq_false_iff, Bool.not_eq_true', Bool.not_eq_false', beq_iff_eq, beq_eq_false_iff_ne, bne_iff_ne, bne_eq_false_iff_eq, ne_eq, Int.not_lt, Int.not_le, gt_iff_lt, ge_iff_le] at hc16_
      refine CW.skip ?_
      refine Th.n ?_
      refine CW.seq ?_
      refine CW.block ?_
      refine CW.seq ?_
      obtain ⟨g3, rfl⟩ := hbX11 (by omega)
      obtain ⟨z, hz⟩ : ∃ z, es13[j]? = some z := ⟨es13[j]'(by omega), List.getElem?_eq_getElem (by omega)⟩
      obtain ⟨x, hx, hxz, hxr⟩ := from_elem hvses13 hz
      refine CW.region ?_
      refine RW.soft Wd.a (v := .pointer (some ⟨b8, 0, none⟩)) (by exact E.move (AF_ev rfl hs8)) ?_
      refine RW.soft Wd.a (v := .int .i64 (max kk10 (ia7 + 1))) (by exact E.move (AF_ev rfl (up rfl hs10))) ?_
      refine RW.soft Wd.a (v := .int .i64 ((j : Nat) : Int)) (by exact E.move (AF_ev rfl (up rfl (up rfl hs12)))) ?_
      refine RW.soft Wd.a (v := .int .i64 (max kk10 (ia7 + 1) + ((j : Nat) : Int))) (by exact E.add (k := .i64) (a := max kk10 (ia7 + 1)) (b := ((j : Nat) : Int)) (AF_ev rfl (up rfl tp)) (AF_ev rfl tp) (show IntKind.i64.wrap ((max kk10 (ia7 + 1)) + ((j : Nat) : Int)) = max kk10 (ia7 + 1) + ((j : Nat) : Int) from (by rw [IntWalk.i64_in _ (by omega)] <;> omega))) ?_
      refine RW.hard Wd.a ?_
      refine H.call0 Try.func35 nm35 rfl (map2 (AF_ev rfl (up rfl (up rfl (up rfl tp)))) (AF_ev rfl tp)) (Calls.mono (ent_At (x := x) (max kk10 (ia7 + 1) + ((j : Nat) : Int)) (by omega) hx hst) ?_)
      rintro _ w ⟨p, y, hle, hvy, hoky, rfl, hst⟩
      have hp0 := hp0.le hle
      have hokes13 := hokes13.le hle
      refine ⟨_, rfl, ?_⟩
      show RW _ _ _ _ _ _ _
      refine RW.soft Wd.a (v := .tuple #[.agg #[.int .i64 y.term, .int .i64 y.kind, .slice y.X y.ns.length y.xc, .slice y.Y y.ms.length y.yc], .int .i64 0]) (by exact E.move (AF_ev rfl tp)) ?_
      refine RW.soft Wd.a (v := .agg #[.int .i64 y.term, .int .i64 y.kind, .slice y.X y.ns.length y.xc, .slice y.Y y.ms.length y.yc]) (by exact E.extract (vs := #[.agg #[.int .i64 y.term, .int .i64 y.kind, .slice y.X y.ns.length y.xc, .slice y.Y y.ms.length y.yc], .int .i64 0]) (AF_ev rfl tp) rfl) ?_
      refine RW.soft Wd.a (v := .int .i64 0) (by exact E.extract (vs := #[.agg #[.int .i64 y.term, .int .i64 y.kind, .slice y.X y.ns.length y.xc, .slice y.Y y.ms.length y.yc], .int .i64 0]) (AF_ev rfl (up rfl tp)) rfl) ?_
      refine RW.hard Wd.a ?_
      refine H.alloc zr58 hst fun b17 w hst => ?_
      refine RW.hard Wd.a ?_
      refine H.store (b := b17) (o := 0) (v := .agg #[.int .i64 y.term, .int .i64 y.kind, .slice y.X y.ns.length y.xc, .slice y.Y y.ms.length y.yc]) (c' := #[.int .i64 y.term, .int .i64 y.kind, .slice y.X y.ns.length y.xc, .slice y.Y y.ms.length y.yc]) (AF_ev rfl tp) (AF_ev rfl (up rfl (up rfl tp))) hst .here sz58 (by simp [Value.cells]) (by simp [Value.cells, Value.oneCell']) rfl fun w hst => ?_
      refine RW.soft Wd.a (v := .int .i64 0) (by exact E.assign (AF_ev rfl (u0 (up rfl tp)))) ?_
      refine RW.fin (fun τ => τ 8 = .pointer (some ⟨b8, 0, none⟩) ∧ τ 9 = .slice (some ⟨g3, 0, none⟩) es13.length c12 ∧ τ 10 = .int .i64 (max kk10 (ia7 + 1)) ∧ τ 12 = .int .i64 ((j : Nat) : Int) ∧ τ 13 = .pointer (some ⟨b17, 0, none⟩) ∧ τ 14 = .int .i64 0 ∧ τ 64 = .bool true) ⟨up rfl (u0 (up rfl (up rfl (up rfl (up rfl (up rfl (up rfl (up rfl (up rfl (up rfl hs8)))))))))), up rfl (u0 (up rfl (up rfl (up rfl (up rfl (up rfl (up rfl (up rfl (up rfl (up rfl hs9)))))))))), up rfl (u0 (up rfl (up rfl (up rfl (up rfl (up rfl (up rfl (up rfl (up rfl (up rfl hs10)))))))))), up rfl (u0 (up rfl (up rfl (up rfl (up rfl (up rfl (up rfl (up rfl (up rfl (up rfl hs12)))))))))), up rfl (u0 tp), tp, up rfl (u0 (up rfl (up rfl (up rfl (up rfl (up rfl (up rfl (up rfl (up rfl (up rfl (Eq.trans hs64 (congrArg Value.bool hc16))))))))))))⟩ ?_
      rintro τ ⟨hs8, hs9, hs10, hs12, hs13, hs14, hs64⟩
      refine CW.seq ?_
      refine CW.regionD [0, 1, 2, 3, 4] (fun w => (∀ j_ v_, ([.int .i64 y.term, .int .i64 y.kind, .slice y.X y.ns.length y.xc, .slice y.Y y.ms.length y.yc] : List Value)[j_]? = some v_ → w.cell? ⟨b17, 0 + j_, none⟩ = some v_) ∧ (∀ j_ v_, (z.enc : List Value)[j_]? = some v_ → w.cell? ⟨g3, j * 4 + j_, none⟩ = some v_)) mixed ?_
      have hst := hst.drew
      generalize w.drew = w at hst ⊢
      have hS : (∀ j_ v_, ([.int .i64 y.term, .int .i64 y.kind, .slice y.X y.ns.length y.xc, .slice y.Y y.ms.length y.yc] : List Value)[j_]? = some v_ → w.cell? ⟨b17, 0 + j_, none⟩ = some v_) ∧ (∀ j_ v_, (z.enc : List Value)[j_]? = some v_ → w.cell? ⟨g3, j * 4 + j_, none⟩ = some v_) := ⟨hst.cellsIn .here rfl, (fun j u hu => hst.ocell (.there (.there .here)) (flat_get Ent.enc_len hz hu))⟩
      refine RD.take 0 rfl (by kernel_rfl) Wd.a (v := .agg #[.int .i64 y.term, .int .i64 y.kind, .slice y.X y.ns.length y.xc, .slice y.Y y.ms.length y.yc]) (fun w hS => by exact E.loadN (b := b17) (o := 0) (cs := [.int .i64 y.term, .int .i64 y.kind, .slice y.X y.ns.length y.xc, .slice y.Y y.ms.length y.yc]) Try.underlying58 rfl sz58 (AF_ev rfl hs13) rfl hS.1) hS ?_
      refine RD.take 1 rfl (by kernel_rfl) Wd.a (v := .slice (some ⟨g3, 0, none⟩) es13.length c12) (fun w hS => by exact E.move (AF_ev rfl (up rfl hs9))) hS ?_
      refine RD.take 2 rfl (by kernel_rfl) Wd.a (v := .int .i64 ((j : Nat) : Int)) (fun w hS => by exact E.move (AF_ev rfl (up rfl (up rfl hs12)))) hS ?_
      refine RD.take 3 rfl (by kernel_rfl) Wd.a (v := .pointer (some ⟨g3, j * 4, none⟩)) (fun w hS => by exact E.indexAddr (b := g3) (o := 0) (l := es13.length) (c := c12) (i := ((j : Nat) : Int)) Try.underlying44 sz58 (AF_ev rfl (up rfl tp)) (AF_ev rfl tp) (by omega) (by omega) (by simp)) hS ?_
      refine RD.take 4 rfl (by kernel_rfl) Wd.a (v := .agg #[.int .i64 z.term, .int .i64 z.kind, .slice z.X z.ns.length z.xc, .slice z.Y z.ms.length z.yc]) (fun w hS => by exact E.loadN (cs := z.enc) Try.underlying58 rfl sz58 (AF_ev rfl tp) rfl hS.2) hS ?_
      refine RD.only 5 rfl (by kernel_rfl) Wd.a ?_
      refine H.call0 Try.func36 nm36 rfl (map2 (AF_ev rfl (up rfl (up rfl (up rfl (up rfl tp))))) (AF_ev rfl tp)) (Calls.mono (ent_Same hoky (hokes13 z (List.mem_of_getElem? hz)) (hvy.trans hxz) hst) ?_)
      rintro _ w ⟨rfl, hst⟩
      refine ⟨_, rfl, ?_⟩
      have hS : (∀ j_ v_, ([.int .i64 y.term, .int .i64 y.kind, .slice y.X y.ns.length y.xc, .slice y.Y y.ms.length y.yc] : List Value)[j_]? = some v_ → w.cell? ⟨b17, 0 + j_, none⟩ = some v_) ∧ (∀ j_ v_, (z.enc : List Value)[j_]? = some v_ → w.cell? ⟨g3, j * 4 + j_, none⟩ = some v_) := ⟨hst.cellsIn .here rfl, (fun j u hu => hst.ocell (.there (.there .here)) (flat_get Ent.enc_len hz hu))⟩
      refine ⟨fun _ => hS, ?_⟩
      refine RD.only 6 rfl (by kernel_rfl) Wd.a (Hd.value (v := .bool true) (by exact E.assign (AF_ev rfl tp)) ⟨fun h => Bool.noConfusion ((show needs _ _ _ = false by kernel_rfl).symm.trans h), ?_⟩)
      refine RD.fin (by kernel_rfl) (fun τ => τ 8 = .pointer (some ⟨b8, 0, none⟩) ∧ τ 9 = .slice (some ⟨g3, 0, none⟩) es13.length c12 ∧ τ 10 = .int .i64 (max kk10 (ia7 + 1)) ∧ τ 12 = .int .i64 ((j : Nat) : Int) ∧ τ 13 = .pointer (some ⟨b17, 0, none⟩) ∧ τ 14 = .int .i64 0 ∧ τ 15 = .bool true ∧ τ 64 = .bool true) ⟨up rfl (up rfl (up rfl (up rfl (up rfl (up rfl (up rfl hs8)))))), up rfl (up rfl (up rfl (up rfl (up rfl (up rfl (up rfl hs9)))))), up rfl (up rfl (up rfl (up rfl (up rfl (up rfl (up rfl hs10)))))), up rfl (up rfl (up rfl (up rfl (up rfl (up rfl (up rfl hs12)))))), up rfl (up rfl (up rfl (up rfl (up rfl (up rfl (up rfl hs13)))))), up rfl (up rfl (up rfl (up rfl (up rfl (up rfl (up rfl hs14)))))), tp, up rfl (up rfl (up rfl (up rfl (up rfl (up rfl (up rfl hs64))))))⟩ ?_
      rintro τ ⟨hs8, hs9, hs10, hs12, hs13, hs14, hs15, hs64⟩
      refine CW.seq ?_
      refine CW.region ?_
      refine RW.soft Wd.a (v := .int .i64 0) (by exact E.move (AF_ev rfl hs14)) ?_
      refine RW.soft Wd.a (v := .bool false) (by exact E.neq (k := .i64) (a := 0) (b := 0) (AF_ev rfl tp) rfl) ?_
      refine RW.soft Wd.a (v := .bool false) (by exact E.move (AF_ev rfl tp)) ?_
      refine RW.soft (by exact Wd.yes (x := 83) rfl (AF_ev rfl tp)) (v := .bool true) (by exact E.move (AF_ev rfl (up rfl (up rfl (up rfl hs15))))) ?_
      refine RW.soft (by exact Wd.yes (x := 83) rfl (AF_ev rfl (up rfl tp))) (v := .bool false) (by exact E.not (b := true) (AF_ev rfl tp)) ?_
      refine RW.soft Wd.a (v := .bool false) (by exact E.pickF (AF_ev rfl (up rfl (up rfl tp))) (AF_ev rfl tp)) ?_
      refine RW.fin (fun τ => τ 8 = .pointer (some ⟨b8, 0, none⟩) ∧ τ 9 = .slice (some ⟨g3, 0, none⟩) es13.length c12 ∧ τ 10 = .int .i64 (max kk10 (ia7 + 1)) ∧ τ 12 = .int .i64 ((j : Nat) : Int) ∧ τ 13 = .pointer (some ⟨b17, 0, none⟩) ∧ τ 14 = .int .i64 0 ∧ τ 15 = .bool true ∧ τ 64 = .bool true ∧ τ 86 = .bool false) ⟨up rfl (up rfl (up rfl (up rfl (up rfl (up rfl hs8))))), up rfl (up rfl (up rfl (up rfl (up rfl (up rfl hs9))))), up rfl (up rfl (up rfl (up rfl (up rfl (up rfl hs10))))), up rfl (up rfl (up rfl (up rfl (up rfl (up rfl hs12))))), up rfl (up rfl (up rfl (up rfl (up rfl (up rfl hs13))))), up rfl (up rfl (up rfl (up rfl (up rfl (up rfl hs14))))), up rfl (up rfl (up rfl (up rfl (up rfl (up rfl hs15))))), up rfl (up rfl (up rfl (up rfl (up rfl (up rfl hs64))))), tp⟩ ?_
      rintro τ ⟨hs8, hs9, hs10, hs12, hs13, hs14, hs15, hs64, hs86⟩
      refine CW.condF (AF_ev rfl hs86) ?_
      refine CW.skip ?_
      refine Bl.n ?_
      refine Th.n ?_
      refine CW.region ?_
      refine RW.soft Wd.a (v := .int .i64 ((j : Nat) : Int)) (by exact E.move (AF_ev rfl hs12)) ?_
      refine RW.soft Wd.a (v := .int .i64 (((j : Nat) : Int) + 1)) (by exact E.add (k := .i64) (a := ((j : Nat) : Int)) (b := 1) (AF_ev rfl tp) rfl (show IntKind.i64.wrap (((j : Nat) : Int) + 1) = ((j : Nat) : Int) + 1 from (by rw [IntWalk.i64_in _ (by omega)]))) ?_
      refine RW.soft Wd.a (v := .int .i64 (((j : Nat) : Int) + 1)) (by exact E.assign (AF_ev rfl tp)) ?_
      refine RW.nil ?_
      refine Th.n ?_
      have hst := hst.take (.there (.there .here))
      have hst := hst.take (.there (.there .here))
      have hst := (hst.take (.there (.there .here))).drop
      exact ⟨es13.length - (j + 1), by omega, p, j + 1, hp0, hokes13, (by omega), (by omega), up rfl (up rfl (up rfl hs8)), up rfl (up rfl (up rfl hs9)), up rfl (up rfl (up rfl hs10)), (int_eq (a := ((j : Nat) : Int) + 1) tp (by omega)), hst⟩
    · have hc16_ := hc16
      try simp only [decide_eq_true_eq, decide_eq_false_iff_not, Bool.and_eq_true, Bool.or_eq_true, Bool.and_eq_false_iff, Bool.or_eq_false_iff, Bool.not_eq_true', Bool.not_eq_false', beq_iff_eq, beq_eq_false_iff_ne, bne_iff_ne, bne_eq_false_iff_eq, ne_eq, Int.not_lt, Int.not_le, gt_iff_lt, ge_iff_le] at hc16_
      refine CW.exit ?_
      refine Th.x ?_
      refine Th.x ?_
      refine Bl.x ?_
      refine Th.n ?_
      refine CW.seq ?_
      refine CW.region ?_
      refine RW.soft Wd.a (v := .bool true) (by exact E.assign rfl) ?_
      refine RW.fin (fun τ => τ 6 = .bool true ∧ τ 8 = .pointer (some ⟨b8, 0, none⟩) ∧ τ 9 = .slice X11 es13.length c12 ∧ τ 10 = .int .i64 (max kk10 (ia7 + 1)) ∧ τ 12 = .int .i64 ((j : Nat) : Int) ∧ τ 64 = .bool false) ⟨tp, up rfl hs8, up rfl hs9, up rfl hs10, up rfl hs12, up rfl (Eq.trans hs64 (congrArg Value.bool hc16))⟩ ?_
      rintro τ ⟨hs6, hs8, hs9, hs10, hs12, hs64⟩
      refine CW.ret ?_
      refine ret1 (v := .bool true) rfl (by exact (.tmp (AF_ev rfl hs6) .nil)) ?_
      have hst := hst.drop
      have hst := hst.drop
      exact ⟨p, hp0, rfl, hst⟩
  · have hc15_ := hc15
    try simp only [decide_eq_true_eq, decide_eq_false_iff_not, Bool.and_eq_true, Bool.or_eq_true, Bool.and_eq_false_iff, Bool.or_eq_false_iff, Bool.not_eq_true', Bool.not_eq_false', beq_iff_eq, beq_eq_false_iff_ne, bne_iff_ne, bne_eq_false_iff_eq, ne_eq, Int.not_lt, Int.not_le, gt_iff_lt, ge_iff_le] at hc15_
    refine CW.skip ?_
    refine Th.n ?_
    refine CW.seq ?_
    refine CW.seq ?_
    have hlen3 : ((es13.length : Nat) : Int) = 0 := by omega
    refine CW.region ?_
    refine RW.soft Wd.a (v := .slice X11 es13.length c12) (by exact E.move (AF_ev rfl hs9)) ?_
    refine RW.soft Wd.a (v := .int .i64 ((es13.length : Nat) : Int)) (by exact E.lenS (p := X11) (l := es13.length) (c := c12) Try.underlying44 (AF_ev rfl tp)) ?_
    refine RW.soft Wd.a (v := .int .i64 0) (by exact E.move (AF_ev rfl (up rfl (up rfl hs11)))) ?_
    refine RW.soft Wd.a (v := .bool false) (by exact E.b (a := ((es13.length : Nat) : Int) != 0) (E.neq (k := .i64) (a := ((es13.length : Nat) : Int)) (b := 0) (AF_ev rfl (up rfl tp)) (AF_ev rfl tp)) (by rw [bne_eq_false_iff_eq]; exact hlen3)) ?_
    refine RW.fin (fun τ => τ 0 = .agg #[.int .i64 i0, .int .i64 t0] ∧ τ 1 = .slice X l.length c ∧ τ 2 = .agg #[.int .i64 k0, .int .i64 u] ∧ τ 3 = .pointer (some ⟨b1, 0, none⟩) ∧ τ 5 = .pointer (some ⟨b2, 0, none⟩) ∧ τ 6 = .bool false ∧ τ 7 = .bool true ∧ τ 8 = .pointer (some ⟨b8, 0, none⟩) ∧ τ 9 = .slice X11 es13.length c12 ∧ τ 10 = .int .i64 (max kk10 (ia7 + 1)) ∧ τ 11 = .int .i64 0 ∧ τ 30 = .bool false ∧ τ 47 = .bool false ∧ τ 60 = .bool false) ⟨up rfl (up rfl (up rfl (up rfl hs0))), up rfl (up rfl (up rfl (up rfl hs1))), up rfl (up rfl (up rfl (up rfl hs2))), up rfl (up rfl (up rfl (up rfl hs3))), up rfl (up rfl (up rfl (up rfl hs5))), up rfl (up rfl (up rfl (up rfl hs6))), up rfl (up rfl (up rfl (up rfl hs7))), up rfl (up rfl (up rfl (up rfl hs8))), up rfl (up rfl (up rfl (up rfl hs9))), up rfl (up rfl (up rfl (up rfl hs10))), up rfl (up rfl (up rfl (up rfl hs11))), up rfl (up rfl (up rfl (up rfl hs30))), up rfl (up rfl (up rfl (up rfl (Eq.trans hs47 (congrArg Value.bool hc15))))), tp⟩ ?_
    rintro τ ⟨hs0, hs1, hs2, hs3, hs5, hs6, hs7, hs8, hs9, hs10, hs11, hs30, hs47, hs60⟩
    refine CW.condF (AF_ev rfl hs60) ?_
    refine CW.skip ?_
    refine Th.n ?_
    refine CW.seq ?_
    refine CW.seq ?_
    refine CW.region ?_
    refine RW.soft Wd.a (v := .int .i64 0) (by exact E.assign rfl) ?_
    refine RW.fin (fun τ => τ 0 = .agg #[.int .i64 i0, .int .i64 t0] ∧ τ 1 = .slice X l.length c ∧ τ 2 = .agg #[.int .i64 k0, .int .i64 u] ∧ τ 3 = .pointer (some ⟨b1, 0, none⟩) ∧ τ 5 = .pointer (some ⟨b2, 0, none⟩) ∧ τ 6 = .bool false ∧ τ 7 = .bool true ∧ τ 8 = .pointer (some ⟨b8, 0, none⟩) ∧ τ 9 = .slice X11 es13.length c12 ∧ τ 10 = .int .i64 (max kk10 (ia7 + 1)) ∧ τ 11 = .int .i64 0 ∧ τ 12 = .int .i64 0 ∧ τ 30 = .bool false ∧ τ 47 = .bool false ∧ τ 60 = .bool false) ⟨up rfl hs0, up rfl hs1, up rfl hs2, up rfl hs3, up rfl hs5, up rfl hs6, up rfl hs7, up rfl hs8, up rfl hs9, up rfl hs10, up rfl hs11, tp, up rfl hs30, up rfl hs47, up rfl hs60⟩ ?_
    rintro τ ⟨hs0, hs1, hs2, hs3, hs5, hs6, hs7, hs8, hs9, hs10, hs11, hs12, hs30, hs47, hs60⟩
    refine CW.block ?_
    have hst := hst.take (.there .here)
    have hst := hst.take (.there .here)
    have hst := (hst.take (.there (.there .here))).drop
    have hst := (hst.take (.there (.there .here))).drop
    have hst := (hst.take (.there (.there .here))).drop
    have hst := (hst.take (.there (.there .here))).drop
    refine CW.loop (fun (k : Nat) (τ : Fr) (w : World) => ∃ (p : Pers) (j : Nat), p0.le p ∧ EsOk p es13 ∧ j ≤ es13.length ∧ k = es13.length - j ∧ τ 8 = .pointer (some ⟨b8, 0, none⟩) ∧ τ 9 = .slice X11 es13.length c12 ∧ τ 10 = .int .i64 (max kk10 (ia7 + 1)) ∧ τ 12 = .int .i64 ((j : Nat) : Int) ∧ St p w (LogB p b8 ia7 t0 es9 :: Own 58 4 (.slice X11 es13.length c12) es13.length (flat es13) :: R)) (es13.length - 0) ⟨p, 0, hp0, hokes13, by omega, rfl, hs8, hs9, hs10, (int_eq (a := 0) hs12 (by omega)), hst⟩ ?_
    clear hst
    rintro k τ w ⟨p, j, hp0, hokes13, hj, hkj, hs8, hs9, hs10, hs12, hst⟩
    refine CW.seq ?_
    refine CW.seq ?_
    refine CW.region ?_
    refine RW.soft Wd.a (v := .int .i64 ((j : Nat) : Int)) (by exact E.move (AF_ev rfl hs12)) ?_
    refine RW.soft Wd.a (v := .slice X11 es13.length c12) (by exact E.move (AF_ev rfl (up rfl hs9))) ?_
    refine RW.soft Wd.a (v := .int .i64 ((es13.length : Nat) : Int)) (by exact E.lenS (p := X11) (l := es13.length) (c := c12) Try.underlying44 (AF_ev rfl tp)) ?_
    refine RW.soft Wd.a (v := .bool (decide (((j : Nat) : Int) < ((es13.length : Nat) : Int)))) (by exact E.lss (k := .i64) (a := ((j : Nat) : Int)) (b := ((es13.length : Nat) : Int)) (AF_ev rfl (up rfl (up rfl tp))) (AF_ev rfl tp)) ?_
    refine RW.fin (fun τ => τ 8 = .pointer (some ⟨b8, 0, none⟩) ∧ τ 9 = .slice X11 es13.length c12 ∧ τ 10 = .int .i64 (max kk10 (ia7 + 1)) ∧ τ 12 = .int .i64 ((j : Nat) : Int) ∧ τ 64 = .bool (decide (((j : Nat) : Int) < ((es13.length : Nat) : Int)))) ⟨up rfl (up rfl (up rfl (up rfl hs8))), up rfl (up rfl (up rfl (up rfl hs9))), up rfl (up rfl (up rfl (up rfl hs10))), up rfl (up rfl (up rfl (up rfl hs12))), tp⟩ ?_
    rintro τ ⟨hs8, hs9, hs10, hs12, hs64⟩
    refine CW.cond (AF_ev rfl hs64) (fun hc18 => ?_) (fun hc18 => ?_)
    · have hc18_ := hc18
      try simp only [decide_eq_true_eq, decide_eq_false_iff_not, Bool.and_eq_true, Bool.or_eq_true, Bool.and_eq_false_iff, Bool.or_eq_false_iff, Bool.not_eq_true', Bool.not_eq_false', beq_iff_eq, beq_eq_false_iff_ne, bne_iff_ne, bne_eq_false_iff_eq, ne_eq, Int.not_lt, Int.not_le, gt_iff_lt, ge_iff_le] at hc18_
      refine CW.skip ?_
      refine Th.n ?_
      refine CW.seq ?_
      refine CW.block ?_
      refine CW.seq ?_
      obtain ⟨g3, rfl⟩ := hbX11 (by omega)
      obtain ⟨z, hz⟩ : ∃ z, es13[j]? = some z := ⟨es13[j]'(by omega), List.getElem?_eq_getElem (by omega)⟩
      obtain ⟨x, hx, hxz, hxr⟩ := from_elem hvses13 hz
      refine CW.region ?_
      refine RW.soft Wd.a (v := .pointer (some ⟨b8, 0, none⟩)) (by exact E.move (AF_ev rfl hs8)) ?_
      refine RW.soft Wd.a (v := .int .i64 (max kk10 (ia7 + 1))) (by exact E.move (AF_ev rfl (up rfl hs10))) ?_
      refine RW.soft Wd.a (v := .int .i64 ((j : Nat) : Int)) (by exact E.move (AF_ev rfl (up rfl (up rfl hs12)))) ?_
      refine RW.soft Wd.a (v := .int .i64 (max kk10 (ia7 + 1) + ((j : Nat) : Int))) (by exact E.add (k := .i64) (a := max kk10 (ia7 + 1)) (b := ((j : Nat) : Int)) (AF_ev rfl (up rfl tp)) (AF_ev rfl tp) (show IntKind.i64.wrap ((max kk10 (ia7 + 1)) + ((j : Nat) : Int)) = max kk10 (ia7 + 1) + ((j : Nat) : Int) from (by rw [IntWalk.i64_in _ (by omega)] <;> omega))) ?_
      refine RW.hard Wd.a ?_
      refine H.call0 Try.func35 nm35 rfl (map2 (AF_ev rfl (up rfl (up rfl (up rfl tp)))) (AF_ev rfl tp)) (Calls.mono (ent_At (x := x) (max kk10 (ia7 + 1) + ((j : Nat) : Int)) (by omega) hx hst) ?_)
      rintro _ w ⟨p, y, hle, hvy, hoky, rfl, hst⟩
      have hp0 := hp0.le hle
      have hokes13 := hokes13.le hle
      refine ⟨_, rfl, ?_⟩
      show RW _ _ _ _ _ _ _
      refine RW.soft Wd.a (v := .tuple #[.agg #[.int .i64 y.term, .int .i64 y.kind, .slice y.X y.ns.length y.xc, .slice y.Y y.ms.length y.yc], .int .i64 0]) (by exact E.move (AF_ev rfl tp)) ?_
      refine RW.soft Wd.a (v := .agg #[.int .i64 y.term, .int .i64 y.kind, .slice y.X y.ns.length y.xc, .slice y.Y y.ms.length y.yc]) (by exact E.extract (vs := #[.agg #[.int .i64 y.term, .int .i64 y.kind, .slice y.X y.ns.length y.xc, .slice y.Y y.ms.length y.yc], .int .i64 0]) (AF_ev rfl tp) rfl) ?_
      refine RW.soft Wd.a (v := .int .i64 0) (by exact E.extract (vs := #[.agg #[.int .i64 y.term, .int .i64 y.kind, .slice y.X y.ns.length y.xc, .slice y.Y y.ms.length y.yc], .int .i64 0]) (AF_ev rfl (up rfl tp)) rfl) ?_
      refine RW.hard Wd.a ?_
      refine H.alloc zr58 hst fun b19 w hst => ?_
      refine RW.hard Wd.a ?_
      refine H.store (b := b19) (o := 0) (v := .agg #[.int .i64 y.term, .int .i64 y.kind, .slice y.X y.ns.length y.xc, .slice y.Y y.ms.length y.yc]) (c' := #[.int .i64 y.term, .int .i64 y.kind, .slice y.X y.ns.length y.xc, .slice y.Y y.ms.length y.yc]) (AF_ev rfl tp) (AF_ev rfl (up rfl (up rfl tp))) hst .here sz58 (by simp [Value.cells]) (by simp [Value.cells, Value.oneCell']) rfl fun w hst => ?_
      refine RW.soft Wd.a (v := .int .i64 0) (by exact E.assign (AF_ev rfl (u0 (up rfl tp)))) ?_
      refine RW.fin (fun τ => τ 8 = .pointer (some ⟨b8, 0, none⟩) ∧ τ 9 = .slice (some ⟨g3, 0, none⟩) es13.length c12 ∧ τ 10 = .int .i64 (max kk10 (ia7 + 1)) ∧ τ 12 = .int .i64 ((j : Nat) : Int) ∧ τ 13 = .pointer (some ⟨b19, 0, none⟩) ∧ τ 14 = .int .i64 0 ∧ τ 64 = .bool true) ⟨up rfl (u0 (up rfl (up rfl (up rfl (up rfl (up rfl (up rfl (up rfl (up rfl (up rfl hs8)))))))))), up rfl (u0 (up rfl (up rfl (up rfl (up rfl (up rfl (up rfl (up rfl (up rfl (up rfl hs9)))))))))), up rfl (u0 (up rfl (up rfl (up rfl (up rfl (up rfl (up rfl (up rfl (up rfl (up rfl hs10)))))))))), up rfl (u0 (up rfl (up rfl (up rfl (up rfl (up rfl (up rfl (up rfl (up rfl (up rfl hs12)))))))))), up rfl (u0 tp), tp, up rfl (u0 (up rfl (up rfl (up rfl (up rfl (up rfl (up rfl (up rfl (up rfl (up rfl (Eq.trans hs64 (congrArg Value.bool hc18))))))))))))⟩ ?_
      rintro τ ⟨hs8, hs9, hs10, hs12, hs13, hs14, hs64⟩
      refine CW.seq ?_
      refine CW.regionD [0, 1, 2, 3, 4] (fun w => (∀ j_ v_, ([.int .i64 y.term, .int .i64 y.kind, .slice y.X y.ns.length y.xc, .slice y.Y y.ms.length y.yc] : List Value)[j_]? = some v_ → w.cell? ⟨b19, 0 + j_, none⟩ = some v_) ∧ (∀ j_ v_, (z.enc : List Value)[j_]? = some v_ → w.cell? ⟨g3, j * 4 + j_, none⟩ = some v_)) mixed ?_
      have hst := hst.drew
      generalize w.drew = w at hst ⊢
      have hS : (∀ j_ v_, ([.int .i64 y.term, .int .i64 y.kind, .slice y.X y.ns.length y.xc, .slice y.Y y.ms.length y.yc] : List Value)[j_]? = some v_ → w.cell? ⟨b19, 0 + j_, none⟩ = some v_) ∧ (∀ j_ v_, (z.enc : List Value)[j_]? = some v_ → w.cell? ⟨g3, j * 4 + j_, none⟩ = some v_) := ⟨hst.cellsIn .here rfl, (fun j u hu => hst.ocell (.there (.there .here)) (flat_get Ent.enc_len hz hu))⟩
      refine RD.take 0 rfl (by kernel_rfl) Wd.a (v := .agg #[.int .i64 y.term, .int .i64 y.kind, .slice y.X y.ns.length y.xc, .slice y.Y y.ms.length y.yc]) (fun w hS => by exact E.loadN (b := b19) (o := 0) (cs := [.int .i64 y.term, .int .i64 y.kind, .slice y.X y.ns.length y.xc, .slice y.Y y.ms.length y.yc]) Try.underlying58 rfl sz58 (AF_ev rfl hs13) rfl hS.1) hS ?_
      refine RD.take 1 rfl (by kernel_rfl) Wd.a (v := .slice (some ⟨g3, 0, none⟩) es13.length c12) (fun w hS => by exact E.move (AF_ev rfl (up rfl hs9))) hS ?_
      refine RD.take 2 rfl (by kernel_rfl) Wd.a (v := .int .i64 ((j : Nat) : Int)) (fun w hS => by exact E.move (AF_ev rfl (up rfl (up rfl hs12)))) hS ?_
      refine RD.take 3 rfl (by kernel_rfl) Wd.a (v := .pointer (some ⟨g3, j * 4, none⟩)) (fun w hS => by exact E.indexAddr (b := g3) (o := 0) (l := es13.length) (c := c12) (i := ((j : Nat) : Int)) Try.underlying44 sz58 (AF_ev rfl (up rfl tp)) (AF_ev rfl tp) (by omega) (by omega) (by simp)) hS ?_
      refine RD.take 4 rfl (by kernel_rfl) Wd.a (v := .agg #[.int .i64 z.term, .int .i64 z.kind, .slice z.X z.ns.length z.xc, .slice z.Y z.ms.length z.yc]) (fun w hS => by exact E.loadN (cs := z.enc) Try.underlying58 rfl sz58 (AF_ev rfl tp) rfl hS.2) hS ?_
      refine RD.only 5 rfl (by kernel_rfl) Wd.a ?_
      refine H.call0 Try.func36 nm36 rfl (map2 (AF_ev rfl (up rfl (up rfl (up rfl (up rfl tp))))) (AF_ev rfl tp)) (Calls.mono (ent_Same hoky (hokes13 z (List.mem_of_getElem? hz)) (hvy.trans hxz) hst) ?_)
      rintro _ w ⟨rfl, hst⟩
      refine ⟨_, rfl, ?_⟩
      have hS : (∀ j_ v_, ([.int .i64 y.term, .int .i64 y.kind, .slice y.X y.ns.length y.xc, .slice y.Y y.ms.length y.yc] : List Value)[j_]? = some v_ → w.cell? ⟨b19, 0 + j_, none⟩ = some v_) ∧ (∀ j_ v_, (z.enc : List Value)[j_]? = some v_ → w.cell? ⟨g3, j * 4 + j_, none⟩ = some v_) := ⟨hst.cellsIn .here rfl, (fun j u hu => hst.ocell (.there (.there .here)) (flat_get Ent.enc_len hz hu))⟩
      refine ⟨fun _ => hS, ?_⟩
      refine RD.only 6 rfl (by kernel_rfl) Wd.a (Hd.value (v := .bool true) (by exact E.assign (AF_ev rfl tp)) ⟨fun h => Bool.noConfusion ((show needs _ _ _ = false by kernel_rfl).symm.trans h), ?_⟩)
      refine RD.fin (by kernel_rfl) (fun τ => τ 8 = .pointer (some ⟨b8, 0, none⟩) ∧ τ 9 = .slice (some ⟨g3, 0, none⟩) es13.length c12 ∧ τ 10 = .int .i64 (max kk10 (ia7 + 1)) ∧ τ 12 = .int .i64 ((j : Nat) : Int) ∧ τ 13 = .pointer (some ⟨b19, 0, none⟩) ∧ τ 14 = .int .i64 0 ∧ τ 15 = .bool true ∧ τ 64 = .bool true) ⟨up rfl (up rfl (up rfl (up rfl (up rfl (up rfl (up rfl hs8)))))), up rfl (up rfl (up rfl (up rfl (up rfl (up rfl (up rfl hs9)))))), up rfl (up rfl (up rfl (up rfl (up rfl (up rfl (up rfl hs10)))))), up rfl (up rfl (up rfl (up rfl (up rfl (up rfl (up rfl hs12)))))), up rfl (up rfl (up rfl (up rfl (up rfl (up rfl (up rfl hs13)))))), up rfl (up rfl (up rfl (up rfl (up rfl (up rfl (up rfl hs14)))))), tp, up rfl (up rfl (up rfl (up rfl (up rfl (up rfl (up rfl hs64))))))⟩ ?_
      rintro τ ⟨hs8, hs9, hs10, hs12, hs13, hs14, hs15, hs64⟩
      refine CW.seq ?_
      refine CW.region ?_
      refine RW.soft Wd.a (v := .int .i64 0) (by exact E.move (AF_ev rfl hs14)) ?_
      refine RW.soft Wd.a (v := .bool false) (by exact E.neq (k := .i64) (a := 0) (b := 0) (AF_ev rfl tp) rfl) ?_
      refine RW.soft Wd.a (v := .bool false) (by exact E.move (AF_ev rfl tp)) ?_
      refine RW.soft (by exact Wd.yes (x := 83) rfl (AF_ev rfl tp)) (v := .bool true) (by exact E.move (AF_ev rfl (up rfl (up rfl (up rfl hs15))))) ?_
      refine RW.soft (by exact Wd.yes (x := 83) rfl (AF_ev rfl (up rfl tp))) (v := .bool false) (by exact E.not (b := true) (AF_ev rfl tp)) ?_
      refine RW.soft Wd.a (v := .bool false) (by exact E.pickF (AF_ev rfl (up rfl (up rfl tp))) (AF_ev rfl tp)) ?_
      refine RW.fin (fun τ => τ 8 = .pointer (some ⟨b8, 0, none⟩) ∧ τ 9 = .slice (some ⟨g3, 0, none⟩) es13.length c12 ∧ τ 10 = .int .i64 (max kk10 (ia7 + 1)) ∧ τ 12 = .int .i64 ((j : Nat) : Int) ∧ τ 13 = .pointer (some ⟨b19, 0, none⟩) ∧ τ 14 = .int .i64 0 ∧ τ 15 = .bool true ∧ τ 64 = .bool true ∧ τ 86 = .bool false) ⟨up rfl (up rfl (up rfl (up rfl (up rfl (up rfl hs8))))), up rfl (up rfl (up rfl (up rfl (up rfl (up rfl hs9))))), up rfl (up rfl (up rfl (up rfl (up rfl (up rfl hs10))))), up rfl (up rfl (up rfl (up rfl (up rfl (up rfl hs12))))), up rfl (up rfl (up rfl (up rfl (up rfl (up rfl hs13))))), up rfl (up rfl (up rfl (up rfl (up rfl (up rfl hs14))))), up rfl (up rfl (up rfl (up rfl (up rfl (up rfl hs15))))), up rfl (up rfl (up rfl (up rfl (up rfl (up rfl hs64))))), tp⟩ ?_
      rintro τ ⟨hs8, hs9, hs10, hs12, hs13, hs14, hs15, hs64, hs86⟩
      refine CW.condF (AF_ev rfl hs86) ?_
      refine CW.skip ?_
      refine Bl.n ?_
      refine Th.n ?_
      refine CW.region ?_
      refine RW.soft Wd.a (v := .int .i64 ((j : Nat) : Int)) (by exact E.move (AF_ev rfl hs12)) ?_
      refine RW.soft Wd.a (v := .int .i64 (((j : Nat) : Int) + 1)) (by exact E.add (k := .i64) (a := ((j : Nat) : Int)) (b := 1) (AF_ev rfl tp) rfl (show IntKind.i64.wrap (((j : Nat) : Int) + 1) = ((j : Nat) : Int) + 1 from (by rw [IntWalk.i64_in _ (by omega)]))) ?_
      refine RW.soft Wd.a (v := .int .i64 (((j : Nat) : Int) + 1)) (by exact E.assign (AF_ev rfl tp)) ?_
      refine RW.nil ?_
      refine Th.n ?_
      have hst := hst.take (.there (.there .here))
      have hst := hst.take (.there (.there .here))
      have hst := (hst.take (.there (.there .here))).drop
      exact ⟨es13.length - (j + 1), by omega, p, j + 1, hp0, hokes13, (by omega), (by omega), up rfl (up rfl (up rfl hs8)), up rfl (up rfl (up rfl hs9)), up rfl (up rfl (up rfl hs10)), (int_eq (a := ((j : Nat) : Int) + 1) tp (by omega)), hst⟩
    · have hc18_ := hc18
      try simp only [decide_eq_true_eq, decide_eq_false_iff_not, Bool.and_eq_true, Bool.or_eq_true, Bool.and_eq_false_iff, Bool.or_eq_false_iff, Bool.not_eq_true', Bool.not_eq_false', beq_iff_eq, beq_eq_false_iff_ne, bne_iff_ne, bne_eq_false_iff_eq, ne_eq, Int.not_lt, Int.not_le, gt_iff_lt, ge_iff_le] at hc18_
      refine CW.exit ?_
      refine Th.x ?_
      refine Th.x ?_
      refine Bl.x ?_
      refine Th.n ?_
      refine CW.seq ?_
      refine CW.region ?_
      refine RW.soft Wd.a (v := .bool true) (by exact E.assign rfl) ?_
      refine RW.fin (fun τ => τ 6 = .bool true ∧ τ 8 = .pointer (some ⟨b8, 0, none⟩) ∧ τ 9 = .slice X11 es13.length c12 ∧ τ 10 = .int .i64 (max kk10 (ia7 + 1)) ∧ τ 12 = .int .i64 ((j : Nat) : Int) ∧ τ 64 = .bool false) ⟨tp, up rfl hs8, up rfl hs9, up rfl hs10, up rfl hs12, up rfl (Eq.trans hs64 (congrArg Value.bool hc18))⟩ ?_
      rintro τ ⟨hs6, hs8, hs9, hs10, hs12, hs64⟩
      refine CW.ret ?_
      refine ret1 (v := .bool true) rfl (by exact (.tmp (AF_ev rfl hs6) .nil)) ?_
      have hst := hst.drop
      have hst := hst.drop
      exact ⟨p, hp0, rfl, hst⟩
end Go.Proofs.Ytdlcjoonhojpfaa
