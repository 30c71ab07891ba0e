/- The calls of the package entries, walked through operation by operation. -/
import Derived.Test.YtdlcjoonhojpfaaE0
import Derived.Test.YtdlcjoonhojpfaaT1
import Derived.Test.YtdlcjoonhojpfaaE1
import Derived.Test.YtdlcjoonhojpfaaE2
import Derived.Test.YtdlcjoonhojpfaaE3
import Derived.Test.YtdlcjoonhojpfaaE4
import Derived.Test.YtdlcjoonhojpfaaE5
namespace Go.Proofs.Ytdlcjoonhojpfaa
open Go.RowKit Go.SL Go.E17
attribute [local irreducible] Go.SL.RW Go.SL.CW Go.SL.RD Go.SL.Hd Go.SL.St
set_option linter.unusedVariables false
set_option linter.unusedSimpArgs false

theorem nm24 : (Try.f24.name == "runtime.NumGoroutine") = false := by kernel_rfl
theorem nm26 : (Try.f26.name == "runtime.NumGoroutine") = false := by kernel_rfl
theorem nm33 : (Try.f33.name == "runtime.NumGoroutine") = false := by kernel_rfl

theorem ent_LastL {p : Pers} {w : World} {R : List Assn} {b : Nat} {i t : Int} {es : List Ent} {v : Int} (hv : i + ((es.length : Nat) : Int) = v) (hst : St p w (LogB p b i t es :: R)) :
    Calls Try.prog 30 #[.pointer (some ⟨b, 0, none⟩)] w fun e w => e = .returned (.int .i64 v) ∧ St p w (LogB p b i t es :: R) := by
  obtain ⟨X, c, hi, hn, hE, hcc, hX, s⟩ := logOpen hst
  exact Calls.mono (ent_Last hi hn s) (by rintro _ w ⟨rfl, s⟩; exact ⟨by rw [hv], logClose hi hn hE s⟩)

theorem ent_FirstL {p : Pers} {w : World} {R : List Assn} {b : Nat} {i t : Int} {es : List Ent}  (hst : St p w (LogB p b i t es :: R)) :
    Calls Try.prog 31 #[.pointer (some ⟨b, 0, none⟩)] w fun e w => e = .returned (.int .i64 (i + 1)) ∧ St p w (LogB p b i t es :: R) := by
  obtain ⟨X, c, hi, hn, hE, hcc, hX, s⟩ := logOpen hst
  exact Calls.mono (ent_First hi hn s) (by rintro _ w ⟨rfl, s⟩; exact ⟨rfl, logClose hi hn hE s⟩)

theorem ent_TermL {p : Pers} {w : World} {R : List Assn} {b : Nat} {i t : Int} {es : List Ent} {v u : Int} (k : Int) (hk : -9223372036854775808 ≤ k ∧ k ≤ 9223372036854775807) (hv : termT i t (ts es) k = v) (hu : termE i (ts es) k = u) (hst : St p w (LogB p b i t es :: R)) :
    Calls Try.prog 32 #[.pointer (some ⟨b, 0, none⟩), .int .i64 k] w fun e w => e = .returned (.tuple #[.int .i64 v, .int .i64 u]) ∧ St p w (LogB p b i t es :: R) := by
  obtain ⟨X, c, hi, hn, hE, hcc, hX, s⟩ := logOpen hst
  exact Calls.mono (ent_Term hi hn hX k hk s) (by rintro _ w ⟨rfl, s⟩; exact ⟨by rw [hv, hu], logClose hi hn hE s⟩)

theorem ent_BehindL {p : Pers} {w : World} {R : List Assn} {b : Nat} {i t : Int} {es : List Ent} {v : Bool} (k u : Int) (hv : behB i t es k u = v) (hst : St p w (LogB p b i t es :: R)) :
    Calls Try.prog 33 #[.pointer (some ⟨b, 0, none⟩), .int .i64 k, .int .i64 u] w fun e w => e = .returned (.bool v) ∧ St p w (LogB p b i t es :: R) := by
  obtain ⟨X, c, hi, hn, hE, hcc, hX, s⟩ := logOpen hst
  exact Calls.mono (ent_Behind hi hn hX k u s) (by rintro _ w ⟨rfl, s⟩; exact ⟨by rw [hv], logClose hi hn hE s⟩)

def behN (i t k u : Int) : Bool := decide (u > t) || (u == t && decide (k ≥ i))
theorem behB_nil {i t k u : Int} : behB i t [] k u = behN i t k u := by
  unfold behB behN; simp only [List.length_nil, Int.natCast_zero, Int.add_zero, termT_base]
theorem behN_other {a t b u : Int} (h : behN a t b u = false) : behN b u a t = true := by
  unfold behN at h ⊢
  rw [Bool.or_eq_false_iff, decide_eq_false_iff_not, Bool.and_eq_false_iff, beq_eq_false_iff_ne, decide_eq_false_iff_not] at h
  rw [Bool.or_eq_true, decide_eq_true_eq, Bool.and_eq_true, beq_iff_eq, decide_eq_true_eq]
  omega
theorem behN_self {a t : Int} : behN a t a t = true := by unfold behN; simp
theorem behN_both {a t b u : Int} (h : behN a t b u = true) (h2 : behN b u a t = true) : a = b ∧ t = u := by
  unfold behN at h h2
  rw [Bool.or_eq_true, decide_eq_true_eq, Bool.and_eq_true, beq_iff_eq, decide_eq_true_eq] at h h2
  omega
theorem behN_one {a t b u : Int} (h : behN a t b u = false ∨ behN b u a t = false) (e : a = b) : t ≠ u := by
  rintro rfl; subst e
  rw [behN_self] at h; simp at h

theorem behind_walk {p : Pers} {w : World} {R : List Assn} {p0 : Pers} (hp0 : p0.le p) (i0 i1 t0 t1 : Int) (hi0 : -9223372036854775808 ≤ i0 ∧ i0 ≤ 9223372036854775807) (hi1 : -9223372036854775808 ≤ i1 ∧ i1 ≤ 9223372036854775807) (hst : St p w (R)) :
    Calls Try.prog 6 #[.agg #[.int .i64 i0, .int .i64 i1], .agg #[.int .i64 t0, .int .i64 t1]] w fun e w => ∃ q, p0.le q ∧ e = .returned (.bool true) ∧ St q w R := by
  refine enter Try.func6 rfl (by simp) (n := 76) rfl fun τ hτ => ?_
  have hs0 : τ 0 = .agg #[.int .i64 i0, .int .i64 i1] := hτ 0 (by simp)
  have hs1 : τ 1 = .agg #[.int .i64 t0, .int .i64 t1] := hτ 1 (by simp)
  clear hτ
  refine CW.seq ?_
  refine CW.region ?_
  refine RW.hard Wd.a ?_
  refine H.box (v := .agg #[.int .i64 i0, .int .i64 i1]) (AF_ev rfl hs0) hst fun b1 w hst => ?_
  refine RW.hard Wd.a ?_
  refine H.box (v := .agg #[.int .i64 t0, .int .i64 t1]) (AF_ev rfl (up rfl hs1)) hst fun b2 w hst => ?_
  refine RW.soft Wd.a (v := .bool false) (by exact E.assign rfl) ?_
  refine RW.fin (fun τ => τ 0 = .agg #[.int .i64 i0, .int .i64 i1] ∧ τ 1 = .agg #[.int .i64 t0, .int .i64 t1] ∧ τ 2 = .pointer (some ⟨b1, 0, none⟩) ∧ τ 3 = .pointer (some ⟨b2, 0, none⟩) ∧ τ 4 = .bool false) ⟨up rfl (up rfl (up rfl hs0)), up rfl (up rfl (up rfl hs1)), up rfl (up rfl tp), up rfl tp, tp⟩ ?_
  rintro τ ⟨hs0, hs1, hs2, hs3, hs4⟩
  refine CW.seq ?_
  refine CW.region ?_
  refine RW.hard Wd.a ?_
  refine H.call0 Try.func24 nm24 rfl map0 (Calls.mono (ent_shown p.le_refl hst) ?_)
  rintro _ w ⟨p, hle, rfl, hst⟩
  have hp0 := hp0.le hle
  refine ⟨_, rfl, ?_⟩
  show RW _ _ _ _ _ _ _
  refine RW.soft Wd.a (v := .bool true) (by exact E.assign (AF_ev rfl tp)) ?_
  refine RW.fin (fun τ => τ 0 = .agg #[.int .i64 i0, .int .i64 i1] ∧ τ 1 = .agg #[.int .i64 t0, .int .i64 t1] ∧ τ 2 = .pointer (some ⟨b1, 0, none⟩) ∧ τ 3 = .pointer (some ⟨b2, 0, none⟩) ∧ τ 4 = .bool false ∧ τ 5 = .bool true) ⟨up rfl (up rfl hs0), up rfl (up rfl hs1), up rfl (up rfl hs2), up rfl (up rfl hs3), up rfl (up rfl hs4), tp⟩ ?_
  rintro τ ⟨hs0, hs1, hs2, hs3, hs4, hs5⟩
  refine CW.seq ?_
  refine CW.regionD [0, 1, 3, 4] (fun w => w.cell? ⟨b1, 0, none⟩ = some (.int .i64 i0) ∧ w.cell? ⟨b2, 0, none⟩ = some (.int .i64 t0)) mixed ?_
  have hst := hst.drew
  generalize w.drew = w at hst ⊢
  have hS : w.cell? ⟨b1, 0, none⟩ = some (.int .i64 i0) ∧ w.cell? ⟨b2, 0, none⟩ = some (.int .i64 t0) := ⟨hst.cell (.there .here) rfl, hst.cell .here rfl⟩
  refine RD.take 0 rfl (by kernel_rfl) Wd.a (v := .pointer (some ⟨b1, 0, none⟩)) (fun w hS => by exact E.indexAddrA (b := b1) (o := 0) (i := 0) Try.underlying43 sz3 (AF_ev rfl hs2) rfl (by omega) (by omega) (by simp)) hS ?_
  refine RD.take 1 rfl (by kernel_rfl) Wd.a (v := .int .i64 i0) (fun w hS => by exact E.load (a := ⟨b1, 0, none⟩) Try.underlying3 rfl (AF_ev rfl tp) hS.1) hS ?_
  refine RD.take 3 rfl (by kernel_rfl) Wd.a (v := .pointer (some ⟨b2, 0, none⟩)) (fun w hS => by exact E.indexAddrA (b := b2) (o := 0) (i := 0) Try.underlying43 sz3 (AF_ev rfl (up rfl (up rfl hs3))) rfl (by omega) (by omega) (by simp)) hS ?_
  refine RD.take 4 rfl (by kernel_rfl) Wd.a (v := .int .i64 t0) (fun w hS => by exact E.load (a := ⟨b2, 0, none⟩) Try.underlying3 rfl (AF_ev rfl tp) hS.2) hS ?_
  refine RD.only 2 rfl (by kernel_rfl) Wd.a ?_
  refine H.call0 Try.func26 nm26 rfl (map1 (AF_ev rfl (up rfl (up rfl tp)))) (Calls.mono (near17 i0 (by omega) hst) ?_)
  rintro _ w ⟨rfl, hst⟩
  have hnear3 := nearF_range i0
  refine ⟨_, rfl, ?_⟩
  have hS : w.cell? ⟨b1, 0, none⟩ = some (.int .i64 i0) ∧ w.cell? ⟨b2, 0, none⟩ = some (.int .i64 t0) := ⟨hst.cell (.there .here) rfl, hst.cell .here rfl⟩
  refine ⟨fun _ => hS, ?_⟩
  obtain ⟨ia4, hia4⟩ : ∃ z, z = max 0 (min (nearF i0) 1099511627776) := ⟨_, rfl⟩
  have hria4 : 0 ≤ ia4 ∧ ia4 ≤ 1099511627776 := by omega
  have hst := hst.emp
  refine RD.only 5 rfl (by kernel_rfl) Wd.a ?_
  refine H.call0 Try.func25 nm25 rfl (map3 (AF_ev rfl tp) (AF_ev rfl (up rfl tp)) rfl) (Calls.mono (ent_NewC (i' := ia4) (l := []) (X := none) (c := 0) (nearF i0) t0 (Las.tells ⟨rfl, none, 0, rfl, Nat.le_refl _, .inl rfl⟩) EsOk.nil (by first | simp | omega) (by omega) hia4.symm hst) ?_)
  rintro _ w ⟨p, b5, es6, hle, rfl, hvses6, hst⟩
  have hp0 := hp0.le hle
  have htses6 := ts_eq hvses6
  have hvles6 := vs_len hvses6
  obtain rfl := List.eq_nil_of_length_eq_zero hvles6
  refine ⟨_, rfl, ?_⟩
  have hS : w.cell? ⟨b1, 0, none⟩ = some (.int .i64 i0) ∧ w.cell? ⟨b2, 0, none⟩ = some (.int .i64 t0) := ⟨hst.cell (.there (.there (.there .here))) rfl, hst.cell (.there (.there .here)) rfl⟩
  refine ⟨fun _ => hS, ?_⟩
  refine RD.only 6 rfl (by kernel_rfl) Wd.a (Hd.value (v := .pointer (some ⟨b5, 0, none⟩)) (by exact E.assign (AF_ev rfl tp)) ⟨fun h => Bool.noConfusion ((show needs _ _ _ = false by kernel_rfl).symm.trans h), ?_⟩)
  refine RD.fin (by kernel_rfl) (fun τ => τ 0 = .agg #[.int .i64 i0, .int .i64 i1] ∧ τ 1 = .agg #[.int .i64 t0, .int .i64 t1] ∧ τ 2 = .pointer (some ⟨b1, 0, none⟩) ∧ τ 3 = .pointer (some ⟨b2, 0, none⟩) ∧ τ 4 = .bool false ∧ τ 5 = .bool true ∧ τ 6 = .pointer (some ⟨b5, 0, none⟩)) ⟨up rfl (up rfl (up rfl (up rfl (up rfl (up rfl (up rfl hs0)))))), up rfl (up rfl (up rfl (up rfl (up rfl (up rfl (up rfl hs1)))))), up rfl (up rfl (up rfl (up rfl (up rfl (up rfl (up rfl hs2)))))), up rfl (up rfl (up rfl (up rfl (up rfl (up rfl (up rfl hs3)))))), up rfl (up rfl (up rfl (up rfl (up rfl (up rfl (up rfl hs4)))))), up rfl (up rfl (up rfl (up rfl (up rfl (up rfl (up rfl hs5)))))), tp⟩ ?_
  rintro τ ⟨hs0, hs1, hs2, hs3, hs4, hs5, hs6⟩
  refine CW.seq ?_
  refine CW.regionD [0, 1, 3, 4] (fun w => w.cell? ⟨b1, 1, none⟩ = some (.int .i64 i1) ∧ w.cell? ⟨b2, 1, none⟩ = some (.int .i64 t1)) mixed ?_
  have hst := hst.drew
  generalize w.drew = w at hst ⊢
  have hS : w.cell? ⟨b1, 1, none⟩ = some (.int .i64 i1) ∧ w.cell? ⟨b2, 1, none⟩ = some (.int .i64 t1) := ⟨hst.cell (.there (.there (.there .here))) rfl, hst.cell (.there (.there .here)) rfl⟩
  refine RD.take 0 rfl (by kernel_rfl) Wd.a (v := .pointer (some ⟨b1, 1, none⟩)) (fun w hS => by exact E.indexAddrA (b := b1) (o := 0) (i := 1) Try.underlying43 sz3 (AF_ev rfl hs2) rfl (by omega) (by omega) (by simp)) hS ?_
  refine RD.take 1 rfl (by kernel_rfl) Wd.a (v := .int .i64 i1) (fun w hS => by exact E.load (a := ⟨b1, 1, none⟩) Try.underlying3 rfl (AF_ev rfl tp) hS.1) hS ?_
  refine RD.take 3 rfl (by kernel_rfl) Wd.a (v := .pointer (some ⟨b2, 1, none⟩)) (fun w hS => by exact E.indexAddrA (b := b2) (o := 0) (i := 1) Try.underlying43 sz3 (AF_ev rfl (up rfl (up rfl hs3))) rfl (by omega) (by omega) (by simp)) hS ?_
  refine RD.take 4 rfl (by kernel_rfl) Wd.a (v := .int .i64 t1) (fun w hS => by exact E.load (a := ⟨b2, 1, none⟩) Try.underlying3 rfl (AF_ev rfl tp) hS.2) hS ?_
  refine RD.only 2 rfl (by kernel_rfl) Wd.a ?_
  refine H.call0 Try.func26 nm26 rfl (map1 (AF_ev rfl (up rfl (up rfl tp)))) (Calls.mono (near17 i1 (by omega) hst) ?_)
  rintro _ w ⟨rfl, hst⟩
  have hnear7 := nearF_range i1
  refine ⟨_, rfl, ?_⟩
  have hS : w.cell? ⟨b1, 1, none⟩ = some (.int .i64 i1) ∧ w.cell? ⟨b2, 1, none⟩ = some (.int .i64 t1) := ⟨hst.cell (.there (.there (.there .here))) rfl, hst.cell (.there (.there .here)) rfl⟩
  refine ⟨fun _ => hS, ?_⟩
  obtain ⟨ia8, hia8⟩ : ∃ z, z = max 0 (min (nearF i1) 1099511627776) := ⟨_, rfl⟩
  have hria8 : 0 ≤ ia8 ∧ ia8 ≤ 1099511627776 := by omega
  have hst := hst.emp
  refine RD.only 5 rfl (by kernel_rfl) Wd.a ?_
  refine H.call0 Try.func25 nm25 rfl (map3 (AF_ev rfl tp) (AF_ev rfl (up rfl tp)) rfl) (Calls.mono (ent_NewC (i' := ia8) (l := []) (X := none) (c := 0) (nearF i1) t1 (Las.tells ⟨rfl, none, 0, rfl, Nat.le_refl _, .inl rfl⟩) EsOk.nil (by first | simp | omega) (by omega) hia8.symm hst) ?_)
  rintro _ w ⟨p, b9, es10, hle, rfl, hvses10, hst⟩
  have hp0 := hp0.le hle
  have htses10 := ts_eq hvses10
  have hvles10 := vs_len hvses10
  have hst := logLe hle (hst.take (.there (.there .here)))
  obtain rfl := List.eq_nil_of_length_eq_zero hvles10
  refine ⟨_, rfl, ?_⟩
  have hS : w.cell? ⟨b1, 1, none⟩ = some (.int .i64 i1) ∧ w.cell? ⟨b2, 1, none⟩ = some (.int .i64 t1) := ⟨hst.cell (.there (.there (.there (.there (.there .here))))) rfl, hst.cell (.there (.there (.there (.there .here)))) rfl⟩
  refine ⟨fun _ => hS, ?_⟩
  refine RD.only 6 rfl (by kernel_rfl) Wd.a (Hd.value (v := .pointer (some ⟨b9, 0, none⟩)) (by exact E.assign (AF_ev rfl tp)) ⟨fun h => Bool.noConfusion ((show needs _ _ _ = false by kernel_rfl).symm.trans h), ?_⟩)
  refine RD.fin (by kernel_rfl) (fun τ => τ 0 = .agg #[.int .i64 i0, .int .i64 i1] ∧ τ 1 = .agg #[.int .i64 t0, .int .i64 t1] ∧ τ 2 = .pointer (some ⟨b1, 0, none⟩) ∧ τ 3 = .pointer (some ⟨b2, 0, none⟩) ∧ τ 4 = .bool false ∧ τ 5 = .bool true ∧ τ 6 = .pointer (some ⟨b5, 0, none⟩) ∧ τ 7 = .pointer (some ⟨b9, 0, none⟩)) ⟨up rfl (up rfl (up rfl (up rfl (up rfl (up rfl (up rfl hs0)))))), up rfl (up rfl (up rfl (up rfl (up rfl (up rfl (up rfl hs1)))))), up rfl (up rfl (up rfl (up rfl (up rfl (up rfl (up rfl hs2)))))), up rfl (up rfl (up rfl (up rfl (up rfl (up rfl (up rfl hs3)))))), up rfl (up rfl (up rfl (up rfl (up rfl (up rfl (up rfl hs4)))))), up rfl (up rfl (up rfl (up rfl (up rfl (up rfl (up rfl hs5)))))), up rfl (up rfl (up rfl (up rfl (up rfl (up rfl (up rfl hs6)))))), tp⟩ ?_
  rintro τ ⟨hs0, hs1, hs2, hs3, hs4, hs5, hs6, hs7⟩
  refine CW.seq ?_
  refine CW.seq ?_
  refine CW.region ?_
  refine RW.soft Wd.a (v := .bool true) (by exact E.move (AF_ev rfl hs5)) ?_
  refine RW.soft Wd.a (v := .bool false) (by exact E.not (b := true) (AF_ev rfl tp)) ?_
  refine RW.soft Wd.a (v := .bool false) (by exact E.move (AF_ev rfl tp)) ?_
  refine RW.soft (by exact Wd.yes (x := 25) rfl (AF_ev rfl tp)) (v := .pointer (some ⟨b5, 0, none⟩)) (by exact E.move (AF_ev rfl (up rfl (up rfl (up rfl hs6))))) ?_
  refine RW.soft (by exact Wd.yes (x := 25) rfl (AF_ev rfl (up rfl tp))) (v := .bool false) (by exact E.eqlP (p := (some ⟨b5, 0, none⟩)) Try.underlying47 (AF_ev rfl tp) rfl) ?_
  refine RW.soft Wd.a (v := .bool false) (by exact E.pickF (AF_ev rfl (up rfl (up rfl tp))) (AF_ev rfl tp)) ?_
  refine RW.soft Wd.a (v := .bool false) (by exact E.move (AF_ev rfl tp)) ?_
  refine RW.soft (by exact Wd.yes (x := 29) rfl (AF_ev rfl tp)) (v := .pointer (some ⟨b9, 0, none⟩)) (by exact E.move (AF_ev rfl (up rfl (up rfl (up rfl (up rfl (up rfl (up rfl (up rfl hs7))))))))) ?_
  refine RW.soft (by exact Wd.yes (x := 29) rfl (AF_ev rfl (up rfl tp))) (v := .bool false) (by exact E.eqlP (p := (some ⟨b9, 0, none⟩)) Try.underlying47 (AF_ev rfl tp) rfl) ?_
  refine RW.soft Wd.a (v := .bool false) (by exact E.pickF (AF_ev rfl (up rfl (up rfl tp))) (AF_ev rfl tp)) ?_
  refine RW.fin (fun τ => τ 0 = .agg #[.int .i64 i0, .int .i64 i1] ∧ τ 1 = .agg #[.int .i64 t0, .int .i64 t1] ∧ τ 2 = .pointer (some ⟨b1, 0, none⟩) ∧ τ 3 = .pointer (some ⟨b2, 0, none⟩) ∧ τ 4 = .bool false ∧ τ 5 = .bool true ∧ τ 6 = .pointer (some ⟨b5, 0, none⟩) ∧ τ 7 = .pointer (some ⟨b9, 0, none⟩) ∧ τ 32 = .bool false) ⟨up rfl (up rfl (up rfl (up rfl (up rfl (up rfl (up rfl (up rfl (up rfl (up rfl hs0))))))))), up rfl (up rfl (up rfl (up rfl (up rfl (up rfl (up rfl (up rfl (up rfl (up rfl hs1))))))))), up rfl (up rfl (up rfl (up rfl (up rfl (up rfl (up rfl (up rfl (up rfl (up rfl hs2))))))))), up rfl (up rfl (up rfl (up rfl (up rfl (up rfl (up rfl (up rfl (up rfl (up rfl hs3))))))))), up rfl (up rfl (up rfl (up rfl (up rfl (up rfl (up rfl (up rfl (up rfl (up rfl hs4))))))))), up rfl (up rfl (up rfl (up rfl (up rfl (up rfl (up rfl (up rfl (up rfl (up rfl hs5))))))))), up rfl (up rfl (up rfl (up rfl (up rfl (up rfl (up rfl (up rfl (up rfl (up rfl hs6))))))))), up rfl (up rfl (up rfl (up rfl (up rfl (up rfl (up rfl (up rfl (up rfl (up rfl hs7))))))))), tp⟩ ?_
  rintro τ ⟨hs0, hs1, hs2, hs3, hs4, hs5, hs6, hs7, hs32⟩
  refine CW.condF (AF_ev rfl hs32) ?_
  refine CW.skip ?_
  refine Th.n ?_
  refine CW.seq ?_
  refine CW.regionD [0, 1, 3, 4] (fun w => w.cell? ⟨b2, 1, none⟩ = some (.int .i64 t1)) mixed ?_
  have hst := hst.drew
  generalize w.drew = w at hst ⊢
  have hS : w.cell? ⟨b2, 1, none⟩ = some (.int .i64 t1) := hst.cell (.there (.there (.there (.there .here)))) rfl
  refine RD.take 0 rfl (by kernel_rfl) Wd.a (v := .pointer (some ⟨b5, 0, none⟩)) (fun w hS => by exact E.move (AF_ev rfl hs6)) hS ?_
  refine RD.take 1 rfl (by kernel_rfl) Wd.a (v := .pointer (some ⟨b9, 0, none⟩)) (fun w hS => by exact E.move (AF_ev rfl (up rfl hs7))) hS ?_
  refine RD.take 3 rfl (by kernel_rfl) Wd.a (v := .pointer (some ⟨b2, 1, none⟩)) (fun w hS => by exact E.indexAddrA (b := b2) (o := 0) (i := 1) Try.underlying43 sz3 (AF_ev rfl (up rfl (up rfl hs3))) rfl (by omega) (by omega) (by simp)) hS ?_
  refine RD.take 4 rfl (by kernel_rfl) Wd.a (v := .int .i64 t1) (fun w hS => by exact E.load (a := ⟨b2, 1, none⟩) Try.underlying3 rfl (AF_ev rfl tp) hS) hS ?_
  have hst := hst.take (.there .here)
  refine RD.only 2 rfl (by kernel_rfl) Wd.a ?_
  refine H.call0 Try.func30 nm30 rfl (map1 (AF_ev rfl (up rfl (up rfl tp)))) (Calls.mono (ent_LastL (v := ia8) (by simp) hst) ?_)
  rintro _ w ⟨rfl, hst⟩
  refine ⟨_, rfl, ?_⟩
  have hS : w.cell? ⟨b2, 1, none⟩ = some (.int .i64 t1) := hst.cell (.there (.there (.there (.there .here)))) rfl
  refine ⟨fun _ => hS, ?_⟩
  have hst := hst.take (.there .here)
  refine RD.only 5 rfl (by kernel_rfl) Wd.a ?_
  refine H.call0 Try.func33 nm33 rfl (map3 (AF_ev rfl (up rfl (up rfl (up rfl (up rfl tp))))) (AF_ev rfl tp) (AF_ev rfl (up rfl tp))) (Calls.mono (ent_BehindL (v := behN ia4 t0 ia8 t1) ia8 t1 behB_nil hst) ?_)
  rintro _ w ⟨rfl, hst⟩
  refine ⟨_, rfl, ?_⟩
  have hS : w.cell? ⟨b2, 1, none⟩ = some (.int .i64 t1) := hst.cell (.there (.there (.there (.there .here)))) rfl
  refine ⟨fun _ => hS, ?_⟩
  refine RD.only 6 rfl (by kernel_rfl) Wd.a (Hd.value (v := .bool (behN ia4 t0 ia8 t1)) (by exact E.assign (AF_ev rfl tp)) ⟨fun h => Bool.noConfusion ((show needs _ _ _ = false by kernel_rfl).symm.trans h), ?_⟩)
  refine RD.fin (by kernel_rfl) (fun τ => τ 0 = .agg #[.int .i64 i0, .int .i64 i1] ∧ τ 1 = .agg #[.int .i64 t0, .int .i64 t1] ∧ τ 2 = .pointer (some ⟨b1, 0, none⟩) ∧ τ 3 = .pointer (some ⟨b2, 0, none⟩) ∧ τ 4 = .bool false ∧ τ 5 = .bool true ∧ τ 6 = .pointer (some ⟨b5, 0, none⟩) ∧ τ 7 = .pointer (some ⟨b9, 0, none⟩) ∧ τ 8 = .bool (behN ia4 t0 ia8 t1) ∧ τ 32 = .bool false) ⟨up rfl (up rfl (up rfl (up rfl (up rfl (up rfl (up rfl hs0)))))), up rfl (up rfl (up rfl (up rfl (up rfl (up rfl (up rfl hs1)))))), up rfl (up rfl (up rfl (up rfl (up rfl (up rfl (up rfl hs2)))))), up rfl (up rfl (up rfl (up rfl (up rfl (up rfl (up rfl hs3)))))), up rfl (up rfl (up rfl (up rfl (up rfl (up rfl (up rfl hs4)))))), up rfl (up rfl (up rfl (up rfl (up rfl (up rfl (up rfl hs5)))))), up rfl (up rfl (up rfl (up rfl (up rfl (up rfl (up rfl hs6)))))), up rfl (up rfl (up rfl (up rfl (up rfl (up rfl (up rfl hs7)))))), tp, up rfl (up rfl (up rfl (up rfl (up rfl (up rfl (up rfl hs32))))))⟩ ?_
  rintro τ ⟨hs0, hs1, hs2, hs3, hs4, hs5, hs6, hs7, hs8, hs32⟩
  refine CW.seq ?_
  refine CW.regionD [0, 1, 3, 4] (fun w => w.cell? ⟨b2, 0, none⟩ = some (.int .i64 t0)) mixed ?_
  have hst := hst.drew
  generalize w.drew = w at hst ⊢
  have hS : w.cell? ⟨b2, 0, none⟩ = some (.int .i64 t0) := hst.cell (.there (.there (.there (.there .here)))) rfl
  refine RD.take 0 rfl (by kernel_rfl) Wd.a (v := .pointer (some ⟨b9, 0, none⟩)) (fun w hS => by exact E.move (AF_ev rfl hs7)) hS ?_
  refine RD.take 1 rfl (by kernel_rfl) Wd.a (v := .pointer (some ⟨b5, 0, none⟩)) (fun w hS => by exact E.move (AF_ev rfl (up rfl hs6))) hS ?_
  refine RD.take 3 rfl (by kernel_rfl) Wd.a (v := .pointer (some ⟨b2, 0, none⟩)) (fun w hS => by exact E.indexAddrA (b := b2) (o := 0) (i := 0) Try.underlying43 sz3 (AF_ev rfl (up rfl (up rfl hs3))) rfl (by omega) (by omega) (by simp)) hS ?_
  refine RD.take 4 rfl (by kernel_rfl) Wd.a (v := .int .i64 t0) (fun w hS => by exact E.load (a := ⟨b2, 0, none⟩) Try.underlying3 rfl (AF_ev rfl tp) hS) hS ?_
  refine RD.only 2 rfl (by kernel_rfl) Wd.a ?_
  refine H.call0 Try.func30 nm30 rfl (map1 (AF_ev rfl (up rfl (up rfl tp)))) (Calls.mono (ent_LastL (v := ia4) (by simp) hst) ?_)
  rintro _ w ⟨rfl, hst⟩
  refine ⟨_, rfl, ?_⟩
  have hS : w.cell? ⟨b2, 0, none⟩ = some (.int .i64 t0) := hst.cell (.there (.there (.there (.there .here)))) rfl
  refine ⟨fun _ => hS, ?_⟩
  have hst := hst.take (.there .here)
  refine RD.only 5 rfl (by kernel_rfl) Wd.a ?_
  refine H.call0 Try.func33 nm33 rfl (map3 (AF_ev rfl (up rfl (up rfl (up rfl (up rfl tp))))) (AF_ev rfl tp) (AF_ev rfl (up rfl tp))) (Calls.mono (ent_BehindL (v := behN ia8 t1 ia4 t0) ia4 t0 behB_nil hst) ?_)
  rintro _ w ⟨rfl, hst⟩
  refine ⟨_, rfl, ?_⟩
  have hS : w.cell? ⟨b2, 0, none⟩ = some (.int .i64 t0) := hst.cell (.there (.there (.there (.there .here)))) rfl
  refine ⟨fun _ => hS, ?_⟩
  refine RD.only 6 rfl (by kernel_rfl) Wd.a (Hd.value (v := .bool (behN ia8 t1 ia4 t0)) (by exact E.assign (AF_ev rfl tp)) ⟨fun h => Bool.noConfusion ((show needs _ _ _ = false by kernel_rfl).symm.trans h), ?_⟩)
  refine RD.fin (by kernel_rfl) (fun τ => τ 0 = .agg #[.int .i64 i0, .int .i64 i1] ∧ τ 1 = .agg #[.int .i64 t0, .int .i64 t1] ∧ τ 2 = .pointer (some ⟨b1, 0, none⟩) ∧ τ 3 = .pointer (some ⟨b2, 0, none⟩) ∧ τ 4 = .bool false ∧ τ 5 = .bool true ∧ τ 6 = .pointer (some ⟨b5, 0, none⟩) ∧ τ 7 = .pointer (some ⟨b9, 0, none⟩) ∧ τ 8 = .bool (behN ia4 t0 ia8 t1) ∧ τ 9 = .bool (behN ia8 t1 ia4 t0) ∧ τ 32 = .bool false) ⟨up rfl (up rfl (up rfl (up rfl (up rfl (up rfl (up rfl hs0)))))), up rfl (up rfl (up rfl (up rfl (up rfl (up rfl (up rfl hs1)))))), up rfl (up rfl (up rfl (up rfl (up rfl (up rfl (up rfl hs2)))))), up rfl (up rfl (up rfl (up rfl (up rfl (up rfl (up rfl hs3)))))), up rfl (up rfl (up rfl (up rfl (up rfl (up rfl (up rfl hs4)))))), up rfl (up rfl (up rfl (up rfl (up rfl (up rfl (up rfl hs5)))))), up rfl (up rfl (up rfl (up rfl (up rfl (up rfl (up rfl hs6)))))), up rfl (up rfl (up rfl (up rfl (up rfl (up rfl (up rfl hs7)))))), up rfl (up rfl (up rfl (up rfl (up rfl (up rfl (up rfl hs8)))))), tp, up rfl (up rfl (up rfl (up rfl (up rfl (up rfl (up rfl hs32))))))⟩ ?_
  rintro τ ⟨hs0, hs1, hs2, hs3, hs4, hs5, hs6, hs7, hs8, hs9, hs32⟩
  refine CW.seq ?_
  refine Or.elim (Bool.eq_false_or_eq_true (behN ia4 t0 ia8 t1)) (fun hx => ?_) (fun hx => ?_)
  · skip
    refine Or.elim (Bool.eq_false_or_eq_true (behN ia8 t1 ia4 t0)) (fun hy => ?_) (fun hy => ?_)
    · skip
      refine CW.regionD [0, 1, 2, 3, 4, 5, 6, 7, 8, 9, 11, 13, 14, 15, 16, 17, 18, 19, 20, 21, 24, 25, 27, 28] (fun w => w.cell? ⟨b2, 0, none⟩ = some (.int .i64 t0) ∧ w.cell? ⟨b2, 1, none⟩ = some (.int .i64 t1)) mixed ?_
      have hst := hst.drew
      generalize w.drew = w at hst ⊢
      have hS : w.cell? ⟨b2, 0, none⟩ = some (.int .i64 t0) ∧ w.cell? ⟨b2, 1, none⟩ = some (.int .i64 t1) := ⟨hst.cell (.there (.there (.there (.there .here)))) rfl, hst.cell (.there (.there (.there (.there .here)))) rfl⟩
      refine RD.take 0 rfl (by kernel_rfl) Wd.a (v := .bool true) (fun w hS => by exact E.move (AF_ev rfl (Eq.trans hs8 (congrArg Value.bool hx)))) hS ?_
      refine RD.take 1 rfl (by kernel_rfl) Wd.a (v := .bool true) (fun w hS => by exact E.move (AF_ev rfl tp)) hS ?_
      refine RD.pass 2 rfl (by kernel_rfl) (by exact Wd.no (x := 46) (b := true) rfl (AF_ev rfl tp) rfl) hS ?_
      refine RD.take 3 rfl (by kernel_rfl) Wd.a (v := .bool true) (fun w hS => by exact E.pickT (AF_ev rfl (up rfl tp)) rfl) hS ?_
      refine RD.take 4 rfl (by kernel_rfl) Wd.a (v := .bool true) (fun w hS => by exact E.move (AF_ev rfl tp)) hS ?_
      refine RD.take 5 rfl (by kernel_rfl) (by exact Wd.yes (x := 49) rfl (AF_ev rfl tp)) (v := .bool true) (fun w hS => by exact E.move (AF_ev rfl (up rfl (up rfl (up rfl (up rfl (up rfl (Eq.trans hs8 (congrArg Value.bool hx))))))))) hS ?_
      refine RD.take 6 rfl (by kernel_rfl) (by exact Wd.yes (x := 49) rfl (AF_ev rfl (up rfl tp))) (v := .bool true) (fun w hS => by exact E.move (AF_ev rfl tp)) hS ?_
      refine RD.take 7 rfl (by kernel_rfl) (by exact Wd.yes (x := 51) rfl (AF_ev rfl tp)) (v := .bool true) (fun w hS => by exact E.move (AF_ev rfl (up rfl (up rfl (up rfl (up rfl (up rfl (up rfl (up rfl (Eq.trans hs9 (congrArg Value.bool hy))))))))))) hS ?_
      refine RD.take 8 rfl (by kernel_rfl) (by exact Wd.yes (x := 49) rfl (AF_ev rfl (up rfl (up rfl (up rfl tp))))) (v := .bool true) (fun w hS => by exact E.pickT (AF_ev rfl (up rfl tp)) (AF_ev rfl tp)) hS ?_
      refine RD.take 9 rfl (by kernel_rfl) (by exact Wd.yes (x := 49) rfl (AF_ev rfl (up rfl (up rfl (up rfl (up rfl tp)))))) (v := .pointer (some ⟨b5, 0, none⟩)) (fun w hS => by exact E.move (AF_ev rfl (up rfl (up rfl (up rfl (up rfl (up rfl (up rfl (up rfl (up rfl (up rfl hs6))))))))))) hS ?_
      refine RD.take 11 rfl (by kernel_rfl) (by exact Wd.yes (x := 49) rfl (AF_ev rfl (up rfl (up rfl (up rfl (up rfl (up rfl tp))))))) (v := .pointer (some ⟨b9, 0, none⟩)) (fun w hS => by exact E.move (AF_ev rfl (up rfl (up rfl (up rfl (up rfl (up rfl (up rfl (up rfl (up rfl (up rfl (up rfl hs7)))))))))))) hS ?_
      have hst := hst.take (.there .here)
      refine RD.only 10 rfl (by kernel_rfl) (by exact Wd.yes (x := 49) rfl (AF_ev rfl (up rfl (up rfl (up rfl (up rfl (up rfl (up rfl tp)))))))) ?_
      refine H.call0 Try.func30 nm30 rfl (map1 (AF_ev rfl (up rfl tp))) (Calls.mono (ent_LastL (v := ia4) (by simp) hst) ?_)
      rintro _ w ⟨rfl, hst⟩
      refine ⟨_, rfl, ?_⟩
      have hS : w.cell? ⟨b2, 0, none⟩ = some (.int .i64 t0) ∧ w.cell? ⟨b2, 1, none⟩ = some (.int .i64 t1) := ⟨hst.cell (.there (.there (.there (.there .here)))) rfl, hst.cell (.there (.there (.there (.there .here)))) rfl⟩
      refine ⟨fun _ => hS, ?_⟩
      have hst := hst.take (.there .here)
      refine RD.only 12 rfl (by kernel_rfl) (by exact Wd.yes (x := 49) rfl (AF_ev rfl (up rfl (up rfl (up rfl (up rfl (up rfl (up rfl (up rfl tp))))))))) ?_
      refine H.call0 Try.func30 nm30 rfl (map1 (AF_ev rfl (up rfl tp))) (Calls.mono (ent_LastL (v := ia8) (by simp) hst) ?_)
      rintro _ w ⟨rfl, hst⟩
      refine ⟨_, rfl, ?_⟩
      have hS : w.cell? ⟨b2, 0, none⟩ = some (.int .i64 t0) ∧ w.cell? ⟨b2, 1, none⟩ = some (.int .i64 t1) := ⟨hst.cell (.there (.there (.there (.there .here)))) rfl, hst.cell (.there (.there (.there (.there .here)))) rfl⟩
      refine ⟨fun _ => hS, ?_⟩
      refine RD.take 13 rfl (by kernel_rfl) (by exact Wd.yes (x := 49) rfl (AF_ev rfl (up rfl (up rfl (up rfl (up rfl (up rfl (up rfl (up rfl (up rfl tp)))))))))) (v := .bool true) (fun w hS => by exact E.b (a := ia4 == ia8) (E.eql (k := .i64) (a := ia4) (b := ia8) (AF_ev rfl (up rfl tp)) (AF_ev rfl tp)) (beq_iff_eq.2 (behN_both hx hy).1)) hS ?_
      refine RD.take 14 rfl (by kernel_rfl) (by exact Wd.yes (x := 49) rfl (AF_ev rfl (up rfl (up rfl (up rfl (up rfl (up rfl (up rfl (up rfl (up rfl (up rfl tp))))))))))) (v := .bool true) (fun w hS => by exact E.move (AF_ev rfl tp)) hS ?_
      refine RD.take 15 rfl (by kernel_rfl) (by exact Wd.yes (x := 59) rfl (AF_ev rfl tp)) (v := .pointer (some ⟨b2, 0, none⟩)) (fun w hS => by exact E.indexAddrA (b := b2) (o := 0) (i := 0) Try.underlying43 sz3 (AF_ev rfl (up rfl (up rfl (up rfl (up rfl (up rfl (up rfl (up rfl (up rfl (up rfl (up rfl (up rfl (up rfl (up rfl (up rfl (up rfl hs3)))))))))))))))) rfl (by omega) (by omega) (by simp)) hS ?_
      refine RD.take 16 rfl (by kernel_rfl) (by exact Wd.yes (x := 59) rfl (AF_ev rfl (up rfl tp))) (v := .int .i64 t0) (fun w hS => by exact E.load (a := ⟨b2, 0, none⟩) Try.underlying3 rfl (AF_ev rfl tp) hS.1) hS ?_
      refine RD.take 17 rfl (by kernel_rfl) (by exact Wd.yes (x := 59) rfl (AF_ev rfl (up rfl (up rfl tp)))) (v := .pointer (some ⟨b2, 1, none⟩)) (fun w hS => by exact E.indexAddrA (b := b2) (o := 0) (i := 1) Try.underlying43 sz3 (AF_ev rfl (up rfl (up rfl (up rfl (up rfl (up rfl (up rfl (up rfl (up rfl (up rfl (up rfl (up rfl (up rfl (up rfl (up rfl (up rfl (up rfl (up rfl hs3)))))))))))))))))) rfl (by omega) (by omega) (by simp)) hS ?_
      refine RD.take 18 rfl (by kernel_rfl) (by exact Wd.yes (x := 59) rfl (AF_ev rfl (up rfl (up rfl (up rfl tp))))) (v := .int .i64 t1) (fun w hS => by exact E.load (a := ⟨b2, 1, none⟩) Try.underlying3 rfl (AF_ev rfl tp) hS.2) hS ?_
      refine RD.take 19 rfl (by kernel_rfl) (by exact Wd.yes (x := 59) rfl (AF_ev rfl (up rfl (up rfl (up rfl (up rfl tp)))))) (v := .bool true) (fun w hS => by exact E.b (a := t0 == t1) (E.eql (k := .i64) (a := t0) (b := t1) (AF_ev rfl (up rfl (up rfl tp))) (AF_ev rfl tp)) (beq_iff_eq.2 (behN_both hx hy).2)) hS ?_
      refine RD.take 20 rfl (by kernel_rfl) (by exact Wd.yes (x := 49) rfl (AF_ev rfl (up rfl (up rfl (up rfl (up rfl (up rfl (up rfl (up rfl (up rfl (up rfl (up rfl (up rfl (up rfl (up rfl (up rfl (up rfl tp))))))))))))))))) (v := .bool true) (fun w hS => by exact E.pickT (AF_ev rfl (up rfl (up rfl (up rfl (up rfl (up rfl tp)))))) (AF_ev rfl tp)) hS ?_
      refine RD.take 21 rfl (by kernel_rfl) (by exact Wd.yes (x := 49) rfl (AF_ev rfl (up rfl (up rfl (up rfl (up rfl (up rfl (up rfl (up rfl (up rfl (up rfl (up rfl (up rfl (up rfl (up rfl (up rfl (up rfl (up rfl tp)))))))))))))))))) (v := .bool true) (fun w hS => by exact E.eqlB (a := true) (b := true) Try.underlying4 (AF_ev rfl (up rfl (up rfl (up rfl (up rfl (up rfl (up rfl (up rfl (up rfl (up rfl (up rfl (up rfl (up rfl tp))))))))))))) (AF_ev rfl tp)) hS ?_
      refine RD.only 22 rfl (by kernel_rfl) Wd.a (Hd.value (v := .bool true) (by exact E.pickT (AF_ev rfl (up rfl (up rfl (up rfl (up rfl (up rfl (up rfl (up rfl (up rfl (up rfl (up rfl (up rfl (up rfl (up rfl (up rfl (up rfl (up rfl (up rfl tp)))))))))))))))))) (AF_ev rfl tp)) ⟨fun _ => hS, ?_⟩)
      refine RD.only 23 rfl (by kernel_rfl) Wd.a (Hd.value (v := .bool true) (by exact E.move (AF_ev rfl tp)) ⟨fun _ => hS, ?_⟩)
      refine RD.take 24 rfl (by kernel_rfl) (by exact Wd.yes (x := 68) rfl (AF_ev rfl tp)) (v := .pointer (some ⟨b5, 0, none⟩)) (fun w hS => by exact E.move (AF_ev rfl (up rfl (up rfl (up rfl (up rfl (up rfl (up rfl (up rfl (up rfl (up rfl (up rfl (up rfl (up rfl (up rfl (up rfl (up rfl (up rfl (up rfl (up rfl (up rfl (up rfl (up rfl (up rfl (up rfl (up rfl hs6)))))))))))))))))))))))))) hS ?_
      refine RD.take 25 rfl (by kernel_rfl) (by exact Wd.yes (x := 68) rfl (AF_ev rfl (up rfl tp))) (v := .pointer (some ⟨b5, 0, none⟩)) (fun w hS => by exact E.move (AF_ev rfl (up rfl (up rfl (up rfl (up rfl (up rfl (up rfl (up rfl (up rfl (up rfl (up rfl (up rfl (up rfl (up rfl (up rfl (up rfl (up rfl (up rfl (up rfl (up rfl (up rfl (up rfl (up rfl (up rfl (up rfl (up rfl hs6))))))))))))))))))))))))))) hS ?_
      refine RD.take 27 rfl (by kernel_rfl) (by exact Wd.yes (x := 68) rfl (AF_ev rfl (up rfl (up rfl tp)))) (v := .pointer (some ⟨b2, 0, none⟩)) (fun w hS => by exact E.indexAddrA (b := b2) (o := 0) (i := 0) Try.underlying43 sz3 (AF_ev rfl (up rfl (up rfl (up rfl (up rfl (up rfl (up rfl (up rfl (up rfl (up rfl (up rfl (up rfl (up rfl (up rfl (up rfl (up rfl (up rfl (up rfl (up rfl (up rfl (up rfl (up rfl (up rfl (up rfl (up rfl (up rfl (up rfl hs3))))))))))))))))))))))))))) rfl (by omega) (by omega) (by simp)) hS ?_
      refine RD.take 28 rfl (by kernel_rfl) (by exact Wd.yes (x := 68) rfl (AF_ev rfl (up rfl (up rfl (up rfl tp))))) (v := .int .i64 t0) (fun w hS => by exact E.load (a := ⟨b2, 0, none⟩) Try.underlying3 rfl (AF_ev rfl tp) hS.1) hS ?_
      have hst := hst.take (.there .here)
      refine RD.only 26 rfl (by kernel_rfl) (by exact Wd.yes (x := 68) rfl (AF_ev rfl (up rfl (up rfl (up rfl (up rfl tp)))))) ?_
      refine H.call0 Try.func30 nm30 rfl (map1 (AF_ev rfl (up rfl (up rfl tp)))) (Calls.mono (ent_LastL (v := ia4) (by simp) hst) ?_)
      rintro _ w ⟨rfl, hst⟩
      refine ⟨_, rfl, ?_⟩
      have hS : w.cell? ⟨b2, 0, none⟩ = some (.int .i64 t0) ∧ w.cell? ⟨b2, 1, none⟩ = some (.int .i64 t1) := ⟨hst.cell (.there (.there (.there (.there .here)))) rfl, hst.cell (.there (.there (.there (.there .here)))) rfl⟩
      refine ⟨fun _ => hS, ?_⟩
      refine RD.only 29 rfl (by kernel_rfl) (by exact Wd.yes (x := 68) rfl (AF_ev rfl (up rfl (up rfl (up rfl (up rfl (up rfl tp))))))) ?_
      refine H.call0 Try.func33 nm33 rfl (map3 (AF_ev rfl (up rfl (up rfl (up rfl (up rfl tp))))) (AF_ev rfl tp) (AF_ev rfl (up rfl tp))) (Calls.mono (ent_BehindL (v := true) ia4 t0 (behB_nil.trans behN_self) hst) ?_)
      rintro _ w ⟨rfl, hst⟩
      refine ⟨_, rfl, ?_⟩
      have hS : w.cell? ⟨b2, 0, none⟩ = some (.int .i64 t0) ∧ w.cell? ⟨b2, 1, none⟩ = some (.int .i64 t1) := ⟨hst.cell (.there (.there (.there (.there .here)))) rfl, hst.cell (.there (.there (.there (.there .here)))) rfl⟩
      refine ⟨fun _ => hS, ?_⟩
      refine RD.only 30 rfl (by kernel_rfl) Wd.a (Hd.value (v := .bool true) (by exact E.pickT (AF_ev rfl (up rfl (up rfl (up rfl (up rfl (up rfl (up rfl tp))))))) (AF_ev rfl tp)) ⟨fun _ => hS, ?_⟩)
      refine RD.only 31 rfl (by kernel_rfl) Wd.a (Hd.value (v := .bool true) (by exact E.assign (AF_ev rfl tp)) ⟨fun h => Bool.noConfusion ((show needs _ _ _ = false by kernel_rfl).symm.trans h), ?_⟩)
      refine RD.fin (by kernel_rfl) (fun τ => τ 0 = .agg #[.int .i64 i0, .int .i64 i1] ∧ τ 1 = .agg #[.int .i64 t0, .int .i64 t1] ∧ τ 2 = .pointer (some ⟨b1, 0, none⟩) ∧ τ 3 = .pointer (some ⟨b2, 0, none⟩) ∧ τ 4 = .bool true ∧ τ 5 = .bool true ∧ τ 6 = .pointer (some ⟨b5, 0, none⟩) ∧ τ 7 = .pointer (some ⟨b9, 0, none⟩) ∧ τ 8 = .bool true ∧ τ 9 = .bool true ∧ τ 32 = .bool false) ⟨up rfl (up rfl (up rfl (up rfl (up rfl (up rfl (up rfl (up rfl (up rfl (up rfl (up rfl (up rfl (up rfl (up rfl (up rfl (up rfl (up rfl (up rfl (up rfl (up rfl (up rfl (up rfl (up rfl (up rfl (up rfl (up rfl (up rfl (up rfl (up rfl (up rfl (up rfl (up rfl hs0))))))))))))))))))))))))))))))), up rfl (up rfl (up rfl (up rfl (up rfl (up rfl (up rfl (up rfl (up rfl (up rfl (up rfl (up rfl (up rfl (up rfl (up rfl (up rfl (up rfl (up rfl (up rfl (up rfl (up rfl (up rfl (up rfl (up rfl (up rfl (up rfl (up rfl (up rfl (up rfl (up rfl (up rfl (up rfl hs1))))))))))))))))))))))))))))))), up rfl (up rfl (up rfl (up rfl (up rfl (up rfl (up rfl (up rfl (up rfl (up rfl (up rfl (up rfl (up rfl (up rfl (up rfl (up rfl (up rfl (up rfl (up rfl (up rfl (up rfl (up rfl (up rfl (up rfl (up rfl (up rfl (up rfl (up rfl (up rfl (up rfl (up rfl (up rfl hs2))))))))))))))))))))))))))))))), up rfl (up rfl (up rfl (up rfl (up rfl (up rfl (up rfl (up rfl (up rfl (up rfl (up rfl (up rfl (up rfl (up rfl (up rfl (up rfl (up rfl (up rfl (up rfl (up rfl (up rfl (up rfl (up rfl (up rfl (up rfl (up rfl (up rfl (up rfl (up rfl (up rfl (up rfl (up rfl hs3))))))))))))))))))))))))))))))), tp, up rfl (up rfl (up rfl (up rfl (up rfl (up rfl (up rfl (up rfl (up rfl (up rfl (up rfl (up rfl (up rfl (up rfl (up rfl (up rfl (up rfl (up rfl (up rfl (up rfl (up rfl (up rfl (up rfl (up rfl (up rfl (up rfl (up rfl (up rfl (up rfl (up rfl (up rfl (up rfl hs5))))))))))))))))))))))))))))))), up rfl (up rfl (up rfl (up rfl (up rfl (up rfl (up rfl (up rfl (up rfl (up rfl (up rfl (up rfl (up rfl (up rfl (up rfl (up rfl (up rfl (up rfl (up rfl (up rfl (up rfl (up rfl (up rfl (up rfl (up rfl (up rfl (up rfl (up rfl (up rfl (up rfl (up rfl (up rfl hs6))))))))))))))))))))))))))))))), up rfl (up rfl (up rfl (up rfl (up rfl (up rfl (up rfl (up rfl (up rfl (up rfl (up rfl (up rfl (up rfl (up rfl (up rfl (up rfl (up rfl (up rfl (up rfl (up rfl (up rfl (up rfl (up rfl (up rfl (up rfl (up rfl (up rfl (up rfl (up rfl (up rfl (up rfl (up rfl hs7))))))))))))))))))))))))))))))), up rfl (up rfl (up rfl (up rfl (up rfl (up rfl (up rfl (up rfl (up rfl (up rfl (up rfl (up rfl (up rfl (up rfl (up rfl (up rfl (up rfl (up rfl (up rfl (up rfl (up rfl (up rfl (up rfl (up rfl (up rfl (up rfl (up rfl (up rfl (up rfl (up rfl (up rfl (up rfl (Eq.trans hs8 (congrArg Value.bool hx))))))))))))))))))))))))))))))))), up rfl (up rfl (up rfl (up rfl (up rfl (up rfl (up rfl (up rfl (up rfl (up rfl (up rfl (up rfl (up rfl (up rfl (up rfl (up rfl (up rfl (up rfl (up rfl (up rfl (up rfl (up rfl (up rfl (up rfl (up rfl (up rfl (up rfl (up rfl (up rfl (up rfl (up rfl (up rfl (Eq.trans hs9 (congrArg Value.bool hy))))))))))))))))))))))))))))))))), up rfl (up rfl (up rfl (up rfl (up rfl (up rfl (up rfl (up rfl (up rfl (up rfl (up rfl (up rfl (up rfl (up rfl (up rfl (up rfl (up rfl (up rfl (up rfl (up rfl (up rfl (up rfl (up rfl (up rfl (up rfl (up rfl (up rfl (up rfl (up rfl (up rfl (up rfl (up rfl hs32)))))))))))))))))))))))))))))))⟩ ?_
      rintro τ ⟨hs0, hs1, hs2, hs3, hs4, hs5, hs6, hs7, hs8, hs9, hs32⟩
      refine CW.ret ?_
      refine ret1 (v := .bool true) rfl (by exact (.tmp (AF_ev rfl hs4) .nil)) ?_
      have hst := hst.drop
      have hst := hst.drop
      have hst := hst.drop
      have hst := hst.drop
      have hst := hst.drop
      have hst := hst.drop
      exact ⟨p, hp0, rfl, hst⟩
    · skip
      refine Or.elim (Bool.eq_false_or_eq_true (ia4 == ia8)) (fun hq => ?_) (fun hq => ?_)
      · skip
        refine CW.regionD [0, 1, 2, 3, 4, 5, 6, 7, 8, 9, 11, 13, 14, 15, 16, 17, 18, 19, 20, 21, 24, 25, 27, 28] (fun w => w.cell? ⟨b2, 0, none⟩ = some (.int .i64 t0) ∧ w.cell? ⟨b2, 1, none⟩ = some (.int .i64 t1)) mixed ?_
        have hst := hst.drew
        generalize w.drew = w at hst ⊢
        have hS : w.cell? ⟨b2, 0, none⟩ = some (.int .i64 t0) ∧ w.cell? ⟨b2, 1, none⟩ = some (.int .i64 t1) := ⟨hst.cell (.there (.there (.there (.there .here)))) rfl, hst.cell (.there (.there (.there (.there .here)))) rfl⟩
        refine RD.take 0 rfl (by kernel_rfl) Wd.a (v := .bool true) (fun w hS => by exact E.move (AF_ev rfl (Eq.trans hs8 (congrArg Value.bool hx)))) hS ?_
        refine RD.take 1 rfl (by kernel_rfl) Wd.a (v := .bool true) (fun w hS => by exact E.move (AF_ev rfl tp)) hS ?_
        refine RD.pass 2 rfl (by kernel_rfl) (by exact Wd.no (x := 46) (b := true) rfl (AF_ev rfl tp) rfl) hS ?_
        refine RD.take 3 rfl (by kernel_rfl) Wd.a (v := .bool true) (fun w hS => by exact E.pickT (AF_ev rfl (up rfl tp)) rfl) hS ?_
        refine RD.take 4 rfl (by kernel_rfl) Wd.a (v := .bool true) (fun w hS => by exact E.move (AF_ev rfl tp)) hS ?_
        refine RD.take 5 rfl (by kernel_rfl) (by exact Wd.yes (x := 49) rfl (AF_ev rfl tp)) (v := .bool true) (fun w hS => by exact E.move (AF_ev rfl (up rfl (up rfl (up rfl (up rfl (up rfl (Eq.trans hs8 (congrArg Value.bool hx))))))))) hS ?_
        refine RD.take 6 rfl (by kernel_rfl) (by exact Wd.yes (x := 49) rfl (AF_ev rfl (up rfl tp))) (v := .bool true) (fun w hS => by exact E.move (AF_ev rfl tp)) hS ?_
        refine RD.take 7 rfl (by kernel_rfl) (by exact Wd.yes (x := 51) rfl (AF_ev rfl tp)) (v := .bool false) (fun w hS => by exact E.move (AF_ev rfl (up rfl (up rfl (up rfl (up rfl (up rfl (up rfl (up rfl (Eq.trans hs9 (congrArg Value.bool hy))))))))))) hS ?_
        refine RD.take 8 rfl (by kernel_rfl) (by exact Wd.yes (x := 49) rfl (AF_ev rfl (up rfl (up rfl (up rfl tp))))) (v := .bool false) (fun w hS => by exact E.pickT (AF_ev rfl (up rfl tp)) (AF_ev rfl tp)) hS ?_
        refine RD.take 9 rfl (by kernel_rfl) (by exact Wd.yes (x := 49) rfl (AF_ev rfl (up rfl (up rfl (up rfl (up rfl tp)))))) (v := .pointer (some ⟨b5, 0, none⟩)) (fun w hS => by exact E.move (AF_ev rfl (up rfl (up rfl (up rfl (up rfl (up rfl (up rfl (up rfl (up rfl (up rfl hs6))))))))))) hS ?_
        refine RD.take 11 rfl (by kernel_rfl) (by exact Wd.yes (x := 49) rfl (AF_ev rfl (up rfl (up rfl (up rfl (up rfl (up rfl tp))))))) (v := .pointer (some ⟨b9, 0, none⟩)) (fun w hS => by exact E.move (AF_ev rfl (up rfl (up rfl (up rfl (up rfl (up rfl (up rfl (up rfl (up rfl (up rfl (up rfl hs7)))))))))))) hS ?_
        have hst := hst.take (.there .here)
        refine RD.only 10 rfl (by kernel_rfl) (by exact Wd.yes (x := 49) rfl (AF_ev rfl (up rfl (up rfl (up rfl (up rfl (up rfl (up rfl tp)))))))) ?_
        refine H.call0 Try.func30 nm30 rfl (map1 (AF_ev rfl (up rfl tp))) (Calls.mono (ent_LastL (v := ia4) (by simp) hst) ?_)
        rintro _ w ⟨rfl, hst⟩
        refine ⟨_, rfl, ?_⟩
        have hS : w.cell? ⟨b2, 0, none⟩ = some (.int .i64 t0) ∧ w.cell? ⟨b2, 1, none⟩ = some (.int .i64 t1) := ⟨hst.cell (.there (.there (.there (.there .here)))) rfl, hst.cell (.there (.there (.there (.there .here)))) rfl⟩
        refine ⟨fun _ => hS, ?_⟩
        have hst := hst.take (.there .here)
        refine RD.only 12 rfl (by kernel_rfl) (by exact Wd.yes (x := 49) rfl (AF_ev rfl (up rfl (up rfl (up rfl (up rfl (up rfl (up rfl (up rfl tp))))))))) ?_
        refine H.call0 Try.func30 nm30 rfl (map1 (AF_ev rfl (up rfl tp))) (Calls.mono (ent_LastL (v := ia8) (by simp) hst) ?_)
        rintro _ w ⟨rfl, hst⟩
        refine ⟨_, rfl, ?_⟩
        have hS : w.cell? ⟨b2, 0, none⟩ = some (.int .i64 t0) ∧ w.cell? ⟨b2, 1, none⟩ = some (.int .i64 t1) := ⟨hst.cell (.there (.there (.there (.there .here)))) rfl, hst.cell (.there (.there (.there (.there .here)))) rfl⟩
        refine ⟨fun _ => hS, ?_⟩
        refine RD.take 13 rfl (by kernel_rfl) (by exact Wd.yes (x := 49) rfl (AF_ev rfl (up rfl (up rfl (up rfl (up rfl (up rfl (up rfl (up rfl (up rfl tp)))))))))) (v := .bool true) (fun w hS => by exact E.b (a := ia4 == ia8) (E.eql (k := .i64) (a := ia4) (b := ia8) (AF_ev rfl (up rfl tp)) (AF_ev rfl tp)) hq) hS ?_
        refine RD.take 14 rfl (by kernel_rfl) (by exact Wd.yes (x := 49) rfl (AF_ev rfl (up rfl (up rfl (up rfl (up rfl (up rfl (up rfl (up rfl (up rfl (up rfl tp))))))))))) (v := .bool true) (fun w hS => by exact E.move (AF_ev rfl tp)) hS ?_
        refine RD.take 15 rfl (by kernel_rfl) (by exact Wd.yes (x := 59) rfl (AF_ev rfl tp)) (v := .pointer (some ⟨b2, 0, none⟩)) (fun w hS => by exact E.indexAddrA (b := b2) (o := 0) (i := 0) Try.underlying43 sz3 (AF_ev rfl (up rfl (up rfl (up rfl (up rfl (up rfl (up rfl (up rfl (up rfl (up rfl (up rfl (up rfl (up rfl (up rfl (up rfl (up rfl hs3)))))))))))))))) rfl (by omega) (by omega) (by simp)) hS ?_
        refine RD.take 16 rfl (by kernel_rfl) (by exact Wd.yes (x := 59) rfl (AF_ev rfl (up rfl tp))) (v := .int .i64 t0) (fun w hS => by exact E.load (a := ⟨b2, 0, none⟩) Try.underlying3 rfl (AF_ev rfl tp) hS.1) hS ?_
        refine RD.take 17 rfl (by kernel_rfl) (by exact Wd.yes (x := 59) rfl (AF_ev rfl (up rfl (up rfl tp)))) (v := .pointer (some ⟨b2, 1, none⟩)) (fun w hS => by exact E.indexAddrA (b := b2) (o := 0) (i := 1) Try.underlying43 sz3 (AF_ev rfl (up rfl (up rfl (up rfl (up rfl (up rfl (up rfl (up rfl (up rfl (up rfl (up rfl (up rfl (up rfl (up rfl (up rfl (up rfl (up rfl (up rfl hs3)))))))))))))))))) rfl (by omega) (by omega) (by simp)) hS ?_
        refine RD.take 18 rfl (by kernel_rfl) (by exact Wd.yes (x := 59) rfl (AF_ev rfl (up rfl (up rfl (up rfl tp))))) (v := .int .i64 t1) (fun w hS => by exact E.load (a := ⟨b2, 1, none⟩) Try.underlying3 rfl (AF_ev rfl tp) hS.2) hS ?_
        refine RD.take 19 rfl (by kernel_rfl) (by exact Wd.yes (x := 59) rfl (AF_ev rfl (up rfl (up rfl (up rfl (up rfl tp)))))) (v := .bool false) (fun w hS => by exact E.b (a := t0 == t1) (E.eql (k := .i64) (a := t0) (b := t1) (AF_ev rfl (up rfl (up rfl tp))) (AF_ev rfl tp)) (beq_eq_false_iff_ne.2 (behN_one (.inr hy) (beq_iff_eq.1 hq)))) hS ?_
        refine RD.take 20 rfl (by kernel_rfl) (by exact Wd.yes (x := 49) rfl (AF_ev rfl (up rfl (up rfl (up rfl (up rfl (up rfl (up rfl (up rfl (up rfl (up rfl (up rfl (up rfl (up rfl (up rfl (up rfl (up rfl tp))))))))))))))))) (v := .bool false) (fun w hS => by exact E.pickT (AF_ev rfl (up rfl (up rfl (up rfl (up rfl (up rfl tp)))))) (AF_ev rfl tp)) hS ?_
        refine RD.take 21 rfl (by kernel_rfl) (by exact Wd.yes (x := 49) rfl (AF_ev rfl (up rfl (up rfl (up rfl (up rfl (up rfl (up rfl (up rfl (up rfl (up rfl (up rfl (up rfl (up rfl (up rfl (up rfl (up rfl (up rfl tp)))))))))))))))))) (v := .bool true) (fun w hS => by exact E.eqlB (a := false) (b := false) Try.underlying4 (AF_ev rfl (up rfl (up rfl (up rfl (up rfl (up rfl (up rfl (up rfl (up rfl (up rfl (up rfl (up rfl (up rfl tp))))))))))))) (AF_ev rfl tp)) hS ?_
        refine RD.only 22 rfl (by kernel_rfl) Wd.a (Hd.value (v := .bool true) (by exact E.pickT (AF_ev rfl (up rfl (up rfl (up rfl (up rfl (up rfl (up rfl (up rfl (up rfl (up rfl (up rfl (up rfl (up rfl (up rfl (up rfl (up rfl (up rfl (up rfl tp)))))))))))))))))) (AF_ev rfl tp)) ⟨fun _ => hS, ?_⟩)
        refine RD.only 23 rfl (by kernel_rfl) Wd.a (Hd.value (v := .bool true) (by exact E.move (AF_ev rfl tp)) ⟨fun _ => hS, ?_⟩)
        refine RD.take 24 rfl (by kernel_rfl) (by exact Wd.yes (x := 68) rfl (AF_ev rfl tp)) (v := .pointer (some ⟨b5, 0, none⟩)) (fun w hS => by exact E.move (AF_ev rfl (up rfl (up rfl (up rfl (up rfl (up rfl (up rfl (up rfl (up rfl (up rfl (up rfl (up rfl (up rfl (up rfl (up rfl (up rfl (up rfl (up rfl (up rfl (up rfl (up rfl (up rfl (up rfl (up rfl (up rfl hs6)))))))))))))))))))))))))) hS ?_
        refine RD.take 25 rfl (by kernel_rfl) (by exact Wd.yes (x := 68) rfl (AF_ev rfl (up rfl tp))) (v := .pointer (some ⟨b5, 0, none⟩)) (fun w hS => by exact E.move (AF_ev rfl (up rfl (up rfl (up rfl (up rfl (up rfl (up rfl (up rfl (up rfl (up rfl (up rfl (up rfl (up rfl (up rfl (up rfl (up rfl (up rfl (up rfl (up rfl (up rfl (up rfl (up rfl (up rfl (up rfl (up rfl (up rfl hs6))))))))))))))))))))))))))) hS ?_
        refine RD.take 27 rfl (by kernel_rfl) (by exact Wd.yes (x := 68) rfl (AF_ev rfl (up rfl (up rfl tp)))) (v := .pointer (some ⟨b2, 0, none⟩)) (fun w hS => by exact E.indexAddrA (b := b2) (o := 0) (i := 0) Try.underlying43 sz3 (AF_ev rfl (up rfl (up rfl (up rfl (up rfl (up rfl (up rfl (up rfl (up rfl (up rfl (up rfl (up rfl (up rfl (up rfl (up rfl (up rfl (up rfl (up rfl (up rfl (up rfl (up rfl (up rfl (up rfl (up rfl (up rfl (up rfl (up rfl hs3))))))))))))))))))))))))))) rfl (by omega) (by omega) (by simp)) hS ?_
        refine RD.take 28 rfl (by kernel_rfl) (by exact Wd.yes (x := 68) rfl (AF_ev rfl (up rfl (up rfl (up rfl tp))))) (v := .int .i64 t0) (fun w hS => by exact E.load (a := ⟨b2, 0, none⟩) Try.underlying3 rfl (AF_ev rfl tp) hS.1) hS ?_
        have hst := hst.take (.there .here)
        refine RD.only 26 rfl (by kernel_rfl) (by exact Wd.yes (x := 68) rfl (AF_ev rfl (up rfl (up rfl (up rfl (up rfl tp)))))) ?_
        refine H.call0 Try.func30 nm30 rfl (map1 (AF_ev rfl (up rfl (up rfl tp)))) (Calls.mono (ent_LastL (v := ia4) (by simp) hst) ?_)
        rintro _ w ⟨rfl, hst⟩
        refine ⟨_, rfl, ?_⟩
        have hS : w.cell? ⟨b2, 0, none⟩ = some (.int .i64 t0) ∧ w.cell? ⟨b2, 1, none⟩ = some (.int .i64 t1) := ⟨hst.cell (.there (.there (.there (.there .here)))) rfl, hst.cell (.there (.there (.there (.there .here)))) rfl⟩
        refine ⟨fun _ => hS, ?_⟩
        refine RD.only 29 rfl (by kernel_rfl) (by exact Wd.yes (x := 68) rfl (AF_ev rfl (up rfl (up rfl (up rfl (up rfl (up rfl tp))))))) ?_
        refine H.call0 Try.func33 nm33 rfl (map3 (AF_ev rfl (up rfl (up rfl (up rfl (up rfl tp))))) (AF_ev rfl tp) (AF_ev rfl (up rfl tp))) (Calls.mono (ent_BehindL (v := true) ia4 t0 (behB_nil.trans behN_self) hst) ?_)
        rintro _ w ⟨rfl, hst⟩
        refine ⟨_, rfl, ?_⟩
        have hS : w.cell? ⟨b2, 0, none⟩ = some (.int .i64 t0) ∧ w.cell? ⟨b2, 1, none⟩ = some (.int .i64 t1) := ⟨hst.cell (.there (.there (.there (.there .here)))) rfl, hst.cell (.there (.there (.there (.there .here)))) rfl⟩
        refine ⟨fun _ => hS, ?_⟩
        refine RD.only 30 rfl (by kernel_rfl) Wd.a (Hd.value (v := .bool true) (by exact E.pickT (AF_ev rfl (up rfl (up rfl (up rfl (up rfl (up rfl (up rfl tp))))))) (AF_ev rfl tp)) ⟨fun _ => hS, ?_⟩)
        refine RD.only 31 rfl (by kernel_rfl) Wd.a (Hd.value (v := .bool true) (by exact E.assign (AF_ev rfl tp)) ⟨fun h => Bool.noConfusion ((show needs _ _ _ = false by kernel_rfl).symm.trans h), ?_⟩)
        refine RD.fin (by kernel_rfl) (fun τ => τ 0 = .agg #[.int .i64 i0, .int .i64 i1] ∧ τ 1 = .agg #[.int .i64 t0, .int .i64 t1] ∧ τ 2 = .pointer (some ⟨b1, 0, none⟩) ∧ τ 3 = .pointer (some ⟨b2, 0, none⟩) ∧ τ 4 = .bool true ∧ τ 5 = .bool true ∧ τ 6 = .pointer (some ⟨b5, 0, none⟩) ∧ τ 7 = .pointer (some ⟨b9, 0, none⟩) ∧ τ 8 = .bool true ∧ τ 9 = .bool false ∧ τ 32 = .bool false) ⟨up rfl (up rfl (up rfl (up rfl (up rfl (up rfl (up rfl (up rfl (up rfl (up rfl (up rfl (up rfl (up rfl (up rfl (up rfl (up rfl (up rfl (up rfl (up rfl (up rfl (up rfl (up rfl (up rfl (up rfl (up rfl (up rfl (up rfl (up rfl (up rfl (up rfl (up rfl (up rfl hs0))))))))))))))))))))))))))))))), up rfl (up rfl (up rfl (up rfl (up rfl (up rfl (up rfl (up rfl (up rfl (up rfl (up rfl (up rfl (up rfl (up rfl (up rfl (up rfl (up rfl (up rfl (up rfl (up rfl (up rfl (up rfl (up rfl (up rfl (up rfl (up rfl (up rfl (up rfl (up rfl (up rfl (up rfl (up rfl hs1))))))))))))))))))))))))))))))), up rfl (up rfl (up rfl (up rfl (up rfl (up rfl (up rfl (up rfl (up rfl (up rfl (up rfl (up rfl (up rfl (up rfl (up rfl (up rfl (up rfl (up rfl (up rfl (up rfl (up rfl (up rfl (up rfl (up rfl (up rfl (up rfl (up rfl (up rfl (up rfl (up rfl (up rfl (up rfl hs2))))))))))))))))))))))))))))))), up rfl (up rfl (up rfl (up rfl (up rfl (up rfl (up rfl (up rfl (up rfl (up rfl (up rfl (up rfl (up rfl (up rfl (up rfl (up rfl (up rfl (up rfl (up rfl (up rfl (up rfl (up rfl (up rfl (up rfl (up rfl (up rfl (up rfl (up rfl (up rfl (up rfl (up rfl (up rfl hs3))))))))))))))))))))))))))))))), tp, up rfl (up rfl (up rfl (up rfl (up rfl (up rfl (up rfl (up rfl (up rfl (up rfl (up rfl (up rfl (up rfl (up rfl (up rfl (up rfl (up rfl (up rfl (up rfl (up rfl (up rfl (up rfl (up rfl (up rfl (up rfl (up rfl (up rfl (up rfl (up rfl (up rfl (up rfl (up rfl hs5))))))))))))))))))))))))))))))), up rfl (up rfl (up rfl (up rfl (up rfl (up rfl (up rfl (up rfl (up rfl (up rfl (up rfl (up rfl (up rfl (up rfl (up rfl (up rfl (up rfl (up rfl (up rfl (up rfl (up rfl (up rfl (up rfl (up rfl (up rfl (up rfl (up rfl (up rfl (up rfl (up rfl (up rfl (up rfl hs6))))))))))))))))))))))))))))))), up rfl (up rfl (up rfl (up rfl (up rfl (up rfl (up rfl (up rfl (up rfl (up rfl (up rfl (up rfl (up rfl (up rfl (up rfl (up rfl (up rfl (up rfl (up rfl (up rfl (up rfl (up rfl (up rfl (up rfl (up rfl (up rfl (up rfl (up rfl (up rfl (up rfl (up rfl (up rfl hs7))))))))))))))))))))))))))))))), up rfl (up rfl (up rfl (up rfl (up rfl (up rfl (up rfl (up rfl (up rfl (up rfl (up rfl (up rfl (up rfl (up rfl (up rfl (up rfl (up rfl (up rfl (up rfl (up rfl (up rfl (up rfl (up rfl (up rfl (up rfl (up rfl (up rfl (up rfl (up rfl (up rfl (up rfl (up rfl (Eq.trans hs8 (congrArg Value.bool hx))))))))))))))))))))))))))))))))), up rfl (up rfl (up rfl (up rfl (up rfl (up rfl (up rfl (up rfl (up rfl (up rfl (up rfl (up rfl (up rfl (up rfl (up rfl (up rfl (up rfl (up rfl (up rfl (up rfl (up rfl (up rfl (up rfl (up rfl (up rfl (up rfl (up rfl (up rfl (up rfl (up rfl (up rfl (up rfl (Eq.trans hs9 (congrArg Value.bool hy))))))))))))))))))))))))))))))))), up rfl (up rfl (up rfl (up rfl (up rfl (up rfl (up rfl (up rfl (up rfl (up rfl (up rfl (up rfl (up rfl (up rfl (up rfl (up rfl (up rfl (up rfl (up rfl (up rfl (up rfl (up rfl (up rfl (up rfl (up rfl (up rfl (up rfl (up rfl (up rfl (up rfl (up rfl (up rfl hs32)))))))))))))))))))))))))))))))⟩ ?_
        rintro τ ⟨hs0, hs1, hs2, hs3, hs4, hs5, hs6, hs7, hs8, hs9, hs32⟩
        refine CW.ret ?_
        refine ret1 (v := .bool true) rfl (by exact (.tmp (AF_ev rfl hs4) .nil)) ?_
        have hst := hst.drop
        have hst := hst.drop
        have hst := hst.drop
        have hst := hst.drop
        have hst := hst.drop
        have hst := hst.drop
        exact ⟨p, hp0, rfl, hst⟩
      · skip
        refine CW.regionD [0, 1, 2, 3, 4, 5, 6, 7, 8, 9, 11, 13, 14, 15, 16, 17, 18, 19, 20, 21, 24, 25, 27, 28] (fun w => w.cell? ⟨b2, 0, none⟩ = some (.int .i64 t0)) mixed ?_
        have hst := hst.drew
        generalize w.drew = w at hst ⊢
        have hS : w.cell? ⟨b2, 0, none⟩ = some (.int .i64 t0) := hst.cell (.there (.there (.there (.there .here)))) rfl
        refine RD.take 0 rfl (by kernel_rfl) Wd.a (v := .bool true) (fun w hS => by exact E.move (AF_ev rfl (Eq.trans hs8 (congrArg Value.bool hx)))) hS ?_
        refine RD.take 1 rfl (by kernel_rfl) Wd.a (v := .bool true) (fun w hS => by exact E.move (AF_ev rfl tp)) hS ?_
        refine RD.pass 2 rfl (by kernel_rfl) (by exact Wd.no (x := 46) (b := true) rfl (AF_ev rfl tp) rfl) hS ?_
        refine RD.take 3 rfl (by kernel_rfl) Wd.a (v := .bool true) (fun w hS => by exact E.pickT (AF_ev rfl (up rfl tp)) rfl) hS ?_
        refine RD.take 4 rfl (by kernel_rfl) Wd.a (v := .bool true) (fun w hS => by exact E.move (AF_ev rfl tp)) hS ?_
        refine RD.take 5 rfl (by kernel_rfl) (by exact Wd.yes (x := 49) rfl (AF_ev rfl tp)) (v := .bool true) (fun w hS => by exact E.move (AF_ev rfl (up rfl (up rfl (up rfl (up rfl (up rfl (Eq.trans hs8 (congrArg Value.bool hx))))))))) hS ?_
        refine RD.take 6 rfl (by kernel_rfl) (by exact Wd.yes (x := 49) rfl (AF_ev rfl (up rfl tp))) (v := .bool true) (fun w hS => by exact E.move (AF_ev rfl tp)) hS ?_
        refine RD.take 7 rfl (by kernel_rfl) (by exact Wd.yes (x := 51) rfl (AF_ev rfl tp)) (v := .bool false) (fun w hS => by exact E.move (AF_ev rfl (up rfl (up rfl (up rfl (up rfl (up rfl (up rfl (up rfl (Eq.trans hs9 (congrArg Value.bool hy))))))))))) hS ?_
        refine RD.take 8 rfl (by kernel_rfl) (by exact Wd.yes (x := 49) rfl (AF_ev rfl (up rfl (up rfl (up rfl tp))))) (v := .bool false) (fun w hS => by exact E.pickT (AF_ev rfl (up rfl tp)) (AF_ev rfl tp)) hS ?_
        refine RD.take 9 rfl (by kernel_rfl) (by exact Wd.yes (x := 49) rfl (AF_ev rfl (up rfl (up rfl (up rfl (up rfl tp)))))) (v := .pointer (some ⟨b5, 0, none⟩)) (fun w hS => by exact E.move (AF_ev rfl (up rfl (up rfl (up rfl (up rfl (up rfl (up rfl (up rfl (up rfl (up rfl hs6))))))))))) hS ?_
        refine RD.take 11 rfl (by kernel_rfl) (by exact Wd.yes (x := 49) rfl (AF_ev rfl (up rfl (up rfl (up rfl (up rfl (up rfl tp))))))) (v := .pointer (some ⟨b9, 0, none⟩)) (fun w hS => by exact E.move (AF_ev rfl (up rfl (up rfl (up rfl (up rfl (up rfl (up rfl (up rfl (up rfl (up rfl (up rfl hs7)))))))))))) hS ?_
        have hst := hst.take (.there .here)
        refine RD.only 10 rfl (by kernel_rfl) (by exact Wd.yes (x := 49) rfl (AF_ev rfl (up rfl (up rfl (up rfl (up rfl (up rfl (up rfl tp)))))))) ?_
        refine H.call0 Try.func30 nm30 rfl (map1 (AF_ev rfl (up rfl tp))) (Calls.mono (ent_LastL (v := ia4) (by simp) hst) ?_)
        rintro _ w ⟨rfl, hst⟩
        refine ⟨_, rfl, ?_⟩
        have hS : w.cell? ⟨b2, 0, none⟩ = some (.int .i64 t0) := hst.cell (.there (.there (.there (.there .here)))) rfl
        refine ⟨fun _ => hS, ?_⟩
        have hst := hst.take (.there .here)
        refine RD.only 12 rfl (by kernel_rfl) (by exact Wd.yes (x := 49) rfl (AF_ev rfl (up rfl (up rfl (up rfl (up rfl (up rfl (up rfl (up rfl tp))))))))) ?_
        refine H.call0 Try.func30 nm30 rfl (map1 (AF_ev rfl (up rfl tp))) (Calls.mono (ent_LastL (v := ia8) (by simp) hst) ?_)
        rintro _ w ⟨rfl, hst⟩
        refine ⟨_, rfl, ?_⟩
        have hS : w.cell? ⟨b2, 0, none⟩ = some (.int .i64 t0) := hst.cell (.there (.there (.there (.there .here)))) rfl
        refine ⟨fun _ => hS, ?_⟩
        refine RD.take 13 rfl (by kernel_rfl) (by exact Wd.yes (x := 49) rfl (AF_ev rfl (up rfl (up rfl (up rfl (up rfl (up rfl (up rfl (up rfl (up rfl tp)))))))))) (v := .bool false) (fun w hS => by exact E.b (a := ia4 == ia8) (E.eql (k := .i64) (a := ia4) (b := ia8) (AF_ev rfl (up rfl tp)) (AF_ev rfl tp)) hq) hS ?_
        refine RD.take 14 rfl (by kernel_rfl) (by exact Wd.yes (x := 49) rfl (AF_ev rfl (up rfl (up rfl (up rfl (up rfl (up rfl (up rfl (up rfl (up rfl (up rfl tp))))))))))) (v := .bool false) (fun w hS => by exact E.move (AF_ev rfl tp)) hS ?_
        refine RD.pass 15 rfl (by kernel_rfl) (by exact Wd.no (x := 59) (b := false) rfl (AF_ev rfl tp) rfl) hS ?_
        refine RD.pass 16 rfl (by kernel_rfl) (by exact Wd.no (x := 59) (b := false) rfl (AF_ev rfl (up rfl tp)) rfl) hS ?_
        refine RD.pass 17 rfl (by kernel_rfl) (by exact Wd.no (x := 59) (b := false) rfl (AF_ev rfl (up rfl (up rfl tp))) rfl) hS ?_
        refine RD.pass 18 rfl (by kernel_rfl) (by exact Wd.no (x := 59) (b := false) rfl (AF_ev rfl (up rfl (up rfl (up rfl tp)))) rfl) hS ?_
        refine RD.pass 19 rfl (by kernel_rfl) (by exact Wd.no (x := 59) (b := false) rfl (AF_ev rfl (up rfl (up rfl (up rfl (up rfl tp))))) rfl) hS ?_
        refine RD.take 20 rfl (by kernel_rfl) (by exact Wd.yes (x := 49) rfl (AF_ev rfl (up rfl (up rfl (up rfl (up rfl (up rfl (up rfl (up rfl (up rfl (up rfl (up rfl (up rfl (up rfl (up rfl (up rfl (up rfl tp))))))))))))))))) (v := .bool false) (fun w hS => by exact E.pickF (AF_ev rfl (up rfl (up rfl (up rfl (up rfl (up rfl tp)))))) rfl) hS ?_
        refine RD.take 21 rfl (by kernel_rfl) (by exact Wd.yes (x := 49) rfl (AF_ev rfl (up rfl (up rfl (up rfl (up rfl (up rfl (up rfl (up rfl (up rfl (up rfl (up rfl (up rfl (up rfl (up rfl (up rfl (up rfl (up rfl tp)))))))))))))))))) (v := .bool true) (fun w hS => by exact E.eqlB (a := false) (b := false) Try.underlying4 (AF_ev rfl (up rfl (up rfl (up rfl (up rfl (up rfl (up rfl (up rfl (up rfl (up rfl (up rfl (up rfl (up rfl tp))))))))))))) (AF_ev rfl tp)) hS ?_
        refine RD.only 22 rfl (by kernel_rfl) Wd.a (Hd.value (v := .bool true) (by exact E.pickT (AF_ev rfl (up rfl (up rfl (up rfl (up rfl (up rfl (up rfl (up rfl (up rfl (up rfl (up rfl (up rfl (up rfl (up rfl (up rfl (up rfl (up rfl (up rfl tp)))))))))))))))))) (AF_ev rfl tp)) ⟨fun _ => hS, ?_⟩)
        refine RD.only 23 rfl (by kernel_rfl) Wd.a (Hd.value (v := .bool true) (by exact E.move (AF_ev rfl tp)) ⟨fun _ => hS, ?_⟩)
        refine RD.take 24 rfl (by kernel_rfl) (by exact Wd.yes (x := 68) rfl (AF_ev rfl tp)) (v := .pointer (some ⟨b5, 0, none⟩)) (fun w hS => by exact E.move (AF_ev rfl (up rfl (up rfl (up rfl (up rfl (up rfl (up rfl (up rfl (up rfl (up rfl (up rfl (up rfl (up rfl (up rfl (up rfl (up rfl (up rfl (up rfl (up rfl (up rfl (up rfl (up rfl (up rfl (up rfl (up rfl hs6)))))))))))))))))))))))))) hS ?_
        refine RD.take 25 rfl (by kernel_rfl) (by exact Wd.yes (x := 68) rfl (AF_ev rfl (up rfl tp))) (v := .pointer (some ⟨b5, 0, none⟩)) (fun w hS => by exact E.move (AF_ev rfl (up rfl (up rfl (up rfl (up rfl (up rfl (up rfl (up rfl (up rfl (up rfl (up rfl (up rfl (up rfl (up rfl (up rfl (up rfl (up rfl (up rfl (up rfl (up rfl (up rfl (up rfl (up rfl (up rfl (up rfl (up rfl hs6))))))))))))))))))))))))))) hS ?_
        refine RD.take 27 rfl (by kernel_rfl) (by exact Wd.yes (x := 68) rfl (AF_ev rfl (up rfl (up rfl tp)))) (v := .pointer (some ⟨b2, 0, none⟩)) (fun w hS => by exact E.indexAddrA (b := b2) (o := 0) (i := 0) Try.underlying43 sz3 (AF_ev rfl (up rfl (up rfl (up rfl (up rfl (up rfl (up rfl (up rfl (up rfl (up rfl (up rfl (up rfl (up rfl (up rfl (up rfl (up rfl (up rfl (up rfl (up rfl (up rfl (up rfl (up rfl (up rfl (up rfl (up rfl (up rfl (up rfl hs3))))))))))))))))))))))))))) rfl (by omega) (by omega) (by simp)) hS ?_
        refine RD.take 28 rfl (by kernel_rfl) (by exact Wd.yes (x := 68) rfl (AF_ev rfl (up rfl (up rfl (up rfl tp))))) (v := .int .i64 t0) (fun w hS => by exact E.load (a := ⟨b2, 0, none⟩) Try.underlying3 rfl (AF_ev rfl tp) hS) hS ?_
        have hst := hst.take (.there .here)
        refine RD.only 26 rfl (by kernel_rfl) (by exact Wd.yes (x := 68) rfl (AF_ev rfl (up rfl (up rfl (up rfl (up rfl tp)))))) ?_
        refine H.call0 Try.func30 nm30 rfl (map1 (AF_ev rfl (up rfl (up rfl tp)))) (Calls.mono (ent_LastL (v := ia4) (by simp) hst) ?_)
        rintro _ w ⟨rfl, hst⟩
        refine ⟨_, rfl, ?_⟩
        have hS : w.cell? ⟨b2, 0, none⟩ = some (.int .i64 t0) := hst.cell (.there (.there (.there (.there .here)))) rfl
        refine ⟨fun _ => hS, ?_⟩
        refine RD.only 29 rfl (by kernel_rfl) (by exact Wd.yes (x := 68) rfl (AF_ev rfl (up rfl (up rfl (up rfl (up rfl (up rfl tp))))))) ?_
        refine H.call0 Try.func33 nm33 rfl (map3 (AF_ev rfl (up rfl (up rfl (up rfl (up rfl tp))))) (AF_ev rfl tp) (AF_ev rfl (up rfl tp))) (Calls.mono (ent_BehindL (v := true) ia4 t0 (behB_nil.trans behN_self) hst) ?_)
        rintro _ w ⟨rfl, hst⟩
        refine ⟨_, rfl, ?_⟩
        have hS : w.cell? ⟨b2, 0, none⟩ = some (.int .i64 t0) := hst.cell (.there (.there (.there (.there .here)))) rfl
        refine ⟨fun _ => hS, ?_⟩
        refine RD.only 30 rfl (by kernel_rfl) Wd.a (Hd.value (v := .bool true) (by exact E.pickT (AF_ev rfl (up rfl (up rfl (up rfl (up rfl (up rfl (up rfl tp))))))) (AF_ev rfl tp)) ⟨fun _ => hS, ?_⟩)
        refine RD.only 31 rfl (by kernel_rfl) Wd.a (Hd.value (v := .bool true) (by exact E.assign (AF_ev rfl tp)) ⟨fun h => Bool.noConfusion ((show needs _ _ _ = false by kernel_rfl).symm.trans h), ?_⟩)
        refine RD.fin (by kernel_rfl) (fun τ => τ 0 = .agg #[.int .i64 i0, .int .i64 i1] ∧ τ 1 = .agg #[.int .i64 t0, .int .i64 t1] ∧ τ 2 = .pointer (some ⟨b1, 0, none⟩) ∧ τ 3 = .pointer (some ⟨b2, 0, none⟩) ∧ τ 4 = .bool true ∧ τ 5 = .bool true ∧ τ 6 = .pointer (some ⟨b5, 0, none⟩) ∧ τ 7 = .pointer (some ⟨b9, 0, none⟩) ∧ τ 8 = .bool true ∧ τ 9 = .bool false ∧ τ 32 = .bool false) ⟨up rfl (up rfl (up rfl (up rfl (up rfl (up rfl (up rfl (up rfl (up rfl (up rfl (up rfl (up rfl (up rfl (up rfl (up rfl (up rfl (up rfl (up rfl (up rfl (up rfl (up rfl (up rfl (up rfl (up rfl (up rfl (up rfl (up rfl (up rfl (up rfl (up rfl (up rfl (up rfl hs0))))))))))))))))))))))))))))))), up rfl (up rfl (up rfl (up rfl (up rfl (up rfl (up rfl (up rfl (up rfl (up rfl (up rfl (up rfl (up rfl (up rfl (up rfl (up rfl (up rfl (up rfl (up rfl (up rfl (up rfl (up rfl (up rfl (up rfl (up rfl (up rfl (up rfl (up rfl (up rfl (up rfl (up rfl (up rfl hs1))))))))))))))))))))))))))))))), up rfl (up rfl (up rfl (up rfl (up rfl (up rfl (up rfl (up rfl (up rfl (up rfl (up rfl (up rfl (up rfl (up rfl (up rfl (up rfl (up rfl (up rfl (up rfl (up rfl (up rfl (up rfl (up rfl (up rfl (up rfl (up rfl (up rfl (up rfl (up rfl (up rfl (up rfl (up rfl hs2))))))))))))))))))))))))))))))), up rfl (up rfl (up rfl (up rfl (up rfl (up rfl (up rfl (up rfl (up rfl (up rfl (up rfl (up rfl (up rfl (up rfl (up rfl (up rfl (up rfl (up rfl (up rfl (up rfl (up rfl (up rfl (up rfl (up rfl (up rfl (up rfl (up rfl (up rfl (up rfl (up rfl (up rfl (up rfl hs3))))))))))))))))))))))))))))))), tp, up rfl (up rfl (up rfl (up rfl (up rfl (up rfl (up rfl (up rfl (up rfl (up rfl (up rfl (up rfl (up rfl (up rfl (up rfl (up rfl (up rfl (up rfl (up rfl (up rfl (up rfl (up rfl (up rfl (up rfl (up rfl (up rfl (up rfl (up rfl (up rfl (up rfl (up rfl (up rfl hs5))))))))))))))))))))))))))))))), up rfl (up rfl (up rfl (up rfl (up rfl (up rfl (up rfl (up rfl (up rfl (up rfl (up rfl (up rfl (up rfl (up rfl (up rfl (up rfl (up rfl (up rfl (up rfl (up rfl (up rfl (up rfl (up rfl (up rfl (up rfl (up rfl (up rfl (up rfl (up rfl (up rfl (up rfl (up rfl hs6))))))))))))))))))))))))))))))), up rfl (up rfl (up rfl (up rfl (up rfl (up rfl (up rfl (up rfl (up rfl (up rfl (up rfl (up rfl (up rfl (up rfl (up rfl (up rfl (up rfl (up rfl (up rfl (up rfl (up rfl (up rfl (up rfl (up rfl (up rfl (up rfl (up rfl (up rfl (up rfl (up rfl (up rfl (up rfl hs7))))))))))))))))))))))))))))))), up rfl (up rfl (up rfl (up rfl (up rfl (up rfl (up rfl (up rfl (up rfl (up rfl (up rfl (up rfl (up rfl (up rfl (up rfl (up rfl (up rfl (up rfl (up rfl (up rfl (up rfl (up rfl (up rfl (up rfl (up rfl (up rfl (up rfl (up rfl (up rfl (up rfl (up rfl (up rfl (Eq.trans hs8 (congrArg Value.bool hx))))))))))))))))))))))))))))))))), up rfl (up rfl (up rfl (up rfl (up rfl (up rfl (up rfl (up rfl (up rfl (up rfl (up rfl (up rfl (up rfl (up rfl (up rfl (up rfl (up rfl (up rfl (up rfl (up rfl (up rfl (up rfl (up rfl (up rfl (up rfl (up rfl (up rfl (up rfl (up rfl (up rfl (up rfl (up rfl (Eq.trans hs9 (congrArg Value.bool hy))))))))))))))))))))))))))))))))), up rfl (up rfl (up rfl (up rfl (up rfl (up rfl (up rfl (up rfl (up rfl (up rfl (up rfl (up rfl (up rfl (up rfl (up rfl (up rfl (up rfl (up rfl (up rfl (up rfl (up rfl (up rfl (up rfl (up rfl (up rfl (up rfl (up rfl (up rfl (up rfl (up rfl (up rfl (up rfl hs32)))))))))))))))))))))))))))))))⟩ ?_
        rintro τ ⟨hs0, hs1, hs2, hs3, hs4, hs5, hs6, hs7, hs8, hs9, hs32⟩
        refine CW.ret ?_
        refine ret1 (v := .bool true) rfl (by exact (.tmp (AF_ev rfl hs4) .nil)) ?_
        have hst := hst.drop
        have hst := hst.drop
        have hst := hst.drop
        have hst := hst.drop
        have hst := hst.drop
        have hst := hst.drop
        exact ⟨p, hp0, rfl, hst⟩
  · skip
    have hy : behN ia8 t1 ia4 t0 = true := behN_other hx
    refine Or.elim (Bool.eq_false_or_eq_true (ia4 == ia8)) (fun hq => ?_) (fun hq => ?_)
    · skip
      have hy : behN ia8 t1 ia4 t0 = true := behN_other hx
      refine CW.regionD [0, 1, 2, 3, 4, 5, 6, 7, 8, 9, 11, 13, 14, 15, 16, 17, 18, 19, 20, 21, 24, 25, 27, 28] (fun w => w.cell? ⟨b2, 0, none⟩ = some (.int .i64 t0) ∧ w.cell? ⟨b2, 1, none⟩ = some (.int .i64 t1)) mixed ?_
      have hst := hst.drew
      generalize w.drew = w at hst ⊢
      have hS : w.cell? ⟨b2, 0, none⟩ = some (.int .i64 t0) ∧ w.cell? ⟨b2, 1, none⟩ = some (.int .i64 t1) := ⟨hst.cell (.there (.there (.there (.there .here)))) rfl, hst.cell (.there (.there (.there (.there .here)))) rfl⟩
      refine RD.take 0 rfl (by kernel_rfl) Wd.a (v := .bool false) (fun w hS => by exact E.move (AF_ev rfl (Eq.trans hs8 (congrArg Value.bool hx)))) hS ?_
      refine RD.take 1 rfl (by kernel_rfl) Wd.a (v := .bool false) (fun w hS => by exact E.move (AF_ev rfl tp)) hS ?_
      refine RD.take 2 rfl (by kernel_rfl) (by exact Wd.yes (x := 46) rfl (AF_ev rfl tp)) (v := .bool true) (fun w hS => by exact E.move (AF_ev rfl (up rfl (up rfl (Eq.trans hs9 (congrArg Value.bool hy)))))) hS ?_
      refine RD.take 3 rfl (by kernel_rfl) Wd.a (v := .bool true) (fun w hS => by exact E.pickF (AF_ev rfl (up rfl tp)) (AF_ev rfl tp)) hS ?_
      refine RD.take 4 rfl (by kernel_rfl) Wd.a (v := .bool true) (fun w hS => by exact E.move (AF_ev rfl tp)) hS ?_
      refine RD.take 5 rfl (by kernel_rfl) (by exact Wd.yes (x := 49) rfl (AF_ev rfl tp)) (v := .bool false) (fun w hS => by exact E.move (AF_ev rfl (up rfl (up rfl (up rfl (up rfl (up rfl (Eq.trans hs8 (congrArg Value.bool hx))))))))) hS ?_
      refine RD.take 6 rfl (by kernel_rfl) (by exact Wd.yes (x := 49) rfl (AF_ev rfl (up rfl tp))) (v := .bool false) (fun w hS => by exact E.move (AF_ev rfl tp)) hS ?_
      refine RD.pass 7 rfl (by kernel_rfl) (by exact Wd.no (x := 51) (b := false) rfl (AF_ev rfl tp) rfl) hS ?_
      refine RD.take 8 rfl (by kernel_rfl) (by exact Wd.yes (x := 49) rfl (AF_ev rfl (up rfl (up rfl (up rfl tp))))) (v := .bool false) (fun w hS => by exact E.pickF (AF_ev rfl (up rfl tp)) rfl) hS ?_
      refine RD.take 9 rfl (by kernel_rfl) (by exact Wd.yes (x := 49) rfl (AF_ev rfl (up rfl (up rfl (up rfl (up rfl tp)))))) (v := .pointer (some ⟨b5, 0, none⟩)) (fun w hS => by exact E.move (AF_ev rfl (up rfl (up rfl (up rfl (up rfl (up rfl (up rfl (up rfl (up rfl (up rfl hs6))))))))))) hS ?_
      refine RD.take 11 rfl (by kernel_rfl) (by exact Wd.yes (x := 49) rfl (AF_ev rfl (up rfl (up rfl (up rfl (up rfl (up rfl tp))))))) (v := .pointer (some ⟨b9, 0, none⟩)) (fun w hS => by exact E.move (AF_ev rfl (up rfl (up rfl (up rfl (up rfl (up rfl (up rfl (up rfl (up rfl (up rfl (up rfl hs7)))))))))))) hS ?_
      have hst := hst.take (.there .here)
      refine RD.only 10 rfl (by kernel_rfl) (by exact Wd.yes (x := 49) rfl (AF_ev rfl (up rfl (up rfl (up rfl (up rfl (up rfl (up rfl tp)))))))) ?_
      refine H.call0 Try.func30 nm30 rfl (map1 (AF_ev rfl (up rfl tp))) (Calls.mono (ent_LastL (v := ia4) (by simp) hst) ?_)
      rintro _ w ⟨rfl, hst⟩
      refine ⟨_, rfl, ?_⟩
      have hS : w.cell? ⟨b2, 0, none⟩ = some (.int .i64 t0) ∧ w.cell? ⟨b2, 1, none⟩ = some (.int .i64 t1) := ⟨hst.cell (.there (.there (.there (.there .here)))) rfl, hst.cell (.there (.there (.there (.there .here)))) rfl⟩
      refine ⟨fun _ => hS, ?_⟩
      have hst := hst.take (.there .here)
      refine RD.only 12 rfl (by kernel_rfl) (by exact Wd.yes (x := 49) rfl (AF_ev rfl (up rfl (up rfl (up rfl (up rfl (up rfl (up rfl (up rfl tp))))))))) ?_
      refine H.call0 Try.func30 nm30 rfl (map1 (AF_ev rfl (up rfl tp))) (Calls.mono (ent_LastL (v := ia8) (by simp) hst) ?_)
      rintro _ w ⟨rfl, hst⟩
      refine ⟨_, rfl, ?_⟩
      have hS : w.cell? ⟨b2, 0, none⟩ = some (.int .i64 t0) ∧ w.cell? ⟨b2, 1, none⟩ = some (.int .i64 t1) := ⟨hst.cell (.there (.there (.there (.there .here)))) rfl, hst.cell (.there (.there (.there (.there .here)))) rfl⟩
      refine ⟨fun _ => hS, ?_⟩
      refine RD.take 13 rfl (by kernel_rfl) (by exact Wd.yes (x := 49) rfl (AF_ev rfl (up rfl (up rfl (up rfl (up rfl (up rfl (up rfl (up rfl (up rfl tp)))))))))) (v := .bool true) (fun w hS => by exact E.b (a := ia4 == ia8) (E.eql (k := .i64) (a := ia4) (b := ia8) (AF_ev rfl (up rfl tp)) (AF_ev rfl tp)) hq) hS ?_
      refine RD.take 14 rfl (by kernel_rfl) (by exact Wd.yes (x := 49) rfl (AF_ev rfl (up rfl (up rfl (up rfl (up rfl (up rfl (up rfl (up rfl (up rfl (up rfl tp))))))))))) (v := .bool true) (fun w hS => by exact E.move (AF_ev rfl tp)) hS ?_
      refine RD.take 15 rfl (by kernel_rfl) (by exact Wd.yes (x := 59) rfl (AF_ev rfl tp)) (v := .pointer (some ⟨b2, 0, none⟩)) (fun w hS => by exact E.indexAddrA (b := b2) (o := 0) (i := 0) Try.underlying43 sz3 (AF_ev rfl (up rfl (up rfl (up rfl (up rfl (up rfl (up rfl (up rfl (up rfl (up rfl (up rfl (up rfl (up rfl (up rfl (up rfl (up rfl hs3)))))))))))))))) rfl (by omega) (by omega) (by simp)) hS ?_
      refine RD.take 16 rfl (by kernel_rfl) (by exact Wd.yes (x := 59) rfl (AF_ev rfl (up rfl tp))) (v := .int .i64 t0) (fun w hS => by exact E.load (a := ⟨b2, 0, none⟩) Try.underlying3 rfl (AF_ev rfl tp) hS.1) hS ?_
      refine RD.take 17 rfl (by kernel_rfl) (by exact Wd.yes (x := 59) rfl (AF_ev rfl (up rfl (up rfl tp)))) (v := .pointer (some ⟨b2, 1, none⟩)) (fun w hS => by exact E.indexAddrA (b := b2) (o := 0) (i := 1) Try.underlying43 sz3 (AF_ev rfl (up rfl (up rfl (up rfl (up rfl (up rfl (up rfl (up rfl (up rfl (up rfl (up rfl (up rfl (up rfl (up rfl (up rfl (up rfl (up rfl (up rfl hs3)))))))))))))))))) rfl (by omega) (by omega) (by simp)) hS ?_
      refine RD.take 18 rfl (by kernel_rfl) (by exact Wd.yes (x := 59) rfl (AF_ev rfl (up rfl (up rfl (up rfl tp))))) (v := .int .i64 t1) (fun w hS => by exact E.load (a := ⟨b2, 1, none⟩) Try.underlying3 rfl (AF_ev rfl tp) hS.2) hS ?_
      refine RD.take 19 rfl (by kernel_rfl) (by exact Wd.yes (x := 59) rfl (AF_ev rfl (up rfl (up rfl (up rfl (up rfl tp)))))) (v := .bool false) (fun w hS => by exact E.b (a := t0 == t1) (E.eql (k := .i64) (a := t0) (b := t1) (AF_ev rfl (up rfl (up rfl tp))) (AF_ev rfl tp)) (beq_eq_false_iff_ne.2 (behN_one (.inl hx) (beq_iff_eq.1 hq)))) hS ?_
      refine RD.take 20 rfl (by kernel_rfl) (by exact Wd.yes (x := 49) rfl (AF_ev rfl (up rfl (up rfl (up rfl (up rfl (up rfl (up rfl (up rfl (up rfl (up rfl (up rfl (up rfl (up rfl (up rfl (up rfl (up rfl tp))))))))))))))))) (v := .bool false) (fun w hS => by exact E.pickT (AF_ev rfl (up rfl (up rfl (up rfl (up rfl (up rfl tp)))))) (AF_ev rfl tp)) hS ?_
      refine RD.take 21 rfl (by kernel_rfl) (by exact Wd.yes (x := 49) rfl (AF_ev rfl (up rfl (up rfl (up rfl (up rfl (up rfl (up rfl (up rfl (up rfl (up rfl (up rfl (up rfl (up rfl (up rfl (up rfl (up rfl (up rfl tp)))))))))))))))))) (v := .bool true) (fun w hS => by exact E.eqlB (a := false) (b := false) Try.underlying4 (AF_ev rfl (up rfl (up rfl (up rfl (up rfl (up rfl (up rfl (up rfl (up rfl (up rfl (up rfl (up rfl (up rfl tp))))))))))))) (AF_ev rfl tp)) hS ?_
      refine RD.only 22 rfl (by kernel_rfl) Wd.a (Hd.value (v := .bool true) (by exact E.pickT (AF_ev rfl (up rfl (up rfl (up rfl (up rfl (up rfl (up rfl (up rfl (up rfl (up rfl (up rfl (up rfl (up rfl (up rfl (up rfl (up rfl (up rfl (up rfl tp)))))))))))))))))) (AF_ev rfl tp)) ⟨fun _ => hS, ?_⟩)
      refine RD.only 23 rfl (by kernel_rfl) Wd.a (Hd.value (v := .bool true) (by exact E.move (AF_ev rfl tp)) ⟨fun _ => hS, ?_⟩)
      refine RD.take 24 rfl (by kernel_rfl) (by exact Wd.yes (x := 68) rfl (AF_ev rfl tp)) (v := .pointer (some ⟨b5, 0, none⟩)) (fun w hS => by exact E.move (AF_ev rfl (up rfl (up rfl (up rfl (up rfl (up rfl (up rfl (up rfl (up rfl (up rfl (up rfl (up rfl (up rfl (up rfl (up rfl (up rfl (up rfl (up rfl (up rfl (up rfl (up rfl (up rfl (up rfl (up rfl (up rfl hs6)))))))))))))))))))))))))) hS ?_
      refine RD.take 25 rfl (by kernel_rfl) (by exact Wd.yes (x := 68) rfl (AF_ev rfl (up rfl tp))) (v := .pointer (some ⟨b5, 0, none⟩)) (fun w hS => by exact E.move (AF_ev rfl (up rfl (up rfl (up rfl (up rfl (up rfl (up rfl (up rfl (up rfl (up rfl (up rfl (up rfl (up rfl (up rfl (up rfl (up rfl (up rfl (up rfl (up rfl (up rfl (up rfl (up rfl (up rfl (up rfl (up rfl (up rfl hs6))))))))))))))))))))))))))) hS ?_
      refine RD.take 27 rfl (by kernel_rfl) (by exact Wd.yes (x := 68) rfl (AF_ev rfl (up rfl (up rfl tp)))) (v := .pointer (some ⟨b2, 0, none⟩)) (fun w hS => by exact E.indexAddrA (b := b2) (o := 0) (i := 0) Try.underlying43 sz3 (AF_ev rfl (up rfl (up rfl (up rfl (up rfl (up rfl (up rfl (up rfl (up rfl (up rfl (up rfl (up rfl (up rfl (up rfl (up rfl (up rfl (up rfl (up rfl (up rfl (up rfl (up rfl (up rfl (up rfl (up rfl (up rfl (up rfl (up rfl hs3))))))))))))))))))))))))))) rfl (by omega) (by omega) (by simp)) hS ?_
      refine RD.take 28 rfl (by kernel_rfl) (by exact Wd.yes (x := 68) rfl (AF_ev rfl (up rfl (up rfl (up rfl tp))))) (v := .int .i64 t0) (fun w hS => by exact E.load (a := ⟨b2, 0, none⟩) Try.underlying3 rfl (AF_ev rfl tp) hS.1) hS ?_
      have hst := hst.take (.there .here)
      refine RD.only 26 rfl (by kernel_rfl) (by exact Wd.yes (x := 68) rfl (AF_ev rfl (up rfl (up rfl (up rfl (up rfl tp)))))) ?_
      refine H.call0 Try.func30 nm30 rfl (map1 (AF_ev rfl (up rfl (up rfl tp)))) (Calls.mono (ent_LastL (v := ia4) (by simp) hst) ?_)
      rintro _ w ⟨rfl, hst⟩
      refine ⟨_, rfl, ?_⟩
      have hS : w.cell? ⟨b2, 0, none⟩ = some (.int .i64 t0) ∧ w.cell? ⟨b2, 1, none⟩ = some (.int .i64 t1) := ⟨hst.cell (.there (.there (.there (.there .here)))) rfl, hst.cell (.there (.there (.there (.there .here)))) rfl⟩
      refine ⟨fun _ => hS, ?_⟩
      refine RD.only 29 rfl (by kernel_rfl) (by exact Wd.yes (x := 68) rfl (AF_ev rfl (up rfl (up rfl (up rfl (up rfl (up rfl tp))))))) ?_
      refine H.call0 Try.func33 nm33 rfl (map3 (AF_ev rfl (up rfl (up rfl (up rfl (up rfl tp))))) (AF_ev rfl tp) (AF_ev rfl (up rfl tp))) (Calls.mono (ent_BehindL (v := true) ia4 t0 (behB_nil.trans behN_self) hst) ?_)
      rintro _ w ⟨rfl, hst⟩
      refine ⟨_, rfl, ?_⟩
      have hS : w.cell? ⟨b2, 0, none⟩ = some (.int .i64 t0) ∧ w.cell? ⟨b2, 1, none⟩ = some (.int .i64 t1) := ⟨hst.cell (.there (.there (.there (.there .here)))) rfl, hst.cell (.there (.there (.there (.there .here)))) rfl⟩
      refine ⟨fun _ => hS, ?_⟩
      refine RD.only 30 rfl (by kernel_rfl) Wd.a (Hd.value (v := .bool true) (by exact E.pickT (AF_ev rfl (up rfl (up rfl (up rfl (up rfl (up rfl (up rfl tp))))))) (AF_ev rfl tp)) ⟨fun _ => hS, ?_⟩)
      refine RD.only 31 rfl (by kernel_rfl) Wd.a (Hd.value (v := .bool true) (by exact E.assign (AF_ev rfl tp)) ⟨fun h => Bool.noConfusion ((show needs _ _ _ = false by kernel_rfl).symm.trans h), ?_⟩)
      refine RD.fin (by kernel_rfl) (fun τ => τ 0 = .agg #[.int .i64 i0, .int .i64 i1] ∧ τ 1 = .agg #[.int .i64 t0, .int .i64 t1] ∧ τ 2 = .pointer (some ⟨b1, 0, none⟩) ∧ τ 3 = .pointer (some ⟨b2, 0, none⟩) ∧ τ 4 = .bool true ∧ τ 5 = .bool true ∧ τ 6 = .pointer (some ⟨b5, 0, none⟩) ∧ τ 7 = .pointer (some ⟨b9, 0, none⟩) ∧ τ 8 = .bool false ∧ τ 9 = .bool true ∧ τ 32 = .bool false) ⟨up rfl (up rfl (up rfl (up rfl (up rfl (up rfl (up rfl (up rfl (up rfl (up rfl (up rfl (up rfl (up rfl (up rfl (up rfl (up rfl (up rfl (up rfl (up rfl (up rfl (up rfl (up rfl (up rfl (up rfl (up rfl (up rfl (up rfl (up rfl (up rfl (up rfl (up rfl (up rfl hs0))))))))))))))))))))))))))))))), up rfl (up rfl (up rfl (up rfl (up rfl (up rfl (up rfl (up rfl (up rfl (up rfl (up rfl (up rfl (up rfl (up rfl (up rfl (up rfl (up rfl (up rfl (up rfl (up rfl (up rfl (up rfl (up rfl (up rfl (up rfl (up rfl (up rfl (up rfl (up rfl (up rfl (up rfl (up rfl hs1))))))))))))))))))))))))))))))), up rfl (up rfl (up rfl (up rfl (up rfl (up rfl (up rfl (up rfl (up rfl (up rfl (up rfl (up rfl (up rfl (up rfl (up rfl (up rfl (up rfl (up rfl (up rfl (up rfl (up rfl (up rfl (up rfl (up rfl (up rfl (up rfl (up rfl (up rfl (up rfl (up rfl (up rfl (up rfl hs2))))))))))))))))))))))))))))))), up rfl (up rfl (up rfl (up rfl (up rfl (up rfl (up rfl (up rfl (up rfl (up rfl (up rfl (up rfl (up rfl (up rfl (up rfl (up rfl (up rfl (up rfl (up rfl (up rfl (up rfl (up rfl (up rfl (up rfl (up rfl (up rfl (up rfl (up rfl (up rfl (up rfl (up rfl (up rfl hs3))))))))))))))))))))))))))))))), tp, up rfl (up rfl (up rfl (up rfl (up rfl (up rfl (up rfl (up rfl (up rfl (up rfl (up rfl (up rfl (up rfl (up rfl (up rfl (up rfl (up rfl (up rfl (up rfl (up rfl (up rfl (up rfl (up rfl (up rfl (up rfl (up rfl (up rfl (up rfl (up rfl (up rfl (up rfl (up rfl hs5))))))))))))))))))))))))))))))), up rfl (up rfl (up rfl (up rfl (up rfl (up rfl (up rfl (up rfl (up rfl (up rfl (up rfl (up rfl (up rfl (up rfl (up rfl (up rfl (up rfl (up rfl (up rfl (up rfl (up rfl (up rfl (up rfl (up rfl (up rfl (up rfl (up rfl (up rfl (up rfl (up rfl (up rfl (up rfl hs6))))))))))))))))))))))))))))))), up rfl (up rfl (up rfl (up rfl (up rfl (up rfl (up rfl (up rfl (up rfl (up rfl (up rfl (up rfl (up rfl (up rfl (up rfl (up rfl (up rfl (up rfl (up rfl (up rfl (up rfl (up rfl (up rfl (up rfl (up rfl (up rfl (up rfl (up rfl (up rfl (up rfl (up rfl (up rfl hs7))))))))))))))))))))))))))))))), up rfl (up rfl (up rfl (up rfl (up rfl (up rfl (up rfl (up rfl (up rfl (up rfl (up rfl (up rfl (up rfl (up rfl (up rfl (up rfl (up rfl (up rfl (up rfl (up rfl (up rfl (up rfl (up rfl (up rfl (up rfl (up rfl (up rfl (up rfl (up rfl (up rfl (up rfl (up rfl (Eq.trans hs8 (congrArg Value.bool hx))))))))))))))))))))))))))))))))), up rfl (up rfl (up rfl (up rfl (up rfl (up rfl (up rfl (up rfl (up rfl (up rfl (up rfl (up rfl (up rfl (up rfl (up rfl (up rfl (up rfl (up rfl (up rfl (up rfl (up rfl (up rfl (up rfl (up rfl (up rfl (up rfl (up rfl (up rfl (up rfl (up rfl (up rfl (up rfl (Eq.trans hs9 (congrArg Value.bool hy))))))))))))))))))))))))))))))))), up rfl (up rfl (up rfl (up rfl (up rfl (up rfl (up rfl (up rfl (up rfl (up rfl (up rfl (up rfl (up rfl (up rfl (up rfl (up rfl (up rfl (up rfl (up rfl (up rfl (up rfl (up rfl (up rfl (up rfl (up rfl (up rfl (up rfl (up rfl (up rfl (up rfl (up rfl (up rfl hs32)))))))))))))))))))))))))))))))⟩ ?_
      rintro τ ⟨hs0, hs1, hs2, hs3, hs4, hs5, hs6, hs7, hs8, hs9, hs32⟩
      refine CW.ret ?_
      refine ret1 (v := .bool true) rfl (by exact (.tmp (AF_ev rfl hs4) .nil)) ?_
      have hst := hst.drop
      have hst := hst.drop
      have hst := hst.drop
      have hst := hst.drop
      have hst := hst.drop
      have hst := hst.drop
      exact ⟨p, hp0, rfl, hst⟩
    · skip
      have hy : behN ia8 t1 ia4 t0 = true := behN_other hx
      refine CW.regionD [0, 1, 2, 3, 4, 5, 6, 7, 8, 9, 11, 13, 14, 15, 16, 17, 18, 19, 20, 21, 24, 25, 27, 28] (fun w => w.cell? ⟨b2, 0, none⟩ = some (.int .i64 t0)) mixed ?_
      have hst := hst.drew
      generalize w.drew = w at hst ⊢
      have hS : w.cell? ⟨b2, 0, none⟩ = some (.int .i64 t0) := hst.cell (.there (.there (.there (.there .here)))) rfl
      refine RD.take 0 rfl (by kernel_rfl) Wd.a (v := .bool false) (fun w hS => by exact E.move (AF_ev rfl (Eq.trans hs8 (congrArg Value.bool hx)))) hS ?_
      refine RD.take 1 rfl (by kernel_rfl) Wd.a (v := .bool false) (fun w hS => by exact E.move (AF_ev rfl tp)) hS ?_
      refine RD.take 2 rfl (by kernel_rfl) (by exact Wd.yes (x := 46) rfl (AF_ev rfl tp)) (v := .bool true) (fun w hS => by exact E.move (AF_ev rfl (up rfl (up rfl (Eq.trans hs9 (congrArg Value.bool hy)))))) hS ?_
      refine RD.take 3 rfl (by kernel_rfl) Wd.a (v := .bool true) (fun w hS => by exact E.pickF (AF_ev rfl (up rfl tp)) (AF_ev rfl tp)) hS ?_
      refine RD.take 4 rfl (by kernel_rfl) Wd.a (v := .bool true) (fun w hS => by exact E.move (AF_ev rfl tp)) hS ?_
      refine RD.take 5 rfl (by kernel_rfl) (by exact Wd.yes (x := 49) rfl (AF_ev rfl tp)) (v := .bool false) (fun w hS => by exact E.move (AF_ev rfl (up rfl (up rfl (up rfl (up rfl (up rfl (Eq.trans hs8 (congrArg Value.bool hx))))))))) hS ?_
      refine RD.take 6 rfl (by kernel_rfl) (by exact Wd.yes (x := 49) rfl (AF_ev rfl (up rfl tp))) (v := .bool false) (fun w hS => by exact E.move (AF_ev rfl tp)) hS ?_
      refine RD.pass 7 rfl (by kernel_rfl) (by exact Wd.no (x := 51) (b := false) rfl (AF_ev rfl tp) rfl) hS ?_
      refine RD.take 8 rfl (by kernel_rfl) (by exact Wd.yes (x := 49) rfl (AF_ev rfl (up rfl (up rfl (up rfl tp))))) (v := .bool false) (fun w hS => by exact E.pickF (AF_ev rfl (up rfl tp)) rfl) hS ?_
      refine RD.take 9 rfl (by kernel_rfl) (by exact Wd.yes (x := 49) rfl (AF_ev rfl (up rfl (up rfl (up rfl (up rfl tp)))))) (v := .pointer (some ⟨b5, 0, none⟩)) (fun w hS => by exact E.move (AF_ev rfl (up rfl (up rfl (up rfl (up rfl (up rfl (up rfl (up rfl (up rfl (up rfl hs6))))))))))) hS ?_
      refine RD.take 11 rfl (by kernel_rfl) (by exact Wd.yes (x := 49) rfl (AF_ev rfl (up rfl (up rfl (up rfl (up rfl (up rfl tp))))))) (v := .pointer (some ⟨b9, 0, none⟩)) (fun w hS => by exact E.move (AF_ev rfl (up rfl (up rfl (up rfl (up rfl (up rfl (up rfl (up rfl (up rfl (up rfl (up rfl hs7)))))))))))) hS ?_
      have hst := hst.take (.there .here)
      refine RD.only 10 rfl (by kernel_rfl) (by exact Wd.yes (x := 49) rfl (AF_ev rfl (up rfl (up rfl (up rfl (up rfl (up rfl (up rfl tp)))))))) ?_
      refine H.call0 Try.func30 nm30 rfl (map1 (AF_ev rfl (up rfl tp))) (Calls.mono (ent_LastL (v := ia4) (by simp) hst) ?_)
      rintro _ w ⟨rfl, hst⟩
      refine ⟨_, rfl, ?_⟩
      have hS : w.cell? ⟨b2, 0, none⟩ = some (.int .i64 t0) := hst.cell (.there (.there (.there (.there .here)))) rfl
      refine ⟨fun _ => hS, ?_⟩
      have hst := hst.take (.there .here)
      refine RD.only 12 rfl (by kernel_rfl) (by exact Wd.yes (x := 49) rfl (AF_ev rfl (up rfl (up rfl (up rfl (up rfl (up rfl (up rfl (up rfl tp))))))))) ?_
      refine H.call0 Try.func30 nm30 rfl (map1 (AF_ev rfl (up rfl tp))) (Calls.mono (ent_LastL (v := ia8) (by simp) hst) ?_)
      rintro _ w ⟨rfl, hst⟩
      refine ⟨_, rfl, ?_⟩
      have hS : w.cell? ⟨b2, 0, none⟩ = some (.int .i64 t0) := hst.cell (.there (.there (.there (.there .here)))) rfl
      refine ⟨fun _ => hS, ?_⟩
      refine RD.take 13 rfl (by kernel_rfl) (by exact Wd.yes (x := 49) rfl (AF_ev rfl (up rfl (up rfl (up rfl (up rfl (up rfl (up rfl (up rfl (up rfl tp)))))))))) (v := .bool false) (fun w hS => by exact E.b (a := ia4 == ia8) (E.eql (k := .i64) (a := ia4) (b := ia8) (AF_ev rfl (up rfl tp)) (AF_ev rfl tp)) hq) hS ?_
      refine RD.take 14 rfl (by kernel_rfl) (by exact Wd.yes (x := 49) rfl (AF_ev rfl (up rfl (up rfl (up rfl (up rfl (up rfl (up rfl (up rfl (up rfl (up rfl tp))))))))))) (v := .bool false) (fun w hS => by exact E.move (AF_ev rfl tp)) hS ?_
      refine RD.pass 15 rfl (by kernel_rfl) (by exact Wd.no (x := 59) (b := false) rfl (AF_ev rfl tp) rfl) hS ?_
      refine RD.pass 16 rfl (by kernel_rfl) (by exact Wd.no (x := 59) (b := false) rfl (AF_ev rfl (up rfl tp)) rfl) hS ?_
      refine RD.pass 17 rfl (by kernel_rfl) (by exact Wd.no (x := 59) (b := false) rfl (AF_ev rfl (up rfl (up rfl tp))) rfl) hS ?_
      refine RD.pass 18 rfl (by kernel_rfl) (by exact Wd.no (x := 59) (b := false) rfl (AF_ev rfl (up rfl (up rfl (up rfl tp)))) rfl) hS ?_
      refine RD.pass 19 rfl (by kernel_rfl) (by exact Wd.no (x := 59) (b := false) rfl (AF_ev rfl (up rfl (up rfl (up rfl (up rfl tp))))) rfl) hS ?_
      refine RD.take 20 rfl (by kernel_rfl) (by exact Wd.yes (x := 49) rfl (AF_ev rfl (up rfl (up rfl (up rfl (up rfl (up rfl (up rfl (up rfl (up rfl (up rfl (up rfl (up rfl (up rfl (up rfl (up rfl (up rfl tp))))))))))))))))) (v := .bool false) (fun w hS => by exact E.pickF (AF_ev rfl (up rfl (up rfl (up rfl (up rfl (up rfl tp)))))) rfl) hS ?_
      refine RD.take 21 rfl (by kernel_rfl) (by exact Wd.yes (x := 49) rfl (AF_ev rfl (up rfl (up rfl (up rfl (up rfl (up rfl (up rfl (up rfl (up rfl (up rfl (up rfl (up rfl (up rfl (up rfl (up rfl (up rfl (up rfl tp)))))))))))))))))) (v := .bool true) (fun w hS => by exact E.eqlB (a := false) (b := false) Try.underlying4 (AF_ev rfl (up rfl (up rfl (up rfl (up rfl (up rfl (up rfl (up rfl (up rfl (up rfl (up rfl (up rfl (up rfl tp))))))))))))) (AF_ev rfl tp)) hS ?_
      refine RD.only 22 rfl (by kernel_rfl) Wd.a (Hd.value (v := .bool true) (by exact E.pickT (AF_ev rfl (up rfl (up rfl (up rfl (up rfl (up rfl (up rfl (up rfl (up rfl (up rfl (up rfl (up rfl (up rfl (up rfl (up rfl (up rfl (up rfl (up rfl tp)))))))))))))))))) (AF_ev rfl tp)) ⟨fun _ => hS, ?_⟩)
      refine RD.only 23 rfl (by kernel_rfl) Wd.a (Hd.value (v := .bool true) (by exact E.move (AF_ev rfl tp)) ⟨fun _ => hS, ?_⟩)
      refine RD.take 24 rfl (by kernel_rfl) (by exact Wd.yes (x := 68) rfl (AF_ev rfl tp)) (v := .pointer (some ⟨b5, 0, none⟩)) (fun w hS => by exact E.move (AF_ev rfl (up rfl (up rfl (up rfl (up rfl (up rfl (up rfl (up rfl (up rfl (up rfl (up rfl (up rfl (up rfl (up rfl (up rfl (up rfl (up rfl (up rfl (up rfl (up rfl (up rfl (up rfl (up rfl (up rfl (up rfl hs6)))))))))))))))))))))))))) hS ?_
      refine RD.take 25 rfl (by kernel_rfl) (by exact Wd.yes (x := 68) rfl (AF_ev rfl (up rfl tp))) (v := .pointer (some ⟨b5, 0, none⟩)) (fun w hS => by exact E.move (AF_ev rfl (up rfl (up rfl (up rfl (up rfl (up rfl (up rfl (up rfl (up rfl (up rfl (up rfl (up rfl (up rfl (up rfl (up rfl (up rfl (up rfl (up rfl (up rfl (up rfl (up rfl (up rfl (up rfl (up rfl (up rfl (up rfl hs6))))))))))))))))))))))))))) hS ?_
      refine RD.take 27 rfl (by kernel_rfl) (by exact Wd.yes (x := 68) rfl (AF_ev rfl (up rfl (up rfl tp)))) (v := .pointer (some ⟨b2, 0, none⟩)) (fun w hS => by exact E.indexAddrA (b := b2) (o := 0) (i := 0) Try.underlying43 sz3 (AF_ev rfl (up rfl (up rfl (up rfl (up rfl (up rfl (up rfl (up rfl (up rfl (up rfl (up rfl (up rfl (up rfl (up rfl (up rfl (up rfl (up rfl (up rfl (up rfl (up rfl (up rfl (up rfl (up rfl (up rfl (up rfl (up rfl (up rfl hs3))))))))))))))))))))))))))) rfl (by omega) (by omega) (by simp)) hS ?_
      refine RD.take 28 rfl (by kernel_rfl) (by exact Wd.yes (x := 68) rfl (AF_ev rfl (up rfl (up rfl (up rfl tp))))) (v := .int .i64 t0) (fun w hS => by exact E.load (a := ⟨b2, 0, none⟩) Try.underlying3 rfl (AF_ev rfl tp) hS) hS ?_
      have hst := hst.take (.there .here)
      refine RD.only 26 rfl (by kernel_rfl) (by exact Wd.yes (x := 68) rfl (AF_ev rfl (up rfl (up rfl (up rfl (up rfl tp)))))) ?_
      refine H.call0 Try.func30 nm30 rfl (map1 (AF_ev rfl (up rfl (up rfl tp)))) (Calls.mono (ent_LastL (v := ia4) (by simp) hst) ?_)
      rintro _ w ⟨rfl, hst⟩
      refine ⟨_, rfl, ?_⟩
      have hS : w.cell? ⟨b2, 0, none⟩ = some (.int .i64 t0) := hst.cell (.there (.there (.there (.there .here)))) rfl
      refine ⟨fun _ => hS, ?_⟩
      refine RD.only 29 rfl (by kernel_rfl) (by exact Wd.yes (x := 68) rfl (AF_ev rfl (up rfl (up rfl (up rfl (up rfl (up rfl tp))))))) ?_
      refine H.call0 Try.func33 nm33 rfl (map3 (AF_ev rfl (up rfl (up rfl (up rfl (up rfl tp))))) (AF_ev rfl tp) (AF_ev rfl (up rfl tp))) (Calls.mono (ent_BehindL (v := true) ia4 t0 (behB_nil.trans behN_self) hst) ?_)
      rintro _ w ⟨rfl, hst⟩
      refine ⟨_, rfl, ?_⟩
      have hS : w.cell? ⟨b2, 0, none⟩ = some (.int .i64 t0) := hst.cell (.there (.there (.there (.there .here)))) rfl
      refine ⟨fun _ => hS, ?_⟩
      refine RD.only 30 rfl (by kernel_rfl) Wd.a (Hd.value (v := .bool true) (by exact E.pickT (AF_ev rfl (up rfl (up rfl (up rfl (up rfl (up rfl (up rfl tp))))))) (AF_ev rfl tp)) ⟨fun _ => hS, ?_⟩)
      refine RD.only 31 rfl (by kernel_rfl) Wd.a (Hd.value (v := .bool true) (by exact E.assign (AF_ev rfl tp)) ⟨fun h => Bool.noConfusion ((show needs _ _ _ = false by kernel_rfl).symm.trans h), ?_⟩)
      refine RD.fin (by kernel_rfl) (fun τ => τ 0 = .agg #[.int .i64 i0, .int .i64 i1] ∧ τ 1 = .agg #[.int .i64 t0, .int .i64 t1] ∧ τ 2 = .pointer (some ⟨b1, 0, none⟩) ∧ τ 3 = .pointer (some ⟨b2, 0, none⟩) ∧ τ 4 = .bool true ∧ τ 5 = .bool true ∧ τ 6 = .pointer (some ⟨b5, 0, none⟩) ∧ τ 7 = .pointer (some ⟨b9, 0, none⟩) ∧ τ 8 = .bool false ∧ τ 9 = .bool true ∧ τ 32 = .bool false) ⟨up rfl (up rfl (up rfl (up rfl (up rfl (up rfl (up rfl (up rfl (up rfl (up rfl (up rfl (up rfl (up rfl (up rfl (up rfl (up rfl (up rfl (up rfl (up rfl (up rfl (up rfl (up rfl (up rfl (up rfl (up rfl (up rfl (up rfl (up rfl (up rfl (up rfl (up rfl (up rfl hs0))))))))))))))))))))))))))))))), up rfl (up rfl (up rfl (up rfl (up rfl (up rfl (up rfl (up rfl (up rfl (up rfl (up rfl (up rfl (up rfl (up rfl (up rfl (up rfl (up rfl (up rfl (up rfl (up rfl (up rfl (up rfl (up rfl (up rfl (up rfl (up rfl (up rfl (up rfl (up rfl (up rfl (up rfl (up rfl hs1))))))))))))))))))))))))))))))), up rfl (up rfl (up rfl (up rfl (up rfl (up rfl (up rfl (up rfl (up rfl (up rfl (up rfl (up rfl (up rfl (up rfl (up rfl (up rfl (up rfl (up rfl (up rfl (up rfl (up rfl (up rfl (up rfl (up rfl (up rfl (up rfl (up rfl (up rfl (up rfl (up rfl (up rfl (up rfl hs2))))))))))))))))))))))))))))))), up rfl (up rfl (up rfl (up rfl (up rfl (up rfl (up rfl (up rfl (up rfl (up rfl (up rfl (up rfl (up rfl (up rfl (up rfl (up rfl (up rfl (up rfl (up rfl (up rfl (up rfl (up rfl (up rfl (up rfl (up rfl (up rfl (up rfl (up rfl (up rfl (up rfl (up rfl (up rfl hs3))))))))))))))))))))))))))))))), tp, up rfl (up rfl (up rfl (up rfl (up rfl (up rfl (up rfl (up rfl (up rfl (up rfl (up rfl (up rfl (up rfl (up rfl (up rfl (up rfl (up rfl (up rfl (up rfl (up rfl (up rfl (up rfl (up rfl (up rfl (up rfl (up rfl (up rfl (up rfl (up rfl (up rfl (up rfl (up rfl hs5))))))))))))))))))))))))))))))), up rfl (up rfl (up rfl (up rfl (up rfl (up rfl (up rfl (up rfl (up rfl (up rfl (up rfl (up rfl (up rfl (up rfl (up rfl (up rfl (up rfl (up rfl (up rfl (up rfl (up rfl (up rfl (up rfl (up rfl (up rfl (up rfl (up rfl (up rfl (up rfl (up rfl (up rfl (up rfl hs6))))))))))))))))))))))))))))))), up rfl (up rfl (up rfl (up rfl (up rfl (up rfl (up rfl (up rfl (up rfl (up rfl (up rfl (up rfl (up rfl (up rfl (up rfl (up rfl (up rfl (up rfl (up rfl (up rfl (up rfl (up rfl (up rfl (up rfl (up rfl (up rfl (up rfl (up rfl (up rfl (up rfl (up rfl (up rfl hs7))))))))))))))))))))))))))))))), up rfl (up rfl (up rfl (up rfl (up rfl (up rfl (up rfl (up rfl (up rfl (up rfl (up rfl (up rfl (up rfl (up rfl (up rfl (up rfl (up rfl (up rfl (up rfl (up rfl (up rfl (up rfl (up rfl (up rfl (up rfl (up rfl (up rfl (up rfl (up rfl (up rfl (up rfl (up rfl (Eq.trans hs8 (congrArg Value.bool hx))))))))))))))))))))))))))))))))), up rfl (up rfl (up rfl (up rfl (up rfl (up rfl (up rfl (up rfl (up rfl (up rfl (up rfl (up rfl (up rfl (up rfl (up rfl (up rfl (up rfl (up rfl (up rfl (up rfl (up rfl (up rfl (up rfl (up rfl (up rfl (up rfl (up rfl (up rfl (up rfl (up rfl (up rfl (up rfl (Eq.trans hs9 (congrArg Value.bool hy))))))))))))))))))))))))))))))))), up rfl (up rfl (up rfl (up rfl (up rfl (up rfl (up rfl (up rfl (up rfl (up rfl (up rfl (up rfl (up rfl (up rfl (up rfl (up rfl (up rfl (up rfl (up rfl (up rfl (up rfl (up rfl (up rfl (up rfl (up rfl (up rfl (up rfl (up rfl (up rfl (up rfl (up rfl (up rfl hs32)))))))))))))))))))))))))))))))⟩ ?_
      rintro τ ⟨hs0, hs1, hs2, hs3, hs4, hs5, hs6, hs7, hs8, hs9, hs32⟩
      refine CW.ret ?_
      refine ret1 (v := .bool true) rfl (by exact (.tmp (AF_ev rfl hs4) .nil)) ?_
      have hst := hst.drop
      have hst := hst.drop
      have hst := hst.drop
      have hst := hst.drop
      have hst := hst.drop
      have hst := hst.drop
      exact ⟨p, hp0, rfl, hst⟩
end Go.Proofs.Ytdlcjoonhojpfaa
