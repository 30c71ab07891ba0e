/- The calls of the package entries, walked through operation by operation. -/
import Derived.Test.YtdlcjoonhojpfaaE0
import Derived.Test.YtdlcjoonhojpfaaT1
import Derived.Test.YtdlcjoonhojpfaaE1
import Derived.Test.YtdlcjoonhojpfaaE2
import Derived.Test.YtdlcjoonhojpfaaE3
import Derived.Test.YtdlcjoonhojpfaaE4
import Derived.Test.YtdlcjoonhojpfaaE5
import Derived.Test.YtdlcjoonhojpfaaE6
import Derived.Test.YtdlcjoonhojpfaaE9
namespace Go.Proofs.Ytdlcjoonhojpfaa
open Go.RowKit Go.SL Go.E17
attribute [local irreducible] Go.SL.RW Go.SL.CW Go.SL.RD Go.SL.Hd Go.SL.St
set_option linter.unusedVariables false
set_option linter.unusedSimpArgs false



theorem ent_Clone {p : Pers} {w : World} {R : List Assn} {b : Nat} {i t : Int} {es : List Ent} (hst : St p w (LogB p b i t es :: R)) :
    Calls Try.prog 28 #[.pointer (some ⟨b, 0, none⟩)] w fun e w => ∃ b2, e = .returned (.pointer (some ⟨b2, 0, none⟩)) ∧ St p w (LogB p b2 i t es :: LogB p b i t es :: R) := by
  obtain ⟨X, c, hi, hn, hE, hcc, hX, hst⟩ := logOpen hst
  refine enter Try.func28 rfl (by simp) (n := 18) rfl fun τ hτ => ?_
  have hs0 : τ 0 = .pointer (some ⟨b, 0, none⟩) := hτ 0 (by simp)
  clear hτ
  refine CW.seq ?_
  refine CW.region ?_
  refine RW.soft Wd.a (v := .pointer none) (by exact E.assign rfl) ?_
  refine RW.fin (fun τ => τ 0 = .pointer (some ⟨b, 0, none⟩) ∧ τ 2 = .pointer none) ⟨up rfl hs0, tp⟩ ?_
  rintro τ ⟨hs0, hs2⟩
  refine CW.seq ?_
  refine CW.regionD [0, 1, 2, 3, 4, 5, 6, 7, 8, 9, 10, 11] (fun w => w.cell? ⟨b, 0, none⟩ = some (.int .i64 i) ∧ w.cell? ⟨b, 1, none⟩ = some (.int .i64 t) ∧ w.cell? ⟨b, 2, none⟩ = some (.slice X es.length c)) mixed ?_
  have hst := hst.drew
  generalize w.drew = w at hst ⊢
  have hS : w.cell? ⟨b, 0, none⟩ = some (.int .i64 i) ∧ w.cell? ⟨b, 1, none⟩ = some (.int .i64 t) ∧ w.cell? ⟨b, 2, none⟩ = some (.slice X es.length c) := ⟨hst.cell .here rfl, hst.cell .here rfl, hst.cell .here rfl⟩
  refine RD.take 0 rfl (by kernel_rfl) Wd.a (v := .pointer (some ⟨b, 0, none⟩)) (fun w hS => by exact E.move (AF_ev rfl hs0)) hS ?_
  refine RD.take 1 rfl (by kernel_rfl) Wd.a (v := .pointer (some ⟨b, 0, none⟩)) (fun w hS => by exact E.nilCheck (a := ⟨b, 0, none⟩) (AF_ev rfl tp)) hS ?_
  refine RD.take 2 rfl (by kernel_rfl) Wd.a (v := .pointer (some ⟨b, 0, none⟩)) (fun w hS => by exact E.fieldAddr (b := b) (o := 0) (f := { name := "index", type := 3, offset := 0, embedded := false, tag := "", pkgPath := "strongroom/entries", byteOffset := 0 }) (AF_ev rfl tp) Try.underlying122 rfl sz3 rfl) hS ?_
  refine RD.take 3 rfl (by kernel_rfl) Wd.a (v := .int .i64 i) (fun w hS => by exact E.load (a := ⟨b, 0, none⟩) Try.underlying3 rfl (AF_ev rfl tp) hS.1) hS ?_
  refine RD.take 4 rfl (by kernel_rfl) Wd.a (v := .pointer (some ⟨b, 0, none⟩)) (fun w hS => by exact E.move (AF_ev rfl (up rfl (up rfl (up rfl (up rfl hs0)))))) hS ?_
  refine RD.take 5 rfl (by kernel_rfl) Wd.a (v := .pointer (some ⟨b, 0, none⟩)) (fun w hS => by exact E.nilCheck (a := ⟨b, 0, none⟩) (AF_ev rfl tp)) hS ?_
  refine RD.take 6 rfl (by kernel_rfl) Wd.a (v := .pointer (some ⟨b, 1, none⟩)) (fun w hS => by exact E.fieldAddr (b := b) (o := 0) (f := { name := "term", type := 3, offset := 1, embedded := false, tag := "", pkgPath := "strongroom/entries", byteOffset := 8 }) (AF_ev rfl tp) Try.underlying122 rfl sz3 rfl) hS ?_
  refine RD.take 7 rfl (by kernel_rfl) Wd.a (v := .int .i64 t) (fun w hS => by exact E.load (a := ⟨b, 1, none⟩) Try.underlying3 rfl (AF_ev rfl tp) hS.2.1) hS ?_
  refine RD.take 8 rfl (by kernel_rfl) Wd.a (v := .pointer (some ⟨b, 0, none⟩)) (fun w hS => by exact E.move (AF_ev rfl (up rfl (up rfl (up rfl (up rfl (up rfl (up rfl (up rfl (up rfl hs0)))))))))) hS ?_
  refine RD.take 9 rfl (by kernel_rfl) Wd.a (v := .pointer (some ⟨b, 0, none⟩)) (fun w hS => by exact E.nilCheck (a := ⟨b, 0, none⟩) (AF_ev rfl tp)) hS ?_
  refine RD.take 10 rfl (by kernel_rfl) Wd.a (v := .pointer (some ⟨b, 2, none⟩)) (fun w hS => by exact E.fieldAddr (b := b) (o := 0) (f := { name := "l", type := 44, offset := 2, embedded := false, tag := "", pkgPath := "strongroom/entries", byteOffset := 16 }) (AF_ev rfl tp) Try.underlying122 rfl sz44 rfl) hS ?_
  refine RD.take 11 rfl (by kernel_rfl) Wd.a (v := .slice X es.length c) (fun w hS => by exact E.load (a := ⟨b, 2, none⟩) Try.underlying44 rfl (AF_ev rfl tp) hS.2.2) hS ?_
  refine RD.only 12 rfl (by kernel_rfl) Wd.a ?_
  have hst := hst.take (.there .here)
  refine H.call0 Try.func67 nm67 rfl (map1 (AF_ev rfl tp)) (Calls.mono (clone_ents (fun w H s => Own.src s) (flat_one _) (by omega) hst) ?_)
  rintro _ w ⟨vX1, rfl, hnX1, hst⟩
  obtain ⟨X1, c2, rfl, hcX1, hmX1, hlX1, hbX1⟩ := hst.shape
  refine ⟨_, rfl, ?_⟩
  have hS : w.cell? ⟨b, 0, none⟩ = some (.int .i64 i) ∧ w.cell? ⟨b, 1, none⟩ = some (.int .i64 t) ∧ w.cell? ⟨b, 2, none⟩ = some (.slice X es.length c) := ⟨hst.cell (.there (.there .here)) rfl, hst.cell (.there (.there .here)) rfl, hst.cell (.there (.there .here)) rfl⟩
  refine ⟨fun _ => hS, ?_⟩
  refine RD.only 13 rfl (by kernel_rfl) Wd.a (Hd.value (v := .agg #[.int .i64 i, .int .i64 t, .slice X1 es.length c2]) (by exact E.build (vs := #[(0, .int .i64 i), (1, .int .i64 t), (2, .slice X1 es.length c2)]) (bld3 (AF_ev rfl (up rfl (up rfl (up rfl (up rfl (up rfl (up rfl (up rfl (up rfl (up rfl tp)))))))))) (AF_ev rfl (up rfl (up rfl (up rfl (up rfl (up rfl tp)))))) (AF_ev rfl tp)) (by kernel_rfl)) ⟨fun _ => hS, ?_⟩)
  refine RD.only 14 rfl (by kernel_rfl) Wd.a ?_
  refine H.box (v := .agg #[.int .i64 i, .int .i64 t, .slice X1 es.length c2]) (AF_ev rfl tp) hst fun b3 w hst => ?_
  have hS : w.cell? ⟨b, 0, none⟩ = some (.int .i64 i) ∧ w.cell? ⟨b, 1, none⟩ = some (.int .i64 t) ∧ w.cell? ⟨b, 2, none⟩ = some (.slice X es.length c) := ⟨hst.cell (.there (.there (.there .here))) rfl, hst.cell (.there (.there (.there .here))) rfl, hst.cell (.there (.there (.there .here))) rfl⟩
  refine ⟨fun _ => hS, ?_⟩
  refine RD.only 15 rfl (by kernel_rfl) Wd.a (Hd.value (v := .pointer (some ⟨b3, 0, none⟩)) (by exact E.assign (AF_ev rfl tp)) ⟨fun h => Bool.noConfusion ((show needs _ _ _ = false by kernel_rfl).symm.trans h), ?_⟩)
  refine RD.fin (by kernel_rfl) (fun τ => τ 0 = .pointer (some ⟨b, 0, none⟩) ∧ τ 2 = .pointer (some ⟨b3, 0, none⟩)) ⟨up rfl (up rfl (up rfl (up rfl (up rfl (up rfl (up rfl (up rfl (up rfl (up rfl (up rfl (up rfl (up rfl (up rfl (up rfl (up rfl hs0))))))))))))))), tp⟩ ?_
  rintro τ ⟨hs0, hs2⟩
  refine CW.ret ?_
  refine ret1 (v := .pointer (some ⟨b3, 0, none⟩)) rfl (by exact (.tmp (AF_ev rfl hs2) .nil)) ?_
  have hst := hst.take (.there (.there .here))
  have hst := hst.take (.there (.there (.there .here)))
  have hst := hst.take (.there (.there (.there .here)))
  have hst := hst.take (.there (.there (.there .here)))
  have h1 := logClose hi hn hE hst
  exact ⟨_, rfl, (logClose hi hn hE ((h1.take (.there (.there .here))).take (.there (.there .here)))).take (.there .here)⟩

def keepB (i t : Int) (T : List Int) (k u : Int) : Bool := (k == i) || ((termE i T k == 0) && (termT i t T k == u))
theorem keep_range {i t k u : Int} {T : List Int} (h : keepB i t T k u = true) : i ≤ k ∧ k ≤ i + T.length := by
  unfold keepB termE at h
  rw [Bool.or_eq_true, beq_iff_eq, Bool.and_eq_true, beq_iff_eq] at h
  rcases h with h | ⟨h, -⟩
  · omega
  · split at h
    · omega
    · split at h
      · omega
      · omega
theorem E_slice0 {P : Program} {ρ : Operand → Value} {dst : Option Tmp} {ty : TypeId} {pos : String} {af : Array Edge} {gd : Option (Nat × Bool)} {w : World} {x y : Operand} {t e : TypeId} {X : Option Addr} {l c sz : Nat} (ht : P.underlying t = some (.slice e)) (hz : (P.info? e).map (·.size) = some sz)
    (hx : ρ x = .slice X l c) (hy : ρ y = .int .i64 0) (hl : l ≤ c) (hn : X = none → c = 0 ∧ l = 0) : Ev P ρ ⟨dst, .slice t x (some y) none none, ty, pos, af, gd⟩ w (.slice X l c) := by
  cases hq : P.info? e with
  | none => simp [hq] at hz
  | some q =>
    cases X with
    | none =>
      obtain ⟨rfl, rfl⟩ := hn rfl
      simp [Ev, execOp, Instr.sliceAt, run_underlying ht, Instr.slice, Instr.sliceBounds, Instr.sliceBound, asIntOf, hx, hy, sizeOf, typeInfo, hq]
    | some a =>
      simp [Ev, execOp, Instr.sliceAt, run_underlying ht, Instr.slice, Instr.sliceBounds, Instr.sliceBound, asIntOf, hx, hy, sizeOf, typeInfo, hq, hl, Addr.add]

theorem ent_Base_no {p : Pers} {w : World} {R : List Assn} {b : Nat} {i t : Int} {es : List Ent} (k u : Int) (hk : k < i) (hst : St p w (LogB p b i t es :: R)) :
    Calls Try.prog 37 #[.pointer (some ⟨b, 0, none⟩), .int .i64 k, .int .i64 u] w fun e w => e = .returned (.int .i64 1) ∧ St p w (LogB p b i t es :: R) := by
  obtain ⟨X, c, hi, hn, hE, hcc, hX, hst⟩ := logOpen hst
  refine enter Try.func37 rfl (by simp) (n := 66) rfl fun τ hτ => ?_
  have hs0 : τ 0 = .pointer (some ⟨b, 0, none⟩) := hτ 0 (by simp)
  have hs1 : τ 1 = .int .i64 k := hτ 1 (by simp)
  have hs2 : τ 2 = .int .i64 u := hτ 2 (by simp)
  clear hτ
  refine CW.seq ?_
  refine CW.region ?_
  refine RW.soft Wd.a (v := .int .i64 0) (by exact E.assign rfl) ?_
  refine RW.fin (fun τ => τ 0 = .pointer (some ⟨b, 0, none⟩) ∧ τ 1 = .int .i64 k ∧ τ 2 = .int .i64 u ∧ τ 6 = .int .i64 0) ⟨up rfl hs0, up rfl hs1, up rfl hs2, tp⟩ ?_
  rintro τ ⟨hs0, hs1, hs2, hs6⟩
  refine CW.seq ?_
  refine CW.seq ?_
  refine CW.region ?_
  refine RW.soft Wd.a (v := .int .i64 k) (by exact E.move (AF_ev rfl hs1)) ?_
  refine RW.soft Wd.a (v := .pointer (some ⟨b, 0, none⟩)) (by exact E.move (AF_ev rfl (up rfl hs0))) ?_
  refine RW.soft Wd.a (v := .pointer (some ⟨b, 0, none⟩)) (by exact E.nilCheck (a := ⟨b, 0, none⟩) (AF_ev rfl tp)) ?_
  refine RW.soft Wd.a (v := .pointer (some ⟨b, 0, none⟩)) (by exact E.fieldAddr (b := b) (o := 0) (f := { name := "index", type := 3, offset := 0, embedded := false, tag := "", pkgPath := "strongroom/entries", byteOffset := 0 }) (AF_ev rfl tp) Try.underlying122 rfl sz3 rfl) ?_
  refine RW.soft Wd.a (v := .int .i64 i) (by exact E.load (a := ⟨b, 0, none⟩) Try.underlying3 rfl (AF_ev rfl tp) (hst.cell .here rfl)) ?_
  refine RW.soft Wd.a (v := .bool true) (by exact E.b (a := decide (k < i)) (E.lss (k := .i64) (a := k) (b := i) (AF_ev rfl (up rfl (up rfl (up rfl (up rfl tp))))) (AF_ev rfl tp)) (decide_eq_true hk)) ?_
  refine RW.soft Wd.a (v := .bool true) (by exact E.move (AF_ev rfl tp)) ?_
  refine RW.pass (by exact Wd.no (x := 15) (b := true) rfl (AF_ev rfl tp) rfl) ?_
  refine RW.pass (by exact Wd.no (x := 15) (b := true) rfl (AF_ev rfl (up rfl tp)) rfl) ?_
  refine RW.soft Wd.a (v := .bool true) (by exact E.pickT (AF_ev rfl (up rfl (up rfl tp))) rfl) ?_
  refine RW.fin (fun τ => τ 0 = .pointer (some ⟨b, 0, none⟩) ∧ τ 1 = .int .i64 k ∧ τ 2 = .int .i64 u ∧ τ 6 = .int .i64 0 ∧ τ 18 = .bool true) ⟨up rfl (up rfl (up rfl (up rfl (up rfl (up rfl (up rfl (up rfl (up rfl (up rfl hs0))))))))), up rfl (up rfl (up rfl (up rfl (up rfl (up rfl (up rfl (up rfl (up rfl (up rfl hs1))))))))), up rfl (up rfl (up rfl (up rfl (up rfl (up rfl (up rfl (up rfl (up rfl (up rfl hs2))))))))), up rfl (up rfl (up rfl (up rfl (up rfl (up rfl (up rfl (up rfl (up rfl (up rfl hs6))))))))), tp⟩ ?_
  rintro τ ⟨hs0, hs1, hs2, hs6, hs18⟩
  refine CW.condT (AF_ev rfl hs18) ?_
  refine CW.seq ?_
  refine CW.region ?_
  refine RW.soft Wd.a (v := .int .i64 1) (by exact E.assign rfl) ?_
  refine RW.fin (fun τ => τ 0 = .pointer (some ⟨b, 0, none⟩) ∧ τ 1 = .int .i64 k ∧ τ 2 = .int .i64 u ∧ τ 6 = .int .i64 1 ∧ τ 18 = .bool true) ⟨up rfl hs0, up rfl hs1, up rfl hs2, tp, up rfl hs18⟩ ?_
  rintro τ ⟨hs0, hs1, hs2, hs6, hs18⟩
  refine CW.ret ?_
  refine Th.r ?_
  refine ret1 (v := .int .i64 1) rfl (by exact (.tmp (AF_ev rfl hs6) .nil)) ?_
  have hst := hst.take (.there .here)
  have hst := hst.take (.there .here)
  exact ⟨rfl, logClose hi hn hE hst⟩

theorem ent_Base_yes {p : Pers} {w : World} {R : List Assn} {b : Nat} {i t : Int} {es : List Ent} (k u : Int) (hk : i ≤ k ∧ k ≤ 1099511627776) (hst : St p w (LogB p b i t es :: R)) :
    Calls Try.prog 37 #[.pointer (some ⟨b, 0, none⟩), .int .i64 k, .int .i64 u] w fun e w => e = .returned (.int .i64 0) ∧ St p w (LogB p b k u (if keepB i t (ts es) k u = true then es.drop (k - i).toNat else []) :: R) := by
  obtain ⟨X, c, hi, hn, hE, hcc, hX, hst⟩ := logOpen hst
  refine enter Try.func37 rfl (by simp) (n := 66) rfl fun τ hτ => ?_
  have hs0 : τ 0 = .pointer (some ⟨b, 0, none⟩) := hτ 0 (by simp)
  have hs1 : τ 1 = .int .i64 k := hτ 1 (by simp)
  have hs2 : τ 2 = .int .i64 u := hτ 2 (by simp)
  clear hτ
  refine CW.seq ?_
  refine CW.region ?_
  refine RW.soft Wd.a (v := .int .i64 0) (by exact E.assign rfl) ?_
  refine RW.fin (fun τ => τ 0 = .pointer (some ⟨b, 0, none⟩) ∧ τ 1 = .int .i64 k ∧ τ 2 = .int .i64 u ∧ τ 6 = .int .i64 0) ⟨up rfl hs0, up rfl hs1, up rfl hs2, tp⟩ ?_
  rintro τ ⟨hs0, hs1, hs2, hs6⟩
  refine CW.seq ?_
  refine CW.seq ?_
  refine CW.region ?_
  refine RW.soft Wd.a (v := .int .i64 k) (by exact E.move (AF_ev rfl hs1)) ?_
  refine RW.soft Wd.a (v := .pointer (some ⟨b, 0, none⟩)) (by exact E.move (AF_ev rfl (up rfl hs0))) ?_
  refine RW.soft Wd.a (v := .pointer (some ⟨b, 0, none⟩)) (by exact E.nilCheck (a := ⟨b, 0, none⟩) (AF_ev rfl tp)) ?_
  refine RW.soft Wd.a (v := .pointer (some ⟨b, 0, none⟩)) (by exact E.fieldAddr (b := b) (o := 0) (f := { name := "index", type := 3, offset := 0, embedded := false, tag := "", pkgPath := "strongroom/entries", byteOffset := 0 }) (AF_ev rfl tp) Try.underlying122 rfl sz3 rfl) ?_
  refine RW.soft Wd.a (v := .int .i64 i) (by exact E.load (a := ⟨b, 0, none⟩) Try.underlying3 rfl (AF_ev rfl tp) (hst.cell .here rfl)) ?_
  refine RW.soft Wd.a (v := .bool false) (by exact E.b (a := decide (k < i)) (E.lss (k := .i64) (a := k) (b := i) (AF_ev rfl (up rfl (up rfl (up rfl (up rfl tp))))) (AF_ev rfl tp)) (decide_eq_false (by omega))) ?_
  refine RW.soft Wd.a (v := .bool false) (by exact E.move (AF_ev rfl tp)) ?_
  refine RW.soft (by exact Wd.yes (x := 15) rfl (AF_ev rfl tp)) (v := .int .i64 k) (by exact E.move (AF_ev rfl (up rfl (up rfl (up rfl (up rfl (up rfl (up rfl (up rfl hs1))))))))) ?_
  refine RW.soft (by exact Wd.yes (x := 15) rfl (AF_ev rfl (up rfl tp))) (v := .bool false) (by exact E.b (a := decide (k > 1099511627776)) (E.gtr (k := .i64) (a := k) (b := 1099511627776) (AF_ev rfl tp) rfl) (decide_eq_false (by omega))) ?_
  refine RW.soft Wd.a (v := .bool false) (by exact E.pickF (AF_ev rfl (up rfl (up rfl tp))) (AF_ev rfl tp)) ?_
  refine RW.fin (fun τ => τ 0 = .pointer (some ⟨b, 0, none⟩) ∧ τ 1 = .int .i64 k ∧ τ 2 = .int .i64 u ∧ τ 6 = .int .i64 0 ∧ τ 18 = .bool false) ⟨up rfl (up rfl (up rfl (up rfl (up rfl (up rfl (up rfl (up rfl (up rfl (up rfl hs0))))))))), up rfl (up rfl (up rfl (up rfl (up rfl (up rfl (up rfl (up rfl (up rfl (up rfl hs1))))))))), up rfl (up rfl (up rfl (up rfl (up rfl (up rfl (up rfl (up rfl (up rfl (up rfl hs2))))))))), up rfl (up rfl (up rfl (up rfl (up rfl (up rfl (up rfl (up rfl (up rfl (up rfl hs6))))))))), tp⟩ ?_
  rintro τ ⟨hs0, hs1, hs2, hs6, hs18⟩
  refine CW.condF (AF_ev rfl hs18) ?_
  refine CW.skip ?_
  refine Th.n ?_
  refine CW.seq ?_
  refine CW.region ?_
  refine RW.soft Wd.a (v := .pointer (some ⟨b, 0, none⟩)) (by exact E.move (AF_ev rfl hs0)) ?_
  refine RW.soft Wd.a (v := .int .i64 k) (by exact E.move (AF_ev rfl (up rfl hs1))) ?_
  have hst := hst.take (.there .here)
  have hst := hst.take (.there .here)
  refine RW.hard Wd.a ?_
  refine H.call0 Try.func32 nm32 rfl (map2 (AF_ev rfl (up rfl tp)) (AF_ev rfl tp)) (Calls.mono (ent_Term (by omega) (by omega) hX k (by omega) hst) ?_)
  rintro _ w ⟨rfl, hst⟩
  refine ⟨_, rfl, ?_⟩
  show RW _ _ _ _ _ _ _
  refine RW.soft Wd.a (v := .tuple #[.int .i64 (termT i t (ts es) k), .int .i64 (termE i (ts es) k)]) (by exact E.move (AF_ev rfl tp)) ?_
  refine RW.soft Wd.a (v := .int .i64 (termT i t (ts es) k)) (by exact E.extract (vs := #[.int .i64 (termT i t (ts es) k), .int .i64 (termE i (ts es) k)]) (AF_ev rfl tp) rfl) ?_
  refine RW.soft Wd.a (v := .int .i64 (termE i (ts es) k)) (by exact E.extract (vs := #[.int .i64 (termT i t (ts es) k), .int .i64 (termE i (ts es) k)]) (AF_ev rfl (up rfl tp)) rfl) ?_
  refine RW.soft Wd.a (v := .int .i64 (termT i t (ts es) k)) (by exact E.assign (AF_ev rfl (up rfl tp))) ?_
  refine RW.soft Wd.a (v := .int .i64 (termE i (ts es) k)) (by exact E.assign (AF_ev rfl (up rfl tp))) ?_
  refine RW.fin (fun τ => τ 0 = .pointer (some ⟨b, 0, none⟩) ∧ τ 1 = .int .i64 k ∧ τ 2 = .int .i64 u ∧ τ 6 = .int .i64 0 ∧ τ 7 = .int .i64 (termT i t (ts es) k) ∧ τ 8 = .int .i64 (termE i (ts es) k) ∧ τ 18 = .bool false) ⟨up rfl (up rfl (up rfl (up rfl (up rfl (up rfl (up rfl (up rfl hs0))))))), up rfl (up rfl (up rfl (up rfl (up rfl (up rfl (up rfl (up rfl hs1))))))), up rfl (up rfl (up rfl (up rfl (up rfl (up rfl (up rfl (up rfl hs2))))))), up rfl (up rfl (up rfl (up rfl (up rfl (up rfl (up rfl (up rfl hs6))))))), up rfl tp, tp, up rfl (up rfl (up rfl (up rfl (up rfl (up rfl (up rfl (up rfl hs18)))))))⟩ ?_
  rintro τ ⟨hs0, hs1, hs2, hs6, hs7, hs8, hs18⟩
  refine CW.seq ?_
  refine CW.seq ?_
  refine CW.cut (fun τ => τ 0 = .pointer (some ⟨b, 0, none⟩) ∧ τ 1 = .int .i64 k ∧ τ 2 = .int .i64 u ∧ τ 6 = .int .i64 0 ∧ τ 7 = .int .i64 (termT i t (ts es) k) ∧ τ 8 = .int .i64 (termE i (ts es) k) ∧ τ 18 = .bool false ∧ τ 39 = .bool ((k == i) || (((termE i (ts es) k) == 0) && ((termT i t (ts es) k) == u)))) ?_ ?_
  · refine CW.region ?_
    refine RW.soft Wd.a (v := .int .i64 k) (by exact E.move (AF_ev rfl hs1)) ?_
    refine RW.soft Wd.a (v := .pointer (some ⟨b, 0, none⟩)) (by exact E.move (AF_ev rfl (up rfl hs0))) ?_
    refine RW.soft Wd.a (v := .pointer (some ⟨b, 0, none⟩)) (by exact E.nilCheck (a := ⟨b, 0, none⟩) (AF_ev rfl tp)) ?_
    refine RW.soft Wd.a (v := .pointer (some ⟨b, 0, none⟩)) (by exact E.fieldAddr (b := b) (o := 0) (f := { name := "index", type := 3, offset := 0, embedded := false, tag := "", pkgPath := "strongroom/entries", byteOffset := 0 }) (AF_ev rfl tp) Try.underlying122 rfl sz3 rfl) ?_
    refine RW.soft Wd.a (v := .int .i64 i) (by exact E.load (a := ⟨b, 0, none⟩) Try.underlying3 rfl (AF_ev rfl tp) (hst.cell .here rfl)) ?_
    refine RW.soft Wd.a (v := .bool (k == i)) (by exact E.eql (k := .i64) (a := k) (b := i) (AF_ev rfl (up rfl (up rfl (up rfl (up rfl tp))))) (AF_ev rfl tp)) ?_
    refine RW.soft Wd.a (v := .bool (k == i)) (by exact E.move (AF_ev rfl tp)) ?_
    refine Or.elim (Bool.eq_false_or_eq_true (k == i)) (fun hg1 => ?_) (fun hg1 => ?_)
    · have hg1_ := hg1
      try simp only [decide_eq_true_eq, decide_eq_false_iff_not, Bool.and_eq_true, Bool.or_eq_true, Bool.and_eq_false_iff, Bool.or_eq_false_iff, Bool.not_eq_true', Bool.not_eq_false', beq_iff_eq, beq_eq_false_iff_ne, bne_iff_ne, bne_eq_false_iff_eq, ne_eq, Int.not_lt, Int.not_le, gt_iff_lt, ge_iff_le] at hg1_
      refine RW.pass (by exact Wd.no (x := 31) (b := true) rfl (AF_ev rfl (Eq.trans tp (congrArg Value.bool hg1))) rfl) ?_
      refine RW.pass (by exact Wd.no (x := 31) (b := true) rfl (AF_ev rfl (up rfl (Eq.trans tp (congrArg Value.bool hg1)))) rfl) ?_
      refine RW.pass (by exact Wd.no (x := 31) (b := true) rfl (AF_ev rfl (up rfl (up rfl (Eq.trans tp (congrArg Value.bool hg1))))) rfl) ?_
      refine RW.pass (by exact Wd.u (x := 34) rfl (AF_ev rfl tp)) ?_
      refine RW.pass (by exact Wd.u (x := 34) rfl (AF_ev rfl (up rfl tp))) ?_
      refine RW.pass (by exact Wd.u (x := 34) rfl (AF_ev rfl (up rfl (up rfl tp)))) ?_
      refine RW.pass (by exact Wd.no (x := 31) (b := true) rfl (AF_ev rfl (up rfl (up rfl (up rfl (up rfl (up rfl (up rfl (Eq.trans tp (congrArg Value.bool hg1))))))))) rfl) ?_
      refine RW.soft Wd.a (v := .bool true) (by exact E.pickT (AF_ev rfl (up rfl (up rfl (up rfl (up rfl (up rfl (up rfl (up rfl (Eq.trans tp (congrArg Value.bool hg1)))))))))) rfl) ?_
      refine RW.nil ⟨rfl, rfl, up rfl (up rfl (up rfl (up rfl (up rfl (up rfl (up rfl (up rfl (up rfl (up rfl (up rfl (up rfl (up rfl (up rfl (up rfl hs0)))))))))))))), up rfl (up rfl (up rfl (up rfl (up rfl (up rfl (up rfl (up rfl (up rfl (up rfl (up rfl (up rfl (up rfl (up rfl (up rfl hs1)))))))))))))), up rfl (up rfl (up rfl (up rfl (up rfl (up rfl (up rfl (up rfl (up rfl (up rfl (up rfl (up rfl (up rfl (up rfl (up rfl hs2)))))))))))))), up rfl (up rfl (up rfl (up rfl (up rfl (up rfl (up rfl (up rfl (up rfl (up rfl (up rfl (up rfl (up rfl (up rfl (up rfl hs6)))))))))))))), up rfl (up rfl (up rfl (up rfl (up rfl (up rfl (up rfl (up rfl (up rfl (up rfl (up rfl (up rfl (up rfl (up rfl (up rfl hs7)))))))))))))), up rfl (up rfl (up rfl (up rfl (up rfl (up rfl (up rfl (up rfl (up rfl (up rfl (up rfl (up rfl (up rfl (up rfl (up rfl hs8)))))))))))))), up rfl (up rfl (up rfl (up rfl (up rfl (up rfl (up rfl (up rfl (up rfl (up rfl (up rfl (up rfl (up rfl (up rfl (up rfl hs18)))))))))))))), (bool_eq (a := true) tp (by simp only [hg1, Bool.true_and, Bool.false_and, Bool.true_or, Bool.false_or]))⟩
    · have hg1_ := hg1
      try simp only [decide_eq_true_eq, decide_eq_false_iff_not, Bool.and_eq_true, Bool.or_eq_true, Bool.and_eq_false_iff, Bool.or_eq_false_iff, Bool.not_eq_true', Bool.not_eq_false', beq_iff_eq, beq_eq_false_iff_ne, bne_iff_ne, bne_eq_false_iff_eq, ne_eq, Int.not_lt, Int.not_le, gt_iff_lt, ge_iff_le] at hg1_
      refine RW.soft (by exact Wd.yes (x := 31) rfl (AF_ev rfl (Eq.trans tp (congrArg Value.bool hg1)))) (v := .int .i64 (termE i (ts es) k)) (by exact E.move (AF_ev rfl (up rfl (up rfl (up rfl (up rfl (up rfl (up rfl (up rfl hs8))))))))) ?_
      refine RW.soft (by exact Wd.yes (x := 31) rfl (AF_ev rfl (up rfl (Eq.trans tp (congrArg Value.bool hg1))))) (v := .bool ((termE i (ts es) k) == 0)) (by exact E.eql (k := .i64) (a := termE i (ts es) k) (b := 0) (AF_ev rfl tp) rfl) ?_
      refine RW.soft (by exact Wd.yes (x := 31) rfl (AF_ev rfl (up rfl (up rfl (Eq.trans tp (congrArg Value.bool hg1)))))) (v := .bool ((termE i (ts es) k) == 0)) (by exact E.move (AF_ev rfl tp)) ?_
      refine Or.elim (Bool.eq_false_or_eq_true ((termE i (ts es) k) == 0)) (fun hg2 => ?_) (fun hg2 => ?_)
      · have hg2_ := hg2
        try simp only [decide_eq_true_eq, decide_eq_false_iff_not, Bool.and_eq_true, Bool.or_eq_true, Bool.and_eq_false_iff, Bool.or_eq_false_iff, Bool.not_eq_true', Bool.not_eq_false', beq_iff_eq, beq_eq_false_iff_ne, bne_iff_ne, bne_eq_false_iff_eq, ne_eq, Int.not_lt, Int.not_le, gt_iff_lt, ge_iff_le] at hg2_
        refine RW.soft (by exact Wd.yes (x := 34) rfl (AF_ev rfl (Eq.trans tp (congrArg Value.bool hg2)))) (v := .int .i64 (termT i t (ts es) k)) (by exact E.move (AF_ev rfl (up rfl (up rfl (up rfl (up rfl (up rfl (up rfl (up rfl (up rfl (up rfl (up rfl hs7)))))))))))) ?_
        refine RW.soft (by exact Wd.yes (x := 34) rfl (AF_ev rfl (up rfl (Eq.trans tp (congrArg Value.bool hg2))))) (v := .int .i64 u) (by exact E.move (AF_ev rfl (up rfl (up rfl (up rfl (up rfl (up rfl (up rfl (up rfl (up rfl (up rfl (up rfl (up rfl hs2))))))))))))) ?_
        refine RW.soft (by exact Wd.yes (x := 34) rfl (AF_ev rfl (up rfl (up rfl (Eq.trans tp (congrArg Value.bool hg2)))))) (v := .bool ((termT i t (ts es) k) == u)) (by exact E.eql (k := .i64) (a := termT i t (ts es) k) (b := u) (AF_ev rfl (up rfl tp)) (AF_ev rfl tp)) ?_
        refine RW.soft (by exact Wd.yes (x := 31) rfl (AF_ev rfl (up rfl (up rfl (up rfl (up rfl (up rfl (up rfl (Eq.trans tp (congrArg Value.bool hg1)))))))))) (v := .bool ((termT i t (ts es) k) == u)) (by exact E.pickT (AF_ev rfl (up rfl (up rfl (up rfl (Eq.trans tp (congrArg Value.bool hg2)))))) (AF_ev rfl tp)) ?_
        refine RW.soft Wd.a (v := .bool ((termT i t (ts es) k) == u)) (by exact E.pickF (AF_ev rfl (up rfl (up rfl (up rfl (up rfl (up rfl (up rfl (up rfl (Eq.trans tp (congrArg Value.bool hg1)))))))))) (AF_ev rfl tp)) ?_
        refine RW.nil ⟨rfl, rfl, up rfl (up rfl (up rfl (up rfl (up rfl (up rfl (up rfl (up rfl (up rfl (up rfl (up rfl (up rfl (up rfl (up rfl (up rfl hs0)))))))))))))), up rfl (up rfl (up rfl (up rfl (up rfl (up rfl (up rfl (up rfl (up rfl (up rfl (up rfl (up rfl (up rfl (up rfl (up rfl hs1)))))))))))))), up rfl (up rfl (up rfl (up rfl (up rfl (up rfl (up rfl (up rfl (up rfl (up rfl (up rfl (up rfl (up rfl (up rfl (up rfl hs2)))))))))))))), up rfl (up rfl (up rfl (up rfl (up rfl (up rfl (up rfl (up rfl (up rfl (up rfl (up rfl (up rfl (up rfl (up rfl (up rfl hs6)))))))))))))), up rfl (up rfl (up rfl (up rfl (up rfl (up rfl (up rfl (up rfl (up rfl (up rfl (up rfl (up rfl (up rfl (up rfl (up rfl hs7)))))))))))))), up rfl (up rfl (up rfl (up rfl (up rfl (up rfl (up rfl (up rfl (up rfl (up rfl (up rfl (up rfl (up rfl (up rfl (up rfl hs8)))))))))))))), up rfl (up rfl (up rfl (up rfl (up rfl (up rfl (up rfl (up rfl (up rfl (up rfl (up rfl (up rfl (up rfl (up rfl (up rfl hs18)))))))))))))), (bool_eq (a := (termT i t (ts es) k) == u) tp (by simp only [hg1, hg2, Bool.true_and, Bool.false_and, Bool.true_or, Bool.false_or]))⟩
      · have hg2_ := hg2
        try simp only [decide_eq_true_eq, decide_eq_false_iff_not, Bool.and_eq_true, Bool.or_eq_true, Bool.and_eq_false_iff, Bool.or_eq_false_iff, Bool.not_eq_true', Bool.not_eq_false', beq_iff_eq, beq_eq_false_iff_ne, bne_iff_ne, bne_eq_false_iff_eq, ne_eq, Int.not_lt, Int.not_le, gt_iff_lt, ge_iff_le] at hg2_
        refine RW.pass (by exact Wd.no (x := 34) (b := false) rfl (AF_ev rfl (Eq.trans tp (congrArg Value.bool hg2))) rfl) ?_
        refine RW.pass (by exact Wd.no (x := 34) (b := false) rfl (AF_ev rfl (up rfl (Eq.trans tp (congrArg Value.bool hg2)))) rfl) ?_
        refine RW.pass (by exact Wd.no (x := 34) (b := false) rfl (AF_ev rfl (up rfl (up rfl (Eq.trans tp (congrArg Value.bool hg2))))) rfl) ?_
        refine RW.soft (by exact Wd.yes (x := 31) rfl (AF_ev rfl (up rfl (up rfl (up rfl (up rfl (up rfl (up rfl (Eq.trans tp (congrArg Value.bool hg1)))))))))) (v := .bool false) (by exact E.pickF (AF_ev rfl (up rfl (up rfl (up rfl (Eq.trans tp (congrArg Value.bool hg2)))))) rfl) ?_
        refine RW.soft Wd.a (v := .bool false) (by exact E.pickF (AF_ev rfl (up rfl (up rfl (up rfl (up rfl (up rfl (up rfl (up rfl (Eq.trans tp (congrArg Value.bool hg1)))))))))) (AF_ev rfl tp)) ?_
        refine RW.nil ⟨rfl, rfl, up rfl (up rfl (up rfl (up rfl (up rfl (up rfl (up rfl (up rfl (up rfl (up rfl (up rfl (up rfl (up rfl (up rfl (up rfl hs0)))))))))))))), up rfl (up rfl (up rfl (up rfl (up rfl (up rfl (up rfl (up rfl (up rfl (up rfl (up rfl (up rfl (up rfl (up rfl (up rfl hs1)))))))))))))), up rfl (up rfl (up rfl (up rfl (up rfl (up rfl (up rfl (up rfl (up rfl (up rfl (up rfl (up rfl (up rfl (up rfl (up rfl hs2)))))))))))))), up rfl (up rfl (up rfl (up rfl (up rfl (up rfl (up rfl (up rfl (up rfl (up rfl (up rfl (up rfl (up rfl (up rfl (up rfl hs6)))))))))))))), up rfl (up rfl (up rfl (up rfl (up rfl (up rfl (up rfl (up rfl (up rfl (up rfl (up rfl (up rfl (up rfl (up rfl (up rfl hs7)))))))))))))), up rfl (up rfl (up rfl (up rfl (up rfl (up rfl (up rfl (up rfl (up rfl (up rfl (up rfl (up rfl (up rfl (up rfl (up rfl hs8)))))))))))))), up rfl (up rfl (up rfl (up rfl (up rfl (up rfl (up rfl (up rfl (up rfl (up rfl (up rfl (up rfl (up rfl (up rfl (up rfl hs18)))))))))))))), (bool_eq (a := false) tp (by simp only [hg1, hg2, Bool.true_and, Bool.false_and, Bool.true_or, Bool.false_or]))⟩
  rintro τ ⟨hs0, hs1, hs2, hs6, hs7, hs8, hs18, hs39⟩
  refine CW.cond (AF_ev rfl hs39) (fun hc3 => ?_) (fun hc3 => ?_)
  · have hc3_ := hc3
    try simp only [decide_eq_true_eq, decide_eq_false_iff_not, Bool.and_eq_true, Bool.or_eq_true, Bool.and_eq_false_iff, Bool.or_eq_false_iff, Bool.not_eq_true', Bool.not_eq_false', beq_iff_eq, beq_eq_false_iff_ne, bne_iff_ne, bne_eq_false_iff_eq, ne_eq, Int.not_lt, Int.not_le, gt_iff_lt, ge_iff_le] at hc3_
    have hkp : keepB i t (ts es) k u = true := hc3
    have hkr := keep_range hkp
    rw [ts_len] at hkr
    refine Or.elim (Bool.eq_false_or_eq_true (decide (0 < es.length))) (fun hne => ?_) (fun hne => ?_)
    · skip
      have htl := ts_len es
      have hnc := St_nilcap (hst.take (.there .here))
      have hne_ := of_decide_eq_true hne
      obtain ⟨g, rfl⟩ := hX (by omega)
      obtain ⟨off, hoff⟩ : ∃ z, z = if (k - i).toNat = c then 0 else 0 + (k - i).toNat * 4 := ⟨_, rfl⟩
      refine CW.regionD [0, 1, 2, 3, 4, 5, 6, 7, 8, 9, 10, 11] (fun w => w.cell? ⟨b, 2, none⟩ = some (.slice (some ⟨g, 0, none⟩) es.length c) ∧ w.cell? ⟨b, 0, none⟩ = some (.int .i64 i)) mixed ?_
      have hst := hst.drew
      generalize w.drew = w at hst ⊢
      have hS : w.cell? ⟨b, 2, none⟩ = some (.slice (some ⟨g, 0, none⟩) es.length c) ∧ w.cell? ⟨b, 0, none⟩ = some (.int .i64 i) := ⟨hst.cell .here rfl, hst.cell .here rfl⟩
      refine RD.take 0 rfl (by kernel_rfl) Wd.a (v := .pointer (some ⟨b, 0, none⟩)) (fun w hS => by exact E.move (AF_ev rfl hs0)) hS ?_
      refine RD.take 1 rfl (by kernel_rfl) Wd.a (v := .pointer (some ⟨b, 0, none⟩)) (fun w hS => by exact E.move (AF_ev rfl (up rfl hs0))) hS ?_
      refine RD.take 2 rfl (by kernel_rfl) Wd.a (v := .pointer (some ⟨b, 0, none⟩)) (fun w hS => by exact E.nilCheck (a := ⟨b, 0, none⟩) (AF_ev rfl tp)) hS ?_
      refine RD.take 3 rfl (by kernel_rfl) Wd.a (v := .pointer (some ⟨b, 2, none⟩)) (fun w hS => by exact E.fieldAddr (b := b) (o := 0) (f := { name := "l", type := 44, offset := 2, embedded := false, tag := "", pkgPath := "strongroom/entries", byteOffset := 16 }) (AF_ev rfl tp) Try.underlying122 rfl sz44 rfl) hS ?_
      refine RD.take 4 rfl (by kernel_rfl) Wd.a (v := .slice (some ⟨g, 0, none⟩) es.length c) (fun w hS => by exact E.load (a := ⟨b, 2, none⟩) Try.underlying44 rfl (AF_ev rfl tp) hS.1) hS ?_
      refine RD.take 5 rfl (by kernel_rfl) Wd.a (v := .int .i64 k) (fun w hS => by exact E.move (AF_ev rfl (up rfl (up rfl (up rfl (up rfl (up rfl hs1))))))) hS ?_
      refine RD.take 6 rfl (by kernel_rfl) Wd.a (v := .pointer (some ⟨b, 0, none⟩)) (fun w hS => by exact E.move (AF_ev rfl (up rfl (up rfl (up rfl (up rfl (up rfl (up rfl hs0)))))))) hS ?_
      refine RD.take 7 rfl (by kernel_rfl) Wd.a (v := .pointer (some ⟨b, 0, none⟩)) (fun w hS => by exact E.nilCheck (a := ⟨b, 0, none⟩) (AF_ev rfl tp)) hS ?_
      refine RD.take 8 rfl (by kernel_rfl) Wd.a (v := .pointer (some ⟨b, 0, none⟩)) (fun w hS => by exact E.fieldAddr (b := b) (o := 0) (f := { name := "index", type := 3, offset := 0, embedded := false, tag := "", pkgPath := "strongroom/entries", byteOffset := 0 }) (AF_ev rfl tp) Try.underlying122 rfl sz3 rfl) hS ?_
      refine RD.take 9 rfl (by kernel_rfl) Wd.a (v := .int .i64 i) (fun w hS => by exact E.load (a := ⟨b, 0, none⟩) Try.underlying3 rfl (AF_ev rfl tp) hS.2) hS ?_
      refine RD.take 10 rfl (by kernel_rfl) Wd.a (v := .int .i64 (k - i)) (fun w hS => by exact E.sub (k := .i64) (a := k) (b := i) (AF_ev rfl (up rfl (up rfl (up rfl (up rfl tp))))) (AF_ev rfl tp) (show IntKind.i64.wrap (k - i) = k - i from (by rw [IntWalk.i64_in _ (by omega)]))) hS ?_
      refine RD.take 11 rfl (by kernel_rfl) Wd.a (v := .slice (some ⟨g, off, none⟩) ((es.drop (k - i).toNat).length) (c - (k - i).toNat)) (fun w hS => by exact E.slice (i := (k - i).toNat) (j := es.length) Try.underlying44 sz58 (AF_ev rfl (up rfl (up rfl (up rfl (up rfl (up rfl (up rfl tp))))))) (int_eq (a := k - i) (AF_ev rfl tp) (by omega)) rfl (by omega) (by omega) (by rw [hoff, List.length_drop])) hS ?_
      refine RD.only 12 rfl (by kernel_rfl) Wd.a ?_
      have hst := hst.take (.there .here)
      refine H.call0 Try.func67 nm67 rfl (map1 (AF_ev rfl tp)) (Calls.mono (clone_ents (A := Own 58 4 (.slice (some ⟨g, 0, none⟩) es.length c) es.length (flat es)) (fun w H s => by have q := (Own.src s).lower (k := (k - i).toNat) (by omega); rw [flat_drop, ← hoff, ← List.length_drop] at q; exact q) (flat_one _) (by rw [List.length_drop]; omega) hst) ?_)
      rintro _ w ⟨vX4, rfl, hnX4, hst⟩
      obtain ⟨X4, c5, rfl, hcX4, hmX4, hlX4, hbX4⟩ := hst.shape
      refine ⟨_, rfl, ?_⟩
      have hS : w.cell? ⟨b, 2, none⟩ = some (.slice (some ⟨g, 0, none⟩) es.length c) ∧ w.cell? ⟨b, 0, none⟩ = some (.int .i64 i) := ⟨hst.cell (.there (.there .here)) rfl, hst.cell (.there (.there .here)) rfl⟩
      refine ⟨fun _ => hS, ?_⟩
      refine RD.only 13 rfl (by kernel_rfl) Wd.a (Hd.value (v := .pointer (some ⟨b, 0, none⟩)) (by exact E.nilCheck (a := ⟨b, 0, none⟩) (AF_ev rfl (up rfl (up rfl (up rfl (up rfl (up rfl (up rfl (up rfl (up rfl (up rfl (up rfl (up rfl (up rfl tp)))))))))))))) ⟨fun h => Bool.noConfusion ((show needs _ _ _ = false by kernel_rfl).symm.trans h), ?_⟩)
      refine RD.only 14 rfl (by kernel_rfl) Wd.a (Hd.value (v := .pointer (some ⟨b, 2, none⟩)) (by exact E.fieldAddr (b := b) (o := 0) (f := { name := "l", type := 44, offset := 2, embedded := false, tag := "", pkgPath := "strongroom/entries", byteOffset := 16 }) (AF_ev rfl tp) Try.underlying122 rfl sz44 rfl) ⟨fun h => Bool.noConfusion ((show needs _ _ _ = false by kernel_rfl).symm.trans h), ?_⟩)
      refine RD.only 15 rfl (by kernel_rfl) Wd.a ?_
      refine H.store (b := b) (o := 2) (v := .slice X4 ((es.drop (k - i).toNat).length) c5) (c' := #[.int .i64 i, .int .i64 t, .slice X4 ((es.drop (k - i).toNat).length) c5]) (AF_ev rfl tp) (AF_ev rfl (up rfl (up rfl tp))) hst (.there (.there .here)) sz44 (by simp [Value.cells]) (by simp [Value.cells, Value.oneCell']) rfl fun w hst => ?_
      refine ⟨fun h => Bool.noConfusion ((show needs _ _ _ = false by kernel_rfl).symm.trans h), ?_⟩
      refine RD.fin (by kernel_rfl) (fun τ => τ 0 = .pointer (some ⟨b, 0, none⟩) ∧ τ 1 = .int .i64 k ∧ τ 2 = .int .i64 u ∧ τ 6 = .int .i64 0 ∧ τ 7 = .int .i64 (termT i t (ts es) k) ∧ τ 8 = .int .i64 (termE i (ts es) k) ∧ τ 18 = .bool false ∧ τ 39 = .bool true) ⟨u0 (up rfl (up rfl (up rfl (up rfl (up rfl (up rfl (up rfl (up rfl (up rfl (up rfl (up rfl (up rfl (up rfl (up rfl (up rfl hs0))))))))))))))), u0 (up rfl (up rfl (up rfl (up rfl (up rfl (up rfl (up rfl (up rfl (up rfl (up rfl (up rfl (up rfl (up rfl (up rfl (up rfl hs1))))))))))))))), u0 (up rfl (up rfl (up rfl (up rfl (up rfl (up rfl (up rfl (up rfl (up rfl (up rfl (up rfl (up rfl (up rfl (up rfl (up rfl hs2))))))))))))))), u0 (up rfl (up rfl (up rfl (up rfl (up rfl (up rfl (up rfl (up rfl (up rfl (up rfl (up rfl (up rfl (up rfl (up rfl (up rfl hs6))))))))))))))), u0 (up rfl (up rfl (up rfl (up rfl (up rfl (up rfl (up rfl (up rfl (up rfl (up rfl (up rfl (up rfl (up rfl (up rfl (up rfl hs7))))))))))))))), u0 (up rfl (up rfl (up rfl (up rfl (up rfl (up rfl (up rfl (up rfl (up rfl (up rfl (up rfl (up rfl (up rfl (up rfl (up rfl hs8))))))))))))))), u0 (up rfl (up rfl (up rfl (up rfl (up rfl (up rfl (up rfl (up rfl (up rfl (up rfl (up rfl (up rfl (up rfl (up rfl (up rfl hs18))))))))))))))), u0 (up rfl (up rfl (up rfl (up rfl (up rfl (up rfl (up rfl (up rfl (up rfl (up rfl (up rfl (up rfl (up rfl (up rfl (up rfl (Eq.trans hs39 (congrArg Value.bool hc3)))))))))))))))))⟩ ?_
      rintro τ ⟨hs0, hs1, hs2, hs6, hs7, hs8, hs18, hs39⟩
      refine CW.seq ?_
      refine CW.region ?_
      refine RW.soft Wd.a (v := .pointer (some ⟨b, 0, none⟩)) (by exact E.move (AF_ev rfl hs0)) ?_
      refine RW.soft Wd.a (v := .pointer (some ⟨b, 0, none⟩)) (by exact E.move (AF_ev rfl (up rfl hs0))) ?_
      refine RW.soft Wd.a (v := .int .i64 k) (by exact E.move (AF_ev rfl (up rfl (up rfl hs1)))) ?_
      refine RW.soft Wd.a (v := .int .i64 u) (by exact E.move (AF_ev rfl (up rfl (up rfl (up rfl hs2))))) ?_
      refine RW.soft Wd.a (v := .pointer (some ⟨b, 0, none⟩)) (by exact E.nilCheck (a := ⟨b, 0, none⟩) (AF_ev rfl (up rfl (up rfl (up rfl tp))))) ?_
      refine RW.soft Wd.a (v := .pointer (some ⟨b, 0, none⟩)) (by exact E.fieldAddr (b := b) (o := 0) (f := { name := "index", type := 3, offset := 0, embedded := false, tag := "", pkgPath := "strongroom/entries", byteOffset := 0 }) (AF_ev rfl tp) Try.underlying122 rfl sz3 rfl) ?_
      refine RW.hard Wd.a ?_
      refine H.store (b := b) (o := 0) (v := .int .i64 k) (c' := #[.int .i64 k, .int .i64 t, .slice X4 ((es.drop (k - i).toNat).length) c5]) (AF_ev rfl tp) (AF_ev rfl (up rfl (up rfl (up rfl tp)))) hst (.there (.there .here)) sz3 (by simp [Value.cells]) (by simp [Value.cells, Value.oneCell']) rfl fun w hst => ?_
      refine RW.soft Wd.a (v := .pointer (some ⟨b, 0, none⟩)) (by exact E.nilCheck (a := ⟨b, 0, none⟩) (AF_ev rfl (u0 (up rfl (up rfl (up rfl (up rfl tp))))))) ?_
      refine RW.soft Wd.a (v := .pointer (some ⟨b, 1, none⟩)) (by exact E.fieldAddr (b := b) (o := 0) (f := { name := "term", type := 3, offset := 1, embedded := false, tag := "", pkgPath := "strongroom/entries", byteOffset := 8 }) (AF_ev rfl tp) Try.underlying122 rfl sz3 rfl) ?_
      refine RW.hard Wd.a ?_
      refine H.store (b := b) (o := 1) (v := .int .i64 u) (c' := #[.int .i64 k, .int .i64 u, .slice X4 ((es.drop (k - i).toNat).length) c5]) (AF_ev rfl tp) (AF_ev rfl (up rfl (up rfl (u0 (up rfl (up rfl tp)))))) hst (.there (.there .here)) sz3 (by simp [Value.cells]) (by simp [Value.cells, Value.oneCell']) rfl fun w hst => ?_
      refine RW.fin (fun τ => τ 0 = .pointer (some ⟨b, 0, none⟩) ∧ τ 1 = .int .i64 k ∧ τ 2 = .int .i64 u ∧ τ 6 = .int .i64 0 ∧ τ 7 = .int .i64 (termT i t (ts es) k) ∧ τ 8 = .int .i64 (termE i (ts es) k) ∧ τ 18 = .bool false ∧ τ 39 = .bool true) ⟨u0 (up rfl (up rfl (u0 (up rfl (up rfl (up rfl (up rfl (up rfl (up rfl hs0))))))))), u0 (up rfl (up rfl (u0 (up rfl (up rfl (up rfl (up rfl (up rfl (up rfl hs1))))))))), u0 (up rfl (up rfl (u0 (up rfl (up rfl (up rfl (up rfl (up rfl (up rfl hs2))))))))), u0 (up rfl (up rfl (u0 (up rfl (up rfl (up rfl (up rfl (up rfl (up rfl hs6))))))))), u0 (up rfl (up rfl (u0 (up rfl (up rfl (up rfl (up rfl (up rfl (up rfl hs7))))))))), u0 (up rfl (up rfl (u0 (up rfl (up rfl (up rfl (up rfl (up rfl (up rfl hs8))))))))), u0 (up rfl (up rfl (u0 (up rfl (up rfl (up rfl (up rfl (up rfl (up rfl hs18))))))))), u0 (up rfl (up rfl (u0 (up rfl (up rfl (up rfl (up rfl (up rfl (up rfl hs39)))))))))⟩ ?_
      rintro τ ⟨hs0, hs1, hs2, hs6, hs7, hs8, hs18, hs39⟩
      refine CW.seq ?_
      refine CW.region ?_
      refine RW.soft Wd.a (v := .int .i64 0) (by exact E.assign rfl) ?_
      refine RW.fin (fun τ => τ 0 = .pointer (some ⟨b, 0, none⟩) ∧ τ 1 = .int .i64 k ∧ τ 2 = .int .i64 u ∧ τ 6 = .int .i64 0 ∧ τ 7 = .int .i64 (termT i t (ts es) k) ∧ τ 8 = .int .i64 (termE i (ts es) k) ∧ τ 18 = .bool false ∧ τ 39 = .bool true) ⟨up rfl hs0, up rfl hs1, up rfl hs2, tp, up rfl hs7, up rfl hs8, up rfl hs18, up rfl hs39⟩ ?_
      rintro τ ⟨hs0, hs1, hs2, hs6, hs7, hs8, hs18, hs39⟩
      refine CW.ret ?_
      refine ret1 (v := .int .i64 0) rfl (by exact (.tmp (AF_ev rfl hs6) .nil)) ?_
      have hst := hst.take (.there (.there .here))
      have hst := (hst.take (.there (.there .here))).drop
      refine ⟨rfl, ?_⟩
      rw [hkp, if_pos rfl]
      exact logClose (by omega) (by rw [List.length_drop]; omega) (hE.drop _) hst
    · skip
      have htl := ts_len es
      have hnc := St_nilcap (hst.take (.there .here))
      have hne_ := of_decide_eq_false hne
      refine CW.regionD [0, 1, 2, 3, 4, 5, 6, 7, 8, 9, 10, 11] (fun w => w.cell? ⟨b, 2, none⟩ = some (.slice X es.length c) ∧ w.cell? ⟨b, 0, none⟩ = some (.int .i64 i)) mixed ?_
      have hst := hst.drew
      generalize w.drew = w at hst ⊢
      have hS : w.cell? ⟨b, 2, none⟩ = some (.slice X es.length c) ∧ w.cell? ⟨b, 0, none⟩ = some (.int .i64 i) := ⟨hst.cell .here rfl, hst.cell .here rfl⟩
      refine RD.take 0 rfl (by kernel_rfl) Wd.a (v := .pointer (some ⟨b, 0, none⟩)) (fun w hS => by exact E.move (AF_ev rfl hs0)) hS ?_
      refine RD.take 1 rfl (by kernel_rfl) Wd.a (v := .pointer (some ⟨b, 0, none⟩)) (fun w hS => by exact E.move (AF_ev rfl (up rfl hs0))) hS ?_
      refine RD.take 2 rfl (by kernel_rfl) Wd.a (v := .pointer (some ⟨b, 0, none⟩)) (fun w hS => by exact E.nilCheck (a := ⟨b, 0, none⟩) (AF_ev rfl tp)) hS ?_
      refine RD.take 3 rfl (by kernel_rfl) Wd.a (v := .pointer (some ⟨b, 2, none⟩)) (fun w hS => by exact E.fieldAddr (b := b) (o := 0) (f := { name := "l", type := 44, offset := 2, embedded := false, tag := "", pkgPath := "strongroom/entries", byteOffset := 16 }) (AF_ev rfl tp) Try.underlying122 rfl sz44 rfl) hS ?_
      refine RD.take 4 rfl (by kernel_rfl) Wd.a (v := .slice X es.length c) (fun w hS => by exact E.load (a := ⟨b, 2, none⟩) Try.underlying44 rfl (AF_ev rfl tp) hS.1) hS ?_
      refine RD.take 5 rfl (by kernel_rfl) Wd.a (v := .int .i64 k) (fun w hS => by exact E.move (AF_ev rfl (up rfl (up rfl (up rfl (up rfl (up rfl hs1))))))) hS ?_
      refine RD.take 6 rfl (by kernel_rfl) Wd.a (v := .pointer (some ⟨b, 0, none⟩)) (fun w hS => by exact E.move (AF_ev rfl (up rfl (up rfl (up rfl (up rfl (up rfl (up rfl hs0)))))))) hS ?_
      refine RD.take 7 rfl (by kernel_rfl) Wd.a (v := .pointer (some ⟨b, 0, none⟩)) (fun w hS => by exact E.nilCheck (a := ⟨b, 0, none⟩) (AF_ev rfl tp)) hS ?_
      refine RD.take 8 rfl (by kernel_rfl) Wd.a (v := .pointer (some ⟨b, 0, none⟩)) (fun w hS => by exact E.fieldAddr (b := b) (o := 0) (f := { name := "index", type := 3, offset := 0, embedded := false, tag := "", pkgPath := "strongroom/entries", byteOffset := 0 }) (AF_ev rfl tp) Try.underlying122 rfl sz3 rfl) hS ?_
      refine RD.take 9 rfl (by kernel_rfl) Wd.a (v := .int .i64 i) (fun w hS => by exact E.load (a := ⟨b, 0, none⟩) Try.underlying3 rfl (AF_ev rfl tp) hS.2) hS ?_
      refine RD.take 10 rfl (by kernel_rfl) Wd.a (v := .int .i64 (k - i)) (fun w hS => by exact E.sub (k := .i64) (a := k) (b := i) (AF_ev rfl (up rfl (up rfl (up rfl (up rfl tp))))) (AF_ev rfl tp) (show IntKind.i64.wrap (k - i) = k - i from (by rw [IntWalk.i64_in _ (by omega)]))) hS ?_
      refine RD.take 11 rfl (by kernel_rfl) Wd.a (v := .slice X es.length c) (fun w hS => by exact E_slice0 (X := X) (l := es.length) (c := c) Try.underlying44 sz58 (AF_ev rfl (up rfl (up rfl (up rfl (up rfl (up rfl (up rfl tp))))))) (int_eq (a := k - i) (AF_ev rfl tp) (by omega)) (by omega) hnc) hS ?_
      refine RD.only 12 rfl (by kernel_rfl) Wd.a ?_
      have hst := hst.take (.there .here)
      refine H.call0 Try.func67 nm67 rfl (map1 (AF_ev rfl tp)) (Calls.mono (clone_ents (fun w H s => Own.src s) (flat_one _) (by omega) hst) ?_)
      rintro _ w ⟨vX6, rfl, hnX6, hst⟩
      obtain ⟨X6, c7, rfl, hcX6, hmX6, hlX6, hbX6⟩ := hst.shape
      refine ⟨_, rfl, ?_⟩
      have hS : w.cell? ⟨b, 2, none⟩ = some (.slice X es.length c) ∧ w.cell? ⟨b, 0, none⟩ = some (.int .i64 i) := ⟨hst.cell (.there (.there .here)) rfl, hst.cell (.there (.there .here)) rfl⟩
      refine ⟨fun _ => hS, ?_⟩
      refine RD.only 13 rfl (by kernel_rfl) Wd.a (Hd.value (v := .pointer (some ⟨b, 0, none⟩)) (by exact E.nilCheck (a := ⟨b, 0, none⟩) (AF_ev rfl (up rfl (up rfl (up rfl (up rfl (up rfl (up rfl (up rfl (up rfl (up rfl (up rfl (up rfl (up rfl tp)))))))))))))) ⟨fun h => Bool.noConfusion ((show needs _ _ _ = false by kernel_rfl).symm.trans h), ?_⟩)
      refine RD.only 14 rfl (by kernel_rfl) Wd.a (Hd.value (v := .pointer (some ⟨b, 2, none⟩)) (by exact E.fieldAddr (b := b) (o := 0) (f := { name := "l", type := 44, offset := 2, embedded := false, tag := "", pkgPath := "strongroom/entries", byteOffset := 16 }) (AF_ev rfl tp) Try.underlying122 rfl sz44 rfl) ⟨fun h => Bool.noConfusion ((show needs _ _ _ = false by kernel_rfl).symm.trans h), ?_⟩)
      refine RD.only 15 rfl (by kernel_rfl) Wd.a ?_
      refine H.store (b := b) (o := 2) (v := .slice X6 es.length c7) (c' := #[.int .i64 i, .int .i64 t, .slice X6 es.length c7]) (AF_ev rfl tp) (AF_ev rfl (up rfl (up rfl tp))) hst (.there (.there .here)) sz44 (by simp [Value.cells]) (by simp [Value.cells, Value.oneCell']) rfl fun w hst => ?_
      refine ⟨fun h => Bool.noConfusion ((show needs _ _ _ = false by kernel_rfl).symm.trans h), ?_⟩
      refine RD.fin (by kernel_rfl) (fun τ => τ 0 = .pointer (some ⟨b, 0, none⟩) ∧ τ 1 = .int .i64 k ∧ τ 2 = .int .i64 u ∧ τ 6 = .int .i64 0 ∧ τ 7 = .int .i64 (termT i t (ts es) k) ∧ τ 8 = .int .i64 (termE i (ts es) k) ∧ τ 18 = .bool false ∧ τ 39 = .bool true) ⟨u0 (up rfl (up rfl (up rfl (up rfl (up rfl (up rfl (up rfl (up rfl (up rfl (up rfl (up rfl (up rfl (up rfl (up rfl (up rfl hs0))))))))))))))), u0 (up rfl (up rfl (up rfl (up rfl (up rfl (up rfl (up rfl (up rfl (up rfl (up rfl (up rfl (up rfl (up rfl (up rfl (up rfl hs1))))))))))))))), u0 (up rfl (up rfl (up rfl (up rfl (up rfl (up rfl (up rfl (up rfl (up rfl (up rfl (up rfl (up rfl (up rfl (up rfl (up rfl hs2))))))))))))))), u0 (up rfl (up rfl (up rfl (up rfl (up rfl (up rfl (up rfl (up rfl (up rfl (up rfl (up rfl (up rfl (up rfl (up rfl (up rfl hs6))))))))))))))), u0 (up rfl (up rfl (up rfl (up rfl (up rfl (up rfl (up rfl (up rfl (up rfl (up rfl (up rfl (up rfl (up rfl (up rfl (up rfl hs7))))))))))))))), u0 (up rfl (up rfl (up rfl (up rfl (up rfl (up rfl (up rfl (up rfl (up rfl (up rfl (up rfl (up rfl (up rfl (up rfl (up rfl hs8))))))))))))))), u0 (up rfl (up rfl (up rfl (up rfl (up rfl (up rfl (up rfl (up rfl (up rfl (up rfl (up rfl (up rfl (up rfl (up rfl (up rfl hs18))))))))))))))), u0 (up rfl (up rfl (up rfl (up rfl (up rfl (up rfl (up rfl (up rfl (up rfl (up rfl (up rfl (up rfl (up rfl (up rfl (up rfl (Eq.trans hs39 (congrArg Value.bool hc3)))))))))))))))))⟩ ?_
      rintro τ ⟨hs0, hs1, hs2, hs6, hs7, hs8, hs18, hs39⟩
      refine CW.seq ?_
      refine CW.region ?_
      refine RW.soft Wd.a (v := .pointer (some ⟨b, 0, none⟩)) (by exact E.move (AF_ev rfl hs0)) ?_
      refine RW.soft Wd.a (v := .pointer (some ⟨b, 0, none⟩)) (by exact E.move (AF_ev rfl (up rfl hs0))) ?_
      refine RW.soft Wd.a (v := .int .i64 k) (by exact E.move (AF_ev rfl (up rfl (up rfl hs1)))) ?_
      refine RW.soft Wd.a (v := .int .i64 u) (by exact E.move (AF_ev rfl (up rfl (up rfl (up rfl hs2))))) ?_
      refine RW.soft Wd.a (v := .pointer (some ⟨b, 0, none⟩)) (by exact E.nilCheck (a := ⟨b, 0, none⟩) (AF_ev rfl (up rfl (up rfl (up rfl tp))))) ?_
      refine RW.soft Wd.a (v := .pointer (some ⟨b, 0, none⟩)) (by exact E.fieldAddr (b := b) (o := 0) (f := { name := "index", type := 3, offset := 0, embedded := false, tag := "", pkgPath := "strongroom/entries", byteOffset := 0 }) (AF_ev rfl tp) Try.underlying122 rfl sz3 rfl) ?_
      refine RW.hard Wd.a ?_
      refine H.store (b := b) (o := 0) (v := .int .i64 k) (c' := #[.int .i64 k, .int .i64 t, .slice X6 es.length c7]) (AF_ev rfl tp) (AF_ev rfl (up rfl (up rfl (up rfl tp)))) hst (.there (.there .here)) sz3 (by simp [Value.cells]) (by simp [Value.cells, Value.oneCell']) rfl fun w hst => ?_
      refine RW.soft Wd.a (v := .pointer (some ⟨b, 0, none⟩)) (by exact E.nilCheck (a := ⟨b, 0, none⟩) (AF_ev rfl (u0 (up rfl (up rfl (up rfl (up rfl tp))))))) ?_
      refine RW.soft Wd.a (v := .pointer (some ⟨b, 1, none⟩)) (by exact E.fieldAddr (b := b) (o := 0) (f := { name := "term", type := 3, offset := 1, embedded := false, tag := "", pkgPath := "strongroom/entries", byteOffset := 8 }) (AF_ev rfl tp) Try.underlying122 rfl sz3 rfl) ?_
      refine RW.hard Wd.a ?_
      refine H.store (b := b) (o := 1) (v := .int .i64 u) (c' := #[.int .i64 k, .int .i64 u, .slice X6 es.length c7]) (AF_ev rfl tp) (AF_ev rfl (up rfl (up rfl (u0 (up rfl (up rfl tp)))))) hst (.there (.there .here)) sz3 (by simp [Value.cells]) (by simp [Value.cells, Value.oneCell']) rfl fun w hst => ?_
      refine RW.fin (fun τ => τ 0 = .pointer (some ⟨b, 0, none⟩) ∧ τ 1 = .int .i64 k ∧ τ 2 = .int .i64 u ∧ τ 6 = .int .i64 0 ∧ τ 7 = .int .i64 (termT i t (ts es) k) ∧ τ 8 = .int .i64 (termE i (ts es) k) ∧ τ 18 = .bool false ∧ τ 39 = .bool true) ⟨u0 (up rfl (up rfl (u0 (up rfl (up rfl (up rfl (up rfl (up rfl (up rfl hs0))))))))), u0 (up rfl (up rfl (u0 (up rfl (up rfl (up rfl (up rfl (up rfl (up rfl hs1))))))))), u0 (up rfl (up rfl (u0 (up rfl (up rfl (up rfl (up rfl (up rfl (up rfl hs2))))))))), u0 (up rfl (up rfl (u0 (up rfl (up rfl (up rfl (up rfl (up rfl (up rfl hs6))))))))), u0 (up rfl (up rfl (u0 (up rfl (up rfl (up rfl (up rfl (up rfl (up rfl hs7))))))))), u0 (up rfl (up rfl (u0 (up rfl (up rfl (up rfl (up rfl (up rfl (up rfl hs8))))))))), u0 (up rfl (up rfl (u0 (up rfl (up rfl (up rfl (up rfl (up rfl (up rfl hs18))))))))), u0 (up rfl (up rfl (u0 (up rfl (up rfl (up rfl (up rfl (up rfl (up rfl hs39)))))))))⟩ ?_
      rintro τ ⟨hs0, hs1, hs2, hs6, hs7, hs8, hs18, hs39⟩
      refine CW.seq ?_
      refine CW.region ?_
      refine RW.soft Wd.a (v := .int .i64 0) (by exact E.assign rfl) ?_
      refine RW.fin (fun τ => τ 0 = .pointer (some ⟨b, 0, none⟩) ∧ τ 1 = .int .i64 k ∧ τ 2 = .int .i64 u ∧ τ 6 = .int .i64 0 ∧ τ 7 = .int .i64 (termT i t (ts es) k) ∧ τ 8 = .int .i64 (termE i (ts es) k) ∧ τ 18 = .bool false ∧ τ 39 = .bool true) ⟨up rfl hs0, up rfl hs1, up rfl hs2, tp, up rfl hs7, up rfl hs8, up rfl hs18, up rfl hs39⟩ ?_
      rintro τ ⟨hs0, hs1, hs2, hs6, hs7, hs8, hs18, hs39⟩
      refine CW.ret ?_
      refine ret1 (v := .int .i64 0) rfl (by exact (.tmp (AF_ev rfl hs6) .nil)) ?_
      have hst := hst.take (.there (.there .here))
      have hst := (hst.take (.there (.there .here))).drop
      refine ⟨rfl, ?_⟩
      rw [hkp, if_pos rfl, show (k - i).toNat = 0 by omega]
      exact logClose (by omega) hn hE hst
  · have hc3_ := hc3
    try simp only [decide_eq_true_eq, decide_eq_false_iff_not, Bool.and_eq_true, Bool.or_eq_true, Bool.and_eq_false_iff, Bool.or_eq_false_iff, Bool.not_eq_true', Bool.not_eq_false', beq_iff_eq, beq_eq_false_iff_ne, bne_iff_ne, bne_eq_false_iff_eq, ne_eq, Int.not_lt, Int.not_le, gt_iff_lt, ge_iff_le] at hc3_
    have hkp : keepB i t (ts es) k u = false := hc3
    refine CW.region ?_
    refine RW.soft Wd.a (v := .pointer (some ⟨b, 0, none⟩)) (by exact E.move (AF_ev rfl hs0)) ?_
    refine RW.soft Wd.a (v := .pointer (some ⟨b, 0, none⟩)) (by exact E.nilCheck (a := ⟨b, 0, none⟩) (AF_ev rfl tp)) ?_
    refine RW.soft Wd.a (v := .pointer (some ⟨b, 2, none⟩)) (by exact E.fieldAddr (b := b) (o := 0) (f := { name := "l", type := 44, offset := 2, embedded := false, tag := "", pkgPath := "strongroom/entries", byteOffset := 16 }) (AF_ev rfl tp) Try.underlying122 rfl sz44 rfl) ?_
    refine RW.hard Wd.a ?_
    refine H.store (b := b) (o := 2) (v := .slice none 0 0) (c' := #[.int .i64 i, .int .i64 t, .slice none 0 0]) (AF_ev rfl tp) rfl hst .here sz44 (by simp [Value.cells]) (by simp [Value.cells, Value.oneCell']) rfl fun w hst => ?_
    refine RW.fin (fun τ => τ 0 = .pointer (some ⟨b, 0, none⟩) ∧ τ 1 = .int .i64 k ∧ τ 2 = .int .i64 u ∧ τ 6 = .int .i64 0 ∧ τ 7 = .int .i64 (termT i t (ts es) k) ∧ τ 8 = .int .i64 (termE i (ts es) k) ∧ τ 18 = .bool false ∧ τ 39 = .bool false) ⟨u0 (up rfl (up rfl (up rfl hs0))), u0 (up rfl (up rfl (up rfl hs1))), u0 (up rfl (up rfl (up rfl hs2))), u0 (up rfl (up rfl (up rfl hs6))), u0 (up rfl (up rfl (up rfl hs7))), u0 (up rfl (up rfl (up rfl hs8))), u0 (up rfl (up rfl (up rfl hs18))), u0 (up rfl (up rfl (up rfl (Eq.trans hs39 (congrArg Value.bool hc3)))))⟩ ?_
    rintro τ ⟨hs0, hs1, hs2, hs6, hs7, hs8, hs18, hs39⟩
    refine CW.seq ?_
    refine CW.region ?_
    refine RW.soft Wd.a (v := .pointer (some ⟨b, 0, none⟩)) (by exact E.move (AF_ev rfl hs0)) ?_
    refine RW.soft Wd.a (v := .pointer (some ⟨b, 0, none⟩)) (by exact E.move (AF_ev rfl (up rfl hs0))) ?_
    refine RW.soft Wd.a (v := .int .i64 k) (by exact E.move (AF_ev rfl (up rfl (up rfl hs1)))) ?_
    refine RW.soft Wd.a (v := .int .i64 u) (by exact E.move (AF_ev rfl (up rfl (up rfl (up rfl hs2))))) ?_
    refine RW.soft Wd.a (v := .pointer (some ⟨b, 0, none⟩)) (by exact E.nilCheck (a := ⟨b, 0, none⟩) (AF_ev rfl (up rfl (up rfl (up rfl tp))))) ?_
    refine RW.soft Wd.a (v := .pointer (some ⟨b, 0, none⟩)) (by exact E.fieldAddr (b := b) (o := 0) (f := { name := "index", type := 3, offset := 0, embedded := false, tag := "", pkgPath := "strongroom/entries", byteOffset := 0 }) (AF_ev rfl tp) Try.underlying122 rfl sz3 rfl) ?_
    refine RW.hard Wd.a ?_
    refine H.store (b := b) (o := 0) (v := .int .i64 k) (c' := #[.int .i64 k, .int .i64 t, .slice none 0 0]) (AF_ev rfl tp) (AF_ev rfl (up rfl (up rfl (up rfl tp)))) hst .here sz3 (by simp [Value.cells]) (by simp [Value.cells, Value.oneCell']) rfl fun w hst => ?_
    refine RW.soft Wd.a (v := .pointer (some ⟨b, 0, none⟩)) (by exact E.nilCheck (a := ⟨b, 0, none⟩) (AF_ev rfl (u0 (up rfl (up rfl (up rfl (up rfl tp))))))) ?_
    refine RW.soft Wd.a (v := .pointer (some ⟨b, 1, none⟩)) (by exact E.fieldAddr (b := b) (o := 0) (f := { name := "term", type := 3, offset := 1, embedded := false, tag := "", pkgPath := "strongroom/entries", byteOffset := 8 }) (AF_ev rfl tp) Try.underlying122 rfl sz3 rfl) ?_
    refine RW.hard Wd.a ?_
    refine H.store (b := b) (o := 1) (v := .int .i64 u) (c' := #[.int .i64 k, .int .i64 u, .slice none 0 0]) (AF_ev rfl tp) (AF_ev rfl (up rfl (up rfl (u0 (up rfl (up rfl tp)))))) hst .here sz3 (by simp [Value.cells]) (by simp [Value.cells, Value.oneCell']) rfl fun w hst => ?_
    refine RW.fin (fun τ => τ 0 = .pointer (some ⟨b, 0, none⟩) ∧ τ 1 = .int .i64 k ∧ τ 2 = .int .i64 u ∧ τ 6 = .int .i64 0 ∧ τ 7 = .int .i64 (termT i t (ts es) k) ∧ τ 8 = .int .i64 (termE i (ts es) k) ∧ τ 18 = .bool false ∧ τ 39 = .bool false) ⟨u0 (up rfl (up rfl (u0 (up rfl (up rfl (up rfl (up rfl (up rfl (up rfl hs0))))))))), u0 (up rfl (up rfl (u0 (up rfl (up rfl (up rfl (up rfl (up rfl (up rfl hs1))))))))), u0 (up rfl (up rfl (u0 (up rfl (up rfl (up rfl (up rfl (up rfl (up rfl hs2))))))))), u0 (up rfl (up rfl (u0 (up rfl (up rfl (up rfl (up rfl (up rfl (up rfl hs6))))))))), u0 (up rfl (up rfl (u0 (up rfl (up rfl (up rfl (up rfl (up rfl (up rfl hs7))))))))), u0 (up rfl (up rfl (u0 (up rfl (up rfl (up rfl (up rfl (up rfl (up rfl hs8))))))))), u0 (up rfl (up rfl (u0 (up rfl (up rfl (up rfl (up rfl (up rfl (up rfl hs18))))))))), u0 (up rfl (up rfl (u0 (up rfl (up rfl (up rfl (up rfl (up rfl (up rfl hs39)))))))))⟩ ?_
    rintro τ ⟨hs0, hs1, hs2, hs6, hs7, hs8, hs18, hs39⟩
    refine CW.seq ?_
    refine CW.region ?_
    refine RW.soft Wd.a (v := .int .i64 0) (by exact E.assign rfl) ?_
    refine RW.fin (fun τ => τ 0 = .pointer (some ⟨b, 0, none⟩) ∧ τ 1 = .int .i64 k ∧ τ 2 = .int .i64 u ∧ τ 6 = .int .i64 0 ∧ τ 7 = .int .i64 (termT i t (ts es) k) ∧ τ 8 = .int .i64 (termE i (ts es) k) ∧ τ 18 = .bool false ∧ τ 39 = .bool false) ⟨up rfl hs0, up rfl hs1, up rfl hs2, tp, up rfl hs7, up rfl hs8, up rfl hs18, up rfl hs39⟩ ?_
    rintro τ ⟨hs0, hs1, hs2, hs6, hs7, hs8, hs18, hs39⟩
    refine CW.ret ?_
    refine ret1 (v := .int .i64 0) rfl (by exact (.tmp (AF_ev rfl hs6) .nil)) ?_
    have hst := (hst.take (.there .here)).drop
    have hst := (hst.ownNil (e := 58) (sz := 4) none).take (.there .here)
    refine ⟨rfl, ?_⟩
    rw [hkp, if_neg Bool.false_ne_true]
    exact logClose (by omega) (by simp) EsOk.nil hst
end Go.Proofs.Ytdlcjoonhojpfaa
