/- The calls of the package entries, walked through operation by operation. -/
import Derived.Test.YtdlcjoonhojpfaaE0
import Derived.Test.YtdlcjoonhojpfaaT1
import Derived.Test.YtdlcjoonhojpfaaE1
import Derived.Test.YtdlcjoonhojpfaaE2
import Derived.Test.YtdlcjoonhojpfaaE3
import Derived.Test.YtdlcjoonhojpfaaE4
import Derived.Test.YtdlcjoonhojpfaaE5
import Derived.Test.YtdlcjoonhojpfaaE6
import Derived.Test.YtdlcjoonhojpfaaE9
import Derived.Test.YtdlcjoonhojpfaaE10
import Derived.Test.YtdlcjoonhojpfaaE11
import Derived.Test.YtdlcjoonhojpfaaE14
import Derived.Test.YtdlcjoonhojpfaaE15
import Derived.Test.YtdlcjoonhojpfaaE16
import Derived.Test.YtdlcjoonhojpfaaE22
import Derived.Test.YtdlcjoonhojpfaaE23
import Derived.Test.YtdlcjoonhojpfaaE24
import Derived.Test.YtdlcjoonhojpfaaE25
import Derived.Test.YtdlcjoonhojpfaaE26
namespace Go.Proofs.Ytdlcjoonhojpfaa
open Go.RowKit Go.SL Go.E17
attribute [local irreducible] Go.SL.RW Go.SL.CW Go.SL.RD Go.SL.Hd Go.SL.St
set_option linter.unusedVariables false
set_option linter.unusedSimpArgs false



theorem ent_SameL {p : Pers} {w : World} {R : List Assn} {A B : Assn} {Xa Xb : Option Addr} {ca cb : Nat} {es ys : List Ent} (hA : Tells p A 4 (.slice Xa es.length ca) es.length (flat es)) (hB : Tells p B 4 (.slice Xb ys.length cb) ys.length (flat ys)) (hEa : EsOk p es) (hEb : EsOk p ys) (hv : vs es = vs ys) (hl : es.length ≤ 1000000) (hst : St p w (A :: B :: R)) :
    Calls Try.prog 56 #[.slice Xa es.length ca, .slice Xb ys.length cb] w fun e w => e = .returned (.bool true) ∧ St p w (A :: B :: R) := by
  refine enter Try.func56 rfl (by simp) (n := 27) rfl fun τ hτ => ?_
  have hs0 : τ 0 = .slice Xa es.length ca := hτ 0 (by simp)
  have hs1 : τ 1 = .slice Xb ys.length cb := hτ 1 (by simp)
  clear hτ
  refine CW.seq ?_
  refine CW.region ?_
  refine RW.soft Wd.a (v := .bool false) (by exact E.assign rfl) ?_
  refine RW.fin (fun τ => τ 0 = .slice Xa es.length ca ∧ τ 1 = .slice Xb ys.length cb ∧ τ 4 = .bool false) ⟨up rfl hs0, up rfl hs1, tp⟩ ?_
  rintro τ ⟨hs0, hs1, hs4⟩
  refine CW.seq ?_
  refine CW.seq ?_
  refine CW.region ?_
  refine RW.soft Wd.a (v := .slice Xa es.length ca) (by exact E.move (AF_ev rfl hs0)) ?_
  refine RW.soft Wd.a (v := .int .i64 ((es.length : Nat) : Int)) (by exact E.lenS (p := Xa) (l := es.length) (c := ca) Try.underlying44 (AF_ev rfl tp)) ?_
  refine RW.soft Wd.a (v := .slice Xb ys.length cb) (by exact E.move (AF_ev rfl (up rfl (up rfl hs1)))) ?_
  refine RW.soft Wd.a (v := .int .i64 ((ys.length : Nat) : Int)) (by exact E.lenS (p := Xb) (l := ys.length) (c := cb) Try.underlying44 (AF_ev rfl tp)) ?_
  refine RW.soft Wd.a (v := .bool false) (by exact E.b (a := ((es.length : Nat) : Int) != ((ys.length : Nat) : Int)) (E.neq (k := .i64) (a := ((es.length : Nat) : Int)) (b := ((ys.length : Nat) : Int)) (AF_ev rfl (up rfl (up rfl tp))) (AF_ev rfl tp)) (by rw [bne_eq_false_iff_eq]; have := vs_len hv; omega)) ?_
  refine RW.fin (fun τ => τ 0 = .slice Xa es.length ca ∧ τ 1 = .slice Xb ys.length cb ∧ τ 4 = .bool false ∧ τ 10 = .bool false) ⟨up rfl (up rfl (up rfl (up rfl (up rfl hs0)))), up rfl (up rfl (up rfl (up rfl (up rfl hs1)))), up rfl (up rfl (up rfl (up rfl (up rfl hs4)))), tp⟩ ?_
  rintro τ ⟨hs0, hs1, hs4, hs10⟩
  refine CW.condF (AF_ev rfl hs10) ?_
  refine CW.skip ?_
  refine Th.n ?_
  refine CW.seq ?_
  refine CW.seq ?_
  refine CW.region ?_
  refine RW.soft Wd.a (v := .int .i64 0) (by exact E.assign rfl) ?_
  refine RW.fin (fun τ => τ 0 = .slice Xa es.length ca ∧ τ 1 = .slice Xb ys.length cb ∧ τ 4 = .bool false ∧ τ 5 = .int .i64 0 ∧ τ 10 = .bool false) ⟨up rfl hs0, up rfl hs1, up rfl hs4, tp, up rfl hs10⟩ ?_
  rintro τ ⟨hs0, hs1, hs4, hs5, hs10⟩
  refine CW.block ?_
  have hst := hst.take (.there .here)
  have hst := hst.take (.there .here)
  refine CW.loop (fun (k : Nat) (τ : Fr) (w : World) => ∃ (j : Nat), j ≤ es.length ∧ k = es.length - j ∧ τ 0 = .slice Xa es.length ca ∧ τ 1 = .slice Xb ys.length cb ∧ τ 5 = .int .i64 ((j : Nat) : Int) ∧ St p w (A :: B :: R)) (es.length - 0) ⟨0, by omega, rfl, hs0, hs1, (int_eq (a := 0) hs5 (by omega)), hst⟩ ?_
  clear hst
  rintro k τ w ⟨j, hj, hkj, hs0, hs1, hs5, hst⟩
  refine CW.seq ?_
  refine CW.seq ?_
  refine CW.region ?_
  refine RW.soft Wd.a (v := .int .i64 ((j : Nat) : Int)) (by exact E.move (AF_ev rfl hs5)) ?_
  refine RW.soft Wd.a (v := .slice Xa es.length ca) (by exact E.move (AF_ev rfl (up rfl hs0))) ?_
  refine RW.soft Wd.a (v := .int .i64 ((es.length : Nat) : Int)) (by exact E.lenS (p := Xa) (l := es.length) (c := ca) Try.underlying44 (AF_ev rfl tp)) ?_
  refine RW.soft Wd.a (v := .bool (decide (((j : Nat) : Int) < ((es.length : Nat) : Int)))) (by exact E.lss (k := .i64) (a := ((j : Nat) : Int)) (b := ((es.length : Nat) : Int)) (AF_ev rfl (up rfl (up rfl tp))) (AF_ev rfl tp)) ?_
  refine RW.fin (fun τ => τ 0 = .slice Xa es.length ca ∧ τ 1 = .slice Xb ys.length cb ∧ τ 5 = .int .i64 ((j : Nat) : Int) ∧ τ 14 = .bool (decide (((j : Nat) : Int) < ((es.length : Nat) : Int)))) ⟨up rfl (up rfl (up rfl (up rfl hs0))), up rfl (up rfl (up rfl (up rfl hs1))), up rfl (up rfl (up rfl (up rfl hs5))), tp⟩ ?_
  rintro τ ⟨hs0, hs1, hs5, hs14⟩
  refine CW.cond (AF_ev rfl hs14) (fun hc1 => ?_) (fun hc1 => ?_)
  · have hc1_ := hc1
    try simp only [decide_eq_true_eq, decide_eq_false_iff_not, Bool.and_eq_true, Bool.or_eq_true, Bool.and_eq_false_iff, Bool.or_eq_false_iff, Bool.not_eq_true', Bool.not_eq_false', beq_iff_eq, beq_eq_false_iff_ne, bne_iff_ne, bne_eq_false_iff_eq, ne_eq, Int.not_lt, Int.not_le, gt_iff_lt, ge_iff_le] at hc1_
    refine CW.skip ?_
    refine Th.n ?_
    refine CW.seq ?_
    refine CW.block ?_
    refine CW.seq ?_
    have hjl : j < es.length := by omega
    have hlen := vs_len hv
    obtain ⟨ba, oa, rfl, hca⟩ := hA.place (hst.take .here) (by omega)
    obtain ⟨x, hx⟩ : ∃ z, es[j]? = some z := ⟨es[j]'(by omega), List.getElem?_eq_getElem (by omega)⟩
    obtain ⟨bb, ob, rfl, hcb⟩ := hB.place (hst.take (.there .here)) (by omega)
    obtain ⟨z, hz⟩ : ∃ z, ys[j]? = some z := ⟨ys[j]'(by omega), List.getElem?_eq_getElem (by omega)⟩
    have hvz : x.view = z.view := by
      have h1 : (vs es)[j]? = some x.view := by simp [vs, hx]
      rw [hv] at h1; simp only [vs, List.getElem?_map, hz, Option.map_some, Option.some.injEq] at h1; exact h1.symm
    refine CW.regionD [0, 1, 2, 3, 4, 5, 6, 7] (fun w => (∀ j_ v_, (x.enc : List Value)[j_]? = some v_ → w.cell? ⟨ba, oa + j * 4 + j_, none⟩ = some v_) ∧ (∀ j_ v_, (z.enc : List Value)[j_]? = some v_ → w.cell? ⟨bb, ob + j * 4 + j_, none⟩ = some v_)) mixed ?_
    have hst := hst.drew
    generalize w.drew = w at hst ⊢
    have hS : (∀ j_ v_, (x.enc : List Value)[j_]? = some v_ → w.cell? ⟨ba, oa + j * 4 + j_, none⟩ = some v_) ∧ (∀ j_ v_, (z.enc : List Value)[j_]? = some v_ → w.cell? ⟨bb, ob + j * 4 + j_, none⟩ = some v_) := ⟨(fun j_ u hu => by rw [Nat.add_assoc]; exact hca p.le_refl (hst.take .here) _ _ (flat_get Ent.enc_len hx hu)), (fun j_ u hu => by rw [Nat.add_assoc]; exact hcb p.le_refl (hst.take (.there .here)) _ _ (flat_get Ent.enc_len hz hu))⟩
    refine RD.take 0 rfl (by kernel_rfl) Wd.a (v := .slice (some ⟨ba, oa, none⟩) es.length ca) (fun w hS => by exact E.move (AF_ev rfl hs0)) hS ?_
    refine RD.take 1 rfl (by kernel_rfl) Wd.a (v := .int .i64 ((j : Nat) : Int)) (fun w hS => by exact E.move (AF_ev rfl (up rfl hs5))) hS ?_
    refine RD.take 2 rfl (by kernel_rfl) Wd.a (v := .pointer (some ⟨ba, oa + j * 4, none⟩)) (fun w hS => by exact E.indexAddr (b := ba) (o := oa) (l := es.length) (c := ca) (i := ((j : Nat) : Int)) Try.underlying44 sz58 (AF_ev rfl (up rfl tp)) (AF_ev rfl tp) (by omega) (by omega) (by simp)) hS ?_
    refine RD.take 3 rfl (by kernel_rfl) Wd.a (v := .agg #[.int .i64 x.term, .int .i64 x.kind, .slice x.X x.ns.length x.xc, .slice x.Y x.ms.length x.yc]) (fun w hS => by exact E.loadN (b := ba) (o := oa + j * 4) (cs := x.enc) Try.underlying58 rfl sz58 (AF_ev rfl tp) rfl hS.1) hS ?_
    refine RD.take 4 rfl (by kernel_rfl) Wd.a (v := .slice (some ⟨bb, ob, none⟩) ys.length cb) (fun w hS => by exact E.move (AF_ev rfl (up rfl (up rfl (up rfl (up rfl hs1)))))) hS ?_
    refine RD.take 5 rfl (by kernel_rfl) Wd.a (v := .int .i64 ((j : Nat) : Int)) (fun w hS => by exact E.move (AF_ev rfl (up rfl (up rfl (up rfl (up rfl (up rfl hs5))))))) hS ?_
    refine RD.take 6 rfl (by kernel_rfl) Wd.a (v := .pointer (some ⟨bb, ob + j * 4, none⟩)) (fun w hS => by exact E.indexAddr (b := bb) (o := ob) (l := ys.length) (c := cb) (i := ((j : Nat) : Int)) Try.underlying44 sz58 (AF_ev rfl (up rfl tp)) (AF_ev rfl tp) (by omega) (by omega) (by simp)) hS ?_
    refine RD.take 7 rfl (by kernel_rfl) Wd.a (v := .agg #[.int .i64 z.term, .int .i64 z.kind, .slice z.X z.ns.length z.xc, .slice z.Y z.ms.length z.yc]) (fun w hS => by exact E.loadN (b := bb) (o := ob + j * 4) (cs := z.enc) Try.underlying58 rfl sz58 (AF_ev rfl tp) rfl hS.2) hS ?_
    refine RD.only 8 rfl (by kernel_rfl) Wd.a ?_
    refine H.call0 Try.func36 nm36 rfl (map2 (AF_ev rfl (up rfl (up rfl (up rfl (up rfl tp))))) (AF_ev rfl tp)) (Calls.mono (ent_Same (hEa x (List.mem_of_getElem? hx)) (hEb z (List.mem_of_getElem? hz)) hvz hst) ?_)
    rintro _ w ⟨rfl, hst⟩
    refine ⟨_, rfl, ?_⟩
    have hS : (∀ j_ v_, (x.enc : List Value)[j_]? = some v_ → w.cell? ⟨ba, oa + j * 4 + j_, none⟩ = some v_) ∧ (∀ j_ v_, (z.enc : List Value)[j_]? = some v_ → w.cell? ⟨bb, ob + j * 4 + j_, none⟩ = some v_) := ⟨(fun j_ u hu => by rw [Nat.add_assoc]; exact hca p.le_refl (hst.take .here) _ _ (flat_get Ent.enc_len hx hu)), (fun j_ u hu => by rw [Nat.add_assoc]; exact hcb p.le_refl (hst.take (.there .here)) _ _ (flat_get Ent.enc_len hz hu))⟩
    refine ⟨fun _ => hS, ?_⟩
    refine RD.only 9 rfl (by kernel_rfl) Wd.a (Hd.value (v := .bool false) (by exact E.not (b := true) (AF_ev rfl tp)) ⟨fun _ => hS, ?_⟩)
    refine RD.fin (by kernel_rfl) (fun τ => τ 0 = .slice (some ⟨ba, oa, none⟩) es.length ca ∧ τ 1 = .slice (some ⟨bb, ob, none⟩) ys.length cb ∧ τ 5 = .int .i64 ((j : Nat) : Int) ∧ τ 14 = .bool true ∧ τ 26 = .bool false) ⟨up rfl (up rfl (up rfl (up rfl (up rfl (up rfl (up rfl (up rfl (up rfl (up rfl hs0))))))))), up rfl (up rfl (up rfl (up rfl (up rfl (up rfl (up rfl (up rfl (up rfl (up rfl hs1))))))))), up rfl (up rfl (up rfl (up rfl (up rfl (up rfl (up rfl (up rfl (up rfl (up rfl hs5))))))))), up rfl (up rfl (up rfl (up rfl (up rfl (up rfl (up rfl (up rfl (up rfl (up rfl (Eq.trans hs14 (congrArg Value.bool hc1))))))))))), tp⟩ ?_
    rintro τ ⟨hs0, hs1, hs5, hs14, hs26⟩
    refine CW.condF (AF_ev rfl hs26) ?_
    refine CW.skip ?_
    refine Bl.n ?_
    refine Th.n ?_
    refine CW.region ?_
    refine RW.soft Wd.a (v := .int .i64 ((j : Nat) : Int)) (by exact E.move (AF_ev rfl hs5)) ?_
    refine RW.soft Wd.a (v := .int .i64 (((j : Nat) : Int) + 1)) (by exact E.add (k := .i64) (a := ((j : Nat) : Int)) (b := 1) (AF_ev rfl tp) rfl (show IntKind.i64.wrap (((j : Nat) : Int) + 1) = ((j : Nat) : Int) + 1 from (by rw [IntWalk.i64_in _ (by omega)]))) ?_
    refine RW.soft Wd.a (v := .int .i64 (((j : Nat) : Int) + 1)) (by exact E.assign (AF_ev rfl tp)) ?_
    refine RW.nil ?_
    refine Th.n ?_
    have hst := hst.take (.there .here)
    have hst := hst.take (.there .here)
    exact ⟨es.length - (j + 1), by omega, j + 1, (by omega), (by omega), up rfl (up rfl (up rfl hs0)), up rfl (up rfl (up rfl hs1)), (int_eq (a := ((j : Nat) : Int) + 1) tp (by omega)), hst⟩
  · have hc1_ := hc1
    try simp only [decide_eq_true_eq, decide_eq_false_iff_not, Bool.and_eq_true, Bool.or_eq_true, Bool.and_eq_false_iff, Bool.or_eq_false_iff, Bool.not_eq_true', Bool.not_eq_false', beq_iff_eq, beq_eq_false_iff_ne, bne_iff_ne, bne_eq_false_iff_eq, ne_eq, Int.not_lt, Int.not_le, gt_iff_lt, ge_iff_le] at hc1_
    refine CW.exit ?_
    refine Th.x ?_
    refine Th.x ?_
    refine Bl.x ?_
    refine Th.n ?_
    refine CW.seq ?_
    refine CW.region ?_
    refine RW.soft Wd.a (v := .bool true) (by exact E.assign rfl) ?_
    refine RW.fin (fun τ => τ 0 = .slice Xa es.length ca ∧ τ 1 = .slice Xb ys.length cb ∧ τ 4 = .bool true ∧ τ 5 = .int .i64 ((j : Nat) : Int) ∧ τ 14 = .bool false) ⟨up rfl hs0, up rfl hs1, tp, up rfl hs5, up rfl (Eq.trans hs14 (congrArg Value.bool hc1))⟩ ?_
    rintro τ ⟨hs0, hs1, hs4, hs5, hs14⟩
    refine CW.ret ?_
    refine ret1 (v := .bool true) rfl (by exact (.tmp (AF_ev rfl hs4) .nil)) ?_
    have hst := hst.take (.there .here)
    have hst := hst.take (.there .here)
    exact ⟨rfl, hst⟩

theorem ent_Append {p : Pers} {w : World} {R : List Assn} {b : Nat} {i t : Int} {es : List Ent} {x : Ent} (hx : EOk p x) (hn2 : es.length + 1 ≤ 1000000) (hst : St p w (LogB p b i t es :: R)) :
    Calls Try.prog 53 #[.pointer (some ⟨b, 0, none⟩), .agg #[.int .i64 x.term, .int .i64 x.kind, .slice x.X x.ns.length x.xc, .slice x.Y x.ms.length x.yc]] w fun e w => ∃ q y, p.le q ∧ y.view = x.view ∧ EOk q y ∧ e = .returned (.int .i64 (i + (((es ++ [y]).length : Nat) : Int))) ∧ St q w (LogB q b i t (es ++ [y]) :: R) := by
  obtain ⟨X, c, hi, hn, hE, hcc, hX, hst⟩ := logOpen hst
  have hy1 : ∀ y : Ent, [y].length = 1 := fun _ => rfl
  refine enter Try.func53 rfl (by simp) (n := 18) rfl fun τ hτ => ?_
  have hs0 : τ 0 = .pointer (some ⟨b, 0, none⟩) := hτ 0 (by simp)
  have hs1 : τ 1 = .agg #[.int .i64 x.term, .int .i64 x.kind, .slice x.X x.ns.length x.xc, .slice x.Y x.ms.length x.yc] := hτ 1 (by simp)
  clear hτ
  refine CW.seq ?_
  refine CW.region ?_
  refine RW.hard Wd.a ?_
  refine H.box (v := .agg #[.int .i64 x.term, .int .i64 x.kind, .slice x.X x.ns.length x.xc, .slice x.Y x.ms.length x.yc]) (AF_ev rfl hs1) hst fun b1 w hst => ?_
  refine RW.soft Wd.a (v := .int .i64 0) (by exact E.assign rfl) ?_
  refine RW.fin (fun τ => τ 0 = .pointer (some ⟨b, 0, none⟩) ∧ τ 1 = .agg #[.int .i64 x.term, .int .i64 x.kind, .slice x.X x.ns.length x.xc, .slice x.Y x.ms.length x.yc] ∧ τ 3 = .pointer (some ⟨b1, 0, none⟩) ∧ τ 4 = .int .i64 0) ⟨up rfl (up rfl hs0), up rfl (up rfl hs1), up rfl tp, tp⟩ ?_
  rintro τ ⟨hs0, hs1, hs3, hs4⟩
  refine CW.seq ?_
  refine CW.regionD [0, 1, 2, 3, 4, 5] (fun w => w.cell? ⟨b, 2, none⟩ = some (.slice X es.length c) ∧ (∀ j_ v_, ([.int .i64 x.term, .int .i64 x.kind, .slice x.X x.ns.length x.xc, .slice x.Y x.ms.length x.yc] : List Value)[j_]? = some v_ → w.cell? ⟨b1, 0 + j_, none⟩ = some v_)) mixed ?_
  have hst := hst.drew
  generalize w.drew = w at hst ⊢
  have hS : w.cell? ⟨b, 2, none⟩ = some (.slice X es.length c) ∧ (∀ j_ v_, ([.int .i64 x.term, .int .i64 x.kind, .slice x.X x.ns.length x.xc, .slice x.Y x.ms.length x.yc] : List Value)[j_]? = some v_ → w.cell? ⟨b1, 0 + j_, none⟩ = some v_) := ⟨hst.cell (.there .here) rfl, hst.cellsIn .here rfl⟩
  refine RD.take 0 rfl (by kernel_rfl) Wd.a (v := .pointer (some ⟨b, 0, none⟩)) (fun w hS => by exact E.move (AF_ev rfl hs0)) hS ?_
  refine RD.take 1 rfl (by kernel_rfl) Wd.a (v := .pointer (some ⟨b, 0, none⟩)) (fun w hS => by exact E.move (AF_ev rfl (up rfl hs0))) hS ?_
  refine RD.take 2 rfl (by kernel_rfl) Wd.a (v := .pointer (some ⟨b, 0, none⟩)) (fun w hS => by exact E.nilCheck (a := ⟨b, 0, none⟩) (AF_ev rfl tp)) hS ?_
  refine RD.take 3 rfl (by kernel_rfl) Wd.a (v := .pointer (some ⟨b, 2, none⟩)) (fun w hS => by exact E.fieldAddr (b := b) (o := 0) (f := { name := "l", type := 44, offset := 2, embedded := false, tag := "", pkgPath := "strongroom/entries", byteOffset := 16 }) (AF_ev rfl tp) Try.underlying122 rfl sz44 rfl) hS ?_
  refine RD.take 4 rfl (by kernel_rfl) Wd.a (v := .slice X es.length c) (fun w hS => by exact E.load (a := ⟨b, 2, none⟩) Try.underlying44 rfl (AF_ev rfl tp) hS.1) hS ?_
  refine RD.take 5 rfl (by kernel_rfl) Wd.a (v := .agg #[.int .i64 x.term, .int .i64 x.kind, .slice x.X x.ns.length x.xc, .slice x.Y x.ms.length x.yc]) (fun w hS => by exact E.loadN (b := b1) (o := 0) (cs := [.int .i64 x.term, .int .i64 x.kind, .slice x.X x.ns.length x.xc, .slice x.Y x.ms.length x.yc]) Try.underlying58 rfl sz58 (AF_ev rfl (up rfl (up rfl (up rfl (up rfl (up rfl hs3)))))) rfl hS.2) hS ?_
  refine RD.only 6 rfl (by kernel_rfl) Wd.a ?_
  refine H.buildSlice (e := 58) (cs := #[.int .i64 x.term, .int .i64 x.kind, .slice x.X x.ns.length x.xc, .slice x.Y x.ms.length x.yc]) (vs := #[(0, .agg #[.int .i64 x.term, .int .i64 x.kind, .slice x.X x.ns.length x.xc, .slice x.Y x.ms.length x.yc])]) (bld1 (AF_ev rfl tp)) (fun _ => by kernel_rfl) hst fun b2 w hst => ?_
  have hS : w.cell? ⟨b, 2, none⟩ = some (.slice X es.length c) ∧ (∀ j_ v_, ([.int .i64 x.term, .int .i64 x.kind, .slice x.X x.ns.length x.xc, .slice x.Y x.ms.length x.yc] : List Value)[j_]? = some v_ → w.cell? ⟨b1, 0 + j_, none⟩ = some v_) := ⟨hst.cell (.there (.there .here)) rfl, hst.cellsIn (.there .here) rfl⟩
  refine ⟨fun _ => hS, ?_⟩
  refine RD.only 7 rfl (by kernel_rfl) Wd.a ?_
  have hst := hst.ownNew (n := 1) (cap := 1) (sz := 4) (xs := flat [x]) (by omega) (by simp [maxLen]) rfl rfl
  refine H.call0 Try.func66 nm66 rfl (map1 (AF_ev rfl tp)) (Calls.mono (ent_own_ (l := [x]) Own.tells (fun z hz => by rw [List.mem_singleton.1 hz]; exact hx) (by simp) p.le_refl hst) ?_)
  rintro _ w ⟨p, vX3, es5, hle, rfl, hoky, hvses5, hst⟩
  obtain ⟨y, rfl, hvy⟩ := vs_one hvses5
  obtain ⟨X3, c4, rfl, hcX3, hmX3, hlX3, hbX3⟩ := hst.shape
  have hE := hE.le hle
  have hp0 := hle
  have hyl : [y].length = 1 := rfl
  refine ⟨_, rfl, ?_⟩
  have hS : w.cell? ⟨b, 2, none⟩ = some (.slice X es.length c) ∧ (∀ j_ v_, ([.int .i64 x.term, .int .i64 x.kind, .slice x.X x.ns.length x.xc, .slice x.Y x.ms.length x.yc] : List Value)[j_]? = some v_ → w.cell? ⟨b1, 0 + j_, none⟩ = some v_) := ⟨hst.cell (.there (.there (.there .here))) rfl, hst.cellsIn (.there (.there .here)) rfl⟩
  refine ⟨fun _ => hS, ?_⟩
  refine RD.only 8 rfl (by kernel_rfl) Wd.a ?_
  refine H.append2 (n2 := es.length + ([y].length)) (xs2 := (flat es) ++ (flat ([y]))) (by first | rfl | simp) (by first | rfl | simp) (m := [y].length) (news := flat ([y])) (s0 := .slice X es.length c) (x0 := .slice X3 ([y].length) c4) Try.underlying44 inf58 rfl (AF_ev rfl (up rfl (up rfl (up rfl tp)))) (AF_ev rfl tp) hst (.there (.there (.there (.there .here)))) (Own.src (hst.take .here)) (flat_one _) (by omega) (by simp only [maxLen]; omega) ?_
  intro vX6 w hnilX6 hst
  obtain ⟨X6, c7, rfl, hcX6, hmX6, hlX6, hbX6⟩ := hst.shape
  have hS : w.cell? ⟨b, 2, none⟩ = some (.slice X es.length c) ∧ (∀ j_ v_, ([.int .i64 x.term, .int .i64 x.kind, .slice x.X x.ns.length x.xc, .slice x.Y x.ms.length x.yc] : List Value)[j_]? = some v_ → w.cell? ⟨b1, 0 + j_, none⟩ = some v_) := ⟨hst.cell (.there (.there (.there (.there .here)))) rfl, hst.cellsIn (.there (.there (.there .here))) rfl⟩
  refine ⟨fun _ => hS, ?_⟩
  refine RD.only 9 rfl (by kernel_rfl) Wd.a (Hd.value (v := .pointer (some ⟨b, 0, none⟩)) (by exact E.nilCheck (a := ⟨b, 0, none⟩) (AF_ev rfl (up rfl (up rfl (up rfl (up rfl (up rfl (up rfl (up rfl (up rfl tp)))))))))) ⟨fun h => Bool.noConfusion ((show needs _ _ _ = false by kernel_rfl).symm.trans h), ?_⟩)
  refine RD.only 10 rfl (by kernel_rfl) Wd.a (Hd.value (v := .pointer (some ⟨b, 2, none⟩)) (by exact E.fieldAddr (b := b) (o := 0) (f := { name := "l", type := 44, offset := 2, embedded := false, tag := "", pkgPath := "strongroom/entries", byteOffset := 16 }) (AF_ev rfl tp) Try.underlying122 rfl sz44 rfl) ⟨fun h => Bool.noConfusion ((show needs _ _ _ = false by kernel_rfl).symm.trans h), ?_⟩)
  refine RD.only 11 rfl (by kernel_rfl) Wd.a ?_
  refine H.store (b := b) (o := 2) (v := .slice X6 (es.length + ([y].length)) c7) (c' := #[.int .i64 i, .int .i64 t, .slice X6 (es.length + ([y].length)) c7]) (AF_ev rfl tp) (AF_ev rfl (up rfl (up rfl tp))) hst (.there (.there (.there (.there .here)))) sz44 (by simp [Value.cells]) (by simp [Value.cells, Value.oneCell']) rfl fun w hst => ?_
  refine ⟨fun h => Bool.noConfusion ((show needs _ _ _ = false by kernel_rfl).symm.trans h), ?_⟩
  refine RD.fin (by kernel_rfl) (fun τ => τ 0 = .pointer (some ⟨b, 0, none⟩) ∧ τ 1 = .agg #[.int .i64 x.term, .int .i64 x.kind, .slice x.X x.ns.length x.xc, .slice x.Y x.ms.length x.yc] ∧ τ 3 = .pointer (some ⟨b1, 0, none⟩) ∧ τ 4 = .int .i64 0) ⟨u0 (up rfl (up rfl (up rfl (up rfl (up rfl (up rfl (up rfl (up rfl (up rfl (up rfl (up rfl hs0))))))))))), u0 (up rfl (up rfl (up rfl (up rfl (up rfl (up rfl (up rfl (up rfl (up rfl (up rfl (up rfl hs1))))))))))), u0 (up rfl (up rfl (up rfl (up rfl (up rfl (up rfl (up rfl (up rfl (up rfl (up rfl (up rfl hs3))))))))))), u0 (up rfl (up rfl (up rfl (up rfl (up rfl (up rfl (up rfl (up rfl (up rfl (up rfl (up rfl hs4)))))))))))⟩ ?_
  rintro τ ⟨hs0, hs1, hs3, hs4⟩
  refine CW.seq ?_
  refine CW.region ?_
  refine RW.soft Wd.a (v := .pointer (some ⟨b, 0, none⟩)) (by exact E.move (AF_ev rfl hs0)) ?_
  have hst := hst.take (.there (.there (.there (.there .here))))
  refine RW.hard Wd.a ?_
  refine H.call0 Try.func30 nm30 rfl (map1 (AF_ev rfl tp)) (Calls.mono (ent_Last (by omega) (by omega) hst) ?_)
  rintro _ w ⟨rfl, hst⟩
  refine ⟨_, rfl, ?_⟩
  show RW _ _ _ _ _ _ _
  refine RW.soft Wd.a (v := .int .i64 (i + ((es.length + ([y].length) : Nat) : Int))) (by exact E.assign (AF_ev rfl tp)) ?_
  refine RW.fin (fun τ => τ 0 = .pointer (some ⟨b, 0, none⟩) ∧ τ 1 = .agg #[.int .i64 x.term, .int .i64 x.kind, .slice x.X x.ns.length x.xc, .slice x.Y x.ms.length x.yc] ∧ τ 3 = .pointer (some ⟨b1, 0, none⟩) ∧ τ 4 = .int .i64 (i + ((es.length + ([y].length) : Nat) : Int))) ⟨up rfl (up rfl (up rfl hs0)), up rfl (up rfl (up rfl hs1)), up rfl (up rfl (up rfl hs3)), tp⟩ ?_
  rintro τ ⟨hs0, hs1, hs3, hs4⟩
  refine CW.ret ?_
  refine ret1 (v := .int .i64 (i + ((es.length + ([y].length) : Nat) : Int))) rfl (by exact (.tmp (AF_ev rfl hs4) .nil)) ?_
  have hst := hst.take (.there .here)
  have hst := hst.take (.there .here)
  have hst := (hst.take (.there (.there .here))).drop
  have hst := (hst.take (.there (.there .here))).drop
  have hst := (hst.take (.there (.there .here))).drop
  have hlN : (es ++ [y]).length = es.length + [y].length := List.length_append
  have hst : St p w (pt b (.cells #[.int .i64 i, .int .i64 t, .slice X6 (es ++ [y]).length c7] 122) :: Own 58 4 (.slice X6 (es ++ [y]).length c7) (es ++ [y]).length (flat (es ++ [y])) :: R) := by rw [hlN, flat_append]; exact hst
  exact ⟨p, y, hp0, hvy, hoky y (List.mem_singleton.2 rfl), by rw [hlN], logClose hi (by rw [hlN]; simp only [List.length_cons, List.length_nil]; omega) (hE.append hoky) hst⟩

theorem ent_withinF {p : Pers} {w : World} {R : List Assn} {X : Option Addr} {n c b : Nat} {i t : Int} (hi : 0 ≤ i ∧ i ≤ 1099511627776) (hn : n ≤ 1000000) (k : Int) (hk : ¬ (i < k ∧ k ≤ i + n)) (hst : St p w (pt b (.cells #[.int .i64 i, .int .i64 t, .slice X n c] 122) :: R)) :
    Calls Try.prog 70 #[.pointer (some ⟨b, 0, none⟩), .int .i64 k] w fun e w => e = .returned (.bool false) ∧ St p w (pt b (.cells #[.int .i64 i, .int .i64 t, .slice X n c] 122) :: R) := by
  have h := ent_within hi hn k hst
  rw [decide_eq_false hk] at h; exact h

theorem ent_At_no {p : Pers} {w : World} {R : List Assn} {b : Nat} {i t : Int} {es : List Ent} (k : Int) (hk : ¬ (i < k ∧ k ≤ i + ((es.length : Nat) : Int))) (hst : St p w (LogB p b i t es :: R)) :
    Calls Try.prog 35 #[.pointer (some ⟨b, 0, none⟩), .int .i64 k] w fun e w => e = .returned (.tuple #[.agg #[.int .i64 zeroE.term, .int .i64 zeroE.kind, .slice zeroE.X zeroE.ns.length zeroE.xc, .slice zeroE.Y zeroE.ms.length zeroE.yc], .int .i64 170]) ∧ St p w (LogB p b i t es :: R) := by
  obtain ⟨X, c, hi, hn, hE, hcc, hX, hst⟩ := logOpen hst
  refine enter Try.func35 rfl (by simp) (n := 29) rfl fun τ hτ => ?_
  have hs0 : τ 0 = .pointer (some ⟨b, 0, none⟩) := hτ 0 (by simp)
  have hs1 : τ 1 = .int .i64 k := hτ 1 (by simp)
  clear hτ
  refine CW.seq ?_
  refine CW.region ?_
  refine RW.hard Wd.a ?_
  refine H.alloc zr58 hst fun b1 w hst => ?_
  refine RW.soft Wd.a (v := .int .i64 0) (by exact E.assign rfl) ?_
  refine RW.fin (fun τ => τ 0 = .pointer (some ⟨b, 0, none⟩) ∧ τ 1 = .int .i64 k ∧ τ 4 = .pointer (some ⟨b1, 0, none⟩) ∧ τ 5 = .int .i64 0) ⟨up rfl (up rfl hs0), up rfl (up rfl hs1), up rfl tp, tp⟩ ?_
  rintro τ ⟨hs0, hs1, hs4, hs5⟩
  refine CW.seq ?_
  refine CW.seq ?_
  refine CW.region ?_
  refine RW.soft Wd.a (v := .pointer (some ⟨b, 0, none⟩)) (by exact E.move (AF_ev rfl hs0)) ?_
  refine RW.soft Wd.a (v := .int .i64 k) (by exact E.move (AF_ev rfl (up rfl hs1))) ?_
  have hst := hst.take (.there .here)
  refine RW.hard Wd.a ?_
  refine H.call0 Try.func70 nm70 rfl (map2 (AF_ev rfl (up rfl tp)) (AF_ev rfl tp)) (Calls.mono (ent_withinF hi hn k hk hst) ?_)
  rintro _ w ⟨rfl, hst⟩
  refine ⟨_, rfl, ?_⟩
  show RW _ _ _ _ _ _ _
  refine RW.soft Wd.a (v := .bool true) (by exact E.not (b := false) (AF_ev rfl tp)) ?_
  refine RW.fin (fun τ => τ 0 = .pointer (some ⟨b, 0, none⟩) ∧ τ 1 = .int .i64 k ∧ τ 4 = .pointer (some ⟨b1, 0, none⟩) ∧ τ 5 = .int .i64 0 ∧ τ 9 = .bool true) ⟨up rfl (up rfl (up rfl (up rfl hs0))), up rfl (up rfl (up rfl (up rfl hs1))), up rfl (up rfl (up rfl (up rfl hs4))), up rfl (up rfl (up rfl (up rfl hs5))), tp⟩ ?_
  rintro τ ⟨hs0, hs1, hs4, hs5, hs9⟩
  refine CW.condT (AF_ev rfl hs9) ?_
  refine CW.seq ?_
  refine CW.region ?_
  refine RW.soft Wd.a (v := .agg #[.int .i64 0, .int .i64 0, .slice none 0 0, .slice none 0 0]) (by exact E.build (vs := #[]) (by simp) (by kernel_rfl)) ?_
  refine RW.hard Wd.a ?_
  refine H.store (b := b1) (o := 0) (v := .agg #[.int .i64 0, .int .i64 0, .slice none 0 0, .slice none 0 0]) (c' := #[.int .i64 0, .int .i64 0, .slice none 0 0, .slice none 0 0]) (AF_ev rfl (up rfl hs4)) (AF_ev rfl tp) hst (.there .here) sz58 (by simp [Value.cells]) (by simp [Value.cells, Value.oneCell']) rfl fun w hst => ?_
  refine RW.soft Wd.a (v := .int .i64 170) (by exact E.assign rfl) ?_
  refine RW.fin (fun τ => τ 0 = .pointer (some ⟨b, 0, none⟩) ∧ τ 1 = .int .i64 k ∧ τ 4 = .pointer (some ⟨b1, 0, none⟩) ∧ τ 5 = .int .i64 170 ∧ τ 9 = .bool true) ⟨up rfl (u0 (up rfl hs0)), up rfl (u0 (up rfl hs1)), up rfl (u0 (up rfl hs4)), tp, up rfl (u0 (up rfl hs9))⟩ ?_
  rintro τ ⟨hs0, hs1, hs4, hs5, hs9⟩
  refine CW.ret ?_
  refine Th.r ?_
  refine retN (rs := [.cell 4 58, .tmp 5]) (vs := [.agg #[.int .i64 0, .int .i64 0, .slice none 0 0, .slice none 0 0], .int .i64 170]) rfl (by exact (.cell (AF_ev rfl hs4) (hst.blockAt (.there .here)) Try.underlying58 rfl sz58 (.tmp (AF_ev rfl hs5) .nil))) (by simp) ?_
  have hst := hst.take (.there (.there .here))
  have hst := hst.take (.there .here)
  have hst := (hst.take (.there (.there .here))).drop
  exact ⟨rfl, logClose hi hn hE hst⟩

theorem ent_AtX {p : Pers} {w : World} {R : List Assn} {b : Nat} {i t : Int} {es : List Ent} (k : Int) (hst : St p w (LogB p b i t es :: R)) :
    Calls Try.prog 35 #[.pointer (some ⟨b, 0, none⟩), .int .i64 k] w fun e w => ∃ q y, p.le q ∧ y.view = (atX i es k).view ∧ EOk q y ∧ e = .returned (.tuple #[.agg #[.int .i64 y.term, .int .i64 y.kind, .slice y.X y.ns.length y.xc, .slice y.Y y.ms.length y.yc], .int .i64 (atE i es k)]) ∧ St q w (LogB q b i t es :: R) := by
  by_cases hk : i < k ∧ k ≤ i + ((es.length : Nat) : Int)
  · have hlt : (k - (i + 1)).toNat < es.length := by omega
    refine Calls.mono (ent_At k hk (List.getElem?_eq_getElem hlt) hst) ?_
    rintro _ w ⟨q, y, le, hv, hok, rfl, s⟩
    exact ⟨q, y, le, by rw [atX_in hk (List.getElem?_eq_getElem hlt)]; exact hv, hok, by rw [atE_in hk], s⟩
  · refine Calls.mono (ent_At_no k hk hst) ?_
    rintro _ w ⟨rfl, s⟩
    exact ⟨p, zeroE, p.le_refl, by rw [atX_out hk], zeroE_ok, by rw [atE_out hk], s⟩
end Go.Proofs.Ytdlcjoonhojpfaa
