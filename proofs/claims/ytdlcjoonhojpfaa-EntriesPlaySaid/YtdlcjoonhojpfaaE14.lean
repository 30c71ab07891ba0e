/- The calls of the package entries, walked through operation by operation. -/
import Derived.Test.YtdlcjoonhojpfaaE0
import Derived.Test.YtdlcjoonhojpfaaT1
import Derived.Test.YtdlcjoonhojpfaaE1
import Derived.Test.YtdlcjoonhojpfaaE2
import Derived.Test.YtdlcjoonhojpfaaE3
import Derived.Test.YtdlcjoonhojpfaaE4
import Derived.Test.YtdlcjoonhojpfaaE5
import Derived.Test.YtdlcjoonhojpfaaE6
import Derived.Test.YtdlcjoonhojpfaaE9
import Derived.Test.YtdlcjoonhojpfaaE10
import Derived.Test.YtdlcjoonhojpfaaE11
namespace Go.Proofs.Ytdlcjoonhojpfaa
open Go.RowKit Go.SL Go.E17
attribute [local irreducible] Go.SL.RW Go.SL.CW Go.SL.RD Go.SL.Hd Go.SL.St
set_option linter.unusedVariables false
set_option linter.unusedSimpArgs false



theorem ent_Same_ {p : Pers} {w : World} {R : List Assn} {X X2 Y Y2 : Option Addr} {c c2 d d2 : Nat} {ns ms : List Int} (xt xk : Int) (hX1 : Las p 1 (.slice X ns.length c) ns.length (bv ns)) (hX2 : Las p 1 (.slice X2 ns.length c2) ns.length (bv ns)) (hY1 : Las p 1 (.slice Y ms.length d) ms.length (iv ms)) (hY2 : Las p 1 (.slice Y2 ms.length d2) ms.length (iv ms)) (hl : ms.length ≤ 1000000) (hst : St p w (R)) :
    Calls Try.prog 36 #[.agg #[.int .i64 xt, .int .i64 xk, .slice X ns.length c, .slice Y ms.length d], .agg #[.int .i64 xt, .int .i64 xk, .slice X2 ns.length c2, .slice Y2 ms.length d2]] w fun e w => e = .returned (.bool true) ∧ St p w R := by
  refine enter Try.func36 rfl (by simp) (n := 54) rfl fun τ hτ => ?_
  have hs0 : τ 0 = .agg #[.int .i64 xt, .int .i64 xk, .slice X ns.length c, .slice Y ms.length d] := hτ 0 (by simp)
  have hs1 : τ 1 = .agg #[.int .i64 xt, .int .i64 xk, .slice X2 ns.length c2, .slice Y2 ms.length d2] := hτ 1 (by simp)
  clear hτ
  refine CW.seq ?_
  have hst := hst.emp
  have hst := hst.emp
  refine CW.region ?_
  refine RW.hard Wd.a ?_
  refine H.box (v := .agg #[.int .i64 xt, .int .i64 xk, .slice X ns.length c, .slice Y ms.length d]) (AF_ev rfl hs0) hst fun b1 w hst => ?_
  refine RW.hard Wd.a ?_
  refine H.box (v := .agg #[.int .i64 xt, .int .i64 xk, .slice X2 ns.length c2, .slice Y2 ms.length d2]) (AF_ev rfl (up rfl hs1)) hst fun b2 w hst => ?_
  refine RW.soft Wd.a (v := .bool false) (by exact E.assign rfl) ?_
  refine RW.fin (fun τ => τ 0 = .agg #[.int .i64 xt, .int .i64 xk, .slice X ns.length c, .slice Y ms.length d] ∧ τ 1 = .agg #[.int .i64 xt, .int .i64 xk, .slice X2 ns.length c2, .slice Y2 ms.length d2] ∧ τ 2 = .pointer (some ⟨b1, 0, none⟩) ∧ τ 3 = .pointer (some ⟨b2, 0, none⟩) ∧ τ 4 = .bool false) ⟨up rfl (up rfl (up rfl hs0)), up rfl (up rfl (up rfl hs1)), up rfl (up rfl tp), up rfl tp, tp⟩ ?_
  rintro τ ⟨hs0, hs1, hs2, hs3, hs4⟩
  refine CW.seq ?_
  refine CW.seq ?_
  refine CW.region ?_
  refine RW.soft Wd.a (v := .pointer (some ⟨b1, 0, none⟩)) (by exact E.fieldAddr (b := b1) (o := 0) (f := { name := "Term", type := 3, offset := 0, embedded := false, tag := "", pkgPath := "", byteOffset := 0 }) (AF_ev rfl hs2) Try.underlying58 rfl sz3 rfl) ?_
  refine RW.soft Wd.a (v := .int .i64 xt) (by exact E.load (a := ⟨b1, 0, none⟩) Try.underlying3 rfl (AF_ev rfl tp) (hst.cell (.there .here) rfl)) ?_
  refine RW.soft Wd.a (v := .pointer (some ⟨b2, 0, none⟩)) (by exact E.fieldAddr (b := b2) (o := 0) (f := { name := "Term", type := 3, offset := 0, embedded := false, tag := "", pkgPath := "", byteOffset := 0 }) (AF_ev rfl (up rfl (up rfl hs3))) Try.underlying58 rfl sz3 rfl) ?_
  refine RW.soft Wd.a (v := .int .i64 xt) (by exact E.load (a := ⟨b2, 0, none⟩) Try.underlying3 rfl (AF_ev rfl tp) (hst.cell .here rfl)) ?_
  refine RW.soft Wd.a (v := .bool false) (by exact E.b (a := xt != xt) (E.neq (k := .i64) (a := xt) (b := xt) (AF_ev rfl (up rfl (up rfl tp))) (AF_ev rfl tp)) (by simp)) ?_
  refine RW.soft Wd.a (v := .bool false) (by exact E.move (AF_ev rfl tp)) ?_
  refine RW.soft (by exact Wd.yes (x := 11) rfl (AF_ev rfl tp)) (v := .pointer (some ⟨b1, 1, none⟩)) (by exact E.fieldAddr (b := b1) (o := 0) (f := { name := "Kind", type := 3, offset := 1, embedded := false, tag := "", pkgPath := "", byteOffset := 8 }) (AF_ev rfl (up rfl (up rfl (up rfl (up rfl (up rfl (up rfl hs2))))))) Try.underlying58 rfl sz3 rfl) ?_
  refine RW.soft (by exact Wd.yes (x := 11) rfl (AF_ev rfl (up rfl tp))) (v := .int .i64 xk) (by exact E.load (a := ⟨b1, 1, none⟩) Try.underlying3 rfl (AF_ev rfl tp) (hst.cell (.there .here) rfl)) ?_
  refine RW.soft (by exact Wd.yes (x := 11) rfl (AF_ev rfl (up rfl (up rfl tp)))) (v := .pointer (some ⟨b2, 1, none⟩)) (by exact E.fieldAddr (b := b2) (o := 0) (f := { name := "Kind", type := 3, offset := 1, embedded := false, tag := "", pkgPath := "", byteOffset := 8 }) (AF_ev rfl (up rfl (up rfl (up rfl (up rfl (up rfl (up rfl (up rfl (up rfl hs3))))))))) Try.underlying58 rfl sz3 rfl) ?_
  refine RW.soft (by exact Wd.yes (x := 11) rfl (AF_ev rfl (up rfl (up rfl (up rfl tp))))) (v := .int .i64 xk) (by exact E.load (a := ⟨b2, 1, none⟩) Try.underlying3 rfl (AF_ev rfl tp) (hst.cell .here rfl)) ?_
  refine RW.soft (by exact Wd.yes (x := 11) rfl (AF_ev rfl (up rfl (up rfl (up rfl (up rfl tp)))))) (v := .bool false) (by exact E.b (a := xk != xk) (E.neq (k := .i64) (a := xk) (b := xk) (AF_ev rfl (up rfl (up rfl tp))) (AF_ev rfl tp)) (by simp)) ?_
  refine RW.soft Wd.a (v := .bool false) (by exact E.pickF (AF_ev rfl (up rfl (up rfl (up rfl (up rfl (up rfl tp)))))) (AF_ev rfl tp)) ?_
  refine RW.soft Wd.a (v := .bool false) (by exact E.move (AF_ev rfl tp)) ?_
  refine RW.soft (by exact Wd.yes (x := 18) rfl (AF_ev rfl tp)) (v := .pointer (some ⟨b1, 2, none⟩)) (by exact E.fieldAddr (b := b1) (o := 0) (f := { name := "Data", type := 27, offset := 2, embedded := false, tag := "", pkgPath := "", byteOffset := 16 }) (AF_ev rfl (up rfl (up rfl (up rfl (up rfl (up rfl (up rfl (up rfl (up rfl (up rfl (up rfl (up rfl (up rfl (up rfl hs2)))))))))))))) Try.underlying58 rfl sz27 rfl) ?_
  refine RW.soft (by exact Wd.yes (x := 18) rfl (AF_ev rfl (up rfl tp))) (v := .slice X ns.length c) (by exact E.load (a := ⟨b1, 2, none⟩) Try.underlying27 rfl (AF_ev rfl tp) (hst.cell (.there .here) rfl)) ?_
  refine RW.soft (by exact Wd.yes (x := 18) rfl (AF_ev rfl (up rfl (up rfl tp)))) (v := .string (bstr ns)) (by exact E.bytesStr (ns := ns) (m := ns.length) Try.underlying27 Try.underlying5 Try.underlying9 (AF_ev rfl tp) (hX1.src (hst.take (.there (.there (.there .here)))))) ?_
  refine RW.soft (by exact Wd.yes (x := 18) rfl (AF_ev rfl (up rfl (up rfl (up rfl tp))))) (v := .pointer (some ⟨b2, 2, none⟩)) (by exact E.fieldAddr (b := b2) (o := 0) (f := { name := "Data", type := 27, offset := 2, embedded := false, tag := "", pkgPath := "", byteOffset := 16 }) (AF_ev rfl (up rfl (up rfl (up rfl (up rfl (up rfl (up rfl (up rfl (up rfl (up rfl (up rfl (up rfl (up rfl (up rfl (up rfl (up rfl (up rfl hs3))))))))))))))))) Try.underlying58 rfl sz27 rfl) ?_
  refine RW.soft (by exact Wd.yes (x := 18) rfl (AF_ev rfl (up rfl (up rfl (up rfl (up rfl tp)))))) (v := .slice X2 ns.length c2) (by exact E.load (a := ⟨b2, 2, none⟩) Try.underlying27 rfl (AF_ev rfl tp) (hst.cell .here rfl)) ?_
  refine RW.soft (by exact Wd.yes (x := 18) rfl (AF_ev rfl (up rfl (up rfl (up rfl (up rfl (up rfl tp))))))) (v := .string (bstr ns)) (by exact E.bytesStr (ns := ns) (m := ns.length) Try.underlying27 Try.underlying5 Try.underlying9 (AF_ev rfl tp) (hX2.src (hst.take (.there (.there .here))))) ?_
  refine RW.soft (by exact Wd.yes (x := 18) rfl (AF_ev rfl (up rfl (up rfl (up rfl (up rfl (up rfl (up rfl tp)))))))) (v := .bool false) (by exact E.b (a := !((bstr ns).toList == (bstr ns).toList)) (E.neqStr (a := bstr ns) (b := bstr ns) (AF_ev rfl (up rfl (up rfl (up rfl tp)))) (AF_ev rfl tp)) (by simp)) ?_
  refine RW.soft Wd.a (v := .bool false) (by exact E.pickF (AF_ev rfl (up rfl (up rfl (up rfl (up rfl (up rfl (up rfl (up rfl tp)))))))) (AF_ev rfl tp)) ?_
  refine RW.soft Wd.a (v := .bool false) (by exact E.move (AF_ev rfl tp)) ?_
  refine RW.soft (by exact Wd.yes (x := 27) rfl (AF_ev rfl tp)) (v := .pointer (some ⟨b1, 3, none⟩)) (by exact E.fieldAddr (b := b1) (o := 0) (f := { name := "Members", type := 56, offset := 3, embedded := false, tag := "", pkgPath := "", byteOffset := 40 }) (AF_ev rfl (up rfl (up rfl (up rfl (up rfl (up rfl (up rfl (up rfl (up rfl (up rfl (up rfl (up rfl (up rfl (up rfl (up rfl (up rfl (up rfl (up rfl (up rfl (up rfl (up rfl (up rfl (up rfl hs2))))))))))))))))))))))) Try.underlying58 rfl sz56 rfl) ?_
  refine RW.soft (by exact Wd.yes (x := 27) rfl (AF_ev rfl (up rfl tp))) (v := .slice Y ms.length d) (by exact E.load (a := ⟨b1, 3, none⟩) Try.underlying56 rfl (AF_ev rfl tp) (hst.cell (.there .here) rfl)) ?_
  refine RW.soft (by exact Wd.yes (x := 27) rfl (AF_ev rfl (up rfl (up rfl tp)))) (v := .int .i64 ((ms.length : Nat) : Int)) (by exact E.lenS (p := Y) (l := ms.length) (c := d) Try.underlying56 (AF_ev rfl tp)) ?_
  refine RW.soft (by exact Wd.yes (x := 27) rfl (AF_ev rfl (up rfl (up rfl (up rfl tp))))) (v := .pointer (some ⟨b2, 3, none⟩)) (by exact E.fieldAddr (b := b2) (o := 0) (f := { name := "Members", type := 56, offset := 3, embedded := false, tag := "", pkgPath := "", byteOffset := 40 }) (AF_ev rfl (up rfl (up rfl (up rfl (up rfl (up rfl (up rfl (up rfl (up rfl (up rfl (up rfl (up rfl (up rfl (up rfl (up rfl (up rfl (up rfl (up rfl (up rfl (up rfl (up rfl (up rfl (up rfl (up rfl (up rfl (up rfl hs3)))))))))))))))))))))))))) Try.underlying58 rfl sz56 rfl) ?_
  refine RW.soft (by exact Wd.yes (x := 27) rfl (AF_ev rfl (up rfl (up rfl (up rfl (up rfl tp)))))) (v := .slice Y2 ms.length d2) (by exact E.load (a := ⟨b2, 3, none⟩) Try.underlying56 rfl (AF_ev rfl tp) (hst.cell .here rfl)) ?_
  refine RW.soft (by exact Wd.yes (x := 27) rfl (AF_ev rfl (up rfl (up rfl (up rfl (up rfl (up rfl tp))))))) (v := .int .i64 ((ms.length : Nat) : Int)) (by exact E.lenS (p := Y2) (l := ms.length) (c := d2) Try.underlying56 (AF_ev rfl tp)) ?_
  refine RW.soft (by exact Wd.yes (x := 27) rfl (AF_ev rfl (up rfl (up rfl (up rfl (up rfl (up rfl (up rfl tp)))))))) (v := .bool false) (by exact E.b (a := ((ms.length : Nat) : Int) != ((ms.length : Nat) : Int)) (E.neq (k := .i64) (a := ((ms.length : Nat) : Int)) (b := ((ms.length : Nat) : Int)) (AF_ev rfl (up rfl (up rfl (up rfl tp)))) (AF_ev rfl tp)) (by simp)) ?_
  refine RW.soft Wd.a (v := .bool false) (by exact E.pickF (AF_ev rfl (up rfl (up rfl (up rfl (up rfl (up rfl (up rfl (up rfl tp)))))))) (AF_ev rfl tp)) ?_
  refine RW.fin (fun τ => τ 0 = .agg #[.int .i64 xt, .int .i64 xk, .slice X ns.length c, .slice Y ms.length d] ∧ τ 1 = .agg #[.int .i64 xt, .int .i64 xk, .slice X2 ns.length c2, .slice Y2 ms.length d2] ∧ τ 2 = .pointer (some ⟨b1, 0, none⟩) ∧ τ 3 = .pointer (some ⟨b2, 0, none⟩) ∧ τ 4 = .bool false ∧ τ 35 = .bool false) ⟨up rfl (up rfl (up rfl (up rfl (up rfl (up rfl (up rfl (up rfl (up rfl (up rfl (up rfl (up rfl (up rfl (up rfl (up rfl (up rfl (up rfl (up rfl (up rfl (up rfl (up rfl (up rfl (up rfl (up rfl (up rfl (up rfl (up rfl (up rfl (up rfl (up rfl hs0))))))))))))))))))))))))))))), up rfl (up rfl (up rfl (up rfl (up rfl (up rfl (up rfl (up rfl (up rfl (up rfl (up rfl (up rfl (up rfl (up rfl (up rfl (up rfl (up rfl (up rfl (up rfl (up rfl (up rfl (up rfl (up rfl (up rfl (up rfl (up rfl (up rfl (up rfl (up rfl (up rfl hs1))))))))))))))))))))))))))))), up rfl (up rfl (up rfl (up rfl (up rfl (up rfl (up rfl (up rfl (up rfl (up rfl (up rfl (up rfl (up rfl (up rfl (up rfl (up rfl (up rfl (up rfl (up rfl (up rfl (up rfl (up rfl (up rfl (up rfl (up rfl (up rfl (up rfl (up rfl (up rfl (up rfl hs2))))))))))))))))))))))))))))), up rfl (up rfl (up rfl (up rfl (up rfl (up rfl (up rfl (up rfl (up rfl (up rfl (up rfl (up rfl (up rfl (up rfl (up rfl (up rfl (up rfl (up rfl (up rfl (up rfl (up rfl (up rfl (up rfl (up rfl (up rfl (up rfl (up rfl (up rfl (up rfl (up rfl hs3))))))))))))))))))))))))))))), up rfl (up rfl (up rfl (up rfl (up rfl (up rfl (up rfl (up rfl (up rfl (up rfl (up rfl (up rfl (up rfl (up rfl (up rfl (up rfl (up rfl (up rfl (up rfl (up rfl (up rfl (up rfl (up rfl (up rfl (up rfl (up rfl (up rfl (up rfl (up rfl (up rfl hs4))))))))))))))))))))))))))))), tp⟩ ?_
  rintro τ ⟨hs0, hs1, hs2, hs3, hs4, hs35⟩
  refine CW.condF (AF_ev rfl hs35) ?_
  refine CW.skip ?_
  refine Th.n ?_
  refine CW.seq ?_
  refine CW.seq ?_
  refine CW.region ?_
  refine RW.soft Wd.a (v := .int .i64 0) (by exact E.assign rfl) ?_
  refine RW.fin (fun τ => τ 0 = .agg #[.int .i64 xt, .int .i64 xk, .slice X ns.length c, .slice Y ms.length d] ∧ τ 1 = .agg #[.int .i64 xt, .int .i64 xk, .slice X2 ns.length c2, .slice Y2 ms.length d2] ∧ τ 2 = .pointer (some ⟨b1, 0, none⟩) ∧ τ 3 = .pointer (some ⟨b2, 0, none⟩) ∧ τ 4 = .bool false ∧ τ 5 = .int .i64 0 ∧ τ 35 = .bool false) ⟨up rfl hs0, up rfl hs1, up rfl hs2, up rfl hs3, up rfl hs4, tp, up rfl hs35⟩ ?_
  rintro τ ⟨hs0, hs1, hs2, hs3, hs4, hs5, hs35⟩
  refine CW.block ?_
  have hst := hst.take (.there .here)
  have hst := (hst.take (.there (.there .here))).drop
  have hst := (hst.take (.there (.there .here))).drop
  refine CW.loop (fun (k : Nat) (τ : Fr) (w : World) => ∃ (i : Nat), i ≤ ms.length ∧ k = ms.length - i ∧ τ 2 = .pointer (some ⟨b1, 0, none⟩) ∧ τ 3 = .pointer (some ⟨b2, 0, none⟩) ∧ τ 5 = .int .i64 ((i : Nat) : Int) ∧ St p w (pt b1 (.cells #[.int .i64 xt, .int .i64 xk, .slice X ns.length c, .slice Y ms.length d] 58) :: pt b2 (.cells #[.int .i64 xt, .int .i64 xk, .slice X2 ns.length c2, .slice Y2 ms.length d2] 58) :: R)) (ms.length - 0) ⟨0, by omega, rfl, hs2, hs3, (int_eq (a := 0) hs5 (by omega)), hst⟩ ?_
  clear hst
  rintro k τ w ⟨i, hi, hk, hs2, hs3, hs5, hst⟩
  refine CW.seq ?_
  refine CW.seq ?_
  refine CW.region ?_
  refine RW.soft Wd.a (v := .int .i64 ((i : Nat) : Int)) (by exact E.move (AF_ev rfl hs5)) ?_
  refine RW.soft Wd.a (v := .pointer (some ⟨b1, 3, none⟩)) (by exact E.fieldAddr (b := b1) (o := 0) (f := { name := "Members", type := 56, offset := 3, embedded := false, tag := "", pkgPath := "", byteOffset := 40 }) (AF_ev rfl (up rfl hs2)) Try.underlying58 rfl sz56 rfl) ?_
  refine RW.soft Wd.a (v := .slice Y ms.length d) (by exact E.load (a := ⟨b1, 3, none⟩) Try.underlying56 rfl (AF_ev rfl tp) (hst.cell .here rfl)) ?_
  refine RW.soft Wd.a (v := .int .i64 ((ms.length : Nat) : Int)) (by exact E.lenS (p := Y) (l := ms.length) (c := d) Try.underlying56 (AF_ev rfl tp)) ?_
  refine RW.soft Wd.a (v := .bool (decide (((i : Nat) : Int) < ((ms.length : Nat) : Int)))) (by exact E.lss (k := .i64) (a := ((i : Nat) : Int)) (b := ((ms.length : Nat) : Int)) (AF_ev rfl (up rfl (up rfl (up rfl tp)))) (AF_ev rfl tp)) ?_
  refine RW.fin (fun τ => τ 2 = .pointer (some ⟨b1, 0, none⟩) ∧ τ 3 = .pointer (some ⟨b2, 0, none⟩) ∧ τ 5 = .int .i64 ((i : Nat) : Int) ∧ τ 40 = .bool (decide (((i : Nat) : Int) < ((ms.length : Nat) : Int)))) ⟨up rfl (up rfl (up rfl (up rfl (up rfl hs2)))), up rfl (up rfl (up rfl (up rfl (up rfl hs3)))), up rfl (up rfl (up rfl (up rfl (up rfl hs5)))), tp⟩ ?_
  rintro τ ⟨hs2, hs3, hs5, hs40⟩
  refine CW.cond (AF_ev rfl hs40) (fun hc3 => ?_) (fun hc3 => ?_)
  · have hc3_ := hc3
    try simp only [decide_eq_true_eq, decide_eq_false_iff_not, Bool.and_eq_true, Bool.or_eq_true, Bool.and_eq_false_iff, Bool.or_eq_false_iff, Bool.not_eq_true', Bool.not_eq_false', beq_iff_eq, beq_eq_false_iff_ne, bne_iff_ne, bne_eq_false_iff_eq, ne_eq, Int.not_lt, Int.not_le, gt_iff_lt, ge_iff_le] at hc3_
    refine CW.skip ?_
    refine Th.n ?_
    refine CW.seq ?_
    refine CW.block ?_
    refine CW.seq ?_
    obtain ⟨bY, oY, rfl, hcY⟩ := hY1.place (by omega)
    obtain ⟨bZ, oZ, rfl, hcZ⟩ := hY2.place (by omega)
    obtain ⟨u, hu⟩ : ∃ u, ms[i]? = some u := ⟨ms[i]'(by omega), List.getElem?_eq_getElem (by omega)⟩
    refine CW.regionD [0, 1, 2, 3, 4, 5, 6, 7, 8, 9, 10] (fun w => w.cell? ⟨b1, 3, none⟩ = some (.slice (some ⟨bY, oY, none⟩) ms.length d) ∧ w.cell? ⟨bY, oY + i * 1, none⟩ = some (.int .i64 u) ∧ w.cell? ⟨b2, 3, none⟩ = some (.slice (some ⟨bZ, oZ, none⟩) ms.length d2) ∧ w.cell? ⟨bZ, oZ + i * 1, none⟩ = some (.int .i64 u)) mixed ?_
    have hst := hst.drew
    generalize w.drew = w at hst ⊢
    have hS : w.cell? ⟨b1, 3, none⟩ = some (.slice (some ⟨bY, oY, none⟩) ms.length d) ∧ w.cell? ⟨bY, oY + i * 1, none⟩ = some (.int .i64 u) ∧ w.cell? ⟨b2, 3, none⟩ = some (.slice (some ⟨bZ, oZ, none⟩) ms.length d2) ∧ w.cell? ⟨bZ, oZ + i * 1, none⟩ = some (.int .i64 u) := ⟨hst.cell .here rfl, (by have q := hcY hst i (.int .i64 u) (by simp [iv, hu]); simpa using q), hst.cell (.there .here) rfl, (by have q := hcZ hst i (.int .i64 u) (by simp [iv, hu]); simpa using q)⟩
    refine RD.take 0 rfl (by kernel_rfl) Wd.a (v := .pointer (some ⟨b1, 3, none⟩)) (fun w hS => by exact E.fieldAddr (b := b1) (o := 0) (f := { name := "Members", type := 56, offset := 3, embedded := false, tag := "", pkgPath := "", byteOffset := 40 }) (AF_ev rfl hs2) Try.underlying58 rfl sz56 rfl) hS ?_
    refine RD.take 1 rfl (by kernel_rfl) Wd.a (v := .slice (some ⟨bY, oY, none⟩) ms.length d) (fun w hS => by exact E.load (a := ⟨b1, 3, none⟩) Try.underlying56 rfl (AF_ev rfl tp) hS.1) hS ?_
    refine RD.take 2 rfl (by kernel_rfl) Wd.a (v := .int .i64 ((i : Nat) : Int)) (fun w hS => by exact E.move (AF_ev rfl (up rfl (up rfl hs5)))) hS ?_
    refine RD.take 3 rfl (by kernel_rfl) Wd.a (v := .pointer (some ⟨bY, oY + i * 1, none⟩)) (fun w hS => by exact E.indexAddr (b := bY) (o := oY) (l := ms.length) (c := d) (i := ((i : Nat) : Int)) Try.underlying56 sz3 (AF_ev rfl (up rfl tp)) (AF_ev rfl tp) (by omega) (by omega) (by simp)) hS ?_
    refine RD.take 4 rfl (by kernel_rfl) Wd.a (v := .int .i64 u) (fun w hS => by exact E.load (a := ⟨bY, oY + i * 1, none⟩) Try.underlying3 rfl (AF_ev rfl tp) hS.2.1) hS ?_
    refine RD.take 5 rfl (by kernel_rfl) Wd.a (v := .pointer (some ⟨b2, 3, none⟩)) (fun w hS => by exact E.fieldAddr (b := b2) (o := 0) (f := { name := "Members", type := 56, offset := 3, embedded := false, tag := "", pkgPath := "", byteOffset := 40 }) (AF_ev rfl (up rfl (up rfl (up rfl (up rfl (up rfl hs3)))))) Try.underlying58 rfl sz56 rfl) hS ?_
    refine RD.take 6 rfl (by kernel_rfl) Wd.a (v := .slice (some ⟨bZ, oZ, none⟩) ms.length d2) (fun w hS => by exact E.load (a := ⟨b2, 3, none⟩) Try.underlying56 rfl (AF_ev rfl tp) hS.2.2.1) hS ?_
    refine RD.take 7 rfl (by kernel_rfl) Wd.a (v := .int .i64 ((i : Nat) : Int)) (fun w hS => by exact E.move (AF_ev rfl (up rfl (up rfl (up rfl (up rfl (up rfl (up rfl (up rfl hs5))))))))) hS ?_
    refine RD.take 8 rfl (by kernel_rfl) Wd.a (v := .pointer (some ⟨bZ, oZ + i * 1, none⟩)) (fun w hS => by exact E.indexAddr (b := bZ) (o := oZ) (l := ms.length) (c := d2) (i := ((i : Nat) : Int)) Try.underlying56 sz3 (AF_ev rfl (up rfl tp)) (AF_ev rfl tp) (by omega) (by omega) (by simp)) hS ?_
    refine RD.take 9 rfl (by kernel_rfl) Wd.a (v := .int .i64 u) (fun w hS => by exact E.load (a := ⟨bZ, oZ + i * 1, none⟩) Try.underlying3 rfl (AF_ev rfl tp) hS.2.2.2) hS ?_
    refine RD.take 10 rfl (by kernel_rfl) Wd.a (v := .bool false) (fun w hS => by exact E.b (a := u != u) (E.neq (k := .i64) (a := u) (b := u) (AF_ev rfl (up rfl (up rfl (up rfl (up rfl (up rfl tp)))))) (AF_ev rfl tp)) (by simp)) hS ?_
    refine RD.fin (by kernel_rfl) (fun τ => τ 2 = .pointer (some ⟨b1, 0, none⟩) ∧ τ 3 = .pointer (some ⟨b2, 0, none⟩) ∧ τ 5 = .int .i64 ((i : Nat) : Int) ∧ τ 40 = .bool true ∧ τ 53 = .bool false) ⟨up rfl (up rfl (up rfl (up rfl (up rfl (up rfl (up rfl (up rfl (up rfl (up rfl (up rfl hs2)))))))))), up rfl (up rfl (up rfl (up rfl (up rfl (up rfl (up rfl (up rfl (up rfl (up rfl (up rfl hs3)))))))))), up rfl (up rfl (up rfl (up rfl (up rfl (up rfl (up rfl (up rfl (up rfl (up rfl (up rfl hs5)))))))))), up rfl (up rfl (up rfl (up rfl (up rfl (up rfl (up rfl (up rfl (up rfl (up rfl (up rfl (Eq.trans hs40 (congrArg Value.bool hc3)))))))))))), tp⟩ ?_
    rintro τ ⟨hs2, hs3, hs5, hs40, hs53⟩
    refine CW.condF (AF_ev rfl hs53) ?_
    refine CW.skip ?_
    refine Bl.n ?_
    refine Th.n ?_
    refine CW.region ?_
    refine RW.soft Wd.a (v := .int .i64 ((i : Nat) : Int)) (by exact E.move (AF_ev rfl hs5)) ?_
    refine RW.soft Wd.a (v := .int .i64 (((i : Nat) : Int) + 1)) (by exact E.add (k := .i64) (a := ((i : Nat) : Int)) (b := 1) (AF_ev rfl tp) rfl (show IntKind.i64.wrap (((i : Nat) : Int) + 1) = ((i : Nat) : Int) + 1 from (by rw [IntWalk.i64_in _ (by omega)]))) ?_
    refine RW.soft Wd.a (v := .int .i64 (((i : Nat) : Int) + 1)) (by exact E.assign (AF_ev rfl tp)) ?_
    refine RW.nil ?_
    refine Th.n ?_
    have hst := hst.take (.there .here)
    have hst := hst.take (.there .here)
    exact ⟨ms.length - (i + 1), by omega, i + 1, (by omega), (by omega), up rfl (up rfl (up rfl hs2)), up rfl (up rfl (up rfl hs3)), (int_eq (a := ((i : Nat) : Int) + 1) tp (by omega)), hst⟩
  · have hc3_ := hc3
    try simp only [decide_eq_true_eq, decide_eq_false_iff_not, Bool.and_eq_true, Bool.or_eq_true, Bool.and_eq_false_iff, Bool.or_eq_false_iff, Bool.not_eq_true', Bool.not_eq_false', beq_iff_eq, beq_eq_false_iff_ne, bne_iff_ne, bne_eq_false_iff_eq, ne_eq, Int.not_lt, Int.not_le, gt_iff_lt, ge_iff_le] at hc3_
    refine CW.exit ?_
    refine Th.x ?_
    refine Th.x ?_
    refine Bl.x ?_
    refine Th.n ?_
    refine CW.seq ?_
    refine CW.region ?_
    refine RW.soft Wd.a (v := .bool true) (by exact E.assign rfl) ?_
    refine RW.fin (fun τ => τ 2 = .pointer (some ⟨b1, 0, none⟩) ∧ τ 3 = .pointer (some ⟨b2, 0, none⟩) ∧ τ 4 = .bool true ∧ τ 5 = .int .i64 ((i : Nat) : Int) ∧ τ 40 = .bool false) ⟨up rfl hs2, up rfl hs3, tp, up rfl hs5, up rfl (Eq.trans hs40 (congrArg Value.bool hc3))⟩ ?_
    rintro τ ⟨hs2, hs3, hs4, hs5, hs40⟩
    refine CW.ret ?_
    refine ret1 (v := .bool true) rfl (by exact (.tmp (AF_ev rfl hs4) .nil)) ?_
    have hst := hst.drop
    have hst := hst.drop
    exact ⟨rfl, hst⟩

theorem ent_Same {p : Pers} {w : World} {R : List Assn} {x y : Ent} (hx : EOk p x) (hy : EOk p y) (hv : x.view = y.view) (hst : St p w R) :
    Calls Try.prog 36 #[.agg #[.int .i64 x.term, .int .i64 x.kind, .slice x.X x.ns.length x.xc, .slice x.Y x.ms.length x.yc], .agg #[.int .i64 y.term, .int .i64 y.kind, .slice y.X y.ns.length y.xc, .slice y.Y y.ms.length y.yc]] w fun e w => e = .returned (.bool true) ∧ St p w R := by
  obtain ⟨xt, xk, X, c, ns, Y, d, ms⟩ := x
  obtain ⟨yt, yk, X2, c2, ns2, Y2, d2, ms2⟩ := y
  simp only [Ent.view, Prod.mk.injEq] at hv
  obtain ⟨rfl, rfl, rfl, rfl⟩ := hv
  exact ent_Same_ xt xk hx.1 hy.1 hx.2.1 hy.2.1 hx.2.2.2 hst
end Go.Proofs.Ytdlcjoonhojpfaa
