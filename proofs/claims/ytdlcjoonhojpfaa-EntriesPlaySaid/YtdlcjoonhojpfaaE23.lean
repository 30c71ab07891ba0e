/- The calls of the package entries, walked through operation by operation. -/
import Derived.Test.YtdlcjoonhojpfaaE0
import Derived.Test.YtdlcjoonhojpfaaT1
import Derived.Test.YtdlcjoonhojpfaaE1
import Derived.Test.YtdlcjoonhojpfaaE2
import Derived.Test.YtdlcjoonhojpfaaE3
import Derived.Test.YtdlcjoonhojpfaaE4
import Derived.Test.YtdlcjoonhojpfaaE5
import Derived.Test.YtdlcjoonhojpfaaE6
import Derived.Test.YtdlcjoonhojpfaaE9
import Derived.Test.YtdlcjoonhojpfaaE10
import Derived.Test.YtdlcjoonhojpfaaE11
import Derived.Test.YtdlcjoonhojpfaaE14
import Derived.Test.YtdlcjoonhojpfaaE15
import Derived.Test.YtdlcjoonhojpfaaE16
import Derived.Test.YtdlcjoonhojpfaaE22
namespace Go.Proofs.Ytdlcjoonhojpfaa
open Go.RowKit Go.SL Go.E17
attribute [local irreducible] Go.SL.RW Go.SL.CW Go.SL.RD Go.SL.Hd Go.SL.St
set_option linter.unusedVariables false
set_option linter.unusedSimpArgs false

theorem nm58 : (Try.f58.name == "runtime.NumGoroutine") = false := by kernel_rfl
theorem nm59 : (Try.f59.name == "runtime.NumGoroutine") = false := by kernel_rfl
theorem nm60 : (Try.f60.name == "runtime.NumGoroutine") = false := by kernel_rfl

theorem ref_Last {p : Pers} {w : World} {R : List Assn} {X : Option Addr} {n c b : Nat} {i t : Int} (hi : 0 ≤ i ∧ i ≤ 1099511627776) (hn : n ≤ 1000000)  (hst : St p w (pt b (.cells #[.int .i64 i, .int .i64 t, .slice X n c] 106) :: R)) :
    Calls Try.prog 58 #[.pointer (some ⟨b, 0, none⟩)] w fun e w => e = .returned (.int .i64 (i + ((n : Nat) : Int))) ∧ St p w (pt b (.cells #[.int .i64 i, .int .i64 t, .slice X n c] 106) :: R) := by
  refine enter Try.func58 rfl (by simp) (n := 13) rfl fun τ hτ => ?_
  have hs0 : τ 0 = .pointer (some ⟨b, 0, none⟩) := hτ 0 (by simp)
  clear hτ
  refine CW.seq ?_
  refine CW.region ?_
  refine RW.soft Wd.a (v := .int .i64 0) (by exact E.assign rfl) ?_
  refine RW.fin (fun τ => τ 0 = .pointer (some ⟨b, 0, none⟩) ∧ τ 2 = .int .i64 0) ⟨up rfl hs0, tp⟩ ?_
  rintro τ ⟨hs0, hs2⟩
  refine CW.seq ?_
  refine CW.regionD [0, 1, 2, 3, 4, 5, 6, 7, 8, 9, 10] (fun w => w.cell? ⟨b, 0, none⟩ = some (.int .i64 i) ∧ w.cell? ⟨b, 2, none⟩ = some (.slice X n c)) mixed ?_
  have hst := hst.drew
  generalize w.drew = w at hst ⊢
  have hS : w.cell? ⟨b, 0, none⟩ = some (.int .i64 i) ∧ w.cell? ⟨b, 2, none⟩ = some (.slice X n c) := ⟨hst.cell .here rfl, hst.cell .here rfl⟩
  refine RD.take 0 rfl (by kernel_rfl) Wd.a (v := .pointer (some ⟨b, 0, none⟩)) (fun w hS => by exact E.move (AF_ev rfl hs0)) hS ?_
  refine RD.take 1 rfl (by kernel_rfl) Wd.a (v := .pointer (some ⟨b, 0, none⟩)) (fun w hS => by exact E.nilCheck (a := ⟨b, 0, none⟩) (AF_ev rfl tp)) hS ?_
  refine RD.take 2 rfl (by kernel_rfl) Wd.a (v := .pointer (some ⟨b, 0, none⟩)) (fun w hS => by exact E.fieldAddr (b := b) (o := 0) (f := { name := "Index", type := 3, offset := 0, embedded := false, tag := "", pkgPath := "", byteOffset := 0 }) (AF_ev rfl tp) Try.underlying106 rfl sz3 rfl) hS ?_
  refine RD.take 3 rfl (by kernel_rfl) Wd.a (v := .int .i64 i) (fun w hS => by exact E.load (a := ⟨b, 0, none⟩) Try.underlying3 rfl (AF_ev rfl tp) hS.1) hS ?_
  refine RD.take 4 rfl (by kernel_rfl) Wd.a (v := .pointer (some ⟨b, 0, none⟩)) (fun w hS => by exact E.move (AF_ev rfl (up rfl (up rfl (up rfl (up rfl hs0)))))) hS ?_
  refine RD.take 5 rfl (by kernel_rfl) Wd.a (v := .pointer (some ⟨b, 0, none⟩)) (fun w hS => by exact E.nilCheck (a := ⟨b, 0, none⟩) (AF_ev rfl tp)) hS ?_
  refine RD.take 6 rfl (by kernel_rfl) Wd.a (v := .pointer (some ⟨b, 2, none⟩)) (fun w hS => by exact E.fieldAddr (b := b) (o := 0) (f := { name := "L", type := 44, offset := 2, embedded := false, tag := "", pkgPath := "", byteOffset := 16 }) (AF_ev rfl tp) Try.underlying106 rfl sz44 rfl) hS ?_
  refine RD.take 7 rfl (by kernel_rfl) Wd.a (v := .slice X n c) (fun w hS => by exact E.load (a := ⟨b, 2, none⟩) Try.underlying44 rfl (AF_ev rfl tp) hS.2) hS ?_
  refine RD.take 8 rfl (by kernel_rfl) Wd.a (v := .int .i64 ((n : Nat) : Int)) (fun w hS => by exact E.lenS (p := X) (l := n) (c := c) Try.underlying44 (AF_ev rfl tp)) hS ?_
  refine RD.take 9 rfl (by kernel_rfl) Wd.a (v := .int .i64 (i + ((n : Nat) : Int))) (fun w hS => by exact E.add (k := .i64) (a := i) (b := ((n : Nat) : Int)) (AF_ev rfl (up rfl (up rfl (up rfl (up rfl (up rfl tp)))))) (AF_ev rfl tp) (show IntKind.i64.wrap (i + ((n : Nat) : Int)) = i + ((n : Nat) : Int) from (by rw [IntWalk.i64_in _ (by omega)]))) hS ?_
  refine RD.take 10 rfl (by kernel_rfl) Wd.a (v := .int .i64 (i + ((n : Nat) : Int))) (fun w hS => by exact E.assign (AF_ev rfl tp)) hS ?_
  refine RD.fin (by kernel_rfl) (fun τ => τ 0 = .pointer (some ⟨b, 0, none⟩) ∧ τ 2 = .int .i64 (i + ((n : Nat) : Int))) ⟨up rfl (up rfl (up rfl (up rfl (up rfl (up rfl (up rfl (up rfl (up rfl (up rfl (up rfl hs0)))))))))), tp⟩ ?_
  rintro τ ⟨hs0, hs2⟩
  refine CW.ret ?_
  refine ret1 (v := .int .i64 (i + ((n : Nat) : Int))) rfl (by exact (.tmp (AF_ev rfl hs2) .nil)) ?_
  exact ⟨rfl, hst⟩

theorem ref_At {p : Pers} {w : World} {R : List Assn} {b : Nat} {i t : Int} {es : List Ent} (k : Int) (hk : -9223372036854775808 ≤ k ∧ k ≤ 9223372036854775807) (hst : St p w (RefB p b i t es :: R)) :
    Calls Try.prog 60 #[.pointer (some ⟨b, 0, none⟩), .int .i64 k] w fun e w => ∃ x, x = atX i es k ∧ e = .returned (.tuple #[.agg #[.int .i64 x.term, .int .i64 x.kind, .slice x.X x.ns.length x.xc, .slice x.Y x.ms.length x.yc], .int .i64 (atE i es k)]) ∧ St p w (RefB p b i t es :: R) := by
  obtain ⟨X, c, hi, hn, hE, hcc, hX, hst⟩ := refOpen hst
  refine enter Try.func60 rfl (by simp) (n := 32) rfl fun τ hτ => ?_
  have hs0 : τ 0 = .pointer (some ⟨b, 0, none⟩) := hτ 0 (by simp)
  have hs1 : τ 1 = .int .i64 k := hτ 1 (by simp)
  clear hτ
  refine CW.seq ?_
  refine CW.region ?_
  refine RW.hard Wd.a ?_
  refine H.alloc zr58 hst fun b1 w hst => ?_
  refine RW.soft Wd.a (v := .int .i64 0) (by exact E.assign rfl) ?_
  refine RW.fin (fun τ => τ 0 = .pointer (some ⟨b, 0, none⟩) ∧ τ 1 = .int .i64 k ∧ τ 4 = .pointer (some ⟨b1, 0, none⟩) ∧ τ 5 = .int .i64 0) ⟨up rfl (up rfl hs0), up rfl (up rfl hs1), up rfl tp, tp⟩ ?_
  rintro τ ⟨hs0, hs1, hs4, hs5⟩
  refine CW.seq ?_
  refine CW.seq ?_
  refine Or.elim (Bool.eq_false_or_eq_true (decide (k ≤ i))) (fun ha1 => ?_) (fun ha1 => ?_)
  · skip
    refine CW.region ?_
    refine RW.soft Wd.a (v := .int .i64 k) (by exact E.move (AF_ev rfl hs1)) ?_
    refine RW.soft Wd.a (v := .pointer (some ⟨b, 0, none⟩)) (by exact E.move (AF_ev rfl (up rfl hs0))) ?_
    refine RW.soft Wd.a (v := .pointer (some ⟨b, 0, none⟩)) (by exact E.nilCheck (a := ⟨b, 0, none⟩) (AF_ev rfl tp)) ?_
    refine RW.soft Wd.a (v := .pointer (some ⟨b, 0, none⟩)) (by exact E.fieldAddr (b := b) (o := 0) (f := { name := "Index", type := 3, offset := 0, embedded := false, tag := "", pkgPath := "", byteOffset := 0 }) (AF_ev rfl tp) Try.underlying106 rfl sz3 rfl) ?_
    refine RW.soft Wd.a (v := .int .i64 i) (by exact E.load (a := ⟨b, 0, none⟩) Try.underlying3 rfl (AF_ev rfl tp) (hst.cell (.there .here) rfl)) ?_
    refine RW.soft Wd.a (v := .bool true) (by exact E.b (a := decide (k ≤ i)) (E.leq (k := .i64) (a := k) (b := i) (AF_ev rfl (up rfl (up rfl (up rfl (up rfl tp))))) (AF_ev rfl tp)) ha1) ?_
    refine RW.soft Wd.a (v := .bool true) (by exact E.move (AF_ev rfl tp)) ?_
    refine RW.pass (by exact Wd.no (x := 12) (b := true) rfl (AF_ev rfl tp) rfl) ?_
    refine RW.pass (by exact Wd.no (x := 12) (b := true) rfl (AF_ev rfl (up rfl tp)) rfl) ?_
    refine RW.pass (by exact Wd.no (x := 12) (b := true) rfl (AF_ev rfl (up rfl (up rfl tp))) rfl) ?_
    refine RW.pass (by exact Wd.no (x := 12) (b := true) rfl (AF_ev rfl (up rfl (up rfl (up rfl tp)))) rfl) ?_
    refine RW.soft Wd.a (v := .bool true) (by exact E.pickT (AF_ev rfl (up rfl (up rfl (up rfl (up rfl tp))))) rfl) ?_
    refine RW.fin (fun τ => τ 0 = .pointer (some ⟨b, 0, none⟩) ∧ τ 1 = .int .i64 k ∧ τ 4 = .pointer (some ⟨b1, 0, none⟩) ∧ τ 5 = .int .i64 0 ∧ τ 17 = .bool true) ⟨up rfl (up rfl (up rfl (up rfl (up rfl (up rfl (up rfl (up rfl (up rfl (up rfl (up rfl (up rfl hs0))))))))))), up rfl (up rfl (up rfl (up rfl (up rfl (up rfl (up rfl (up rfl (up rfl (up rfl (up rfl (up rfl hs1))))))))))), up rfl (up rfl (up rfl (up rfl (up rfl (up rfl (up rfl (up rfl (up rfl (up rfl (up rfl (up rfl hs4))))))))))), up rfl (up rfl (up rfl (up rfl (up rfl (up rfl (up rfl (up rfl (up rfl (up rfl (up rfl (up rfl hs5))))))))))), tp⟩ ?_
    rintro τ ⟨hs0, hs1, hs4, hs5, hs17⟩
    refine CW.condT (AF_ev rfl hs17) ?_
    refine CW.seq ?_
    refine CW.region ?_
    refine RW.soft Wd.a (v := .agg #[.int .i64 0, .int .i64 0, .slice none 0 0, .slice none 0 0]) (by exact E.build (vs := #[]) (by simp) (by kernel_rfl)) ?_
    refine RW.hard Wd.a ?_
    refine H.store (b := b1) (o := 0) (v := .agg #[.int .i64 0, .int .i64 0, .slice none 0 0, .slice none 0 0]) (c' := #[.int .i64 0, .int .i64 0, .slice none 0 0, .slice none 0 0]) (AF_ev rfl (up rfl hs4)) (AF_ev rfl tp) hst .here sz58 (by simp [Value.cells]) (by simp [Value.cells, Value.oneCell']) rfl fun w hst => ?_
    refine RW.soft Wd.a (v := .int .i64 170) (by exact E.assign rfl) ?_
    refine RW.fin (fun τ => τ 0 = .pointer (some ⟨b, 0, none⟩) ∧ τ 1 = .int .i64 k ∧ τ 4 = .pointer (some ⟨b1, 0, none⟩) ∧ τ 5 = .int .i64 170 ∧ τ 17 = .bool true) ⟨up rfl (u0 (up rfl hs0)), up rfl (u0 (up rfl hs1)), up rfl (u0 (up rfl hs4)), tp, up rfl (u0 (up rfl hs17))⟩ ?_
    rintro τ ⟨hs0, hs1, hs4, hs5, hs17⟩
    refine CW.ret ?_
    refine Th.r ?_
    refine retN (rs := [.cell 4 58, .tmp 5]) (vs := [.agg #[.int .i64 0, .int .i64 0, .slice none 0 0, .slice none 0 0], .int .i64 170]) rfl (by exact (.cell (AF_ev rfl hs4) (hst.blockAt .here) Try.underlying58 rfl sz58 (.tmp (AF_ev rfl hs5) .nil))) (by simp) ?_
    have hst := hst.take (.there (.there .here))
    have hst := hst.take (.there (.there .here))
    have hst := (hst.take (.there (.there .here))).drop
    exact ⟨zeroE, (atX_out (fun h => by have := of_decide_eq_true ha1; omega)).symm, by rw [atE_out (fun h => by have := of_decide_eq_true ha1; omega)]; rfl, refClose hi hn hE hst⟩
  · skip
    refine Or.elim (Bool.eq_false_or_eq_true (decide (k > (i + ((es.length : Nat) : Int))))) (fun ha2 => ?_) (fun ha2 => ?_)
    · skip
      refine CW.region ?_
      refine RW.soft Wd.a (v := .int .i64 k) (by exact E.move (AF_ev rfl hs1)) ?_
      refine RW.soft Wd.a (v := .pointer (some ⟨b, 0, none⟩)) (by exact E.move (AF_ev rfl (up rfl hs0))) ?_
      refine RW.soft Wd.a (v := .pointer (some ⟨b, 0, none⟩)) (by exact E.nilCheck (a := ⟨b, 0, none⟩) (AF_ev rfl tp)) ?_
      refine RW.soft Wd.a (v := .pointer (some ⟨b, 0, none⟩)) (by exact E.fieldAddr (b := b) (o := 0) (f := { name := "Index", type := 3, offset := 0, embedded := false, tag := "", pkgPath := "", byteOffset := 0 }) (AF_ev rfl tp) Try.underlying106 rfl sz3 rfl) ?_
      refine RW.soft Wd.a (v := .int .i64 i) (by exact E.load (a := ⟨b, 0, none⟩) Try.underlying3 rfl (AF_ev rfl tp) (hst.cell (.there .here) rfl)) ?_
      refine RW.soft Wd.a (v := .bool false) (by exact E.b (a := decide (k ≤ i)) (E.leq (k := .i64) (a := k) (b := i) (AF_ev rfl (up rfl (up rfl (up rfl (up rfl tp))))) (AF_ev rfl tp)) ha1) ?_
      refine RW.soft Wd.a (v := .bool false) (by exact E.move (AF_ev rfl tp)) ?_
      refine RW.soft (by exact Wd.yes (x := 12) rfl (AF_ev rfl tp)) (v := .int .i64 k) (by exact E.move (AF_ev rfl (up rfl (up rfl (up rfl (up rfl (up rfl (up rfl (up rfl hs1))))))))) ?_
      refine RW.soft (by exact Wd.yes (x := 12) rfl (AF_ev rfl (up rfl tp))) (v := .pointer (some ⟨b, 0, none⟩)) (by exact E.move (AF_ev rfl (up rfl (up rfl (up rfl (up rfl (up rfl (up rfl (up rfl (up rfl hs0)))))))))) ?_
      have hst := hst.take (.there .here)
      refine RW.hard (by exact Wd.yes (x := 12) rfl (AF_ev rfl (up rfl (up rfl tp)))) ?_
      refine H.call0 Try.func58 nm58 rfl (map1 (AF_ev rfl tp)) (Calls.mono (ref_Last (by omega) (by omega) hst) ?_)
      rintro _ w ⟨rfl, hst⟩
      refine ⟨_, rfl, ?_⟩
      show RW _ _ _ _ _ _ _
      refine RW.soft (by exact Wd.yes (x := 12) rfl (AF_ev rfl (up rfl (up rfl (up rfl tp))))) (v := .bool true) (by exact E.b (a := decide (k > (i + ((es.length : Nat) : Int)))) (E.gtr (k := .i64) (a := k) (b := i + ((es.length : Nat) : Int)) (AF_ev rfl (up rfl (up rfl tp))) (AF_ev rfl tp)) ha2) ?_
      refine RW.soft Wd.a (v := .bool true) (by exact E.pickF (AF_ev rfl (up rfl (up rfl (up rfl (up rfl tp))))) (AF_ev rfl tp)) ?_
      refine RW.fin (fun τ => τ 0 = .pointer (some ⟨b, 0, none⟩) ∧ τ 1 = .int .i64 k ∧ τ 4 = .pointer (some ⟨b1, 0, none⟩) ∧ τ 5 = .int .i64 0 ∧ τ 17 = .bool true) ⟨up rfl (up rfl (up rfl (up rfl (up rfl (up rfl (up rfl (up rfl (up rfl (up rfl (up rfl (up rfl hs0))))))))))), up rfl (up rfl (up rfl (up rfl (up rfl (up rfl (up rfl (up rfl (up rfl (up rfl (up rfl (up rfl hs1))))))))))), up rfl (up rfl (up rfl (up rfl (up rfl (up rfl (up rfl (up rfl (up rfl (up rfl (up rfl (up rfl hs4))))))))))), up rfl (up rfl (up rfl (up rfl (up rfl (up rfl (up rfl (up rfl (up rfl (up rfl (up rfl (up rfl hs5))))))))))), tp⟩ ?_
      rintro τ ⟨hs0, hs1, hs4, hs5, hs17⟩
      refine CW.condT (AF_ev rfl hs17) ?_
      refine CW.seq ?_
      refine CW.region ?_
      refine RW.soft Wd.a (v := .agg #[.int .i64 0, .int .i64 0, .slice none 0 0, .slice none 0 0]) (by exact E.build (vs := #[]) (by simp) (by kernel_rfl)) ?_
      refine RW.hard Wd.a ?_
      refine H.store (b := b1) (o := 0) (v := .agg #[.int .i64 0, .int .i64 0, .slice none 0 0, .slice none 0 0]) (c' := #[.int .i64 0, .int .i64 0, .slice none 0 0, .slice none 0 0]) (AF_ev rfl (up rfl hs4)) (AF_ev rfl tp) hst (.there .here) sz58 (by simp [Value.cells]) (by simp [Value.cells, Value.oneCell']) rfl fun w hst => ?_
      refine RW.soft Wd.a (v := .int .i64 170) (by exact E.assign rfl) ?_
      refine RW.fin (fun τ => τ 0 = .pointer (some ⟨b, 0, none⟩) ∧ τ 1 = .int .i64 k ∧ τ 4 = .pointer (some ⟨b1, 0, none⟩) ∧ τ 5 = .int .i64 170 ∧ τ 17 = .bool true) ⟨up rfl (u0 (up rfl hs0)), up rfl (u0 (up rfl hs1)), up rfl (u0 (up rfl hs4)), tp, up rfl (u0 (up rfl hs17))⟩ ?_
      rintro τ ⟨hs0, hs1, hs4, hs5, hs17⟩
      refine CW.ret ?_
      refine Th.r ?_
      refine retN (rs := [.cell 4 58, .tmp 5]) (vs := [.agg #[.int .i64 0, .int .i64 0, .slice none 0 0, .slice none 0 0], .int .i64 170]) rfl (by exact (.cell (AF_ev rfl hs4) (hst.blockAt (.there .here)) Try.underlying58 rfl sz58 (.tmp (AF_ev rfl hs5) .nil))) (by simp) ?_
      have hst := hst.take (.there (.there .here))
      have hst := hst.take (.there .here)
      have hst := (hst.take (.there (.there .here))).drop
      exact ⟨zeroE, (atX_out (fun h => by have := of_decide_eq_true ha2; omega)).symm, by rw [atE_out (fun h => by have := of_decide_eq_true ha2; omega)]; rfl, refClose hi hn hE hst⟩
    · skip
      refine CW.region ?_
      refine RW.soft Wd.a (v := .int .i64 k) (by exact E.move (AF_ev rfl hs1)) ?_
      refine RW.soft Wd.a (v := .pointer (some ⟨b, 0, none⟩)) (by exact E.move (AF_ev rfl (up rfl hs0))) ?_
      refine RW.soft Wd.a (v := .pointer (some ⟨b, 0, none⟩)) (by exact E.nilCheck (a := ⟨b, 0, none⟩) (AF_ev rfl tp)) ?_
      refine RW.soft Wd.a (v := .pointer (some ⟨b, 0, none⟩)) (by exact E.fieldAddr (b := b) (o := 0) (f := { name := "Index", type := 3, offset := 0, embedded := false, tag := "", pkgPath := "", byteOffset := 0 }) (AF_ev rfl tp) Try.underlying106 rfl sz3 rfl) ?_
      refine RW.soft Wd.a (v := .int .i64 i) (by exact E.load (a := ⟨b, 0, none⟩) Try.underlying3 rfl (AF_ev rfl tp) (hst.cell (.there .here) rfl)) ?_
      refine RW.soft Wd.a (v := .bool false) (by exact E.b (a := decide (k ≤ i)) (E.leq (k := .i64) (a := k) (b := i) (AF_ev rfl (up rfl (up rfl (up rfl (up rfl tp))))) (AF_ev rfl tp)) ha1) ?_
      refine RW.soft Wd.a (v := .bool false) (by exact E.move (AF_ev rfl tp)) ?_
      refine RW.soft (by exact Wd.yes (x := 12) rfl (AF_ev rfl tp)) (v := .int .i64 k) (by exact E.move (AF_ev rfl (up rfl (up rfl (up rfl (up rfl (up rfl (up rfl (up rfl hs1))))))))) ?_
      refine RW.soft (by exact Wd.yes (x := 12) rfl (AF_ev rfl (up rfl tp))) (v := .pointer (some ⟨b, 0, none⟩)) (by exact E.move (AF_ev rfl (up rfl (up rfl (up rfl (up rfl (up rfl (up rfl (up rfl (up rfl hs0)))))))))) ?_
      have hst := hst.take (.there .here)
      refine RW.hard (by exact Wd.yes (x := 12) rfl (AF_ev rfl (up rfl (up rfl tp)))) ?_
      refine H.call0 Try.func58 nm58 rfl (map1 (AF_ev rfl tp)) (Calls.mono (ref_Last (by omega) (by omega) hst) ?_)
      rintro _ w ⟨rfl, hst⟩
      refine ⟨_, rfl, ?_⟩
      show RW _ _ _ _ _ _ _
      refine RW.soft (by exact Wd.yes (x := 12) rfl (AF_ev rfl (up rfl (up rfl (up rfl tp))))) (v := .bool false) (by exact E.b (a := decide (k > (i + ((es.length : Nat) : Int)))) (E.gtr (k := .i64) (a := k) (b := i + ((es.length : Nat) : Int)) (AF_ev rfl (up rfl (up rfl tp))) (AF_ev rfl tp)) ha2) ?_
      refine RW.soft Wd.a (v := .bool false) (by exact E.pickF (AF_ev rfl (up rfl (up rfl (up rfl (up rfl tp))))) (AF_ev rfl tp)) ?_
      refine RW.fin (fun τ => τ 0 = .pointer (some ⟨b, 0, none⟩) ∧ τ 1 = .int .i64 k ∧ τ 4 = .pointer (some ⟨b1, 0, none⟩) ∧ τ 5 = .int .i64 0 ∧ τ 17 = .bool false) ⟨up rfl (up rfl (up rfl (up rfl (up rfl (up rfl (up rfl (up rfl (up rfl (up rfl (up rfl (up rfl hs0))))))))))), up rfl (up rfl (up rfl (up rfl (up rfl (up rfl (up rfl (up rfl (up rfl (up rfl (up rfl (up rfl hs1))))))))))), up rfl (up rfl (up rfl (up rfl (up rfl (up rfl (up rfl (up rfl (up rfl (up rfl (up rfl (up rfl hs4))))))))))), up rfl (up rfl (up rfl (up rfl (up rfl (up rfl (up rfl (up rfl (up rfl (up rfl (up rfl (up rfl hs5))))))))))), tp⟩ ?_
      rintro τ ⟨hs0, hs1, hs4, hs5, hs17⟩
      refine CW.condF (AF_ev rfl hs17) ?_
      refine CW.skip ?_
      refine Th.n ?_
      refine CW.seq ?_
      have ha1_ := of_decide_eq_false ha1
      have ha2_ := of_decide_eq_false ha2
      obtain ⟨g, rfl⟩ := hX (by omega)
      obtain ⟨x, hx⟩ : ∃ x, es[(k - i - 1).toNat]? = some x := ⟨_, List.getElem?_eq_getElem (by omega)⟩
      refine CW.regionD [0, 1, 2, 3, 4, 5, 6, 7, 8, 9, 10, 11, 12] (fun w => w.cell? ⟨b, 2, none⟩ = some (.slice (some ⟨g, 0, none⟩) es.length c) ∧ w.cell? ⟨b, 0, none⟩ = some (.int .i64 i) ∧ (∀ j_ v_, (x.enc : List Value)[j_]? = some v_ → w.cell? ⟨g, (k - i - 1).toNat * 4 + j_, none⟩ = some v_)) mixed ?_
      have hst := hst.drew
      generalize w.drew = w at hst ⊢
      have hS : w.cell? ⟨b, 2, none⟩ = some (.slice (some ⟨g, 0, none⟩) es.length c) ∧ w.cell? ⟨b, 0, none⟩ = some (.int .i64 i) ∧ (∀ j_ v_, (x.enc : List Value)[j_]? = some v_ → w.cell? ⟨g, (k - i - 1).toNat * 4 + j_, none⟩ = some v_) := ⟨hst.cell .here rfl, hst.cell .here rfl, (fun j u hu => hst.ocell (.there (.there .here)) (flat_get Ent.enc_len hx hu))⟩
      refine RD.take 0 rfl (by kernel_rfl) Wd.a (v := .pointer (some ⟨b, 0, none⟩)) (fun w hS => by exact E.move (AF_ev rfl hs0)) hS ?_
      refine RD.take 1 rfl (by kernel_rfl) Wd.a (v := .pointer (some ⟨b, 0, none⟩)) (fun w hS => by exact E.nilCheck (a := ⟨b, 0, none⟩) (AF_ev rfl tp)) hS ?_
      refine RD.take 2 rfl (by kernel_rfl) Wd.a (v := .pointer (some ⟨b, 2, none⟩)) (fun w hS => by exact E.fieldAddr (b := b) (o := 0) (f := { name := "L", type := 44, offset := 2, embedded := false, tag := "", pkgPath := "", byteOffset := 16 }) (AF_ev rfl tp) Try.underlying106 rfl sz44 rfl) hS ?_
      refine RD.take 3 rfl (by kernel_rfl) Wd.a (v := .slice (some ⟨g, 0, none⟩) es.length c) (fun w hS => by exact E.load (a := ⟨b, 2, none⟩) Try.underlying44 rfl (AF_ev rfl tp) hS.1) hS ?_
      refine RD.take 4 rfl (by kernel_rfl) Wd.a (v := .int .i64 k) (fun w hS => by exact E.move (AF_ev rfl (up rfl (up rfl (up rfl (up rfl hs1)))))) hS ?_
      refine RD.take 5 rfl (by kernel_rfl) Wd.a (v := .pointer (some ⟨b, 0, none⟩)) (fun w hS => by exact E.move (AF_ev rfl (up rfl (up rfl (up rfl (up rfl (up rfl hs0))))))) hS ?_
      refine RD.take 6 rfl (by kernel_rfl) Wd.a (v := .pointer (some ⟨b, 0, none⟩)) (fun w hS => by exact E.nilCheck (a := ⟨b, 0, none⟩) (AF_ev rfl tp)) hS ?_
      refine RD.take 7 rfl (by kernel_rfl) Wd.a (v := .pointer (some ⟨b, 0, none⟩)) (fun w hS => by exact E.fieldAddr (b := b) (o := 0) (f := { name := "Index", type := 3, offset := 0, embedded := false, tag := "", pkgPath := "", byteOffset := 0 }) (AF_ev rfl tp) Try.underlying106 rfl sz3 rfl) hS ?_
      refine RD.take 8 rfl (by kernel_rfl) Wd.a (v := .int .i64 i) (fun w hS => by exact E.load (a := ⟨b, 0, none⟩) Try.underlying3 rfl (AF_ev rfl tp) hS.2.1) hS ?_
      refine RD.take 9 rfl (by kernel_rfl) Wd.a (v := .int .i64 (k - i)) (fun w hS => by exact E.sub (k := .i64) (a := k) (b := i) (AF_ev rfl (up rfl (up rfl (up rfl (up rfl tp))))) (AF_ev rfl tp) (show IntKind.i64.wrap (k - i) = k - i from (by rw [IntWalk.i64_in _ (by omega)]))) hS ?_
      refine RD.take 10 rfl (by kernel_rfl) Wd.a (v := .int .i64 (k - i - 1)) (fun w hS => by exact E.sub (k := .i64) (a := k - i) (b := 1) (AF_ev rfl tp) rfl (show IntKind.i64.wrap ((k - i) - 1) = k - i - 1 from (by rw [IntWalk.i64_in _ (by omega)] <;> omega))) hS ?_
      refine RD.take 11 rfl (by kernel_rfl) Wd.a (v := .pointer (some ⟨g, (k - i - 1).toNat * 4, none⟩)) (fun w hS => by exact E.indexAddr (b := g) (o := 0) (l := es.length) (c := c) (i := k - i - 1) Try.underlying44 sz58 (AF_ev rfl (up rfl (up rfl (up rfl (up rfl (up rfl (up rfl (up rfl tp)))))))) (AF_ev rfl tp) (by omega) (by omega) (by simp)) hS ?_
      refine RD.take 12 rfl (by kernel_rfl) Wd.a (v := .agg #[.int .i64 x.term, .int .i64 x.kind, .slice x.X x.ns.length x.xc, .slice x.Y x.ms.length x.yc]) (fun w hS => by exact E.loadN (cs := x.enc) Try.underlying58 rfl sz58 (AF_ev rfl tp) rfl hS.2.2) hS ?_
      refine RD.only 13 rfl (by kernel_rfl) Wd.a ?_
      refine H.store (b := b1) (o := 0) (v := .agg #[.int .i64 x.term, .int .i64 x.kind, .slice x.X x.ns.length x.xc, .slice x.Y x.ms.length x.yc]) (c' := #[.int .i64 x.term, .int .i64 x.kind, .slice x.X x.ns.length x.xc, .slice x.Y x.ms.length x.yc]) (AF_ev rfl (up rfl (up rfl (up rfl (up rfl (up rfl (up rfl (up rfl (up rfl (up rfl (up rfl (up rfl (up rfl (up rfl hs4)))))))))))))) (AF_ev rfl tp) hst (.there .here) sz58 (by simp [Value.cells]) (by simp [Value.cells, Value.oneCell']) rfl fun w hst => ?_
      refine ⟨fun h => Bool.noConfusion ((show needs _ _ _ = false by kernel_rfl).symm.trans h), ?_⟩
      refine RD.only 14 rfl (by kernel_rfl) Wd.a (Hd.value (v := .int .i64 0) (by exact E.assign rfl) ⟨fun h => Bool.noConfusion ((show needs _ _ _ = false by kernel_rfl).symm.trans h), ?_⟩)
      refine RD.fin (by kernel_rfl) (fun τ => τ 0 = .pointer (some ⟨b, 0, none⟩) ∧ τ 1 = .int .i64 k ∧ τ 4 = .pointer (some ⟨b1, 0, none⟩) ∧ τ 5 = .int .i64 0 ∧ τ 17 = .bool false) ⟨up rfl (u0 (up rfl (up rfl (up rfl (up rfl (up rfl (up rfl (up rfl (up rfl (up rfl (up rfl (up rfl (up rfl (up rfl hs0)))))))))))))), up rfl (u0 (up rfl (up rfl (up rfl (up rfl (up rfl (up rfl (up rfl (up rfl (up rfl (up rfl (up rfl (up rfl (up rfl hs1)))))))))))))), up rfl (u0 (up rfl (up rfl (up rfl (up rfl (up rfl (up rfl (up rfl (up rfl (up rfl (up rfl (up rfl (up rfl (up rfl hs4)))))))))))))), tp, up rfl (u0 (up rfl (up rfl (up rfl (up rfl (up rfl (up rfl (up rfl (up rfl (up rfl (up rfl (up rfl (up rfl (up rfl hs17))))))))))))))⟩ ?_
      rintro τ ⟨hs0, hs1, hs4, hs5, hs17⟩
      refine CW.ret ?_
      refine retN (rs := [.cell 4 58, .tmp 5]) (vs := [.agg #[.int .i64 x.term, .int .i64 x.kind, .slice x.X x.ns.length x.xc, .slice x.Y x.ms.length x.yc], .int .i64 0]) rfl (by exact (.cell (AF_ev rfl hs4) (hst.blockAt (.there .here)) Try.underlying58 rfl sz58 (.tmp (AF_ev rfl hs5) .nil))) (by simp) ?_
      have hst := hst.take (.there (.there .here))
      have hst := hst.take (.there .here)
      have hst := (hst.take (.there (.there .here))).drop
      have hx2 : es[(k - (i + 1)).toNat]? = some x := by rw [show k - (i + 1) = k - i - 1 by omega]; exact hx
      exact ⟨x, (atX_in ⟨by omega, by omega⟩ hx2).symm, by rw [atE_in ⟨by omega, by omega⟩], refClose hi hn hE hst⟩

theorem ref_Term {p : Pers} {w : World} {R : List Assn} {b : Nat} {i t : Int} {es : List Ent} (k : Int) (hk : -9223372036854775808 ≤ k ∧ k ≤ 9223372036854775807) (hst : St p w (RefB p b i t es :: R)) :
    Calls Try.prog 59 #[.pointer (some ⟨b, 0, none⟩), .int .i64 k] w fun e w => e = .returned (.tuple #[.int .i64 (termT i t (ts es) k), .int .i64 (termE i (ts es) k)]) ∧ St p w (RefB p b i t es :: R) := by
  obtain ⟨X, c, hi, hn, hE, hcc, hX, hst⟩ := refOpen hst
  refine enter Try.func59 rfl (by simp) (n := 27) rfl fun τ hτ => ?_
  have hs0 : τ 0 = .pointer (some ⟨b, 0, none⟩) := hτ 0 (by simp)
  have hs1 : τ 1 = .int .i64 k := hτ 1 (by simp)
  clear hτ
  refine CW.seq ?_
  refine CW.region ?_
  refine RW.soft Wd.a (v := .int .i64 0) (by exact E.assign rfl) ?_
  refine RW.soft Wd.a (v := .int .i64 0) (by exact E.assign rfl) ?_
  refine RW.fin (fun τ => τ 0 = .pointer (some ⟨b, 0, none⟩) ∧ τ 1 = .int .i64 k ∧ τ 4 = .int .i64 0 ∧ τ 5 = .int .i64 0) ⟨up rfl (up rfl hs0), up rfl (up rfl hs1), up rfl tp, tp⟩ ?_
  rintro τ ⟨hs0, hs1, hs4, hs5⟩
  refine CW.seq ?_
  refine CW.seq ?_
  refine CW.region ?_
  refine RW.soft Wd.a (v := .int .i64 k) (by exact E.move (AF_ev rfl hs1)) ?_
  refine RW.soft Wd.a (v := .pointer (some ⟨b, 0, none⟩)) (by exact E.move (AF_ev rfl (up rfl hs0))) ?_
  refine RW.soft Wd.a (v := .pointer (some ⟨b, 0, none⟩)) (by exact E.nilCheck (a := ⟨b, 0, none⟩) (AF_ev rfl tp)) ?_
  refine RW.soft Wd.a (v := .pointer (some ⟨b, 0, none⟩)) (by exact E.fieldAddr (b := b) (o := 0) (f := { name := "Index", type := 3, offset := 0, embedded := false, tag := "", pkgPath := "", byteOffset := 0 }) (AF_ev rfl tp) Try.underlying106 rfl sz3 rfl) ?_
  refine RW.soft Wd.a (v := .int .i64 i) (by exact E.load (a := ⟨b, 0, none⟩) Try.underlying3 rfl (AF_ev rfl tp) (hst.cell .here rfl)) ?_
  refine RW.soft Wd.a (v := .bool (k == i)) (by exact E.eql (k := .i64) (a := k) (b := i) (AF_ev rfl (up rfl (up rfl (up rfl (up rfl tp))))) (AF_ev rfl tp)) ?_
  refine RW.fin (fun τ => τ 0 = .pointer (some ⟨b, 0, none⟩) ∧ τ 1 = .int .i64 k ∧ τ 4 = .int .i64 0 ∧ τ 5 = .int .i64 0 ∧ τ 13 = .bool (k == i)) ⟨up rfl (up rfl (up rfl (up rfl (up rfl (up rfl hs0))))), up rfl (up rfl (up rfl (up rfl (up rfl (up rfl hs1))))), up rfl (up rfl (up rfl (up rfl (up rfl (up rfl hs4))))), up rfl (up rfl (up rfl (up rfl (up rfl (up rfl hs5))))), tp⟩ ?_
  rintro τ ⟨hs0, hs1, hs4, hs5, hs13⟩
  refine CW.cond (AF_ev rfl hs13) (fun hc1 => ?_) (fun hc1 => ?_)
  · have hc1_ := hc1
    try simp only [decide_eq_true_eq, decide_eq_false_iff_not, Bool.and_eq_true, Bool.or_eq_true, Bool.and_eq_false_iff, Bool.or_eq_false_iff, Bool.not_eq_true', Bool.not_eq_false', beq_iff_eq, beq_eq_false_iff_ne, bne_iff_ne, bne_eq_false_iff_eq, ne_eq, Int.not_lt, Int.not_le, gt_iff_lt, ge_iff_le] at hc1_
    refine CW.seq ?_
    refine CW.region ?_
    refine RW.soft Wd.a (v := .pointer (some ⟨b, 0, none⟩)) (by exact E.move (AF_ev rfl hs0)) ?_
    refine RW.soft Wd.a (v := .pointer (some ⟨b, 0, none⟩)) (by exact E.nilCheck (a := ⟨b, 0, none⟩) (AF_ev rfl tp)) ?_
    refine RW.soft Wd.a (v := .pointer (some ⟨b, 1, none⟩)) (by exact E.fieldAddr (b := b) (o := 0) (f := { name := "Base", type := 3, offset := 1, embedded := false, tag := "", pkgPath := "", byteOffset := 8 }) (AF_ev rfl tp) Try.underlying106 rfl sz3 rfl) ?_
    refine RW.soft Wd.a (v := .int .i64 t) (by exact E.load (a := ⟨b, 1, none⟩) Try.underlying3 rfl (AF_ev rfl tp) (hst.cell .here rfl)) ?_
    refine RW.soft Wd.a (v := .int .i64 t) (by exact E.assign (AF_ev rfl tp)) ?_
    refine RW.soft Wd.a (v := .int .i64 0) (by exact E.assign rfl) ?_
    refine RW.fin (fun τ => τ 0 = .pointer (some ⟨b, 0, none⟩) ∧ τ 1 = .int .i64 k ∧ τ 4 = .int .i64 t ∧ τ 5 = .int .i64 0 ∧ τ 13 = .bool true) ⟨up rfl (up rfl (up rfl (up rfl (up rfl (up rfl hs0))))), up rfl (up rfl (up rfl (up rfl (up rfl (up rfl hs1))))), up rfl tp, tp, up rfl (up rfl (up rfl (up rfl (up rfl (up rfl (Eq.trans hs13 (congrArg Value.bool hc1)))))))⟩ ?_
    rintro τ ⟨hs0, hs1, hs4, hs5, hs13⟩
    refine CW.ret ?_
    refine Th.r ?_
    refine retN (rs := [.tmp 4, .tmp 5]) (vs := [.int .i64 t, .int .i64 0]) rfl (by exact (.tmp (AF_ev rfl hs4) (.tmp (AF_ev rfl hs5) .nil))) (by simp) ?_
    have hst := hst.take (.there .here)
    have hst := hst.take (.there .here)
    obtain rfl : k = i := by omega
    exact ⟨by rw [termT_base, termE_base], refClose hi hn hE hst⟩
  · have hc1_ := hc1
    try simp only [decide_eq_true_eq, decide_eq_false_iff_not, Bool.and_eq_true, Bool.or_eq_true, Bool.and_eq_false_iff, Bool.or_eq_false_iff, Bool.not_eq_true', Bool.not_eq_false', beq_iff_eq, beq_eq_false_iff_ne, bne_iff_ne, bne_eq_false_iff_eq, ne_eq, Int.not_lt, Int.not_le, gt_iff_lt, ge_iff_le] at hc1_
    refine CW.skip ?_
    refine Th.n ?_
    refine CW.seq ?_
    refine CW.region ?_
    refine RW.soft Wd.a (v := .pointer (some ⟨b, 0, none⟩)) (by exact E.move (AF_ev rfl hs0)) ?_
    refine RW.soft Wd.a (v := .int .i64 k) (by exact E.move (AF_ev rfl (up rfl hs1))) ?_
    have hst := hst.take (.there .here)
    have hst := hst.take (.there .here)
    have hst := refClose hi hn hE hst
    refine RW.hard Wd.a ?_
    refine H.call0 Try.func60 nm60 rfl (map2 (AF_ev rfl (up rfl tp)) (AF_ev rfl tp)) (Calls.mono (ref_At k (by omega) hst) ?_)
    rintro _ w ⟨x2, hx2, rfl, hst⟩
    refine ⟨_, rfl, ?_⟩
    show RW _ _ _ _ _ _ _
    refine RW.soft Wd.a (v := .tuple #[.agg #[.int .i64 x2.term, .int .i64 x2.kind, .slice x2.X x2.ns.length x2.xc, .slice x2.Y x2.ms.length x2.yc], .int .i64 (atE i es k)]) (by exact E.move (AF_ev rfl tp)) ?_
    refine RW.soft Wd.a (v := .agg #[.int .i64 x2.term, .int .i64 x2.kind, .slice x2.X x2.ns.length x2.xc, .slice x2.Y x2.ms.length x2.yc]) (by exact E.extract (vs := #[.agg #[.int .i64 x2.term, .int .i64 x2.kind, .slice x2.X x2.ns.length x2.xc, .slice x2.Y x2.ms.length x2.yc], .int .i64 (atE i es k)]) (AF_ev rfl tp) rfl) ?_
    refine RW.soft Wd.a (v := .int .i64 (atE i es k)) (by exact E.extract (vs := #[.agg #[.int .i64 x2.term, .int .i64 x2.kind, .slice x2.X x2.ns.length x2.xc, .slice x2.Y x2.ms.length x2.yc], .int .i64 (atE i es k)]) (AF_ev rfl (up rfl tp)) rfl) ?_
    refine RW.hard Wd.a ?_
    refine H.alloc zr58 hst fun b3 w hst => ?_
    refine RW.hard Wd.a ?_
    refine H.store (b := b3) (o := 0) (v := .agg #[.int .i64 x2.term, .int .i64 x2.kind, .slice x2.X x2.ns.length x2.xc, .slice x2.Y x2.ms.length x2.yc]) (c' := #[.int .i64 x2.term, .int .i64 x2.kind, .slice x2.X x2.ns.length x2.xc, .slice x2.Y x2.ms.length x2.yc]) (AF_ev rfl tp) (AF_ev rfl (up rfl (up rfl tp))) hst .here sz58 (by simp [Value.cells]) (by simp [Value.cells, Value.oneCell']) rfl fun w hst => ?_
    refine RW.soft Wd.a (v := .int .i64 (atE i es k)) (by exact E.assign (AF_ev rfl (u0 (up rfl tp)))) ?_
    refine RW.fin (fun τ => τ 0 = .pointer (some ⟨b, 0, none⟩) ∧ τ 1 = .int .i64 k ∧ τ 4 = .int .i64 0 ∧ τ 5 = .int .i64 0 ∧ τ 6 = .pointer (some ⟨b3, 0, none⟩) ∧ τ 7 = .int .i64 (atE i es k) ∧ τ 13 = .bool false) ⟨up rfl (u0 (up rfl (up rfl (up rfl (up rfl (up rfl (up rfl (up rfl hs0)))))))), up rfl (u0 (up rfl (up rfl (up rfl (up rfl (up rfl (up rfl (up rfl hs1)))))))), up rfl (u0 (up rfl (up rfl (up rfl (up rfl (up rfl (up rfl (up rfl hs4)))))))), up rfl (u0 (up rfl (up rfl (up rfl (up rfl (up rfl (up rfl (up rfl hs5)))))))), up rfl (u0 tp), tp, up rfl (u0 (up rfl (up rfl (up rfl (up rfl (up rfl (up rfl (up rfl (Eq.trans hs13 (congrArg Value.bool hc1))))))))))⟩ ?_
    rintro τ ⟨hs0, hs1, hs4, hs5, hs6, hs7, hs13⟩
    refine CW.seq ?_
    refine CW.region ?_
    refine RW.soft Wd.a (v := .pointer (some ⟨b3, 0, none⟩)) (by exact E.fieldAddr (b := b3) (o := 0) (f := { name := "Term", type := 3, offset := 0, embedded := false, tag := "", pkgPath := "", byteOffset := 0 }) (AF_ev rfl hs6) Try.underlying58 rfl sz3 rfl) ?_
    refine RW.soft Wd.a (v := .int .i64 x2.term) (by exact E.load (a := ⟨b3, 0, none⟩) Try.underlying3 rfl (AF_ev rfl tp) (hst.cell .here rfl)) ?_
    refine RW.soft Wd.a (v := .int .i64 (atE i es k)) (by exact E.move (AF_ev rfl (up rfl (up rfl hs7)))) ?_
    refine RW.soft Wd.a (v := .int .i64 x2.term) (by exact E.assign (AF_ev rfl (up rfl tp))) ?_
    refine RW.soft Wd.a (v := .int .i64 (atE i es k)) (by exact E.assign (AF_ev rfl (up rfl tp))) ?_
    refine RW.fin (fun τ => τ 0 = .pointer (some ⟨b, 0, none⟩) ∧ τ 1 = .int .i64 k ∧ τ 4 = .int .i64 x2.term ∧ τ 5 = .int .i64 (atE i es k) ∧ τ 6 = .pointer (some ⟨b3, 0, none⟩) ∧ τ 7 = .int .i64 (atE i es k) ∧ τ 13 = .bool false) ⟨up rfl (up rfl (up rfl (up rfl (up rfl hs0)))), up rfl (up rfl (up rfl (up rfl (up rfl hs1)))), up rfl tp, tp, up rfl (up rfl (up rfl (up rfl (up rfl hs6)))), up rfl (up rfl (up rfl (up rfl (up rfl hs7)))), up rfl (up rfl (up rfl (up rfl (up rfl hs13))))⟩ ?_
    rintro τ ⟨hs0, hs1, hs4, hs5, hs6, hs7, hs13⟩
    refine CW.ret ?_
    refine retN (rs := [.tmp 4, .tmp 5]) (vs := [.int .i64 x2.term, .int .i64 (atE i es k)]) rfl (by exact (.tmp (AF_ev rfl hs4) (.tmp (AF_ev rfl hs5) .nil))) (by simp) ?_
    have hst := hst.take (.there .here)
    have hst := (hst.take (.there .here)).drop
    have hki : k ≠ i := by omega
    exact ⟨by rw [termT_atX hki, termE_atE hki, ← hx2], hst⟩

theorem ref_LastL {p : Pers} {w : World} {R : List Assn} {b : Nat} {i t : Int} {es : List Ent} (hst : St p w (RefB p b i t es :: R)) :
    Calls Try.prog 58 #[.pointer (some ⟨b, 0, none⟩)] w fun e w => e = .returned (.int .i64 (i + ((es.length : Nat) : Int))) ∧ St p w (RefB p b i t es :: R) := by
  obtain ⟨X, c, hi, hn, hE, hcc, hX, s⟩ := refOpen hst
  exact Calls.mono (ref_Last hi hn s) (by rintro _ w ⟨rfl, s⟩; exact ⟨rfl, refClose hi hn hE s⟩)

theorem ref_Behind {p : Pers} {w : World} {R : List Assn} {b : Nat} {i t : Int} {es : List Ent} (k u : Int) (hst : St p w (RefB p b i t es :: R)) :
    Calls Try.prog 83 #[.pointer (some ⟨b, 0, none⟩), .int .i64 k, .int .i64 u] w fun e w => e = .returned (.bool (behB i t es k u)) ∧ St p w (RefB p b i t es :: R) := by
  obtain ⟨X, c, hi, hn, hE, hcc, hX, hst⟩ := refOpen hst
  refine enter Try.func83 rfl (by simp) (n := 30) rfl fun τ hτ => ?_
  have hs0 : τ 0 = .pointer (some ⟨b, 0, none⟩) := hτ 0 (by simp)
  have hs1 : τ 1 = .int .i64 k := hτ 1 (by simp)
  have hs2 : τ 2 = .int .i64 u := hτ 2 (by simp)
  clear hτ
  refine CW.seq ?_
  have hst := hst.take (.there .here)
  have hst := hst.take (.there .here)
  have hst := refClose hi hn hE hst
  refine CW.region ?_
  refine RW.soft Wd.a (v := .bool false) (by exact E.assign rfl) ?_
  refine RW.fin (fun τ => τ 0 = .pointer (some ⟨b, 0, none⟩) ∧ τ 1 = .int .i64 k ∧ τ 2 = .int .i64 u ∧ τ 6 = .bool false) ⟨up rfl hs0, up rfl hs1, up rfl hs2, tp⟩ ?_
  rintro τ ⟨hs0, hs1, hs2, hs6⟩
  refine CW.seq ?_
  refine CW.region ?_
  refine RW.soft Wd.a (v := .pointer (some ⟨b, 0, none⟩)) (by exact E.move (AF_ev rfl hs0)) ?_
  refine RW.soft Wd.a (v := .pointer (some ⟨b, 0, none⟩)) (by exact E.move (AF_ev rfl (up rfl hs0))) ?_
  refine RW.hard Wd.a ?_
  refine H.call0 Try.func58 nm58 rfl (map1 (AF_ev rfl tp)) (Calls.mono (ref_LastL hst) ?_)
  rintro _ w ⟨rfl, hst⟩
  refine ⟨_, rfl, ?_⟩
  show RW _ _ _ _ _ _ _
  refine RW.hard Wd.a ?_
  refine H.call0 Try.func59 nm59 rfl (map2 (AF_ev rfl (up rfl (up rfl tp))) (AF_ev rfl tp)) (Calls.mono (ref_Term (i + ((es.length : Nat) : Int)) (by omega) hst) ?_)
  rintro _ w ⟨rfl, hst⟩
  refine ⟨_, rfl, ?_⟩
  show RW _ _ _ _ _ _ _
  refine RW.soft Wd.a (v := .tuple #[.int .i64 (termT i t (ts es) (i + ((es.length : Nat) : Int))), .int .i64 (termE i (ts es) (i + ((es.length : Nat) : Int)))]) (by exact E.move (AF_ev rfl tp)) ?_
  refine RW.soft Wd.a (v := .int .i64 (termT i t (ts es) (i + ((es.length : Nat) : Int)))) (by exact E.extract (vs := #[.int .i64 (termT i t (ts es) (i + ((es.length : Nat) : Int))), .int .i64 (termE i (ts es) (i + ((es.length : Nat) : Int)))]) (AF_ev rfl tp) rfl) ?_
  refine RW.soft Wd.a (v := .int .i64 (termE i (ts es) (i + ((es.length : Nat) : Int)))) (by exact E.extract (vs := #[.int .i64 (termT i t (ts es) (i + ((es.length : Nat) : Int))), .int .i64 (termE i (ts es) (i + ((es.length : Nat) : Int)))]) (AF_ev rfl (up rfl tp)) rfl) ?_
  refine RW.soft Wd.a (v := .int .i64 (termT i t (ts es) (i + ((es.length : Nat) : Int)))) (by exact E.assign (AF_ev rfl (up rfl tp))) ?_
  refine RW.soft Wd.a (v := .int .i64 (termE i (ts es) (i + ((es.length : Nat) : Int)))) (by exact E.assign (AF_ev rfl (up rfl tp))) ?_
  refine RW.fin (fun τ => τ 0 = .pointer (some ⟨b, 0, none⟩) ∧ τ 1 = .int .i64 k ∧ τ 2 = .int .i64 u ∧ τ 6 = .bool false ∧ τ 7 = .int .i64 (termT i t (ts es) (i + ((es.length : Nat) : Int)))) ⟨up rfl (up rfl (up rfl (up rfl (up rfl (up rfl (up rfl (up rfl (up rfl hs0)))))))), up rfl (up rfl (up rfl (up rfl (up rfl (up rfl (up rfl (up rfl (up rfl hs1)))))))), up rfl (up rfl (up rfl (up rfl (up rfl (up rfl (up rfl (up rfl (up rfl hs2)))))))), up rfl (up rfl (up rfl (up rfl (up rfl (up rfl (up rfl (up rfl (up rfl hs6)))))))), up rfl tp⟩ ?_
  rintro τ ⟨hs0, hs1, hs2, hs6, hs7⟩
  refine CW.seq ?_
  refine Or.elim (Bool.eq_false_or_eq_true (decide (u > (termT i t (ts es) (i + ((es.length : Nat) : Int)))))) (fun hsp => ?_) (fun hsp => ?_)
  · skip
    refine CW.region ?_
    refine RW.soft Wd.a (v := .int .i64 u) (by exact E.move (AF_ev rfl hs2)) ?_
    refine RW.soft Wd.a (v := .int .i64 (termT i t (ts es) (i + ((es.length : Nat) : Int)))) (by exact E.move (AF_ev rfl (up rfl hs7))) ?_
    refine RW.soft Wd.a (v := .bool true) (by exact E.b (a := decide (u > (termT i t (ts es) (i + ((es.length : Nat) : Int))))) (E.gtr (k := .i64) (a := u) (b := termT i t (ts es) (i + ((es.length : Nat) : Int))) (AF_ev rfl (up rfl tp)) (AF_ev rfl tp)) hsp) ?_
    refine RW.soft Wd.a (v := .bool true) (by exact E.move (AF_ev rfl tp)) ?_
    refine RW.pass (by exact Wd.no (x := 19) (b := true) rfl (AF_ev rfl tp) rfl) ?_
    refine RW.pass (by exact Wd.no (x := 19) (b := true) rfl (AF_ev rfl (up rfl tp)) rfl) ?_
    refine RW.pass (by exact Wd.no (x := 19) (b := true) rfl (AF_ev rfl (up rfl (up rfl tp))) rfl) ?_
    refine RW.pass (by exact Wd.no (x := 19) (b := true) rfl (AF_ev rfl (up rfl (up rfl (up rfl tp)))) rfl) ?_
    refine RW.pass (by exact Wd.u (x := 23) rfl (AF_ev rfl tp)) ?_
    refine RW.pass (by exact Wd.u (x := 23) rfl (AF_ev rfl (up rfl tp))) ?_
    refine RW.pass (by exact Wd.u (x := 23) rfl (AF_ev rfl (up rfl (up rfl tp)))) ?_
    refine RW.pass (by exact Wd.u (x := 23) rfl (AF_ev rfl (up rfl (up rfl (up rfl tp))))) ?_
    refine RW.pass (by exact Wd.no (x := 19) (b := true) rfl (AF_ev rfl (up rfl (up rfl (up rfl (up rfl (up rfl (up rfl (up rfl (up rfl tp))))))))) rfl) ?_
    refine RW.soft Wd.a (v := .bool true) (by exact E.pickT (AF_ev rfl (up rfl (up rfl (up rfl (up rfl (up rfl (up rfl (up rfl (up rfl (up rfl tp)))))))))) rfl) ?_
    refine RW.soft Wd.a (v := .bool true) (by exact E.assign (AF_ev rfl tp)) ?_
    refine RW.fin (fun τ => τ 0 = .pointer (some ⟨b, 0, none⟩) ∧ τ 1 = .int .i64 k ∧ τ 2 = .int .i64 u ∧ τ 6 = .bool true ∧ τ 7 = .int .i64 (termT i t (ts es) (i + ((es.length : Nat) : Int)))) ⟨up rfl (up rfl (up rfl (up rfl (up rfl (up rfl (up rfl (up rfl (up rfl (up rfl (up rfl (up rfl (up rfl (up rfl (up rfl hs0)))))))))))))), up rfl (up rfl (up rfl (up rfl (up rfl (up rfl (up rfl (up rfl (up rfl (up rfl (up rfl (up rfl (up rfl (up rfl (up rfl hs1)))))))))))))), up rfl (up rfl (up rfl (up rfl (up rfl (up rfl (up rfl (up rfl (up rfl (up rfl (up rfl (up rfl (up rfl (up rfl (up rfl hs2)))))))))))))), tp, up rfl (up rfl (up rfl (up rfl (up rfl (up rfl (up rfl (up rfl (up rfl (up rfl (up rfl (up rfl (up rfl (up rfl (up rfl hs7))))))))))))))⟩ ?_
    rintro τ ⟨hs0, hs1, hs2, hs6, hs7⟩
    refine CW.ret ?_
    refine ret1 (v := .bool true) rfl (by exact (.tmp (AF_ev rfl hs6) .nil)) ?_
    exact ⟨by unfold behB; simp only [hsp, Bool.true_or, Bool.false_or, Bool.true_and, Bool.false_and], hst⟩
  · skip
    refine Or.elim (Bool.eq_false_or_eq_true (u == (termT i t (ts es) (i + ((es.length : Nat) : Int))))) (fun hs2z => ?_) (fun hs2z => ?_)
    · skip
      refine CW.region ?_
      refine RW.soft Wd.a (v := .int .i64 u) (by exact E.move (AF_ev rfl hs2)) ?_
      refine RW.soft Wd.a (v := .int .i64 (termT i t (ts es) (i + ((es.length : Nat) : Int)))) (by exact E.move (AF_ev rfl (up rfl hs7))) ?_
      refine RW.soft Wd.a (v := .bool false) (by exact E.b (a := decide (u > (termT i t (ts es) (i + ((es.length : Nat) : Int))))) (E.gtr (k := .i64) (a := u) (b := termT i t (ts es) (i + ((es.length : Nat) : Int))) (AF_ev rfl (up rfl tp)) (AF_ev rfl tp)) hsp) ?_
      refine RW.soft Wd.a (v := .bool false) (by exact E.move (AF_ev rfl tp)) ?_
      refine RW.soft (by exact Wd.yes (x := 19) rfl (AF_ev rfl tp)) (v := .int .i64 u) (by exact E.move (AF_ev rfl (up rfl (up rfl (up rfl (up rfl hs2)))))) ?_
      refine RW.soft (by exact Wd.yes (x := 19) rfl (AF_ev rfl (up rfl tp))) (v := .int .i64 (termT i t (ts es) (i + ((es.length : Nat) : Int)))) (by exact E.move (AF_ev rfl (up rfl (up rfl (up rfl (up rfl (up rfl hs7))))))) ?_
      refine RW.soft (by exact Wd.yes (x := 19) rfl (AF_ev rfl (up rfl (up rfl tp)))) (v := .bool true) (by exact E.b (a := u == (termT i t (ts es) (i + ((es.length : Nat) : Int)))) (E.eql (k := .i64) (a := u) (b := termT i t (ts es) (i + ((es.length : Nat) : Int))) (AF_ev rfl (up rfl tp)) (AF_ev rfl tp)) hs2z) ?_
      refine RW.soft (by exact Wd.yes (x := 19) rfl (AF_ev rfl (up rfl (up rfl (up rfl tp))))) (v := .bool true) (by exact E.move (AF_ev rfl tp)) ?_
      refine RW.soft (by exact Wd.yes (x := 23) rfl (AF_ev rfl tp)) (v := .int .i64 k) (by exact E.move (AF_ev rfl (up rfl (up rfl (up rfl (up rfl (up rfl (up rfl (up rfl (up rfl hs1)))))))))) ?_
      refine RW.soft (by exact Wd.yes (x := 23) rfl (AF_ev rfl (up rfl tp))) (v := .pointer (some ⟨b, 0, none⟩)) (by exact E.move (AF_ev rfl (up rfl (up rfl (up rfl (up rfl (up rfl (up rfl (up rfl (up rfl (up rfl hs0))))))))))) ?_
      refine RW.hard (by exact Wd.yes (x := 23) rfl (AF_ev rfl (up rfl (up rfl tp)))) ?_
      refine H.call0 Try.func58 nm58 rfl (map1 (AF_ev rfl tp)) (Calls.mono (ref_LastL hst) ?_)
      rintro _ w ⟨rfl, hst⟩
      refine ⟨_, rfl, ?_⟩
      show RW _ _ _ _ _ _ _
      refine RW.soft (by exact Wd.yes (x := 23) rfl (AF_ev rfl (up rfl (up rfl (up rfl tp))))) (v := .bool (decide (k ≥ (i + ((es.length : Nat) : Int))))) (by exact E.geq (k := .i64) (a := k) (b := i + ((es.length : Nat) : Int)) (AF_ev rfl (up rfl (up rfl tp))) (AF_ev rfl tp)) ?_
      refine RW.soft (by exact Wd.yes (x := 19) rfl (AF_ev rfl (up rfl (up rfl (up rfl (up rfl (up rfl (up rfl (up rfl (up rfl tp)))))))))) (v := .bool (decide (k ≥ (i + ((es.length : Nat) : Int))))) (by exact E.pickT (AF_ev rfl (up rfl (up rfl (up rfl (up rfl tp))))) (AF_ev rfl tp)) ?_
      refine RW.soft Wd.a (v := .bool (decide (k ≥ (i + ((es.length : Nat) : Int))))) (by exact E.pickF (AF_ev rfl (up rfl (up rfl (up rfl (up rfl (up rfl (up rfl (up rfl (up rfl (up rfl tp)))))))))) (AF_ev rfl tp)) ?_
      refine RW.soft Wd.a (v := .bool (decide (k ≥ (i + ((es.length : Nat) : Int))))) (by exact E.assign (AF_ev rfl tp)) ?_
      refine RW.fin (fun τ => τ 0 = .pointer (some ⟨b, 0, none⟩) ∧ τ 1 = .int .i64 k ∧ τ 2 = .int .i64 u ∧ τ 6 = .bool (decide (k ≥ (i + ((es.length : Nat) : Int)))) ∧ τ 7 = .int .i64 (termT i t (ts es) (i + ((es.length : Nat) : Int)))) ⟨up rfl (up rfl (up rfl (up rfl (up rfl (up rfl (up rfl (up rfl (up rfl (up rfl (up rfl (up rfl (up rfl (up rfl (up rfl hs0)))))))))))))), up rfl (up rfl (up rfl (up rfl (up rfl (up rfl (up rfl (up rfl (up rfl (up rfl (up rfl (up rfl (up rfl (up rfl (up rfl hs1)))))))))))))), up rfl (up rfl (up rfl (up rfl (up rfl (up rfl (up rfl (up rfl (up rfl (up rfl (up rfl (up rfl (up rfl (up rfl (up rfl hs2)))))))))))))), tp, up rfl (up rfl (up rfl (up rfl (up rfl (up rfl (up rfl (up rfl (up rfl (up rfl (up rfl (up rfl (up rfl (up rfl (up rfl hs7))))))))))))))⟩ ?_
      rintro τ ⟨hs0, hs1, hs2, hs6, hs7⟩
      refine CW.ret ?_
      refine ret1 (v := .bool (decide (k ≥ (i + ((es.length : Nat) : Int))))) rfl (by exact (.tmp (AF_ev rfl hs6) .nil)) ?_
      exact ⟨by unfold behB; simp only [hsp, hs2z, Bool.true_or, Bool.false_or, Bool.true_and, Bool.false_and], hst⟩
    · skip
      refine CW.region ?_
      refine RW.soft Wd.a (v := .int .i64 u) (by exact E.move (AF_ev rfl hs2)) ?_
      refine RW.soft Wd.a (v := .int .i64 (termT i t (ts es) (i + ((es.length : Nat) : Int)))) (by exact E.move (AF_ev rfl (up rfl hs7))) ?_
      refine RW.soft Wd.a (v := .bool false) (by exact E.b (a := decide (u > (termT i t (ts es) (i + ((es.length : Nat) : Int))))) (E.gtr (k := .i64) (a := u) (b := termT i t (ts es) (i + ((es.length : Nat) : Int))) (AF_ev rfl (up rfl tp)) (AF_ev rfl tp)) hsp) ?_
      refine RW.soft Wd.a (v := .bool false) (by exact E.move (AF_ev rfl tp)) ?_
      refine RW.soft (by exact Wd.yes (x := 19) rfl (AF_ev rfl tp)) (v := .int .i64 u) (by exact E.move (AF_ev rfl (up rfl (up rfl (up rfl (up rfl hs2)))))) ?_
      refine RW.soft (by exact Wd.yes (x := 19) rfl (AF_ev rfl (up rfl tp))) (v := .int .i64 (termT i t (ts es) (i + ((es.length : Nat) : Int)))) (by exact E.move (AF_ev rfl (up rfl (up rfl (up rfl (up rfl (up rfl hs7))))))) ?_
      refine RW.soft (by exact Wd.yes (x := 19) rfl (AF_ev rfl (up rfl (up rfl tp)))) (v := .bool false) (by exact E.b (a := u == (termT i t (ts es) (i + ((es.length : Nat) : Int)))) (E.eql (k := .i64) (a := u) (b := termT i t (ts es) (i + ((es.length : Nat) : Int))) (AF_ev rfl (up rfl tp)) (AF_ev rfl tp)) hs2z) ?_
      refine RW.soft (by exact Wd.yes (x := 19) rfl (AF_ev rfl (up rfl (up rfl (up rfl tp))))) (v := .bool false) (by exact E.move (AF_ev rfl tp)) ?_
      refine RW.pass (by exact Wd.no (x := 23) (b := false) rfl (AF_ev rfl tp) rfl) ?_
      refine RW.pass (by exact Wd.no (x := 23) (b := false) rfl (AF_ev rfl (up rfl tp)) rfl) ?_
      refine RW.pass (by exact Wd.no (x := 23) (b := false) rfl (AF_ev rfl (up rfl (up rfl tp))) rfl) ?_
      refine RW.pass (by exact Wd.no (x := 23) (b := false) rfl (AF_ev rfl (up rfl (up rfl (up rfl tp)))) rfl) ?_
      refine RW.soft (by exact Wd.yes (x := 19) rfl (AF_ev rfl (up rfl (up rfl (up rfl (up rfl (up rfl (up rfl (up rfl (up rfl tp)))))))))) (v := .bool false) (by exact E.pickF (AF_ev rfl (up rfl (up rfl (up rfl (up rfl tp))))) rfl) ?_
      refine RW.soft Wd.a (v := .bool false) (by exact E.pickF (AF_ev rfl (up rfl (up rfl (up rfl (up rfl (up rfl (up rfl (up rfl (up rfl (up rfl tp)))))))))) (AF_ev rfl tp)) ?_
      refine RW.soft Wd.a (v := .bool false) (by exact E.assign (AF_ev rfl tp)) ?_
      refine RW.fin (fun τ => τ 0 = .pointer (some ⟨b, 0, none⟩) ∧ τ 1 = .int .i64 k ∧ τ 2 = .int .i64 u ∧ τ 6 = .bool false ∧ τ 7 = .int .i64 (termT i t (ts es) (i + ((es.length : Nat) : Int)))) ⟨up rfl (up rfl (up rfl (up rfl (up rfl (up rfl (up rfl (up rfl (up rfl (up rfl (up rfl (up rfl (up rfl (up rfl (up rfl hs0)))))))))))))), up rfl (up rfl (up rfl (up rfl (up rfl (up rfl (up rfl (up rfl (up rfl (up rfl (up rfl (up rfl (up rfl (up rfl (up rfl hs1)))))))))))))), up rfl (up rfl (up rfl (up rfl (up rfl (up rfl (up rfl (up rfl (up rfl (up rfl (up rfl (up rfl (up rfl (up rfl (up rfl hs2)))))))))))))), tp, up rfl (up rfl (up rfl (up rfl (up rfl (up rfl (up rfl (up rfl (up rfl (up rfl (up rfl (up rfl (up rfl (up rfl (up rfl hs7))))))))))))))⟩ ?_
      rintro τ ⟨hs0, hs1, hs2, hs6, hs7⟩
      refine CW.ret ?_
      refine ret1 (v := .bool false) rfl (by exact (.tmp (AF_ev rfl hs6) .nil)) ?_
      exact ⟨by unfold behB; simp only [hsp, hs2z, Bool.true_or, Bool.false_or, Bool.true_and, Bool.false_and], hst⟩
end Go.Proofs.Ytdlcjoonhojpfaa
