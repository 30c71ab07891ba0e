/- The calls of the package entries, walked through operation by operation. -/
import Derived.Test.YtdlcjoonhojpfaaE0
import Derived.Test.YtdlcjoonhojpfaaT1
import Derived.Test.YtdlcjoonhojpfaaE1
import Derived.Test.YtdlcjoonhojpfaaE2
import Derived.Test.YtdlcjoonhojpfaaE3
import Derived.Test.YtdlcjoonhojpfaaE4
import Derived.Test.YtdlcjoonhojpfaaE5
import Derived.Test.YtdlcjoonhojpfaaE6
import Derived.Test.YtdlcjoonhojpfaaE9
import Derived.Test.YtdlcjoonhojpfaaE10
import Derived.Test.YtdlcjoonhojpfaaE11
import Derived.Test.YtdlcjoonhojpfaaE14
import Derived.Test.YtdlcjoonhojpfaaE15
import Derived.Test.YtdlcjoonhojpfaaE16
import Derived.Test.YtdlcjoonhojpfaaE22
import Derived.Test.YtdlcjoonhojpfaaE23
namespace Go.Proofs.Ytdlcjoonhojpfaa
open Go.RowKit Go.SL Go.E17
attribute [local irreducible] Go.SL.RW Go.SL.CW Go.SL.RD Go.SL.Hd Go.SL.St
set_option linter.unusedVariables false
set_option linter.unusedSimpArgs false



theorem ref_New {p : Pers} {w : World} {R : List Assn} {A : Assn} {X : Option Addr} {c : Nat} {l : List Ent} (i t : Int) (hA : Tells p A 4 (.slice X l.length c) l.length (flat l)) (hE : EsOk p l) (hl : l.length ≤ 1000000) (hi : -9223372036854775808 ≤ i ∧ i ≤ 9223372036854775807) (hst : St p w (A :: R)) :
    Calls Try.prog 51 #[.int .i64 i, .int .i64 t, .slice X l.length c] w fun e w => ∃ b, e = .returned (.pointer (some ⟨b, 0, none⟩)) ∧ St p w (RefB p b (max 0 (min i 1099511627776)) t l :: A :: R) := by
  refine enter Try.func51 rfl (by simp) (n := 16) rfl fun τ hτ => ?_
  have hs0 : τ 0 = .int .i64 i := hτ 0 (by simp)
  have hs1 : τ 1 = .int .i64 t := hτ 1 (by simp)
  have hs2 : τ 2 = .slice X l.length c := hτ 2 (by simp)
  clear hτ
  refine CW.seq ?_
  refine CW.region ?_
  refine RW.soft Wd.a (v := .pointer none) (by exact E.assign rfl) ?_
  refine RW.fin (fun τ => τ 0 = .int .i64 i ∧ τ 1 = .int .i64 t ∧ τ 2 = .slice X l.length c ∧ τ 6 = .pointer none) ⟨up rfl hs0, up rfl hs1, up rfl hs2, tp⟩ ?_
  rintro τ ⟨hs0, hs1, hs2, hs6⟩
  refine CW.seq ?_
  refine CW.region ?_
  refine RW.soft Wd.a (v := .int .i64 i) (by exact E.move (AF_ev rfl hs0)) ?_
  refine RW.soft Wd.a (v := .int .i64 (min i 1099511627776)) (by exact E.min (k := .i64) (a := i) (b := 1099511627776) (AF_ev rfl tp) rfl (by rw [Int.min_def]; split <;> split <;> omega)) ?_
  refine RW.soft Wd.a (v := .int .i64 (max 0 (min i 1099511627776))) (by exact E.max (k := .i64) (a := 0) (b := min i 1099511627776) rfl (AF_ev rfl tp) (by rw [Int.max_def]; split <;> split <;> omega)) ?_
  refine RW.soft Wd.a (v := .int .i64 t) (by exact E.move (AF_ev rfl (up rfl (up rfl (up rfl hs1))))) ?_
  refine RW.hard Wd.a ?_
  refine H.buildSlice (e := 58) (cs := #[]) (vs := #[]) (by simp) (fun _ => by kernel_rfl) hst fun b1 w hst => ?_
  refine RW.soft Wd.a (v := .slice X l.length c) (by exact E.move (AF_ev rfl (up rfl (up rfl (up rfl (up rfl (up rfl hs2))))))) ?_
  have hst := hst.ownNew (n := 0) (cap := 0) (sz := 4) (xs := []) (by omega) (by simp [maxLen]) rfl rfl
  refine RW.hard Wd.a ?_
  refine H.append2 (n2 := l.length) (xs2 := flat l) (by first | rfl | simp) (by first | rfl | simp) (m := l.length) (news := flat l) (s0 := .slice (some ⟨b1, 0, none⟩) 0 0) (x0 := .slice X l.length c) Try.underlying44 inf58 rfl (AF_ev rfl (up rfl tp)) (AF_ev rfl tp) hst .here (hA.src (hst.take (.there .here))) (flat_one _) (by omega) (by simp only [maxLen]; omega) ?_
  intro vX2 w hnilX2 hst
  obtain ⟨X2, c3, rfl, hcX2, hmX2, hlX2, hbX2⟩ := hst.shape
  refine RW.soft Wd.a (v := .agg #[.int .i64 (max 0 (min i 1099511627776)), .int .i64 t, .slice X2 l.length c3]) (by exact E.build (vs := #[(0, .int .i64 (max 0 (min i 1099511627776))), (1, .int .i64 t), (2, .slice X2 l.length c3)]) (bld3 (AF_ev rfl (up rfl (up rfl (up rfl (up rfl tp))))) (AF_ev rfl (up rfl (up rfl (up rfl tp)))) (AF_ev rfl tp)) (by kernel_rfl)) ?_
  refine RW.hard Wd.a ?_
  refine H.box (v := .agg #[.int .i64 (max 0 (min i 1099511627776)), .int .i64 t, .slice X2 l.length c3]) (AF_ev rfl tp) hst fun b4 w hst => ?_
  refine RW.soft Wd.a (v := .pointer (some ⟨b4, 0, none⟩)) (by exact E.assign (AF_ev rfl tp)) ?_
  refine RW.fin (fun τ => τ 0 = .int .i64 i ∧ τ 1 = .int .i64 t ∧ τ 2 = .slice X l.length c ∧ τ 6 = .pointer (some ⟨b4, 0, none⟩)) ⟨up rfl (up rfl (up rfl (up rfl (up rfl (up rfl (up rfl (up rfl (up rfl (up rfl hs0))))))))), up rfl (up rfl (up rfl (up rfl (up rfl (up rfl (up rfl (up rfl (up rfl (up rfl hs1))))))))), up rfl (up rfl (up rfl (up rfl (up rfl (up rfl (up rfl (up rfl (up rfl (up rfl hs2))))))))), tp⟩ ?_
  rintro τ ⟨hs0, hs1, hs2, hs6⟩
  refine CW.ret ?_
  refine ret1 (v := .pointer (some ⟨b4, 0, none⟩)) rfl (by exact (.tmp (AF_ev rfl hs6) .nil)) ?_
  have hst := hst.take (.there (.there .here))
  have hst := hst.take (.there (.there .here))
  have hst := hst.take (.there (.there .here))
  exact ⟨_, rfl, refClose (by omega) hl hE hst⟩

theorem ref_Append {p : Pers} {w : World} {R : List Assn} {b : Nat} {i t : Int} {es : List Ent} {x : Ent} (hx : EOk p x) (hn2 : es.length + 1 ≤ 1000000) (hst : St p w (RefB p b i t es :: R)) :
    Calls Try.prog 80 #[.pointer (some ⟨b, 0, none⟩), .agg #[.int .i64 x.term, .int .i64 x.kind, .slice x.X x.ns.length x.xc, .slice x.Y x.ms.length x.yc]] w fun e w => e = .returned (.int .i64 (i + (((es ++ [x]).length : Nat) : Int))) ∧ St p w (RefB p b i t (es ++ [x]) :: R) := by
  obtain ⟨X, c, hi, hn, hE, hcc, hX, hst⟩ := refOpen hst
  refine enter Try.func80 rfl (by simp) (n := 19) rfl fun τ hτ => ?_
  have hs0 : τ 0 = .pointer (some ⟨b, 0, none⟩) := hτ 0 (by simp)
  have hs1 : τ 1 = .agg #[.int .i64 x.term, .int .i64 x.kind, .slice x.X x.ns.length x.xc, .slice x.Y x.ms.length x.yc] := hτ 1 (by simp)
  clear hτ
  refine CW.seq ?_
  refine CW.region ?_
  refine RW.hard Wd.a ?_
  refine H.box (v := .agg #[.int .i64 x.term, .int .i64 x.kind, .slice x.X x.ns.length x.xc, .slice x.Y x.ms.length x.yc]) (AF_ev rfl hs1) hst fun b1 w hst => ?_
  refine RW.soft Wd.a (v := .int .i64 0) (by exact E.assign rfl) ?_
  refine RW.fin (fun τ => τ 0 = .pointer (some ⟨b, 0, none⟩) ∧ τ 1 = .agg #[.int .i64 x.term, .int .i64 x.kind, .slice x.X x.ns.length x.xc, .slice x.Y x.ms.length x.yc] ∧ τ 3 = .pointer (some ⟨b1, 0, none⟩) ∧ τ 4 = .int .i64 0) ⟨up rfl (up rfl hs0), up rfl (up rfl hs1), up rfl tp, tp⟩ ?_
  rintro τ ⟨hs0, hs1, hs3, hs4⟩
  refine CW.seq ?_
  refine CW.regionD [0, 2, 3, 4, 5, 7] (fun w => w.cell? ⟨b, 2, none⟩ = some (.slice X es.length c) ∧ (∀ j_ v_, ([.int .i64 x.term, .int .i64 x.kind, .slice x.X x.ns.length x.xc, .slice x.Y x.ms.length x.yc] : List Value)[j_]? = some v_ → w.cell? ⟨b1, 0 + j_, none⟩ = some v_)) mixed ?_
  have hst := hst.drew
  generalize w.drew = w at hst ⊢
  have hS : w.cell? ⟨b, 2, none⟩ = some (.slice X es.length c) ∧ (∀ j_ v_, ([.int .i64 x.term, .int .i64 x.kind, .slice x.X x.ns.length x.xc, .slice x.Y x.ms.length x.yc] : List Value)[j_]? = some v_ → w.cell? ⟨b1, 0 + j_, none⟩ = some v_) := ⟨hst.cell (.there .here) rfl, hst.cellsIn .here rfl⟩
  refine RD.take 0 rfl (by kernel_rfl) Wd.a (v := .pointer (some ⟨b, 0, none⟩)) (fun w hS => by exact E.move (AF_ev rfl hs0)) hS ?_
  refine RD.take 2 rfl (by kernel_rfl) Wd.a (v := .pointer (some ⟨b, 0, none⟩)) (fun w hS => by exact E.move (AF_ev rfl (up rfl hs0))) hS ?_
  refine RD.take 3 rfl (by kernel_rfl) Wd.a (v := .pointer (some ⟨b, 0, none⟩)) (fun w hS => by exact E.nilCheck (a := ⟨b, 0, none⟩) (AF_ev rfl tp)) hS ?_
  refine RD.take 4 rfl (by kernel_rfl) Wd.a (v := .pointer (some ⟨b, 2, none⟩)) (fun w hS => by exact E.fieldAddr (b := b) (o := 0) (f := { name := "L", type := 44, offset := 2, embedded := false, tag := "", pkgPath := "", byteOffset := 16 }) (AF_ev rfl tp) Try.underlying106 rfl sz44 rfl) hS ?_
  refine RD.take 5 rfl (by kernel_rfl) Wd.a (v := .slice X es.length c) (fun w hS => by exact E.load (a := ⟨b, 2, none⟩) Try.underlying44 rfl (AF_ev rfl tp) hS.1) hS ?_
  refine RD.take 7 rfl (by kernel_rfl) Wd.a (v := .agg #[.int .i64 x.term, .int .i64 x.kind, .slice x.X x.ns.length x.xc, .slice x.Y x.ms.length x.yc]) (fun w hS => by exact E.loadN (b := b1) (o := 0) (cs := [.int .i64 x.term, .int .i64 x.kind, .slice x.X x.ns.length x.xc, .slice x.Y x.ms.length x.yc]) Try.underlying58 rfl sz58 (AF_ev rfl (up rfl (up rfl (up rfl (up rfl (up rfl hs3)))))) rfl hS.2) hS ?_
  refine RD.two 1 8 rfl rfl (by kernel_rfl) Wd.a Wd.a ?_ ?_
  · skip
    refine H.buildSlice (e := 58) (cs := #[]) (vs := #[]) (by simp) (fun _ => by kernel_rfl) hst fun b2 w hst => ?_
    have hS : w.cell? ⟨b, 2, none⟩ = some (.slice X es.length c) ∧ (∀ j_ v_, ([.int .i64 x.term, .int .i64 x.kind, .slice x.X x.ns.length x.xc, .slice x.Y x.ms.length x.yc] : List Value)[j_]? = some v_ → w.cell? ⟨b1, 0 + j_, none⟩ = some v_) := ⟨hst.cell (.there (.there .here)) rfl, hst.cellsIn (.there .here) rfl⟩
    refine ⟨fun _ => hS, ?_⟩
    refine RD.two 6 8 rfl rfl (by kernel_rfl) Wd.a Wd.a ?_ ?_
    · skip
      have hst := hst.ownNew (n := 0) (cap := 0) (sz := 4) (xs := []) (by omega) (by simp [maxLen]) rfl rfl
      refine H.append2 (n2 := es.length) (xs2 := flat es) (by first | rfl | simp) (by first | rfl | simp) (m := es.length) (news := flat es) (s0 := .slice (some ⟨b2, 0, none⟩) 0 0) (x0 := .slice X es.length c) Try.underlying44 inf58 rfl (AF_ev rfl tp) (AF_ev rfl (up rfl (up rfl tp))) hst .here (Own.src (hst.take (.there (.there (.there .here))))) (flat_one _) (by omega) (by simp only [maxLen]; omega) ?_
      intro vX3 w hnilX3 hst
      obtain ⟨X3, c4, rfl, hcX3, hmX3, hlX3, hbX3⟩ := hst.shape
      have hS : w.cell? ⟨b, 2, none⟩ = some (.slice X es.length c) ∧ (∀ j_ v_, ([.int .i64 x.term, .int .i64 x.kind, .slice x.X x.ns.length x.xc, .slice x.Y x.ms.length x.yc] : List Value)[j_]? = some v_ → w.cell? ⟨b1, 0 + j_, none⟩ = some v_) := ⟨hst.cell (.there (.there .here)) rfl, hst.cellsIn (.there .here) rfl⟩
      refine ⟨fun _ => hS, ?_⟩
      refine RD.only 8 rfl (by kernel_rfl) Wd.a ?_
      refine H.buildSlice (e := 58) (cs := #[.int .i64 x.term, .int .i64 x.kind, .slice x.X x.ns.length x.xc, .slice x.Y x.ms.length x.yc]) (vs := #[(0, .agg #[.int .i64 x.term, .int .i64 x.kind, .slice x.X x.ns.length x.xc, .slice x.Y x.ms.length x.yc])]) (bld1 (AF_ev rfl (up rfl (up rfl tp)))) (fun _ => by kernel_rfl) hst fun b5 w hst => ?_
      have hS : w.cell? ⟨b, 2, none⟩ = some (.slice X es.length c) ∧ (∀ j_ v_, ([.int .i64 x.term, .int .i64 x.kind, .slice x.X x.ns.length x.xc, .slice x.Y x.ms.length x.yc] : List Value)[j_]? = some v_ → w.cell? ⟨b1, 0 + j_, none⟩ = some v_) := ⟨hst.cell (.there (.there (.there .here))) rfl, hst.cellsIn (.there (.there .here)) rfl⟩
      refine ⟨fun _ => hS, ?_⟩
      refine RD.only 9 rfl (by kernel_rfl) Wd.a ?_
      refine H.append2 (n2 := es.length + 1) (xs2 := (flat es) ++ ([.int .i64 x.term, .int .i64 x.kind, .slice x.X x.ns.length x.xc, .slice x.Y x.ms.length x.yc])) (by first | rfl | simp) (by first | rfl | simp) (m := 1) (news := [.int .i64 x.term, .int .i64 x.kind, .slice x.X x.ns.length x.xc, .slice x.Y x.ms.length x.yc]) (s0 := .slice X3 es.length c4) (x0 := .slice (some ⟨b5, 0, none⟩) 1 1) Try.underlying44 inf58 rfl (AF_ev rfl (up rfl tp)) (AF_ev rfl tp) hst (.there .here) ⟨rfl, _, _, rfl, by omega, .inr ⟨_, 0, rfl, hst.cellsIn .here rfl⟩⟩ (by simp [Value.oneCell']) (by omega) (by simp only [maxLen]; omega) ?_
      intro vX6 w hnilX6 hst
      obtain ⟨X6, c7, rfl, hcX6, hmX6, hlX6, hbX6⟩ := hst.shape
      have hS : w.cell? ⟨b, 2, none⟩ = some (.slice X es.length c) ∧ (∀ j_ v_, ([.int .i64 x.term, .int .i64 x.kind, .slice x.X x.ns.length x.xc, .slice x.Y x.ms.length x.yc] : List Value)[j_]? = some v_ → w.cell? ⟨b1, 0 + j_, none⟩ = some v_) := ⟨hst.cell (.there (.there (.there .here))) rfl, hst.cellsIn (.there (.there .here)) rfl⟩
      refine ⟨fun _ => hS, ?_⟩
      refine RD.only 10 rfl (by kernel_rfl) Wd.a (Hd.value (v := .pointer (some ⟨b, 0, none⟩)) (by exact E.nilCheck (a := ⟨b, 0, none⟩) (AF_ev rfl (up rfl (up rfl (up rfl (up rfl (up rfl (up rfl (up rfl (up rfl (up rfl tp))))))))))) ⟨fun h => Bool.noConfusion ((show needs _ _ _ = false by kernel_rfl).symm.trans h), ?_⟩)
      refine RD.only 11 rfl (by kernel_rfl) Wd.a (Hd.value (v := .pointer (some ⟨b, 2, none⟩)) (by exact E.fieldAddr (b := b) (o := 0) (f := { name := "L", type := 44, offset := 2, embedded := false, tag := "", pkgPath := "", byteOffset := 16 }) (AF_ev rfl tp) Try.underlying106 rfl sz44 rfl) ⟨fun h => Bool.noConfusion ((show needs _ _ _ = false by kernel_rfl).symm.trans h), ?_⟩)
      refine RD.only 12 rfl (by kernel_rfl) Wd.a ?_
      refine H.store (b := b) (o := 2) (v := .slice X6 (es.length + 1) c7) (c' := #[.int .i64 i, .int .i64 t, .slice X6 (es.length + 1) c7]) (AF_ev rfl tp) (AF_ev rfl (up rfl (up rfl tp))) hst (.there (.there (.there .here))) sz44 (by simp [Value.cells]) (by simp [Value.cells, Value.oneCell']) rfl fun w hst => ?_
      refine ⟨fun h => Bool.noConfusion ((show needs _ _ _ = false by kernel_rfl).symm.trans h), ?_⟩
      refine RD.fin (by kernel_rfl) (fun τ => τ 0 = .pointer (some ⟨b, 0, none⟩) ∧ τ 1 = .agg #[.int .i64 x.term, .int .i64 x.kind, .slice x.X x.ns.length x.xc, .slice x.Y x.ms.length x.yc] ∧ τ 3 = .pointer (some ⟨b1, 0, none⟩) ∧ τ 4 = .int .i64 0) ⟨u0 (up rfl (up rfl (up rfl (up rfl (up rfl (up rfl (up rfl (up rfl (up rfl (up rfl (up rfl (up rfl hs0)))))))))))), u0 (up rfl (up rfl (up rfl (up rfl (up rfl (up rfl (up rfl (up rfl (up rfl (up rfl (up rfl (up rfl hs1)))))))))))), u0 (up rfl (up rfl (up rfl (up rfl (up rfl (up rfl (up rfl (up rfl (up rfl (up rfl (up rfl (up rfl hs3)))))))))))), u0 (up rfl (up rfl (up rfl (up rfl (up rfl (up rfl (up rfl (up rfl (up rfl (up rfl (up rfl (up rfl hs4))))))))))))⟩ ?_
      rintro τ ⟨hs0, hs1, hs3, hs4⟩
      refine CW.seq ?_
      refine CW.region ?_
      refine RW.soft Wd.a (v := .pointer (some ⟨b, 0, none⟩)) (by exact E.move (AF_ev rfl hs0)) ?_
      have hst := hst.take (.there (.there (.there .here)))
      refine RW.hard Wd.a ?_
      refine H.call0 Try.func58 nm58 rfl (map1 (AF_ev rfl tp)) (Calls.mono (ref_Last (by omega) (by omega) hst) ?_)
      rintro _ w ⟨rfl, hst⟩
      refine ⟨_, rfl, ?_⟩
      show RW _ _ _ _ _ _ _
      refine RW.soft Wd.a (v := .int .i64 (i + ((es.length + 1 : Nat) : Int))) (by exact E.assign (AF_ev rfl tp)) ?_
      refine RW.fin (fun τ => τ 0 = .pointer (some ⟨b, 0, none⟩) ∧ τ 1 = .agg #[.int .i64 x.term, .int .i64 x.kind, .slice x.X x.ns.length x.xc, .slice x.Y x.ms.length x.yc] ∧ τ 3 = .pointer (some ⟨b1, 0, none⟩) ∧ τ 4 = .int .i64 (i + ((es.length + 1 : Nat) : Int))) ⟨up rfl (up rfl (up rfl hs0)), up rfl (up rfl (up rfl hs1)), up rfl (up rfl (up rfl hs3)), tp⟩ ?_
      rintro τ ⟨hs0, hs1, hs3, hs4⟩
      refine CW.ret ?_
      refine ret1 (v := .int .i64 (i + ((es.length + 1 : Nat) : Int))) rfl (by exact (.tmp (AF_ev rfl hs4) .nil)) ?_
      have hst := hst.take (.there .here)
      have hst := hst.take (.there .here)
      have hst := (hst.take (.there (.there .here))).drop
      have hst := (hst.take (.there (.there .here))).drop
      have hst := (hst.take (.there (.there .here))).drop
      have hlN : (es ++ [x]).length = es.length + 1 := by simp
      have hst : St p w (pt b (.cells #[.int .i64 i, .int .i64 t, .slice X6 (es ++ [x]).length c7] 106) :: Own 58 4 (.slice X6 (es ++ [x]).length c7) (es ++ [x]).length (flat (es ++ [x])) :: R) := by rw [hlN, flat_append]; exact hst
      exact ⟨by rw [hlN], refClose hi (by rw [hlN]; omega) (hE.append (fun y hy => by rw [List.mem_singleton.1 hy]; exact hx)) hst⟩
    · skip
      refine H.buildSlice (e := 58) (cs := #[.int .i64 x.term, .int .i64 x.kind, .slice x.X x.ns.length x.xc, .slice x.Y x.ms.length x.yc]) (vs := #[(0, .agg #[.int .i64 x.term, .int .i64 x.kind, .slice x.X x.ns.length x.xc, .slice x.Y x.ms.length x.yc])]) (bld1 (AF_ev rfl (up rfl tp))) (fun _ => by kernel_rfl) hst fun b8 w hst => ?_
      have hS : w.cell? ⟨b, 2, none⟩ = some (.slice X es.length c) ∧ (∀ j_ v_, ([.int .i64 x.term, .int .i64 x.kind, .slice x.X x.ns.length x.xc, .slice x.Y x.ms.length x.yc] : List Value)[j_]? = some v_ → w.cell? ⟨b1, 0 + j_, none⟩ = some v_) := ⟨hst.cell (.there (.there (.there .here))) rfl, hst.cellsIn (.there (.there .here)) rfl⟩
      refine ⟨fun _ => hS, ?_⟩
      refine RD.only 6 rfl (by kernel_rfl) Wd.a ?_
      have hst := hst.take (.there .here)
      have hst := hst.ownNew (n := 0) (cap := 0) (sz := 4) (xs := []) (by omega) (by simp [maxLen]) rfl rfl
      refine H.append2 (n2 := es.length) (xs2 := flat es) (by first | rfl | simp) (by first | rfl | simp) (m := es.length) (news := flat es) (s0 := .slice (some ⟨b2, 0, none⟩) 0 0) (x0 := .slice X es.length c) Try.underlying44 inf58 rfl (AF_ev rfl (up rfl tp)) (AF_ev rfl (up rfl (up rfl (up rfl tp)))) hst .here (Own.src (hst.take (.there (.there (.there (.there .here)))))) (flat_one _) (by omega) (by simp only [maxLen]; omega) ?_
      intro vX9 w hnilX9 hst
      obtain ⟨X9, c10, rfl, hcX9, hmX9, hlX9, hbX9⟩ := hst.shape
      have hS : w.cell? ⟨b, 2, none⟩ = some (.slice X es.length c) ∧ (∀ j_ v_, ([.int .i64 x.term, .int .i64 x.kind, .slice x.X x.ns.length x.xc, .slice x.Y x.ms.length x.yc] : List Value)[j_]? = some v_ → w.cell? ⟨b1, 0 + j_, none⟩ = some v_) := ⟨hst.cell (.there (.there (.there .here))) rfl, hst.cellsIn (.there (.there .here)) rfl⟩
      refine ⟨fun _ => hS, ?_⟩
      refine RD.only 9 rfl (by kernel_rfl) Wd.a ?_
      refine H.append2 (n2 := es.length + 1) (xs2 := (flat es) ++ ([.int .i64 x.term, .int .i64 x.kind, .slice x.X x.ns.length x.xc, .slice x.Y x.ms.length x.yc])) (by first | rfl | simp) (by first | rfl | simp) (m := 1) (news := [.int .i64 x.term, .int .i64 x.kind, .slice x.X x.ns.length x.xc, .slice x.Y x.ms.length x.yc]) (s0 := .slice X9 es.length c10) (x0 := .slice (some ⟨b8, 0, none⟩) 1 1) Try.underlying44 inf58 rfl (AF_ev rfl tp) (AF_ev rfl (up rfl tp)) hst .here ⟨rfl, _, _, rfl, by omega, .inr ⟨_, 0, rfl, hst.cellsIn (.there .here) rfl⟩⟩ (by simp [Value.oneCell']) (by omega) (by simp only [maxLen]; omega) ?_
      intro vX11 w hnilX11 hst
      obtain ⟨X11, c12, rfl, hcX11, hmX11, hlX11, hbX11⟩ := hst.shape
      have hS : w.cell? ⟨b, 2, none⟩ = some (.slice X es.length c) ∧ (∀ j_ v_, ([.int .i64 x.term, .int .i64 x.kind, .slice x.X x.ns.length x.xc, .slice x.Y x.ms.length x.yc] : List Value)[j_]? = some v_ → w.cell? ⟨b1, 0 + j_, none⟩ = some v_) := ⟨hst.cell (.there (.there (.there .here))) rfl, hst.cellsIn (.there (.there .here)) rfl⟩
      refine ⟨fun _ => hS, ?_⟩
      refine RD.only 10 rfl (by kernel_rfl) Wd.a (Hd.value (v := .pointer (some ⟨b, 0, none⟩)) (by exact E.nilCheck (a := ⟨b, 0, none⟩) (AF_ev rfl (up rfl (up rfl (up rfl (up rfl (up rfl (up rfl (up rfl (up rfl (up rfl tp))))))))))) ⟨fun h => Bool.noConfusion ((show needs _ _ _ = false by kernel_rfl).symm.trans h), ?_⟩)
      refine RD.only 11 rfl (by kernel_rfl) Wd.a (Hd.value (v := .pointer (some ⟨b, 2, none⟩)) (by exact E.fieldAddr (b := b) (o := 0) (f := { name := "L", type := 44, offset := 2, embedded := false, tag := "", pkgPath := "", byteOffset := 16 }) (AF_ev rfl tp) Try.underlying106 rfl sz44 rfl) ⟨fun h => Bool.noConfusion ((show needs _ _ _ = false by kernel_rfl).symm.trans h), ?_⟩)
      refine RD.only 12 rfl (by kernel_rfl) Wd.a ?_
      refine H.store (b := b) (o := 2) (v := .slice X11 (es.length + 1) c12) (c' := #[.int .i64 i, .int .i64 t, .slice X11 (es.length + 1) c12]) (AF_ev rfl tp) (AF_ev rfl (up rfl (up rfl tp))) hst (.there (.there (.there .here))) sz44 (by simp [Value.cells]) (by simp [Value.cells, Value.oneCell']) rfl fun w hst => ?_
      refine ⟨fun h => Bool.noConfusion ((show needs _ _ _ = false by kernel_rfl).symm.trans h), ?_⟩
      refine RD.fin (by kernel_rfl) (fun τ => τ 0 = .pointer (some ⟨b, 0, none⟩) ∧ τ 1 = .agg #[.int .i64 x.term, .int .i64 x.kind, .slice x.X x.ns.length x.xc, .slice x.Y x.ms.length x.yc] ∧ τ 3 = .pointer (some ⟨b1, 0, none⟩) ∧ τ 4 = .int .i64 0) ⟨u0 (up rfl (up rfl (up rfl (up rfl (up rfl (up rfl (up rfl (up rfl (up rfl (up rfl (up rfl (up rfl hs0)))))))))))), u0 (up rfl (up rfl (up rfl (up rfl (up rfl (up rfl (up rfl (up rfl (up rfl (up rfl (up rfl (up rfl hs1)))))))))))), u0 (up rfl (up rfl (up rfl (up rfl (up rfl (up rfl (up rfl (up rfl (up rfl (up rfl (up rfl (up rfl hs3)))))))))))), u0 (up rfl (up rfl (up rfl (up rfl (up rfl (up rfl (up rfl (up rfl (up rfl (up rfl (up rfl (up rfl hs4))))))))))))⟩ ?_
      rintro τ ⟨hs0, hs1, hs3, hs4⟩
      refine CW.seq ?_
      refine CW.region ?_
      refine RW.soft Wd.a (v := .pointer (some ⟨b, 0, none⟩)) (by exact E.move (AF_ev rfl hs0)) ?_
      have hst := hst.take (.there (.there (.there .here)))
      refine RW.hard Wd.a ?_
      refine H.call0 Try.func58 nm58 rfl (map1 (AF_ev rfl tp)) (Calls.mono (ref_Last (by omega) (by omega) hst) ?_)
      rintro _ w ⟨rfl, hst⟩
      refine ⟨_, rfl, ?_⟩
      show RW _ _ _ _ _ _ _
      refine RW.soft Wd.a (v := .int .i64 (i + ((es.length + 1 : Nat) : Int))) (by exact E.assign (AF_ev rfl tp)) ?_
      refine RW.fin (fun τ => τ 0 = .pointer (some ⟨b, 0, none⟩) ∧ τ 1 = .agg #[.int .i64 x.term, .int .i64 x.kind, .slice x.X x.ns.length x.xc, .slice x.Y x.ms.length x.yc] ∧ τ 3 = .pointer (some ⟨b1, 0, none⟩) ∧ τ 4 = .int .i64 (i + ((es.length + 1 : Nat) : Int))) ⟨up rfl (up rfl (up rfl hs0)), up rfl (up rfl (up rfl hs1)), up rfl (up rfl (up rfl hs3)), tp⟩ ?_
      rintro τ ⟨hs0, hs1, hs3, hs4⟩
      refine CW.ret ?_
      refine ret1 (v := .int .i64 (i + ((es.length + 1 : Nat) : Int))) rfl (by exact (.tmp (AF_ev rfl hs4) .nil)) ?_
      have hst := hst.take (.there .here)
      have hst := hst.take (.there .here)
      have hst := (hst.take (.there (.there .here))).drop
      have hst := (hst.take (.there (.there .here))).drop
      have hst := (hst.take (.there (.there .here))).drop
      have hlN : (es ++ [x]).length = es.length + 1 := by simp
      have hst : St p w (pt b (.cells #[.int .i64 i, .int .i64 t, .slice X11 (es ++ [x]).length c12] 106) :: Own 58 4 (.slice X11 (es ++ [x]).length c12) (es ++ [x]).length (flat (es ++ [x])) :: R) := by rw [hlN, flat_append]; exact hst
      exact ⟨by rw [hlN], refClose hi (by rw [hlN]; omega) (hE.append (fun y hy => by rw [List.mem_singleton.1 hy]; exact hx)) hst⟩
  · skip
    refine H.buildSlice (e := 58) (cs := #[.int .i64 x.term, .int .i64 x.kind, .slice x.X x.ns.length x.xc, .slice x.Y x.ms.length x.yc]) (vs := #[(0, .agg #[.int .i64 x.term, .int .i64 x.kind, .slice x.X x.ns.length x.xc, .slice x.Y x.ms.length x.yc])]) (bld1 (AF_ev rfl tp)) (fun _ => by kernel_rfl) hst fun b13 w hst => ?_
    have hS : w.cell? ⟨b, 2, none⟩ = some (.slice X es.length c) ∧ (∀ j_ v_, ([.int .i64 x.term, .int .i64 x.kind, .slice x.X x.ns.length x.xc, .slice x.Y x.ms.length x.yc] : List Value)[j_]? = some v_ → w.cell? ⟨b1, 0 + j_, none⟩ = some v_) := ⟨hst.cell (.there (.there .here)) rfl, hst.cellsIn (.there .here) rfl⟩
    refine ⟨fun _ => hS, ?_⟩
    refine RD.only 1 rfl (by kernel_rfl) Wd.a ?_
    refine H.buildSlice (e := 58) (cs := #[]) (vs := #[]) (by simp) (fun _ => by kernel_rfl) hst fun b14 w hst => ?_
    have hS : w.cell? ⟨b, 2, none⟩ = some (.slice X es.length c) ∧ (∀ j_ v_, ([.int .i64 x.term, .int .i64 x.kind, .slice x.X x.ns.length x.xc, .slice x.Y x.ms.length x.yc] : List Value)[j_]? = some v_ → w.cell? ⟨b1, 0 + j_, none⟩ = some v_) := ⟨hst.cell (.there (.there (.there .here))) rfl, hst.cellsIn (.there (.there .here)) rfl⟩
    refine ⟨fun _ => hS, ?_⟩
    refine RD.only 6 rfl (by kernel_rfl) Wd.a ?_
    have hst := hst.ownNew (n := 0) (cap := 0) (sz := 4) (xs := []) (by omega) (by simp [maxLen]) rfl rfl
    refine H.append2 (n2 := es.length) (xs2 := flat es) (by first | rfl | simp) (by first | rfl | simp) (m := es.length) (news := flat es) (s0 := .slice (some ⟨b14, 0, none⟩) 0 0) (x0 := .slice X es.length c) Try.underlying44 inf58 rfl (AF_ev rfl tp) (AF_ev rfl (up rfl (up rfl (up rfl tp)))) hst .here (Own.src (hst.take (.there (.there (.there (.there .here)))))) (flat_one _) (by omega) (by simp only [maxLen]; omega) ?_
    intro vX15 w hnilX15 hst
    obtain ⟨X15, c16, rfl, hcX15, hmX15, hlX15, hbX15⟩ := hst.shape
    have hS : w.cell? ⟨b, 2, none⟩ = some (.slice X es.length c) ∧ (∀ j_ v_, ([.int .i64 x.term, .int .i64 x.kind, .slice x.X x.ns.length x.xc, .slice x.Y x.ms.length x.yc] : List Value)[j_]? = some v_ → w.cell? ⟨b1, 0 + j_, none⟩ = some v_) := ⟨hst.cell (.there (.there (.there .here))) rfl, hst.cellsIn (.there (.there .here)) rfl⟩
    refine ⟨fun _ => hS, ?_⟩
    refine RD.only 9 rfl (by kernel_rfl) Wd.a ?_
    refine H.append2 (n2 := es.length + 1) (xs2 := (flat es) ++ ([.int .i64 x.term, .int .i64 x.kind, .slice x.X x.ns.length x.xc, .slice x.Y x.ms.length x.yc])) (by first | rfl | simp) (by first | rfl | simp) (m := 1) (news := [.int .i64 x.term, .int .i64 x.kind, .slice x.X x.ns.length x.xc, .slice x.Y x.ms.length x.yc]) (s0 := .slice X15 es.length c16) (x0 := .slice (some ⟨b13, 0, none⟩) 1 1) Try.underlying44 inf58 rfl (AF_ev rfl tp) (AF_ev rfl (up rfl (up rfl tp))) hst .here ⟨rfl, _, _, rfl, by omega, .inr ⟨_, 0, rfl, hst.cellsIn (.there .here) rfl⟩⟩ (by simp [Value.oneCell']) (by omega) (by simp only [maxLen]; omega) ?_
    intro vX17 w hnilX17 hst
    obtain ⟨X17, c18, rfl, hcX17, hmX17, hlX17, hbX17⟩ := hst.shape
    have hS : w.cell? ⟨b, 2, none⟩ = some (.slice X es.length c) ∧ (∀ j_ v_, ([.int .i64 x.term, .int .i64 x.kind, .slice x.X x.ns.length x.xc, .slice x.Y x.ms.length x.yc] : List Value)[j_]? = some v_ → w.cell? ⟨b1, 0 + j_, none⟩ = some v_) := ⟨hst.cell (.there (.there (.there .here))) rfl, hst.cellsIn (.there (.there .here)) rfl⟩
    refine ⟨fun _ => hS, ?_⟩
    refine RD.only 10 rfl (by kernel_rfl) Wd.a (Hd.value (v := .pointer (some ⟨b, 0, none⟩)) (by exact E.nilCheck (a := ⟨b, 0, none⟩) (AF_ev rfl (up rfl (up rfl (up rfl (up rfl (up rfl (up rfl (up rfl (up rfl (up rfl tp))))))))))) ⟨fun h => Bool.noConfusion ((show needs _ _ _ = false by kernel_rfl).symm.trans h), ?_⟩)
    refine RD.only 11 rfl (by kernel_rfl) Wd.a (Hd.value (v := .pointer (some ⟨b, 2, none⟩)) (by exact E.fieldAddr (b := b) (o := 0) (f := { name := "L", type := 44, offset := 2, embedded := false, tag := "", pkgPath := "", byteOffset := 16 }) (AF_ev rfl tp) Try.underlying106 rfl sz44 rfl) ⟨fun h => Bool.noConfusion ((show needs _ _ _ = false by kernel_rfl).symm.trans h), ?_⟩)
    refine RD.only 12 rfl (by kernel_rfl) Wd.a ?_
    refine H.store (b := b) (o := 2) (v := .slice X17 (es.length + 1) c18) (c' := #[.int .i64 i, .int .i64 t, .slice X17 (es.length + 1) c18]) (AF_ev rfl tp) (AF_ev rfl (up rfl (up rfl tp))) hst (.there (.there (.there .here))) sz44 (by simp [Value.cells]) (by simp [Value.cells, Value.oneCell']) rfl fun w hst => ?_
    refine ⟨fun h => Bool.noConfusion ((show needs _ _ _ = false by kernel_rfl).symm.trans h), ?_⟩
    refine RD.fin (by kernel_rfl) (fun τ => τ 0 = .pointer (some ⟨b, 0, none⟩) ∧ τ 1 = .agg #[.int .i64 x.term, .int .i64 x.kind, .slice x.X x.ns.length x.xc, .slice x.Y x.ms.length x.yc] ∧ τ 3 = .pointer (some ⟨b1, 0, none⟩) ∧ τ 4 = .int .i64 0) ⟨u0 (up rfl (up rfl (up rfl (up rfl (up rfl (up rfl (up rfl (up rfl (up rfl (up rfl (up rfl (up rfl hs0)))))))))))), u0 (up rfl (up rfl (up rfl (up rfl (up rfl (up rfl (up rfl (up rfl (up rfl (up rfl (up rfl (up rfl hs1)))))))))))), u0 (up rfl (up rfl (up rfl (up rfl (up rfl (up rfl (up rfl (up rfl (up rfl (up rfl (up rfl (up rfl hs3)))))))))))), u0 (up rfl (up rfl (up rfl (up rfl (up rfl (up rfl (up rfl (up rfl (up rfl (up rfl (up rfl (up rfl hs4))))))))))))⟩ ?_
    rintro τ ⟨hs0, hs1, hs3, hs4⟩
    refine CW.seq ?_
    refine CW.region ?_
    refine RW.soft Wd.a (v := .pointer (some ⟨b, 0, none⟩)) (by exact E.move (AF_ev rfl hs0)) ?_
    have hst := hst.take (.there (.there (.there .here)))
    refine RW.hard Wd.a ?_
    refine H.call0 Try.func58 nm58 rfl (map1 (AF_ev rfl tp)) (Calls.mono (ref_Last (by omega) (by omega) hst) ?_)
    rintro _ w ⟨rfl, hst⟩
    refine ⟨_, rfl, ?_⟩
    show RW _ _ _ _ _ _ _
    refine RW.soft Wd.a (v := .int .i64 (i + ((es.length + 1 : Nat) : Int))) (by exact E.assign (AF_ev rfl tp)) ?_
    refine RW.fin (fun τ => τ 0 = .pointer (some ⟨b, 0, none⟩) ∧ τ 1 = .agg #[.int .i64 x.term, .int .i64 x.kind, .slice x.X x.ns.length x.xc, .slice x.Y x.ms.length x.yc] ∧ τ 3 = .pointer (some ⟨b1, 0, none⟩) ∧ τ 4 = .int .i64 (i + ((es.length + 1 : Nat) : Int))) ⟨up rfl (up rfl (up rfl hs0)), up rfl (up rfl (up rfl hs1)), up rfl (up rfl (up rfl hs3)), tp⟩ ?_
    rintro τ ⟨hs0, hs1, hs3, hs4⟩
    refine CW.ret ?_
    refine ret1 (v := .int .i64 (i + ((es.length + 1 : Nat) : Int))) rfl (by exact (.tmp (AF_ev rfl hs4) .nil)) ?_
    have hst := hst.take (.there .here)
    have hst := hst.take (.there .here)
    have hst := (hst.take (.there (.there .here))).drop
    have hst := (hst.take (.there (.there .here))).drop
    have hst := (hst.take (.there (.there .here))).drop
    have hlN : (es ++ [x]).length = es.length + 1 := by simp
    have hst : St p w (pt b (.cells #[.int .i64 i, .int .i64 t, .slice X17 (es ++ [x]).length c18] 106) :: Own 58 4 (.slice X17 (es ++ [x]).length c18) (es ++ [x]).length (flat (es ++ [x])) :: R) := by rw [hlN, flat_append]; exact hst
    exact ⟨by rw [hlN], refClose hi (by rw [hlN]; omega) (hE.append (fun y hy => by rw [List.mem_singleton.1 hy]; exact hx)) hst⟩

theorem ref_Rebase_no {p : Pers} {w : World} {R : List Assn} {b : Nat} {i t : Int} {es : List Ent} (k u : Int) (hk : k < i) (hst : St p w (RefB p b i t es :: R)) :
    Calls Try.prog 82 #[.pointer (some ⟨b, 0, none⟩), .int .i64 k, .int .i64 u] w fun e w => e = .returned (.int .i64 1) ∧ St p w (RefB p b i t es :: R) := by
  obtain ⟨X, c, hi, hn, hE, hcc, hX, hst⟩ := refOpen hst
  refine enter Try.func82 rfl (by simp) (n := 67) rfl fun τ hτ => ?_
  have hs0 : τ 0 = .pointer (some ⟨b, 0, none⟩) := hτ 0 (by simp)
  have hs1 : τ 1 = .int .i64 k := hτ 1 (by simp)
  have hs2 : τ 2 = .int .i64 u := hτ 2 (by simp)
  clear hτ
  refine CW.seq ?_
  refine CW.region ?_
  refine RW.soft Wd.a (v := .int .i64 0) (by exact E.assign rfl) ?_
  refine RW.fin (fun τ => τ 0 = .pointer (some ⟨b, 0, none⟩) ∧ τ 1 = .int .i64 k ∧ τ 2 = .int .i64 u ∧ τ 6 = .int .i64 0) ⟨up rfl hs0, up rfl hs1, up rfl hs2, tp⟩ ?_
  rintro τ ⟨hs0, hs1, hs2, hs6⟩
  refine CW.seq ?_
  refine CW.seq ?_
  refine CW.region ?_
  refine RW.soft Wd.a (v := .int .i64 k) (by exact E.move (AF_ev rfl hs1)) ?_
  refine RW.soft Wd.a (v := .pointer (some ⟨b, 0, none⟩)) (by exact E.move (AF_ev rfl (up rfl hs0))) ?_
  refine RW.soft Wd.a (v := .pointer (some ⟨b, 0, none⟩)) (by exact E.nilCheck (a := ⟨b, 0, none⟩) (AF_ev rfl tp)) ?_
  refine RW.soft Wd.a (v := .pointer (some ⟨b, 0, none⟩)) (by exact E.fieldAddr (b := b) (o := 0) (f := { name := "Index", type := 3, offset := 0, embedded := false, tag := "", pkgPath := "", byteOffset := 0 }) (AF_ev rfl tp) Try.underlying106 rfl sz3 rfl) ?_
  refine RW.soft Wd.a (v := .int .i64 i) (by exact E.load (a := ⟨b, 0, none⟩) Try.underlying3 rfl (AF_ev rfl tp) (hst.cell .here rfl)) ?_
  refine RW.soft Wd.a (v := .bool true) (by exact E.b (a := decide (k < i)) (E.lss (k := .i64) (a := k) (b := i) (AF_ev rfl (up rfl (up rfl (up rfl (up rfl tp))))) (AF_ev rfl tp)) (decide_eq_true hk)) ?_
  refine RW.soft Wd.a (v := .bool true) (by exact E.move (AF_ev rfl tp)) ?_
  refine RW.pass (by exact Wd.no (x := 15) (b := true) rfl (AF_ev rfl tp) rfl) ?_
  refine RW.pass (by exact Wd.no (x := 15) (b := true) rfl (AF_ev rfl (up rfl tp)) rfl) ?_
  refine RW.soft Wd.a (v := .bool true) (by exact E.pickT (AF_ev rfl (up rfl (up rfl tp))) rfl) ?_
  refine RW.fin (fun τ => τ 0 = .pointer (some ⟨b, 0, none⟩) ∧ τ 1 = .int .i64 k ∧ τ 2 = .int .i64 u ∧ τ 6 = .int .i64 0 ∧ τ 18 = .bool true) ⟨up rfl (up rfl (up rfl (up rfl (up rfl (up rfl (up rfl (up rfl (up rfl (up rfl hs0))))))))), up rfl (up rfl (up rfl (up rfl (up rfl (up rfl (up rfl (up rfl (up rfl (up rfl hs1))))))))), up rfl (up rfl (up rfl (up rfl (up rfl (up rfl (up rfl (up rfl (up rfl (up rfl hs2))))))))), up rfl (up rfl (up rfl (up rfl (up rfl (up rfl (up rfl (up rfl (up rfl (up rfl hs6))))))))), tp⟩ ?_
  rintro τ ⟨hs0, hs1, hs2, hs6, hs18⟩
  refine CW.condT (AF_ev rfl hs18) ?_
  refine CW.seq ?_
  refine CW.region ?_
  refine RW.soft Wd.a (v := .int .i64 1) (by exact E.assign rfl) ?_
  refine RW.fin (fun τ => τ 0 = .pointer (some ⟨b, 0, none⟩) ∧ τ 1 = .int .i64 k ∧ τ 2 = .int .i64 u ∧ τ 6 = .int .i64 1 ∧ τ 18 = .bool true) ⟨up rfl hs0, up rfl hs1, up rfl hs2, tp, up rfl hs18⟩ ?_
  rintro τ ⟨hs0, hs1, hs2, hs6, hs18⟩
  refine CW.ret ?_
  refine Th.r ?_
  refine ret1 (v := .int .i64 1) rfl (by exact (.tmp (AF_ev rfl hs6) .nil)) ?_
  have hst := hst.take (.there .here)
  have hst := hst.take (.there .here)
  exact ⟨rfl, refClose hi hn hE hst⟩

theorem ref_Rebase_far {p : Pers} {w : World} {R : List Assn} {b : Nat} {i t : Int} {es : List Ent} (k u : Int) (hk : 1099511627776 < k) (hst : St p w (RefB p b i t es :: R)) :
    Calls Try.prog 82 #[.pointer (some ⟨b, 0, none⟩), .int .i64 k, .int .i64 u] w fun e w => e = .returned (.int .i64 1) ∧ St p w (RefB p b i t es :: R) := by
  obtain ⟨X, c, hi, hn, hE, hcc, hX, hst⟩ := refOpen hst
  refine enter Try.func82 rfl (by simp) (n := 67) rfl fun τ hτ => ?_
  have hs0 : τ 0 = .pointer (some ⟨b, 0, none⟩) := hτ 0 (by simp)
  have hs1 : τ 1 = .int .i64 k := hτ 1 (by simp)
  have hs2 : τ 2 = .int .i64 u := hτ 2 (by simp)
  clear hτ
  refine CW.seq ?_
  refine CW.region ?_
  refine RW.soft Wd.a (v := .int .i64 0) (by exact E.assign rfl) ?_
  refine RW.fin (fun τ => τ 0 = .pointer (some ⟨b, 0, none⟩) ∧ τ 1 = .int .i64 k ∧ τ 2 = .int .i64 u ∧ τ 6 = .int .i64 0) ⟨up rfl hs0, up rfl hs1, up rfl hs2, tp⟩ ?_
  rintro τ ⟨hs0, hs1, hs2, hs6⟩
  refine CW.seq ?_
  refine CW.seq ?_
  refine CW.region ?_
  refine RW.soft Wd.a (v := .int .i64 k) (by exact E.move (AF_ev rfl hs1)) ?_
  refine RW.soft Wd.a (v := .pointer (some ⟨b, 0, none⟩)) (by exact E.move (AF_ev rfl (up rfl hs0))) ?_
  refine RW.soft Wd.a (v := .pointer (some ⟨b, 0, none⟩)) (by exact E.nilCheck (a := ⟨b, 0, none⟩) (AF_ev rfl tp)) ?_
  refine RW.soft Wd.a (v := .pointer (some ⟨b, 0, none⟩)) (by exact E.fieldAddr (b := b) (o := 0) (f := { name := "Index", type := 3, offset := 0, embedded := false, tag := "", pkgPath := "", byteOffset := 0 }) (AF_ev rfl tp) Try.underlying106 rfl sz3 rfl) ?_
  refine RW.soft Wd.a (v := .int .i64 i) (by exact E.load (a := ⟨b, 0, none⟩) Try.underlying3 rfl (AF_ev rfl tp) (hst.cell .here rfl)) ?_
  refine RW.soft Wd.a (v := .bool false) (by exact E.b (a := decide (k < i)) (E.lss (k := .i64) (a := k) (b := i) (AF_ev rfl (up rfl (up rfl (up rfl (up rfl tp))))) (AF_ev rfl tp)) (decide_eq_false (by omega))) ?_
  refine RW.soft Wd.a (v := .bool false) (by exact E.move (AF_ev rfl tp)) ?_
  refine RW.soft (by exact Wd.yes (x := 15) rfl (AF_ev rfl tp)) (v := .int .i64 k) (by exact E.move (AF_ev rfl (up rfl (up rfl (up rfl (up rfl (up rfl (up rfl (up rfl hs1))))))))) ?_
  refine RW.soft (by exact Wd.yes (x := 15) rfl (AF_ev rfl (up rfl tp))) (v := .bool true) (by exact E.b (a := decide (k > 1099511627776)) (E.gtr (k := .i64) (a := k) (b := 1099511627776) (AF_ev rfl tp) rfl) (decide_eq_true hk)) ?_
  refine RW.soft Wd.a (v := .bool true) (by exact E.pickF (AF_ev rfl (up rfl (up rfl tp))) (AF_ev rfl tp)) ?_
  refine RW.fin (fun τ => τ 0 = .pointer (some ⟨b, 0, none⟩) ∧ τ 1 = .int .i64 k ∧ τ 2 = .int .i64 u ∧ τ 6 = .int .i64 0 ∧ τ 18 = .bool true) ⟨up rfl (up rfl (up rfl (up rfl (up rfl (up rfl (up rfl (up rfl (up rfl (up rfl hs0))))))))), up rfl (up rfl (up rfl (up rfl (up rfl (up rfl (up rfl (up rfl (up rfl (up rfl hs1))))))))), up rfl (up rfl (up rfl (up rfl (up rfl (up rfl (up rfl (up rfl (up rfl (up rfl hs2))))))))), up rfl (up rfl (up rfl (up rfl (up rfl (up rfl (up rfl (up rfl (up rfl (up rfl hs6))))))))), tp⟩ ?_
  rintro τ ⟨hs0, hs1, hs2, hs6, hs18⟩
  refine CW.condT (AF_ev rfl hs18) ?_
  refine CW.seq ?_
  refine CW.region ?_
  refine RW.soft Wd.a (v := .int .i64 1) (by exact E.assign rfl) ?_
  refine RW.fin (fun τ => τ 0 = .pointer (some ⟨b, 0, none⟩) ∧ τ 1 = .int .i64 k ∧ τ 2 = .int .i64 u ∧ τ 6 = .int .i64 1 ∧ τ 18 = .bool true) ⟨up rfl hs0, up rfl hs1, up rfl hs2, tp, up rfl hs18⟩ ?_
  rintro τ ⟨hs0, hs1, hs2, hs6, hs18⟩
  refine CW.ret ?_
  refine Th.r ?_
  refine ret1 (v := .int .i64 1) rfl (by exact (.tmp (AF_ev rfl hs6) .nil)) ?_
  have hst := hst.take (.there .here)
  have hst := hst.take (.there .here)
  exact ⟨rfl, refClose hi hn hE hst⟩
end Go.Proofs.Ytdlcjoonhojpfaa
