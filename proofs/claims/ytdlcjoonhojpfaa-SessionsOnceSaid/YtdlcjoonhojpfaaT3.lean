/- The calls of the package sessions, walked through operation by operation. -/
import Derived.Test.YtdlcjoonhojpfaaT2
namespace Go.Proofs.Ytdlcjoonhojpfaa
open Go.RowKit Go.SL Go.S15
attribute [local irreducible] Go.SL.RW Go.SL.CW Go.SL.RD Go.SL.Hd Go.SL.St
set_option linter.unusedVariables false
set_option linter.unusedSimpArgs false

theorem nm15 : (Try.f15.name == "runtime.NumGoroutine") = false := by kernel_rfl
theorem nm16 : (Try.f16.name == "runtime.NumGoroutine") = false := by kernel_rfl
theorem nm18 : (Try.f18.name == "runtime.NumGoroutine") = false := by kernel_rfl
theorem nm19 : (Try.f19.name == "runtime.NumGoroutine") = false := by kernel_rfl
theorem nm20 : (Try.f20.name == "runtime.NumGoroutine") = false := by kernel_rfl
theorem nm21 : (Try.f21.name == "runtime.NumGoroutine") = false := by kernel_rfl
theorem nm22 : (Try.f22.name == "runtime.NumGoroutine") = false := by kernel_rfl
theorem nm23 : (Try.f23.name == "runtime.NumGoroutine") = false := by kernel_rfl

theorem same_true {P : Program} {f : FuncId} {args : Array Value} {w : World} {a b c : Int} {ns : List Int} {Q : World → Prop} (h : Calls P f args w fun e w => e = .returned (.bool (((a == a) && (b == b)) && (c == c) && ((bstr ns).toList == (bstr ns).toList))) ∧ Q w) :
    Calls P f args w fun e w => e = .returned (.bool true) ∧ Q w := Calls.mono h (by rintro e w ⟨rfl, h⟩; exact ⟨by simp, h⟩)

theorem law15_shown {p : Pers} {w : World} {R : List Assn}  (hst : St p w (R)) :
    Calls Try.prog 15 #[] w fun e w => ∃ q, p.le q ∧ e = .returned (.bool true) ∧ St q w R := by
  refine enter Try.func15 rfl (by simp) (n := 129) rfl fun τ hτ => ?_
  clear hτ
  refine CW.seq ?_
  refine CW.region ?_
  refine RW.soft Wd.a (v := .bool false) (by exact E.assign rfl) ?_
  refine RW.fin (fun τ => τ 0 = .bool false) tp ?_
  rintro τ hs0
  refine CW.seq ?_
  refine CW.region ?_
  refine RW.hard Wd.a ?_
  refine H.call0 Try.func16 nm16 rfl map0 (Calls.mono (New_L hst) ?_)
  rintro _ w ⟨t1, rfl, hst⟩
  refine ⟨_, rfl, ?_⟩
  show RW _ _ _ _ _ _ _
  refine RW.soft Wd.a (v := .pointer (some ⟨t1, 0, none⟩)) (by exact E.assign (AF_ev rfl tp)) ?_
  refine RW.fin (fun τ => τ 0 = .bool false ∧ τ 1 = .pointer (some ⟨t1, 0, none⟩)) ⟨up rfl (up rfl hs0), tp⟩ ?_
  rintro τ ⟨hs0, hs1⟩
  refine CW.seq ?_
  refine CW.seq ?_
  refine CW.region ?_
  refine RW.soft Wd.a (v := .pointer (some ⟨t1, 0, none⟩)) (by exact E.move (AF_ev rfl hs1)) ?_
  refine RW.soft Wd.a (v := .bool false) (by exact E.eqlP (p := (some ⟨t1, 0, none⟩)) Try.underlying24 (AF_ev rfl tp) rfl) ?_
  refine RW.fin (fun τ => τ 0 = .bool false ∧ τ 1 = .pointer (some ⟨t1, 0, none⟩) ∧ τ 25 = .bool false) ⟨up rfl (up rfl hs0), up rfl (up rfl hs1), tp⟩ ?_
  rintro τ ⟨hs0, hs1, hs25⟩
  refine CW.condF (AF_ev rfl hs25) ?_
  refine CW.skip ?_
  refine Th.n ?_
  refine CW.seq ?_
  refine CW.region ?_
  refine RW.soft Wd.a (v := .pointer (some ⟨t1, 0, none⟩)) (by exact E.move (AF_ev rfl hs1)) ?_
  refine RW.hard Wd.a ?_
  refine H.call0 Try.func18 nm18 rfl (map1 (AF_ev rfl tp)) (Calls.mono (Open_C (L' := [(1, 0, ⟨0, 0, 0, []⟩)]) (n' := 2) (a := 1) (e := 0) (by rfl) (by rfl) (by rfl) (by rfl) (by decide) hst) ?_)
  rintro _ w ⟨rfl, hst⟩
  refine ⟨_, rfl, ?_⟩
  show RW _ _ _ _ _ _ _
  refine RW.soft Wd.a (v := .tuple #[.int .i64 1, .int .i64 0]) (by exact E.move (AF_ev rfl tp)) ?_
  refine RW.soft Wd.a (v := .int .i64 1) (by exact E.extract (vs := #[.int .i64 1, .int .i64 0]) (AF_ev rfl tp) rfl) ?_
  refine RW.soft Wd.a (v := .int .i64 0) (by exact E.extract (vs := #[.int .i64 1, .int .i64 0]) (AF_ev rfl (up rfl tp)) rfl) ?_
  refine RW.soft Wd.a (v := .int .i64 1) (by exact E.assign (AF_ev rfl (up rfl tp))) ?_
  refine RW.soft Wd.a (v := .int .i64 0) (by exact E.assign (AF_ev rfl (up rfl tp))) ?_
  refine RW.fin (fun τ => τ 0 = .bool false ∧ τ 1 = .pointer (some ⟨t1, 0, none⟩) ∧ τ 2 = .int .i64 1 ∧ τ 3 = .int .i64 0 ∧ τ 25 = .bool false) ⟨up rfl (up rfl (up rfl (up rfl (up rfl (up rfl (up rfl hs0)))))), up rfl (up rfl (up rfl (up rfl (up rfl (up rfl (up rfl hs1)))))), up rfl tp, tp, up rfl (up rfl (up rfl (up rfl (up rfl (up rfl (up rfl hs25))))))⟩ ?_
  rintro τ ⟨hs0, hs1, hs2, hs3, hs25⟩
  refine CW.seq ?_
  refine CW.region ?_
  refine RW.soft Wd.a (v := .pointer (some ⟨t1, 0, none⟩)) (by exact E.move (AF_ev rfl hs1)) ?_
  refine RW.hard Wd.a ?_
  refine H.call0 Try.func20 nm20 rfl (map3 (AF_ev rfl tp) rfl rfl) (Calls.mono (Ask_C (r := ⟨0, 0, 0, []⟩) (sn := false) (e := 0) 1 5 (by rfl) (by rfl) (by rfl) hst) ?_)
  rintro _ w ⟨vX2, rfl, hbX2, hst⟩
  obtain ⟨X2, c3, rfl, hcX2, hmX2, hlX2, hbbX2⟩ := hst.shape
  refine ⟨_, rfl, ?_⟩
  show RW _ _ _ _ _ _ _
  refine RW.soft Wd.a (v := .tuple #[.agg #[.int .i64 0, .int .i64 0, .int .i64 0, .slice X2 0 c3], .bool false, .int .i64 0]) (by exact E.move (AF_ev rfl tp)) ?_
  refine RW.soft Wd.a (v := .agg #[.int .i64 0, .int .i64 0, .int .i64 0, .slice X2 0 c3]) (by exact E.extract (vs := #[.agg #[.int .i64 0, .int .i64 0, .int .i64 0, .slice X2 0 c3], .bool false, .int .i64 0]) (AF_ev rfl tp) rfl) ?_
  refine RW.soft Wd.a (v := .bool false) (by exact E.extract (vs := #[.agg #[.int .i64 0, .int .i64 0, .int .i64 0, .slice X2 0 c3], .bool false, .int .i64 0]) (AF_ev rfl (up rfl tp)) rfl) ?_
  refine RW.soft Wd.a (v := .int .i64 0) (by exact E.extract (vs := #[.agg #[.int .i64 0, .int .i64 0, .int .i64 0, .slice X2 0 c3], .bool false, .int .i64 0]) (AF_ev rfl (up rfl (up rfl tp))) rfl) ?_
  refine RW.hard Wd.a ?_
  refine H.alloc zr29 hst fun b4 w hst => ?_
  refine RW.hard Wd.a ?_
  refine H.store (b := b4) (o := 0) (v := .agg #[.int .i64 0, .int .i64 0, .int .i64 0, .slice X2 0 c3]) (c' := #[.int .i64 0, .int .i64 0, .int .i64 0, .slice X2 0 c3]) (AF_ev rfl tp) (AF_ev rfl (up rfl (up rfl (up rfl tp)))) hst .here sz29 (by simp [Value.cells]) (by simp [Value.cells, Value.oneCell']) rfl fun w hst => ?_
  refine RW.soft Wd.a (v := .bool false) (by exact E.assign (AF_ev rfl (u0 (up rfl (up rfl tp))))) ?_
  refine RW.soft Wd.a (v := .int .i64 0) (by exact E.assign (AF_ev rfl (up rfl (u0 (up rfl tp))))) ?_
  refine RW.fin (fun τ => τ 0 = .bool false ∧ τ 1 = .pointer (some ⟨t1, 0, none⟩) ∧ τ 2 = .int .i64 1 ∧ τ 3 = .int .i64 0 ∧ τ 5 = .bool false ∧ τ 6 = .int .i64 0 ∧ τ 25 = .bool false) ⟨up rfl (up rfl (u0 (up rfl (up rfl (up rfl (up rfl (up rfl (up rfl (up rfl hs0))))))))), up rfl (up rfl (u0 (up rfl (up rfl (up rfl (up rfl (up rfl (up rfl (up rfl hs1))))))))), up rfl (up rfl (u0 (up rfl (up rfl (up rfl (up rfl (up rfl (up rfl (up rfl hs2))))))))), up rfl (up rfl (u0 (up rfl (up rfl (up rfl (up rfl (up rfl (up rfl (up rfl hs3))))))))), up rfl tp, tp, up rfl (up rfl (u0 (up rfl (up rfl (up rfl (up rfl (up rfl (up rfl (up rfl hs25)))))))))⟩ ?_
  rintro τ ⟨hs0, hs1, hs2, hs3, hs5, hs6, hs25⟩
  refine CW.seq ?_
  refine CW.region ?_
  refine RW.soft Wd.a (v := .pointer (some ⟨t1, 0, none⟩)) (by exact E.move (AF_ev rfl hs1)) ?_
  refine RW.soft Wd.a (v := .agg #[.int .i64 0, .int .i64 7, .int .i64 0, .slice none 0 0]) (by exact E.build (vs := #[(1, .int .i64 7)]) (bld1 rfl) (by kernel_rfl)) ?_
  have hst := hst.ownNil (e := 5) (sz := 1) none
  have hst := hst.take (.there (.there (.there .here)))
  refine RW.hard Wd.a ?_
  refine H.call0 Try.func21 nm21 rfl (map4 (AF_ev rfl (up rfl tp)) rfl rfl (AF_ev rfl tp)) (Calls.mono (Done_C (A := Own 5 1 (.slice none 0 0) 0 (bv [])) (Y := none) (d := 0) (L' := [(1, 5, ⟨0, 7, 0, []⟩)]) (e := 0) 1 5 0 7 0 ([]) (by rfl) (by rfl) (fun w H s => Own.src s) (by first | omega | (simp; done) | (simp; omega)) hst) ?_)
  rintro _ w ⟨p, hle, rfl, hst⟩
  refine ⟨_, rfl, ?_⟩
  show RW _ _ _ _ _ _ _
  refine RW.soft Wd.a (v := .int .i64 0) (by exact E.assign (AF_ev rfl tp)) ?_
  refine RW.fin (fun τ => τ 0 = .bool false ∧ τ 1 = .pointer (some ⟨t1, 0, none⟩) ∧ τ 2 = .int .i64 1 ∧ τ 3 = .int .i64 0 ∧ τ 5 = .bool false ∧ τ 6 = .int .i64 0 ∧ τ 7 = .int .i64 0 ∧ τ 25 = .bool false) ⟨up rfl (up rfl (up rfl (up rfl hs0))), up rfl (up rfl (up rfl (up rfl hs1))), up rfl (up rfl (up rfl (up rfl hs2))), up rfl (up rfl (up rfl (up rfl hs3))), up rfl (up rfl (up rfl (up rfl hs5))), up rfl (up rfl (up rfl (up rfl hs6))), tp, up rfl (up rfl (up rfl (up rfl hs25)))⟩ ?_
  rintro τ ⟨hs0, hs1, hs2, hs3, hs5, hs6, hs7, hs25⟩
  refine CW.seq ?_
  refine CW.region ?_
  refine RW.soft Wd.a (v := .pointer (some ⟨t1, 0, none⟩)) (by exact E.move (AF_ev rfl hs1)) ?_
  refine RW.hard Wd.a ?_
  refine H.call0 Try.func20 nm20 rfl (map3 (AF_ev rfl tp) rfl rfl) (Calls.mono (Ask_C (r := ⟨0, 7, 0, []⟩) (sn := true) (e := 0) 1 5 (by rfl) (by rfl) (by rfl) hst) ?_)
  rintro _ w ⟨vX5, rfl, hbX5, hst⟩
  obtain ⟨X5, c6, rfl, hcX5, hmX5, hlX5, hbbX5⟩ := hst.shape
  refine ⟨_, rfl, ?_⟩
  show RW _ _ _ _ _ _ _
  refine RW.soft Wd.a (v := .tuple #[.agg #[.int .i64 0, .int .i64 7, .int .i64 0, .slice X5 0 c6], .bool true, .int .i64 0]) (by exact E.move (AF_ev rfl tp)) ?_
  refine RW.soft Wd.a (v := .agg #[.int .i64 0, .int .i64 7, .int .i64 0, .slice X5 0 c6]) (by exact E.extract (vs := #[.agg #[.int .i64 0, .int .i64 7, .int .i64 0, .slice X5 0 c6], .bool true, .int .i64 0]) (AF_ev rfl tp) rfl) ?_
  refine RW.soft Wd.a (v := .bool true) (by exact E.extract (vs := #[.agg #[.int .i64 0, .int .i64 7, .int .i64 0, .slice X5 0 c6], .bool true, .int .i64 0]) (AF_ev rfl (up rfl tp)) rfl) ?_
  refine RW.soft Wd.a (v := .int .i64 0) (by exact E.extract (vs := #[.agg #[.int .i64 0, .int .i64 7, .int .i64 0, .slice X5 0 c6], .bool true, .int .i64 0]) (AF_ev rfl (up rfl (up rfl tp))) rfl) ?_
  refine RW.hard Wd.a ?_
  refine H.alloc zr29 hst fun b7 w hst => ?_
  refine RW.hard Wd.a ?_
  refine H.store (b := b7) (o := 0) (v := .agg #[.int .i64 0, .int .i64 7, .int .i64 0, .slice X5 0 c6]) (c' := #[.int .i64 0, .int .i64 7, .int .i64 0, .slice X5 0 c6]) (AF_ev rfl tp) (AF_ev rfl (up rfl (up rfl (up rfl tp)))) hst .here sz29 (by simp [Value.cells]) (by simp [Value.cells, Value.oneCell']) rfl fun w hst => ?_
  refine RW.soft Wd.a (v := .bool true) (by exact E.assign (AF_ev rfl (u0 (up rfl (up rfl tp))))) ?_
  refine RW.soft Wd.a (v := .int .i64 0) (by exact E.assign (AF_ev rfl (up rfl (u0 (up rfl tp))))) ?_
  refine RW.fin (fun τ => τ 0 = .bool false ∧ τ 1 = .pointer (some ⟨t1, 0, none⟩) ∧ τ 2 = .int .i64 1 ∧ τ 3 = .int .i64 0 ∧ τ 5 = .bool false ∧ τ 6 = .int .i64 0 ∧ τ 7 = .int .i64 0 ∧ τ 8 = .pointer (some ⟨b7, 0, none⟩) ∧ τ 9 = .bool true ∧ τ 10 = .int .i64 0 ∧ τ 25 = .bool false) ⟨up rfl (up rfl (u0 (up rfl (up rfl (up rfl (up rfl (up rfl (up rfl (up rfl hs0))))))))), up rfl (up rfl (u0 (up rfl (up rfl (up rfl (up rfl (up rfl (up rfl (up rfl hs1))))))))), up rfl (up rfl (u0 (up rfl (up rfl (up rfl (up rfl (up rfl (up rfl (up rfl hs2))))))))), up rfl (up rfl (u0 (up rfl (up rfl (up rfl (up rfl (up rfl (up rfl (up rfl hs3))))))))), up rfl (up rfl (u0 (up rfl (up rfl (up rfl (up rfl (up rfl (up rfl (up rfl hs5))))))))), up rfl (up rfl (u0 (up rfl (up rfl (up rfl (up rfl (up rfl (up rfl (up rfl hs6))))))))), up rfl (up rfl (u0 (up rfl (up rfl (up rfl (up rfl (up rfl (up rfl (up rfl hs7))))))))), up rfl (up rfl (u0 tp)), up rfl tp, tp, up rfl (up rfl (u0 (up rfl (up rfl (up rfl (up rfl (up rfl (up rfl (up rfl hs25)))))))))⟩ ?_
  rintro τ ⟨hs0, hs1, hs2, hs3, hs5, hs6, hs7, hs8, hs9, hs10, hs25⟩
  refine CW.seq ?_
  refine CW.region ?_
  refine RW.soft Wd.a (v := .pointer (some ⟨t1, 0, none⟩)) (by exact E.move (AF_ev rfl hs1)) ?_
  have hst := hst.take (.there (.there .here))
  refine RW.hard Wd.a ?_
  refine H.call0 Try.func20 nm20 rfl (map3 (AF_ev rfl tp) rfl rfl) (Calls.mono (Ask_C (r := ⟨0, 0, 0, []⟩) (sn := false) (e := 151) 1 4 (by rfl) (by rfl) (by rfl) hst) ?_)
  rintro _ w ⟨vX8, rfl, hbX8, hst⟩
  obtain ⟨X8, c9, rfl, hcX8, hmX8, hlX8, hbbX8⟩ := hst.shape
  refine ⟨_, rfl, ?_⟩
  show RW _ _ _ _ _ _ _
  refine RW.soft Wd.a (v := .tuple #[.agg #[.int .i64 0, .int .i64 0, .int .i64 0, .slice X8 0 c9], .bool false, .int .i64 151]) (by exact E.move (AF_ev rfl tp)) ?_
  refine RW.soft Wd.a (v := .agg #[.int .i64 0, .int .i64 0, .int .i64 0, .slice X8 0 c9]) (by exact E.extract (vs := #[.agg #[.int .i64 0, .int .i64 0, .int .i64 0, .slice X8 0 c9], .bool false, .int .i64 151]) (AF_ev rfl tp) rfl) ?_
  refine RW.soft Wd.a (v := .bool false) (by exact E.extract (vs := #[.agg #[.int .i64 0, .int .i64 0, .int .i64 0, .slice X8 0 c9], .bool false, .int .i64 151]) (AF_ev rfl (up rfl tp)) rfl) ?_
  refine RW.soft Wd.a (v := .int .i64 151) (by exact E.extract (vs := #[.agg #[.int .i64 0, .int .i64 0, .int .i64 0, .slice X8 0 c9], .bool false, .int .i64 151]) (AF_ev rfl (up rfl (up rfl tp))) rfl) ?_
  refine RW.hard Wd.a ?_
  refine H.alloc zr29 hst fun b10 w hst => ?_
  refine RW.hard Wd.a ?_
  refine H.store (b := b10) (o := 0) (v := .agg #[.int .i64 0, .int .i64 0, .int .i64 0, .slice X8 0 c9]) (c' := #[.int .i64 0, .int .i64 0, .int .i64 0, .slice X8 0 c9]) (AF_ev rfl tp) (AF_ev rfl (up rfl (up rfl (up rfl tp)))) hst .here sz29 (by simp [Value.cells]) (by simp [Value.cells, Value.oneCell']) rfl fun w hst => ?_
  refine RW.soft Wd.a (v := .bool false) (by exact E.assign (AF_ev rfl (u0 (up rfl (up rfl tp))))) ?_
  refine RW.soft Wd.a (v := .int .i64 151) (by exact E.assign (AF_ev rfl (up rfl (u0 (up rfl tp))))) ?_
  refine RW.fin (fun τ => τ 0 = .bool false ∧ τ 1 = .pointer (some ⟨t1, 0, none⟩) ∧ τ 2 = .int .i64 1 ∧ τ 3 = .int .i64 0 ∧ τ 5 = .bool false ∧ τ 6 = .int .i64 0 ∧ τ 7 = .int .i64 0 ∧ τ 8 = .pointer (some ⟨b7, 0, none⟩) ∧ τ 9 = .bool true ∧ τ 10 = .int .i64 0 ∧ τ 13 = .int .i64 151 ∧ τ 25 = .bool false) ⟨up rfl (up rfl (u0 (up rfl (up rfl (up rfl (up rfl (up rfl (up rfl (up rfl hs0))))))))), up rfl (up rfl (u0 (up rfl (up rfl (up rfl (up rfl (up rfl (up rfl (up rfl hs1))))))))), up rfl (up rfl (u0 (up rfl (up rfl (up rfl (up rfl (up rfl (up rfl (up rfl hs2))))))))), up rfl (up rfl (u0 (up rfl (up rfl (up rfl (up rfl (up rfl (up rfl (up rfl hs3))))))))), up rfl (up rfl (u0 (up rfl (up rfl (up rfl (up rfl (up rfl (up rfl (up rfl hs5))))))))), up rfl (up rfl (u0 (up rfl (up rfl (up rfl (up rfl (up rfl (up rfl (up rfl hs6))))))))), up rfl (up rfl (u0 (up rfl (up rfl (up rfl (up rfl (up rfl (up rfl (up rfl hs7))))))))), up rfl (up rfl (u0 (up rfl (up rfl (up rfl (up rfl (up rfl (up rfl (up rfl hs8))))))))), up rfl (up rfl (u0 (up rfl (up rfl (up rfl (up rfl (up rfl (up rfl (up rfl hs9))))))))), up rfl (up rfl (u0 (up rfl (up rfl (up rfl (up rfl (up rfl (up rfl (up rfl hs10))))))))), tp, up rfl (up rfl (u0 (up rfl (up rfl (up rfl (up rfl (up rfl (up rfl (up rfl hs25)))))))))⟩ ?_
  rintro τ ⟨hs0, hs1, hs2, hs3, hs5, hs6, hs7, hs8, hs9, hs10, hs13, hs25⟩
  refine CW.seq ?_
  refine CW.region ?_
  refine RW.soft Wd.a (v := .pointer (some ⟨t1, 0, none⟩)) (by exact E.move (AF_ev rfl hs1)) ?_
  have hst := hst.take (.there (.there .here))
  refine RW.hard Wd.a ?_
  refine H.call0 Try.func20 nm20 rfl (map3 (AF_ev rfl tp) rfl rfl) (Calls.mono (Ask_C (r := ⟨0, 0, 0, []⟩) (sn := false) (e := 0) 1 6 (by rfl) (by rfl) (by rfl) hst) ?_)
  rintro _ w ⟨vX11, rfl, hbX11, hst⟩
  obtain ⟨X11, c12, rfl, hcX11, hmX11, hlX11, hbbX11⟩ := hst.shape
  refine ⟨_, rfl, ?_⟩
  show RW _ _ _ _ _ _ _
  refine RW.soft Wd.a (v := .tuple #[.agg #[.int .i64 0, .int .i64 0, .int .i64 0, .slice X11 0 c12], .bool false, .int .i64 0]) (by exact E.move (AF_ev rfl tp)) ?_
  refine RW.soft Wd.a (v := .agg #[.int .i64 0, .int .i64 0, .int .i64 0, .slice X11 0 c12]) (by exact E.extract (vs := #[.agg #[.int .i64 0, .int .i64 0, .int .i64 0, .slice X11 0 c12], .bool false, .int .i64 0]) (AF_ev rfl tp) rfl) ?_
  refine RW.soft Wd.a (v := .bool false) (by exact E.extract (vs := #[.agg #[.int .i64 0, .int .i64 0, .int .i64 0, .slice X11 0 c12], .bool false, .int .i64 0]) (AF_ev rfl (up rfl tp)) rfl) ?_
  refine RW.soft Wd.a (v := .int .i64 0) (by exact E.extract (vs := #[.agg #[.int .i64 0, .int .i64 0, .int .i64 0, .slice X11 0 c12], .bool false, .int .i64 0]) (AF_ev rfl (up rfl (up rfl tp))) rfl) ?_
  refine RW.hard Wd.a ?_
  refine H.alloc zr29 hst fun b13 w hst => ?_
  refine RW.hard Wd.a ?_
  refine H.store (b := b13) (o := 0) (v := .agg #[.int .i64 0, .int .i64 0, .int .i64 0, .slice X11 0 c12]) (c' := #[.int .i64 0, .int .i64 0, .int .i64 0, .slice X11 0 c12]) (AF_ev rfl tp) (AF_ev rfl (up rfl (up rfl (up rfl tp)))) hst .here sz29 (by simp [Value.cells]) (by simp [Value.cells, Value.oneCell']) rfl fun w hst => ?_
  refine RW.soft Wd.a (v := .bool false) (by exact E.assign (AF_ev rfl (u0 (up rfl (up rfl tp))))) ?_
  refine RW.soft Wd.a (v := .int .i64 0) (by exact E.assign (AF_ev rfl (up rfl (u0 (up rfl tp))))) ?_
  refine RW.fin (fun τ => τ 0 = .bool false ∧ τ 1 = .pointer (some ⟨t1, 0, none⟩) ∧ τ 2 = .int .i64 1 ∧ τ 3 = .int .i64 0 ∧ τ 5 = .bool false ∧ τ 6 = .int .i64 0 ∧ τ 7 = .int .i64 0 ∧ τ 8 = .pointer (some ⟨b7, 0, none⟩) ∧ τ 9 = .bool true ∧ τ 10 = .int .i64 0 ∧ τ 13 = .int .i64 151 ∧ τ 15 = .bool false ∧ τ 16 = .int .i64 0 ∧ τ 25 = .bool false) ⟨up rfl (up rfl (u0 (up rfl (up rfl (up rfl (up rfl (up rfl (up rfl (up rfl hs0))))))))), up rfl (up rfl (u0 (up rfl (up rfl (up rfl (up rfl (up rfl (up rfl (up rfl hs1))))))))), up rfl (up rfl (u0 (up rfl (up rfl (up rfl (up rfl (up rfl (up rfl (up rfl hs2))))))))), up rfl (up rfl (u0 (up rfl (up rfl (up rfl (up rfl (up rfl (up rfl (up rfl hs3))))))))), up rfl (up rfl (u0 (up rfl (up rfl (up rfl (up rfl (up rfl (up rfl (up rfl hs5))))))))), up rfl (up rfl (u0 (up rfl (up rfl (up rfl (up rfl (up rfl (up rfl (up rfl hs6))))))))), up rfl (up rfl (u0 (up rfl (up rfl (up rfl (up rfl (up rfl (up rfl (up rfl hs7))))))))), up rfl (up rfl (u0 (up rfl (up rfl (up rfl (up rfl (up rfl (up rfl (up rfl hs8))))))))), up rfl (up rfl (u0 (up rfl (up rfl (up rfl (up rfl (up rfl (up rfl (up rfl hs9))))))))), up rfl (up rfl (u0 (up rfl (up rfl (up rfl (up rfl (up rfl (up rfl (up rfl hs10))))))))), up rfl (up rfl (u0 (up rfl (up rfl (up rfl (up rfl (up rfl (up rfl (up rfl hs13))))))))), up rfl tp, tp, up rfl (up rfl (u0 (up rfl (up rfl (up rfl (up rfl (up rfl (up rfl (up rfl hs25)))))))))⟩ ?_
  rintro τ ⟨hs0, hs1, hs2, hs3, hs5, hs6, hs7, hs8, hs9, hs10, hs13, hs15, hs16, hs25⟩
  refine CW.seq ?_
  refine CW.region ?_
  refine RW.soft Wd.a (v := .pointer (some ⟨t1, 0, none⟩)) (by exact E.move (AF_ev rfl hs1)) ?_
  have hst := hst.take (.there (.there .here))
  refine RW.hard Wd.a ?_
  refine H.call0 Try.func19 nm19 rfl (map2 (AF_ev rfl tp) rfl) (Calls.mono (Expire_C (L' := []) (e := 0) 1 (by rfl) (by rfl) hst) ?_)
  rintro _ w ⟨rfl, hst⟩
  refine ⟨_, rfl, ?_⟩
  show RW _ _ _ _ _ _ _
  refine RW.soft Wd.a (v := .int .i64 0) (by exact E.assign (AF_ev rfl tp)) ?_
  refine RW.fin (fun τ => τ 0 = .bool false ∧ τ 1 = .pointer (some ⟨t1, 0, none⟩) ∧ τ 2 = .int .i64 1 ∧ τ 3 = .int .i64 0 ∧ τ 5 = .bool false ∧ τ 6 = .int .i64 0 ∧ τ 7 = .int .i64 0 ∧ τ 8 = .pointer (some ⟨b7, 0, none⟩) ∧ τ 9 = .bool true ∧ τ 10 = .int .i64 0 ∧ τ 13 = .int .i64 151 ∧ τ 15 = .bool false ∧ τ 16 = .int .i64 0 ∧ τ 17 = .int .i64 0 ∧ τ 25 = .bool false) ⟨up rfl (up rfl (up rfl hs0)), up rfl (up rfl (up rfl hs1)), up rfl (up rfl (up rfl hs2)), up rfl (up rfl (up rfl hs3)), up rfl (up rfl (up rfl hs5)), up rfl (up rfl (up rfl hs6)), up rfl (up rfl (up rfl hs7)), up rfl (up rfl (up rfl hs8)), up rfl (up rfl (up rfl hs9)), up rfl (up rfl (up rfl hs10)), up rfl (up rfl (up rfl hs13)), up rfl (up rfl (up rfl hs15)), up rfl (up rfl (up rfl hs16)), tp, up rfl (up rfl (up rfl hs25))⟩ ?_
  rintro τ ⟨hs0, hs1, hs2, hs3, hs5, hs6, hs7, hs8, hs9, hs10, hs13, hs15, hs16, hs17, hs25⟩
  refine CW.seq ?_
  refine CW.region ?_
  refine RW.soft Wd.a (v := .pointer (some ⟨t1, 0, none⟩)) (by exact E.move (AF_ev rfl hs1)) ?_
  refine RW.hard Wd.a ?_
  refine H.call0 Try.func20 nm20 rfl (map3 (AF_ev rfl tp) rfl rfl) (Calls.mono (Ask_C (r := ⟨0, 0, 0, []⟩) (sn := false) (e := 150) 1 5 (by rfl) (by rfl) (by rfl) hst) ?_)
  rintro _ w ⟨vX14, rfl, hbX14, hst⟩
  obtain ⟨X14, c15, rfl, hcX14, hmX14, hlX14, hbbX14⟩ := hst.shape
  refine ⟨_, rfl, ?_⟩
  show RW _ _ _ _ _ _ _
  refine RW.soft Wd.a (v := .tuple #[.agg #[.int .i64 0, .int .i64 0, .int .i64 0, .slice X14 0 c15], .bool false, .int .i64 150]) (by exact E.move (AF_ev rfl tp)) ?_
  refine RW.soft Wd.a (v := .agg #[.int .i64 0, .int .i64 0, .int .i64 0, .slice X14 0 c15]) (by exact E.extract (vs := #[.agg #[.int .i64 0, .int .i64 0, .int .i64 0, .slice X14 0 c15], .bool false, .int .i64 150]) (AF_ev rfl tp) rfl) ?_
  refine RW.soft Wd.a (v := .bool false) (by exact E.extract (vs := #[.agg #[.int .i64 0, .int .i64 0, .int .i64 0, .slice X14 0 c15], .bool false, .int .i64 150]) (AF_ev rfl (up rfl tp)) rfl) ?_
  refine RW.soft Wd.a (v := .int .i64 150) (by exact E.extract (vs := #[.agg #[.int .i64 0, .int .i64 0, .int .i64 0, .slice X14 0 c15], .bool false, .int .i64 150]) (AF_ev rfl (up rfl (up rfl tp))) rfl) ?_
  refine RW.hard Wd.a ?_
  refine H.alloc zr29 hst fun b16 w hst => ?_
  refine RW.hard Wd.a ?_
  refine H.store (b := b16) (o := 0) (v := .agg #[.int .i64 0, .int .i64 0, .int .i64 0, .slice X14 0 c15]) (c' := #[.int .i64 0, .int .i64 0, .int .i64 0, .slice X14 0 c15]) (AF_ev rfl tp) (AF_ev rfl (up rfl (up rfl (up rfl tp)))) hst .here sz29 (by simp [Value.cells]) (by simp [Value.cells, Value.oneCell']) rfl fun w hst => ?_
  refine RW.soft Wd.a (v := .bool false) (by exact E.assign (AF_ev rfl (u0 (up rfl (up rfl tp))))) ?_
  refine RW.soft Wd.a (v := .int .i64 150) (by exact E.assign (AF_ev rfl (up rfl (u0 (up rfl tp))))) ?_
  refine RW.fin (fun τ => τ 0 = .bool false ∧ τ 1 = .pointer (some ⟨t1, 0, none⟩) ∧ τ 2 = .int .i64 1 ∧ τ 3 = .int .i64 0 ∧ τ 5 = .bool false ∧ τ 6 = .int .i64 0 ∧ τ 7 = .int .i64 0 ∧ τ 8 = .pointer (some ⟨b7, 0, none⟩) ∧ τ 9 = .bool true ∧ τ 10 = .int .i64 0 ∧ τ 13 = .int .i64 151 ∧ τ 15 = .bool false ∧ τ 16 = .int .i64 0 ∧ τ 17 = .int .i64 0 ∧ τ 20 = .int .i64 150 ∧ τ 25 = .bool false) ⟨up rfl (up rfl (u0 (up rfl (up rfl (up rfl (up rfl (up rfl (up rfl (up rfl hs0))))))))), up rfl (up rfl (u0 (up rfl (up rfl (up rfl (up rfl (up rfl (up rfl (up rfl hs1))))))))), up rfl (up rfl (u0 (up rfl (up rfl (up rfl (up rfl (up rfl (up rfl (up rfl hs2))))))))), up rfl (up rfl (u0 (up rfl (up rfl (up rfl (up rfl (up rfl (up rfl (up rfl hs3))))))))), up rfl (up rfl (u0 (up rfl (up rfl (up rfl (up rfl (up rfl (up rfl (up rfl hs5))))))))), up rfl (up rfl (u0 (up rfl (up rfl (up rfl (up rfl (up rfl (up rfl (up rfl hs6))))))))), up rfl (up rfl (u0 (up rfl (up rfl (up rfl (up rfl (up rfl (up rfl (up rfl hs7))))))))), up rfl (up rfl (u0 (up rfl (up rfl (up rfl (up rfl (up rfl (up rfl (up rfl hs8))))))))), up rfl (up rfl (u0 (up rfl (up rfl (up rfl (up rfl (up rfl (up rfl (up rfl hs9))))))))), up rfl (up rfl (u0 (up rfl (up rfl (up rfl (up rfl (up rfl (up rfl (up rfl hs10))))))))), up rfl (up rfl (u0 (up rfl (up rfl (up rfl (up rfl (up rfl (up rfl (up rfl hs13))))))))), up rfl (up rfl (u0 (up rfl (up rfl (up rfl (up rfl (up rfl (up rfl (up rfl hs15))))))))), up rfl (up rfl (u0 (up rfl (up rfl (up rfl (up rfl (up rfl (up rfl (up rfl hs16))))))))), up rfl (up rfl (u0 (up rfl (up rfl (up rfl (up rfl (up rfl (up rfl (up rfl hs17))))))))), tp, up rfl (up rfl (u0 (up rfl (up rfl (up rfl (up rfl (up rfl (up rfl (up rfl hs25)))))))))⟩ ?_
  rintro τ ⟨hs0, hs1, hs2, hs3, hs5, hs6, hs7, hs8, hs9, hs10, hs13, hs15, hs16, hs17, hs20, hs25⟩
  refine CW.seq ?_
  refine CW.region ?_
  refine RW.soft Wd.a (v := .pointer (some ⟨t1, 0, none⟩)) (by exact E.move (AF_ev rfl hs1)) ?_
  have hst := hst.take (.there (.there .here))
  refine RW.hard Wd.a ?_
  refine H.call0 Try.func18 nm18 rfl (map1 (AF_ev rfl tp)) (Calls.mono (Open_C (L' := [(2, 0, ⟨0, 0, 0, []⟩)]) (n' := 3) (a := 2) (e := 0) (by rfl) (by rfl) (by rfl) (by rfl) (by decide) hst) ?_)
  rintro _ w ⟨rfl, hst⟩
  refine ⟨_, rfl, ?_⟩
  show RW _ _ _ _ _ _ _
  refine RW.soft Wd.a (v := .tuple #[.int .i64 2, .int .i64 0]) (by exact E.move (AF_ev rfl tp)) ?_
  refine RW.soft Wd.a (v := .int .i64 2) (by exact E.extract (vs := #[.int .i64 2, .int .i64 0]) (AF_ev rfl tp) rfl) ?_
  refine RW.soft Wd.a (v := .int .i64 0) (by exact E.extract (vs := #[.int .i64 2, .int .i64 0]) (AF_ev rfl (up rfl tp)) rfl) ?_
  refine RW.soft Wd.a (v := .int .i64 2) (by exact E.assign (AF_ev rfl (up rfl tp))) ?_
  refine RW.soft Wd.a (v := .int .i64 0) (by exact E.assign (AF_ev rfl (up rfl tp))) ?_
  refine RW.fin (fun τ => τ 0 = .bool false ∧ τ 1 = .pointer (some ⟨t1, 0, none⟩) ∧ τ 2 = .int .i64 1 ∧ τ 3 = .int .i64 0 ∧ τ 5 = .bool false ∧ τ 6 = .int .i64 0 ∧ τ 7 = .int .i64 0 ∧ τ 8 = .pointer (some ⟨b7, 0, none⟩) ∧ τ 9 = .bool true ∧ τ 10 = .int .i64 0 ∧ τ 13 = .int .i64 151 ∧ τ 15 = .bool false ∧ τ 16 = .int .i64 0 ∧ τ 17 = .int .i64 0 ∧ τ 20 = .int .i64 150 ∧ τ 21 = .int .i64 2 ∧ τ 22 = .int .i64 0 ∧ τ 25 = .bool false) ⟨up rfl (up rfl (up rfl (up rfl (up rfl (up rfl (up rfl hs0)))))), up rfl (up rfl (up rfl (up rfl (up rfl (up rfl (up rfl hs1)))))), up rfl (up rfl (up rfl (up rfl (up rfl (up rfl (up rfl hs2)))))), up rfl (up rfl (up rfl (up rfl (up rfl (up rfl (up rfl hs3)))))), up rfl (up rfl (up rfl (up rfl (up rfl (up rfl (up rfl hs5)))))), up rfl (up rfl (up rfl (up rfl (up rfl (up rfl (up rfl hs6)))))), up rfl (up rfl (up rfl (up rfl (up rfl (up rfl (up rfl hs7)))))), up rfl (up rfl (up rfl (up rfl (up rfl (up rfl (up rfl hs8)))))), up rfl (up rfl (up rfl (up rfl (up rfl (up rfl (up rfl hs9)))))), up rfl (up rfl (up rfl (up rfl (up rfl (up rfl (up rfl hs10)))))), up rfl (up rfl (up rfl (up rfl (up rfl (up rfl (up rfl hs13)))))), up rfl (up rfl (up rfl (up rfl (up rfl (up rfl (up rfl hs15)))))), up rfl (up rfl (up rfl (up rfl (up rfl (up rfl (up rfl hs16)))))), up rfl (up rfl (up rfl (up rfl (up rfl (up rfl (up rfl hs17)))))), up rfl (up rfl (up rfl (up rfl (up rfl (up rfl (up rfl hs20)))))), up rfl tp, tp, up rfl (up rfl (up rfl (up rfl (up rfl (up rfl (up rfl hs25))))))⟩ ?_
  rintro τ ⟨hs0, hs1, hs2, hs3, hs5, hs6, hs7, hs8, hs9, hs10, hs13, hs15, hs16, hs17, hs20, hs21, hs22, hs25⟩
  refine CW.seq ?_
  refine CW.region ?_
  refine RW.soft Wd.a (v := .int .i64 1) (by exact E.move (AF_ev rfl hs2)) ?_
  refine RW.soft Wd.a (v := .bool true) (by exact E.eql (k := .i64) (a := 1) (b := 1) (AF_ev rfl tp) rfl) ?_
  refine RW.soft Wd.a (v := .bool true) (by exact E.move (AF_ev rfl tp)) ?_
  refine RW.soft (by exact Wd.yes (x := 73) rfl (AF_ev rfl tp)) (v := .int .i64 0) (by exact E.move (AF_ev rfl (up rfl (up rfl (up rfl hs3))))) ?_
  refine RW.soft (by exact Wd.yes (x := 73) rfl (AF_ev rfl (up rfl tp))) (v := .bool true) (by exact E.eql (k := .i64) (a := 0) (b := 0) (AF_ev rfl tp) rfl) ?_
  refine RW.soft Wd.a (v := .bool true) (by exact E.pickT (AF_ev rfl (up rfl (up rfl tp))) (AF_ev rfl tp)) ?_
  refine RW.soft Wd.a (v := .bool true) (by exact E.move (AF_ev rfl tp)) ?_
  refine RW.soft (by exact Wd.yes (x := 77) rfl (AF_ev rfl tp)) (v := .bool false) (by exact E.move (AF_ev rfl (up rfl (up rfl (up rfl (up rfl (up rfl (up rfl (up rfl hs5))))))))) ?_
  refine RW.soft (by exact Wd.yes (x := 77) rfl (AF_ev rfl (up rfl tp))) (v := .bool true) (by exact E.not (b := false) (AF_ev rfl tp)) ?_
  refine RW.soft Wd.a (v := .bool true) (by exact E.pickT (AF_ev rfl (up rfl (up rfl tp))) (AF_ev rfl tp)) ?_
  refine RW.soft Wd.a (v := .bool true) (by exact E.move (AF_ev rfl tp)) ?_
  refine RW.soft (by exact Wd.yes (x := 81) rfl (AF_ev rfl tp)) (v := .int .i64 0) (by exact E.move (AF_ev rfl (up rfl (up rfl (up rfl (up rfl (up rfl (up rfl (up rfl (up rfl (up rfl (up rfl (up rfl hs6))))))))))))) ?_
  refine RW.soft (by exact Wd.yes (x := 81) rfl (AF_ev rfl (up rfl tp))) (v := .bool true) (by exact E.eql (k := .i64) (a := 0) (b := 0) (AF_ev rfl tp) rfl) ?_
  refine RW.soft Wd.a (v := .bool true) (by exact E.pickT (AF_ev rfl (up rfl (up rfl tp))) (AF_ev rfl tp)) ?_
  refine RW.soft Wd.a (v := .bool true) (by exact E.move (AF_ev rfl tp)) ?_
  refine RW.soft (by exact Wd.yes (x := 85) rfl (AF_ev rfl tp)) (v := .int .i64 0) (by exact E.move (AF_ev rfl (up rfl (up rfl (up rfl (up rfl (up rfl (up rfl (up rfl (up rfl (up rfl (up rfl (up rfl (up rfl (up rfl (up rfl (up rfl hs7))))))))))))))))) ?_
  refine RW.soft (by exact Wd.yes (x := 85) rfl (AF_ev rfl (up rfl tp))) (v := .bool true) (by exact E.eql (k := .i64) (a := 0) (b := 0) (AF_ev rfl tp) rfl) ?_
  refine RW.soft Wd.a (v := .bool true) (by exact E.pickT (AF_ev rfl (up rfl (up rfl tp))) (AF_ev rfl tp)) ?_
  refine RW.soft Wd.a (v := .bool true) (by exact E.move (AF_ev rfl tp)) ?_
  refine RW.soft (by exact Wd.yes (x := 89) rfl (AF_ev rfl tp)) (v := .pointer (some ⟨b7, 1, none⟩)) (by exact E.fieldAddr (b := b7) (o := 0) (f := { name := "N", type := 3, offset := 1, embedded := false, tag := "", pkgPath := "", byteOffset := 8 }) (AF_ev rfl (up rfl (up rfl (up rfl (up rfl (up rfl (up rfl (up rfl (up rfl (up rfl (up rfl (up rfl (up rfl (up rfl (up rfl (up rfl (up rfl (up rfl (up rfl (up rfl hs8)))))))))))))))))))) Try.underlying29 rfl sz3 rfl) ?_
  refine RW.soft (by exact Wd.yes (x := 89) rfl (AF_ev rfl (up rfl tp))) (v := .int .i64 7) (by exact E.load (a := ⟨b7, 1, none⟩) Try.underlying3 rfl (AF_ev rfl tp) (hst.cell (.there (.there (.there (.there (.there (.there (.there .here))))))) rfl)) ?_
  refine RW.soft (by exact Wd.yes (x := 89) rfl (AF_ev rfl (up rfl (up rfl tp)))) (v := .bool true) (by exact E.eql (k := .i64) (a := 7) (b := 7) (AF_ev rfl tp) rfl) ?_
  refine RW.soft Wd.a (v := .bool true) (by exact E.pickT (AF_ev rfl (up rfl (up rfl (up rfl tp)))) (AF_ev rfl tp)) ?_
  refine RW.soft Wd.a (v := .bool true) (by exact E.move (AF_ev rfl tp)) ?_
  refine RW.soft (by exact Wd.yes (x := 94) rfl (AF_ev rfl tp)) (v := .bool true) (by exact E.move (AF_ev rfl (up rfl (up rfl (up rfl (up rfl (up rfl (up rfl (up rfl (up rfl (up rfl (up rfl (up rfl (up rfl (up rfl (up rfl (up rfl (up rfl (up rfl (up rfl (up rfl (up rfl (up rfl (up rfl (up rfl (up rfl hs9)))))))))))))))))))))))))) ?_
  refine RW.soft Wd.a (v := .bool true) (by exact E.pickT (AF_ev rfl (up rfl tp)) (AF_ev rfl tp)) ?_
  refine RW.soft Wd.a (v := .bool true) (by exact E.move (AF_ev rfl tp)) ?_
  refine RW.soft (by exact Wd.yes (x := 97) rfl (AF_ev rfl tp)) (v := .int .i64 0) (by exact E.move (AF_ev rfl (up rfl (up rfl (up rfl (up rfl (up rfl (up rfl (up rfl (up rfl (up rfl (up rfl (up rfl (up rfl (up rfl (up rfl (up rfl (up rfl (up rfl (up rfl (up rfl (up rfl (up rfl (up rfl (up rfl (up rfl (up rfl (up rfl (up rfl hs10))))))))))))))))))))))))))))) ?_
  refine RW.soft (by exact Wd.yes (x := 97) rfl (AF_ev rfl (up rfl tp))) (v := .bool true) (by exact E.eql (k := .i64) (a := 0) (b := 0) (AF_ev rfl tp) rfl) ?_
  refine RW.soft Wd.a (v := .bool true) (by exact E.pickT (AF_ev rfl (up rfl (up rfl tp))) (AF_ev rfl tp)) ?_
  refine RW.soft Wd.a (v := .bool true) (by exact E.move (AF_ev rfl tp)) ?_
  refine RW.soft (by exact Wd.yes (x := 101) rfl (AF_ev rfl tp)) (v := .int .i64 151) (by exact E.move (AF_ev rfl (up rfl (up rfl (up rfl (up rfl (up rfl (up rfl (up rfl (up rfl (up rfl (up rfl (up rfl (up rfl (up rfl (up rfl (up rfl (up rfl (up rfl (up rfl (up rfl (up rfl (up rfl (up rfl (up rfl (up rfl (up rfl (up rfl (up rfl (up rfl (up rfl (up rfl (up rfl hs13))))))))))))))))))))))))))))))))) ?_
  refine RW.soft (by exact Wd.yes (x := 101) rfl (AF_ev rfl (up rfl tp))) (v := .bool true) (by exact E.eql (k := .i64) (a := 151) (b := 151) (AF_ev rfl tp) rfl) ?_
  refine RW.soft Wd.a (v := .bool true) (by exact E.pickT (AF_ev rfl (up rfl (up rfl tp))) (AF_ev rfl tp)) ?_
  refine RW.soft Wd.a (v := .bool true) (by exact E.move (AF_ev rfl tp)) ?_
  refine RW.soft (by exact Wd.yes (x := 105) rfl (AF_ev rfl tp)) (v := .bool false) (by exact E.move (AF_ev rfl (up rfl (up rfl (up rfl (up rfl (up rfl (up rfl (up rfl (up rfl (up rfl (up rfl (up rfl (up rfl (up rfl (up rfl (up rfl (up rfl (up rfl (up rfl (up rfl (up rfl (up rfl (up rfl (up rfl (up rfl (up rfl (up rfl (up rfl (up rfl (up rfl (up rfl (up rfl (up rfl (up rfl (up rfl (up rfl hs15))))))))))))))))))))))))))))))))))))) ?_
  refine RW.soft (by exact Wd.yes (x := 105) rfl (AF_ev rfl (up rfl tp))) (v := .bool true) (by exact E.not (b := false) (AF_ev rfl tp)) ?_
  refine RW.soft Wd.a (v := .bool true) (by exact E.pickT (AF_ev rfl (up rfl (up rfl tp))) (AF_ev rfl tp)) ?_
  refine RW.soft Wd.a (v := .bool true) (by exact E.move (AF_ev rfl tp)) ?_
  refine RW.soft (by exact Wd.yes (x := 109) rfl (AF_ev rfl tp)) (v := .int .i64 0) (by exact E.move (AF_ev rfl (up rfl (up rfl (up rfl (up rfl (up rfl (up rfl (up rfl (up rfl (up rfl (up rfl (up rfl (up rfl (up rfl (up rfl (up rfl (up rfl (up rfl (up rfl (up rfl (up rfl (up rfl (up rfl (up rfl (up rfl (up rfl (up rfl (up rfl (up rfl (up rfl (up rfl (up rfl (up rfl (up rfl (up rfl (up rfl (up rfl (up rfl (up rfl (up rfl hs16))))))))))))))))))))))))))))))))))))))))) ?_
  refine RW.soft (by exact Wd.yes (x := 109) rfl (AF_ev rfl (up rfl tp))) (v := .bool true) (by exact E.eql (k := .i64) (a := 0) (b := 0) (AF_ev rfl tp) rfl) ?_
  refine RW.soft Wd.a (v := .bool true) (by exact E.pickT (AF_ev rfl (up rfl (up rfl tp))) (AF_ev rfl tp)) ?_
  refine RW.soft Wd.a (v := .bool true) (by exact E.move (AF_ev rfl tp)) ?_
  refine RW.soft (by exact Wd.yes (x := 113) rfl (AF_ev rfl tp)) (v := .int .i64 0) (by exact E.move (AF_ev rfl (up rfl (up rfl (up rfl (up rfl (up rfl (up rfl (up rfl (up rfl (up rfl (up rfl (up rfl (up rfl (up rfl (up rfl (up rfl (up rfl (up rfl (up rfl (up rfl (up rfl (up rfl (up rfl (up rfl (up rfl (up rfl (up rfl (up rfl (up rfl (up rfl (up rfl (up rfl (up rfl (up rfl (up rfl (up rfl (up rfl (up rfl (up rfl (up rfl (up rfl (up rfl (up rfl (up rfl hs17))))))))))))))))))))))))))))))))))))))))))))) ?_
  refine RW.soft (by exact Wd.yes (x := 113) rfl (AF_ev rfl (up rfl tp))) (v := .bool true) (by exact E.eql (k := .i64) (a := 0) (b := 0) (AF_ev rfl tp) rfl) ?_
  refine RW.soft Wd.a (v := .bool true) (by exact E.pickT (AF_ev rfl (up rfl (up rfl tp))) (AF_ev rfl tp)) ?_
  refine RW.soft Wd.a (v := .bool true) (by exact E.move (AF_ev rfl tp)) ?_
  refine RW.soft (by exact Wd.yes (x := 117) rfl (AF_ev rfl tp)) (v := .int .i64 150) (by exact E.move (AF_ev rfl (up rfl (up rfl (up rfl (up rfl (up rfl (up rfl (up rfl (up rfl (up rfl (up rfl (up rfl (up rfl (up rfl (up rfl (up rfl (up rfl (up rfl (up rfl (up rfl (up rfl (up rfl (up rfl (up rfl (up rfl (up rfl (up rfl (up rfl (up rfl (up rfl (up rfl (up rfl (up rfl (up rfl (up rfl (up rfl (up rfl (up rfl (up rfl (up rfl (up rfl (up rfl (up rfl (up rfl (up rfl (up rfl (up rfl (up rfl hs20))))))))))))))))))))))))))))))))))))))))))))))))) ?_
  refine RW.soft (by exact Wd.yes (x := 117) rfl (AF_ev rfl (up rfl tp))) (v := .bool true) (by exact E.eql (k := .i64) (a := 150) (b := 150) (AF_ev rfl tp) rfl) ?_
  refine RW.soft Wd.a (v := .bool true) (by exact E.pickT (AF_ev rfl (up rfl (up rfl tp))) (AF_ev rfl tp)) ?_
  refine RW.soft Wd.a (v := .bool true) (by exact E.move (AF_ev rfl tp)) ?_
  refine RW.soft (by exact Wd.yes (x := 121) rfl (AF_ev rfl tp)) (v := .int .i64 2) (by exact E.move (AF_ev rfl (up rfl (up rfl (up rfl (up rfl (up rfl (up rfl (up rfl (up rfl (up rfl (up rfl (up rfl (up rfl (up rfl (up rfl (up rfl (up rfl (up rfl (up rfl (up rfl (up rfl (up rfl (up rfl (up rfl (up rfl (up rfl (up rfl (up rfl (up rfl (up rfl (up rfl (up rfl (up rfl (up rfl (up rfl (up rfl (up rfl (up rfl (up rfl (up rfl (up rfl (up rfl (up rfl (up rfl (up rfl (up rfl (up rfl (up rfl (up rfl (up rfl (up rfl (up rfl hs21))))))))))))))))))))))))))))))))))))))))))))))))))))) ?_
  refine RW.soft (by exact Wd.yes (x := 121) rfl (AF_ev rfl (up rfl tp))) (v := .bool true) (by exact E.eql (k := .i64) (a := 2) (b := 2) (AF_ev rfl tp) rfl) ?_
  refine RW.soft Wd.a (v := .bool true) (by exact E.pickT (AF_ev rfl (up rfl (up rfl tp))) (AF_ev rfl tp)) ?_
  refine RW.soft Wd.a (v := .bool true) (by exact E.move (AF_ev rfl tp)) ?_
  refine RW.soft (by exact Wd.yes (x := 125) rfl (AF_ev rfl tp)) (v := .int .i64 0) (by exact E.move (AF_ev rfl (up rfl (up rfl (up rfl (up rfl (up rfl (up rfl (up rfl (up rfl (up rfl (up rfl (up rfl (up rfl (up rfl (up rfl (up rfl (up rfl (up rfl (up rfl (up rfl (up rfl (up rfl (up rfl (up rfl (up rfl (up rfl (up rfl (up rfl (up rfl (up rfl (up rfl (up rfl (up rfl (up rfl (up rfl (up rfl (up rfl (up rfl (up rfl (up rfl (up rfl (up rfl (up rfl (up rfl (up rfl (up rfl (up rfl (up rfl (up rfl (up rfl (up rfl (up rfl (up rfl (up rfl (up rfl (up rfl hs22))))))))))))))))))))))))))))))))))))))))))))))))))))))))) ?_
  refine RW.soft (by exact Wd.yes (x := 125) rfl (AF_ev rfl (up rfl tp))) (v := .bool true) (by exact E.eql (k := .i64) (a := 0) (b := 0) (AF_ev rfl tp) rfl) ?_
  refine RW.soft Wd.a (v := .bool true) (by exact E.pickT (AF_ev rfl (up rfl (up rfl tp))) (AF_ev rfl tp)) ?_
  refine RW.soft Wd.a (v := .bool true) (by exact E.assign (AF_ev rfl tp)) ?_
  refine RW.fin (fun τ => τ 0 = .bool true ∧ τ 1 = .pointer (some ⟨t1, 0, none⟩) ∧ τ 2 = .int .i64 1 ∧ τ 3 = .int .i64 0 ∧ τ 5 = .bool false ∧ τ 6 = .int .i64 0 ∧ τ 7 = .int .i64 0 ∧ τ 8 = .pointer (some ⟨b7, 0, none⟩) ∧ τ 9 = .bool true ∧ τ 10 = .int .i64 0 ∧ τ 13 = .int .i64 151 ∧ τ 15 = .bool false ∧ τ 16 = .int .i64 0 ∧ τ 17 = .int .i64 0 ∧ τ 20 = .int .i64 150 ∧ τ 21 = .int .i64 2 ∧ τ 22 = .int .i64 0 ∧ τ 25 = .bool false) ⟨tp, up rfl (up rfl (up rfl (up rfl (up rfl (up rfl (up rfl (up rfl (up rfl (up rfl (up rfl (up rfl (up rfl (up rfl (up rfl (up rfl (up rfl (up rfl (up rfl (up rfl (up rfl (up rfl (up rfl (up rfl (up rfl (up rfl (up rfl (up rfl (up rfl (up rfl (up rfl (up rfl (up rfl (up rfl (up rfl (up rfl (up rfl (up rfl (up rfl (up rfl (up rfl (up rfl (up rfl (up rfl (up rfl (up rfl (up rfl (up rfl (up rfl (up rfl (up rfl (up rfl (up rfl (up rfl (up rfl (up rfl (up rfl (up rfl (up rfl hs1)))))))))))))))))))))))))))))))))))))))))))))))))))))))))), up rfl (up rfl (up rfl (up rfl (up rfl (up rfl (up rfl (up rfl (up rfl (up rfl (up rfl (up rfl (up rfl (up rfl (up rfl (up rfl (up rfl (up rfl (up rfl (up rfl (up rfl (up rfl (up rfl (up rfl (up rfl (up rfl (up rfl (up rfl (up rfl (up rfl (up rfl (up rfl (up rfl (up rfl (up rfl (up rfl (up rfl (up rfl (up rfl (up rfl (up rfl (up rfl (up rfl (up rfl (up rfl (up rfl (up rfl (up rfl (up rfl (up rfl (up rfl (up rfl (up rfl (up rfl (up rfl (up rfl (up rfl (up rfl (up rfl hs2)))))))))))))))))))))))))))))))))))))))))))))))))))))))))), up rfl (up rfl (up rfl (up rfl (up rfl (up rfl (up rfl (up rfl (up rfl (up rfl (up rfl (up rfl (up rfl (up rfl (up rfl (up rfl (up rfl (up rfl (up rfl (up rfl (up rfl (up rfl (up rfl (up rfl (up rfl (up rfl (up rfl (up rfl (up rfl (up rfl (up rfl (up rfl (up rfl (up rfl (up rfl (up rfl (up rfl (up rfl (up rfl (up rfl (up rfl (up rfl (up rfl (up rfl (up rfl (up rfl (up rfl (up rfl (up rfl (up rfl (up rfl (up rfl (up rfl (up rfl (up rfl (up rfl (up rfl (up rfl (up rfl hs3)))))))))))))))))))))))))))))))))))))))))))))))))))))))))), up rfl (up rfl (up rfl (up rfl (up rfl (up rfl (up rfl (up rfl (up rfl (up rfl (up rfl (up rfl (up rfl (up rfl (up rfl (up rfl (up rfl (up rfl (up rfl (up rfl (up rfl (up rfl (up rfl (up rfl (up rfl (up rfl (up rfl (up rfl (up rfl (up rfl (up rfl (up rfl (up rfl (up rfl (up rfl (up rfl (up rfl (up rfl (up rfl (up rfl (up rfl (up rfl (up rfl (up rfl (up rfl (up rfl (up rfl (up rfl (up rfl (up rfl (up rfl (up rfl (up rfl (up rfl (up rfl (up rfl (up rfl (up rfl (up rfl hs5)))))))))))))))))))))))))))))))))))))))))))))))))))))))))), up rfl (up rfl (up rfl (up rfl (up rfl (up rfl (up rfl (up rfl (up rfl (up rfl (up rfl (up rfl (up rfl (up rfl (up rfl (up rfl (up rfl (up rfl (up rfl (up rfl (up rfl (up rfl (up rfl (up rfl (up rfl (up rfl (up rfl (up rfl (up rfl (up rfl (up rfl (up rfl (up rfl (up rfl (up rfl (up rfl (up rfl (up rfl (up rfl (up rfl (up rfl (up rfl (up rfl (up rfl (up rfl (up rfl (up rfl (up rfl (up rfl (up rfl (up rfl (up rfl (up rfl (up rfl (up rfl (up rfl (up rfl (up rfl (up rfl hs6)))))))))))))))))))))))))))))))))))))))))))))))))))))))))), up rfl (up rfl (up rfl (up rfl (up rfl (up rfl (up rfl (up rfl (up rfl (up rfl (up rfl (up rfl (up rfl (up rfl (up rfl (up rfl (up rfl (up rfl (up rfl (up rfl (up rfl (up rfl (up rfl (up rfl (up rfl (up rfl (up rfl (up rfl (up rfl (up rfl (up rfl (up rfl (up rfl (up rfl (up rfl (up rfl (up rfl (up rfl (up rfl (up rfl (up rfl (up rfl (up rfl (up rfl (up rfl (up rfl (up rfl (up rfl (up rfl (up rfl (up rfl (up rfl (up rfl (up rfl (up rfl (up rfl (up rfl (up rfl (up rfl hs7)))))))))))))))))))))))))))))))))))))))))))))))))))))))))), up rfl (up rfl (up rfl (up rfl (up rfl (up rfl (up rfl (up rfl (up rfl (up rfl (up rfl (up rfl (up rfl (up rfl (up rfl (up rfl (up rfl (up rfl (up rfl (up rfl (up rfl (up rfl (up rfl (up rfl (up rfl (up rfl (up rfl (up rfl (up rfl (up rfl (up rfl (up rfl (up rfl (up rfl (up rfl (up rfl (up rfl (up rfl (up rfl (up rfl (up rfl (up rfl (up rfl (up rfl (up rfl (up rfl (up rfl (up rfl (up rfl (up rfl (up rfl (up rfl (up rfl (up rfl (up rfl (up rfl (up rfl (up rfl (up rfl hs8)))))))))))))))))))))))))))))))))))))))))))))))))))))))))), up rfl (up rfl (up rfl (up rfl (up rfl (up rfl (up rfl (up rfl (up rfl (up rfl (up rfl (up rfl (up rfl (up rfl (up rfl (up rfl (up rfl (up rfl (up rfl (up rfl (up rfl (up rfl (up rfl (up rfl (up rfl (up rfl (up rfl (up rfl (up rfl (up rfl (up rfl (up rfl (up rfl (up rfl (up rfl (up rfl (up rfl (up rfl (up rfl (up rfl (up rfl (up rfl (up rfl (up rfl (up rfl (up rfl (up rfl (up rfl (up rfl (up rfl (up rfl (up rfl (up rfl (up rfl (up rfl (up rfl (up rfl (up rfl (up rfl hs9)))))))))))))))))))))))))))))))))))))))))))))))))))))))))), up rfl (up rfl (up rfl (up rfl (up rfl (up rfl (up rfl (up rfl (up rfl (up rfl (up rfl (up rfl (up rfl (up rfl (up rfl (up rfl (up rfl (up rfl (up rfl (up rfl (up rfl (up rfl (up rfl (up rfl (up rfl (up rfl (up rfl (up rfl (up rfl (up rfl (up rfl (up rfl (up rfl (up rfl (up rfl (up rfl (up rfl (up rfl (up rfl (up rfl (up rfl (up rfl (up rfl (up rfl (up rfl (up rfl (up rfl (up rfl (up rfl (up rfl (up rfl (up rfl (up rfl (up rfl (up rfl (up rfl (up rfl (up rfl (up rfl hs10)))))))))))))))))))))))))))))))))))))))))))))))))))))))))), up rfl (up rfl (up rfl (up rfl (up rfl (up rfl (up rfl (up rfl (up rfl (up rfl (up rfl (up rfl (up rfl (up rfl (up rfl (up rfl (up rfl (up rfl (up rfl (up rfl (up rfl (up rfl (up rfl (up rfl (up rfl (up rfl (up rfl (up rfl (up rfl (up rfl (up rfl (up rfl (up rfl (up rfl (up rfl (up rfl (up rfl (up rfl (up rfl (up rfl (up rfl (up rfl (up rfl (up rfl (up rfl (up rfl (up rfl (up rfl (up rfl (up rfl (up rfl (up rfl (up rfl (up rfl (up rfl (up rfl (up rfl (up rfl (up rfl hs13)))))))))))))))))))))))))))))))))))))))))))))))))))))))))), up rfl (up rfl (up rfl (up rfl (up rfl (up rfl (up rfl (up rfl (up rfl (up rfl (up rfl (up rfl (up rfl (up rfl (up rfl (up rfl (up rfl (up rfl (up rfl (up rfl (up rfl (up rfl (up rfl (up rfl (up rfl (up rfl (up rfl (up rfl (up rfl (up rfl (up rfl (up rfl (up rfl (up rfl (up rfl (up rfl (up rfl (up rfl (up rfl (up rfl (up rfl (up rfl (up rfl (up rfl (up rfl (up rfl (up rfl (up rfl (up rfl (up rfl (up rfl (up rfl (up rfl (up rfl (up rfl (up rfl (up rfl (up rfl (up rfl hs15)))))))))))))))))))))))))))))))))))))))))))))))))))))))))), up rfl (up rfl (up rfl (up rfl (up rfl (up rfl (up rfl (up rfl (up rfl (up rfl (up rfl (up rfl (up rfl (up rfl (up rfl (up rfl (up rfl (up rfl (up rfl (up rfl (up rfl (up rfl (up rfl (up rfl (up rfl (up rfl (up rfl (up rfl (up rfl (up rfl (up rfl (up rfl (up rfl (up rfl (up rfl (up rfl (up rfl (up rfl (up rfl (up rfl (up rfl (up rfl (up rfl (up rfl (up rfl (up rfl (up rfl (up rfl (up rfl (up rfl (up rfl (up rfl (up rfl (up rfl (up rfl (up rfl (up rfl (up rfl (up rfl hs16)))))))))))))))))))))))))))))))))))))))))))))))))))))))))), up rfl (up rfl (up rfl (up rfl (up rfl (up rfl (up rfl (up rfl (up rfl (up rfl (up rfl (up rfl (up rfl (up rfl (up rfl (up rfl (up rfl (up rfl (up rfl (up rfl (up rfl (up rfl (up rfl (up rfl (up rfl (up rfl (up rfl (up rfl (up rfl (up rfl (up rfl (up rfl (up rfl (up rfl (up rfl (up rfl (up rfl (up rfl (up rfl (up rfl (up rfl (up rfl (up rfl (up rfl (up rfl (up rfl (up rfl (up rfl (up rfl (up rfl (up rfl (up rfl (up rfl (up rfl (up rfl (up rfl (up rfl (up rfl (up rfl hs17)))))))))))))))))))))))))))))))))))))))))))))))))))))))))), up rfl (up rfl (up rfl (up rfl (up rfl (up rfl (up rfl (up rfl (up rfl (up rfl (up rfl (up rfl (up rfl (up rfl (up rfl (up rfl (up rfl (up rfl (up rfl (up rfl (up rfl (up rfl (up rfl (up rfl (up rfl (up rfl (up rfl (up rfl (up rfl (up rfl (up rfl (up rfl (up rfl (up rfl (up rfl (up rfl (up rfl (up rfl (up rfl (up rfl (up rfl (up rfl (up rfl (up rfl (up rfl (up rfl (up rfl (up rfl (up rfl (up rfl (up rfl (up rfl (up rfl (up rfl (up rfl (up rfl (up rfl (up rfl (up rfl hs20)))))))))))))))))))))))))))))))))))))))))))))))))))))))))), up rfl (up rfl (up rfl (up rfl (up rfl (up rfl (up rfl (up rfl (up rfl (up rfl (up rfl (up rfl (up rfl (up rfl (up rfl (up rfl (up rfl (up rfl (up rfl (up rfl (up rfl (up rfl (up rfl (up rfl (up rfl (up rfl (up rfl (up rfl (up rfl (up rfl (up rfl (up rfl (up rfl (up rfl (up rfl (up rfl (up rfl (up rfl (up rfl (up rfl (up rfl (up rfl (up rfl (up rfl (up rfl (up rfl (up rfl (up rfl (up rfl (up rfl (up rfl (up rfl (up rfl (up rfl (up rfl (up rfl (up rfl (up rfl (up rfl hs21)))))))))))))))))))))))))))))))))))))))))))))))))))))))))), up rfl (up rfl (up rfl (up rfl (up rfl (up rfl (up rfl (up rfl (up rfl (up rfl (up rfl (up rfl (up rfl (up rfl (up rfl (up rfl (up rfl (up rfl (up rfl (up rfl (up rfl (up rfl (up rfl (up rfl (up rfl (up rfl (up rfl (up rfl (up rfl (up rfl (up rfl (up rfl (up rfl (up rfl (up rfl (up rfl (up rfl (up rfl (up rfl (up rfl (up rfl (up rfl (up rfl (up rfl (up rfl (up rfl (up rfl (up rfl (up rfl (up rfl (up rfl (up rfl (up rfl (up rfl (up rfl (up rfl (up rfl (up rfl (up rfl hs22)))))))))))))))))))))))))))))))))))))))))))))))))))))))))), up rfl (up rfl (up rfl (up rfl (up rfl (up rfl (up rfl (up rfl (up rfl (up rfl (up rfl (up rfl (up rfl (up rfl (up rfl (up rfl (up rfl (up rfl (up rfl (up rfl (up rfl (up rfl (up rfl (up rfl (up rfl (up rfl (up rfl (up rfl (up rfl (up rfl (up rfl (up rfl (up rfl (up rfl (up rfl (up rfl (up rfl (up rfl (up rfl (up rfl (up rfl (up rfl (up rfl (up rfl (up rfl (up rfl (up rfl (up rfl (up rfl (up rfl (up rfl (up rfl (up rfl (up rfl (up rfl (up rfl (up rfl (up rfl (up rfl hs25))))))))))))))))))))))))))))))))))))))))))))))))))))))))))⟩ ?_
  rintro τ ⟨hs0, hs1, hs2, hs3, hs5, hs6, hs7, hs8, hs9, hs10, hs13, hs15, hs16, hs17, hs20, hs21, hs22, hs25⟩
  refine CW.ret ?_
  refine ret1 (v := .bool true) rfl (by exact (.tmp (AF_ev rfl hs0) .nil)) ?_
  have hst := hst.drop
  have hst := hst.drop
  have hst := hst.drop
  have hst := hst.drop
  have hst := hst.drop
  have hst := hst.drop
  have hst := hst.drop
  have hst := hst.drop
  have hst := hst.drop
  have hst := hst.drop
  have hst := hst.drop
  have hst := hst.drop
  exact ⟨p, hle, rfl, hst⟩

theorem apart_11 {p : Pers} {w : World} {R : List Assn} {p0 : Pers} {X : Option Addr} {c : Nat} {ns : List Int} (a b c0 c1 c2 : Int) (hL : Las p 1 (.slice X ns.length c) ns.length (bv ns)) (hp0 : p0.le p) (ha : 0 < a) (hbb : 0 < b) (hst : St p w (Emp :: R)) :
    Calls Try.prog 4 #[.int .i64 a, .int .i64 b, .agg #[.int .i64 c0, .int .i64 c1, .int .i64 c2, .slice X ns.length c]] w fun e w => ∃ q, p0.le q ∧ e = .returned (.bool true) ∧ St q w R := by
  refine enter Try.func4 rfl (by simp) (n := 90) rfl fun τ hτ => ?_
  have hs0 : τ 0 = .int .i64 a := hτ 0 (by simp)
  have hs1 : τ 1 = .int .i64 b := hτ 1 (by simp)
  have hs2 : τ 2 = .agg #[.int .i64 c0, .int .i64 c1, .int .i64 c2, .slice X ns.length c] := hτ 2 (by simp)
  clear hτ
  refine CW.seq ?_
  refine CW.region ?_
  refine RW.hard Wd.a ?_
  refine H.box (v := .agg #[.int .i64 c0, .int .i64 c1, .int .i64 c2, .slice X ns.length c]) (AF_ev rfl hs2) hst fun b1 w hst => ?_
  refine RW.soft Wd.a (v := .bool false) (by exact E.assign rfl) ?_
  refine RW.fin (fun τ => τ 0 = .int .i64 a ∧ τ 1 = .int .i64 b ∧ τ 2 = .agg #[.int .i64 c0, .int .i64 c1, .int .i64 c2, .slice X ns.length c] ∧ τ 5 = .pointer (some ⟨b1, 0, none⟩) ∧ τ 6 = .bool false) ⟨up rfl (up rfl hs0), up rfl (up rfl hs1), up rfl (up rfl hs2), up rfl tp, tp⟩ ?_
  rintro τ ⟨hs0, hs1, hs2, hs5, hs6⟩
  refine CW.seq ?_
  refine CW.region ?_
  refine RW.hard Wd.a ?_
  refine H.call0 Try.func15 nm15 rfl map0 (Calls.mono (law15_shown hst) ?_)
  rintro _ w ⟨p, hle, rfl, hst⟩
  have hL := hL.le hle
  have hp0 := hp0.le hle
  refine ⟨_, rfl, ?_⟩
  show RW _ _ _ _ _ _ _
  refine RW.soft Wd.a (v := .bool true) (by exact E.assign (AF_ev rfl tp)) ?_
  refine RW.fin (fun τ => τ 0 = .int .i64 a ∧ τ 1 = .int .i64 b ∧ τ 2 = .agg #[.int .i64 c0, .int .i64 c1, .int .i64 c2, .slice X ns.length c] ∧ τ 5 = .pointer (some ⟨b1, 0, none⟩) ∧ τ 6 = .bool false ∧ τ 7 = .bool true) ⟨up rfl (up rfl hs0), up rfl (up rfl hs1), up rfl (up rfl hs2), up rfl (up rfl hs5), up rfl (up rfl hs6), tp⟩ ?_
  rintro τ ⟨hs0, hs1, hs2, hs5, hs6, hs7⟩
  refine CW.seq ?_
  refine CW.region ?_
  refine RW.hard Wd.a ?_
  refine H.call0 Try.func16 nm16 rfl map0 (Calls.mono (New_L hst) ?_)
  rintro _ w ⟨t2, rfl, hst⟩
  refine ⟨_, rfl, ?_⟩
  show RW _ _ _ _ _ _ _
  refine RW.soft Wd.a (v := .pointer (some ⟨t2, 0, none⟩)) (by exact E.assign (AF_ev rfl tp)) ?_
  refine RW.fin (fun τ => τ 0 = .int .i64 a ∧ τ 1 = .int .i64 b ∧ τ 2 = .agg #[.int .i64 c0, .int .i64 c1, .int .i64 c2, .slice X ns.length c] ∧ τ 5 = .pointer (some ⟨b1, 0, none⟩) ∧ τ 6 = .bool false ∧ τ 7 = .bool true ∧ τ 8 = .pointer (some ⟨t2, 0, none⟩)) ⟨up rfl (up rfl hs0), up rfl (up rfl hs1), up rfl (up rfl hs2), up rfl (up rfl hs5), up rfl (up rfl hs6), up rfl (up rfl hs7), tp⟩ ?_
  rintro τ ⟨hs0, hs1, hs2, hs5, hs6, hs7, hs8⟩
  refine CW.seq ?_
  refine CW.seq ?_
  refine CW.region ?_
  refine RW.soft Wd.a (v := .bool true) (by exact E.move (AF_ev rfl hs7)) ?_
  refine RW.soft Wd.a (v := .bool false) (by exact E.not (b := true) (AF_ev rfl tp)) ?_
  refine RW.soft Wd.a (v := .bool false) (by exact E.move (AF_ev rfl tp)) ?_
  refine RW.soft (by exact Wd.yes (x := 22) rfl (AF_ev rfl tp)) (v := .pointer (some ⟨t2, 0, none⟩)) (by exact E.move (AF_ev rfl (up rfl (up rfl (up rfl hs8))))) ?_
  refine RW.soft (by exact Wd.yes (x := 22) rfl (AF_ev rfl (up rfl tp))) (v := .bool false) (by exact E.eqlP (p := (some ⟨t2, 0, none⟩)) Try.underlying24 (AF_ev rfl tp) rfl) ?_
  refine RW.soft Wd.a (v := .bool false) (by exact E.pickF (AF_ev rfl (up rfl (up rfl tp))) (AF_ev rfl tp)) ?_
  refine RW.fin (fun τ => τ 0 = .int .i64 a ∧ τ 1 = .int .i64 b ∧ τ 2 = .agg #[.int .i64 c0, .int .i64 c1, .int .i64 c2, .slice X ns.length c] ∧ τ 5 = .pointer (some ⟨b1, 0, none⟩) ∧ τ 6 = .bool false ∧ τ 7 = .bool true ∧ τ 8 = .pointer (some ⟨t2, 0, none⟩) ∧ τ 25 = .bool false) ⟨up rfl (up rfl (up rfl (up rfl (up rfl (up rfl hs0))))), up rfl (up rfl (up rfl (up rfl (up rfl (up rfl hs1))))), up rfl (up rfl (up rfl (up rfl (up rfl (up rfl hs2))))), up rfl (up rfl (up rfl (up rfl (up rfl (up rfl hs5))))), up rfl (up rfl (up rfl (up rfl (up rfl (up rfl hs6))))), up rfl (up rfl (up rfl (up rfl (up rfl (up rfl hs7))))), up rfl (up rfl (up rfl (up rfl (up rfl (up rfl hs8))))), tp⟩ ?_
  rintro τ ⟨hs0, hs1, hs2, hs5, hs6, hs7, hs8, hs25⟩
  refine CW.condF (AF_ev rfl hs25) ?_
  refine CW.skip ?_
  refine Th.n ?_
  refine CW.seq ?_
  refine CW.region ?_
  refine RW.soft Wd.a (v := .pointer (some ⟨t2, 0, none⟩)) (by exact E.move (AF_ev rfl hs8)) ?_
  refine RW.hard Wd.a ?_
  refine H.call0 Try.func18 nm18 rfl (map1 (AF_ev rfl tp)) (Calls.mono (Open_C (L' := [(1, 0, ⟨0, 0, 0, []⟩)]) (n' := 2) (a := 1) (e := 0) (by rfl) (by rfl) (by rfl) (by rfl) (by decide) hst) ?_)
  rintro _ w ⟨rfl, hst⟩
  refine ⟨_, rfl, ?_⟩
  show RW _ _ _ _ _ _ _
  refine RW.fin (fun τ => τ 0 = .int .i64 a ∧ τ 1 = .int .i64 b ∧ τ 2 = .agg #[.int .i64 c0, .int .i64 c1, .int .i64 c2, .slice X ns.length c] ∧ τ 5 = .pointer (some ⟨b1, 0, none⟩) ∧ τ 6 = .bool false ∧ τ 7 = .bool true ∧ τ 8 = .pointer (some ⟨t2, 0, none⟩) ∧ τ 25 = .bool false) ⟨up rfl (up rfl hs0), up rfl (up rfl hs1), up rfl (up rfl hs2), up rfl (up rfl hs5), up rfl (up rfl hs6), up rfl (up rfl hs7), up rfl (up rfl hs8), up rfl (up rfl hs25)⟩ ?_
  rintro τ ⟨hs0, hs1, hs2, hs5, hs6, hs7, hs8, hs25⟩
  refine CW.seq ?_
  refine CW.region ?_
  refine RW.soft Wd.a (v := .pointer (some ⟨t2, 0, none⟩)) (by exact E.move (AF_ev rfl hs8)) ?_
  refine RW.hard Wd.a ?_
  refine H.call0 Try.func18 nm18 rfl (map1 (AF_ev rfl tp)) (Calls.mono (Open_C (L' := [(1, 0, ⟨0, 0, 0, []⟩), (2, 0, ⟨0, 0, 0, []⟩)]) (n' := 3) (a := 2) (e := 0) (by rfl) (by rfl) (by rfl) (by rfl) (by decide) hst) ?_)
  rintro _ w ⟨rfl, hst⟩
  refine ⟨_, rfl, ?_⟩
  show RW _ _ _ _ _ _ _
  refine RW.fin (fun τ => τ 0 = .int .i64 a ∧ τ 1 = .int .i64 b ∧ τ 2 = .agg #[.int .i64 c0, .int .i64 c1, .int .i64 c2, .slice X ns.length c] ∧ τ 5 = .pointer (some ⟨b1, 0, none⟩) ∧ τ 6 = .bool false ∧ τ 7 = .bool true ∧ τ 8 = .pointer (some ⟨t2, 0, none⟩) ∧ τ 25 = .bool false) ⟨up rfl (up rfl hs0), up rfl (up rfl hs1), up rfl (up rfl hs2), up rfl (up rfl hs5), up rfl (up rfl hs6), up rfl (up rfl hs7), up rfl (up rfl hs8), up rfl (up rfl hs25)⟩ ?_
  rintro τ ⟨hs0, hs1, hs2, hs5, hs6, hs7, hs8, hs25⟩
  refine CW.seq ?_
  refine CW.region ?_
  refine RW.soft Wd.a (v := .pointer (some ⟨t2, 0, none⟩)) (by exact E.move (AF_ev rfl hs8)) ?_
  refine RW.soft Wd.a (v := .int .i64 a) (by exact E.move (AF_ev rfl (up rfl hs0))) ?_
  refine RW.soft Wd.a (v := .agg #[.int .i64 c0, .int .i64 c1, .int .i64 c2, .slice X ns.length c]) (by exact E.loadN (b := b1) (o := 0) (cs := [.int .i64 c0, .int .i64 c1, .int .i64 c2, .slice X ns.length c]) Try.underlying29 rfl sz29 (AF_ev rfl (up rfl (up rfl hs5))) rfl (hst.cellsIn (.there .here) rfl)) ?_
  have hst := hst.take (.there (.there .here))
  refine RW.hard Wd.a ?_
  refine H.call0 Try.func22 nm22 rfl (map1 (AF_ev rfl tp)) (Calls.mono (law15_own_ (A := Emp) (fun w H s => hL.src s) c0 c1 c2 hst) ?_)
  rintro _ w ⟨vX3, rfl, hnX3, hst⟩
  obtain ⟨X3, c4, rfl, hcX3, hmX3, hlX3, hbX3⟩ := hst.shape
  refine ⟨_, rfl, ?_⟩
  show RW _ _ _ _ _ _ _
  have hst := hst.take (.there (.there .here))
  refine RW.hard Wd.a ?_
  refine H.call0 Try.func21 nm21 rfl (map4 (AF_ev rfl (up rfl (up rfl (up rfl tp)))) rfl (AF_ev rfl (up rfl (up rfl tp))) (AF_ev rfl tp)) (Calls.mono (Done_C (A := Own 5 1 (.slice X3 ((ns.take 100).length) c4) ((ns.take 100).length) (bv (ns.take 100))) (Y := X3) (d := c4) (L' := [(1, a, ⟨c0, c1, c2, (ns.take 100)⟩), (2, 0, ⟨0, 0, 0, []⟩)]) (e := 0) 1 a c0 c1 c2 (ns.take 100) (by show (if a ≤ 0 then _ else _) = _; rw [if_neg (by omega)]; rfl) (by show (if a ≤ 0 then _ else _) = _; rw [if_neg (by omega)]) (fun w H s => Own.src s) (by first | omega | (simp; done) | (simp; omega)) hst) ?_)
  rintro _ w ⟨p, hle, rfl, hst⟩
  have hL := hL.le hle
  have hp0 := hp0.le hle
  refine ⟨_, rfl, ?_⟩
  show RW _ _ _ _ _ _ _
  refine RW.soft Wd.a (v := .int .i64 0) (by exact E.assign (AF_ev rfl tp)) ?_
  refine RW.fin (fun τ => τ 0 = .int .i64 a ∧ τ 1 = .int .i64 b ∧ τ 2 = .agg #[.int .i64 c0, .int .i64 c1, .int .i64 c2, .slice X ns.length c] ∧ τ 5 = .pointer (some ⟨b1, 0, none⟩) ∧ τ 6 = .bool false ∧ τ 7 = .bool true ∧ τ 8 = .pointer (some ⟨t2, 0, none⟩) ∧ τ 9 = .int .i64 0 ∧ τ 25 = .bool false) ⟨up rfl (up rfl (up rfl (up rfl (up rfl (up rfl hs0))))), up rfl (up rfl (up rfl (up rfl (up rfl (up rfl hs1))))), up rfl (up rfl (up rfl (up rfl (up rfl (up rfl hs2))))), up rfl (up rfl (up rfl (up rfl (up rfl (up rfl hs5))))), up rfl (up rfl (up rfl (up rfl (up rfl (up rfl hs6))))), up rfl (up rfl (up rfl (up rfl (up rfl (up rfl hs7))))), up rfl (up rfl (up rfl (up rfl (up rfl (up rfl hs8))))), tp, up rfl (up rfl (up rfl (up rfl (up rfl (up rfl hs25)))))⟩ ?_
  rintro τ ⟨hs0, hs1, hs2, hs5, hs6, hs7, hs8, hs9, hs25⟩
  refine CW.seq ?_
  refine CW.region ?_
  refine RW.soft Wd.a (v := .pointer (some ⟨t2, 0, none⟩)) (by exact E.move (AF_ev rfl hs8)) ?_
  refine RW.soft Wd.a (v := .int .i64 b) (by exact E.move (AF_ev rfl (up rfl hs1))) ?_
  refine RW.hard Wd.a ?_
  refine H.call0 Try.func20 nm20 rfl (map3 (AF_ev rfl (up rfl tp)) rfl (AF_ev rfl tp)) (Calls.mono (Ask_C (r := ⟨0, 0, 0, []⟩) (sn := false) (e := 0) 2 b (by show (if b < max 1 0 then _ else if b = 0 then _ else _) = _; rw [if_neg (by omega), if_neg (by omega)] <;> rfl) (by show (if b < max 1 0 then _ else decide (b = 0)) = _; rw [if_neg (by omega), decide_eq_false_iff_not]; omega) (by show (if b < max 1 0 then _ else _) = _; rw [if_neg (by omega)]) hst) ?_)
  rintro _ w ⟨vX5, rfl, hbX5, hst⟩
  obtain ⟨X5, c6, rfl, hcX5, hmX5, hlX5, hbbX5⟩ := hst.shape
  refine ⟨_, rfl, ?_⟩
  show RW _ _ _ _ _ _ _
  refine RW.soft Wd.a (v := .tuple #[.agg #[.int .i64 0, .int .i64 0, .int .i64 0, .slice X5 0 c6], .bool false, .int .i64 0]) (by exact E.move (AF_ev rfl tp)) ?_
  refine RW.soft Wd.a (v := .agg #[.int .i64 0, .int .i64 0, .int .i64 0, .slice X5 0 c6]) (by exact E.extract (vs := #[.agg #[.int .i64 0, .int .i64 0, .int .i64 0, .slice X5 0 c6], .bool false, .int .i64 0]) (AF_ev rfl tp) rfl) ?_
  refine RW.soft Wd.a (v := .bool false) (by exact E.extract (vs := #[.agg #[.int .i64 0, .int .i64 0, .int .i64 0, .slice X5 0 c6], .bool false, .int .i64 0]) (AF_ev rfl (up rfl tp)) rfl) ?_
  refine RW.soft Wd.a (v := .int .i64 0) (by exact E.extract (vs := #[.agg #[.int .i64 0, .int .i64 0, .int .i64 0, .slice X5 0 c6], .bool false, .int .i64 0]) (AF_ev rfl (up rfl (up rfl tp))) rfl) ?_
  refine RW.hard Wd.a ?_
  refine H.alloc zr29 hst fun b7 w hst => ?_
  refine RW.hard Wd.a ?_
  refine H.store (b := b7) (o := 0) (v := .agg #[.int .i64 0, .int .i64 0, .int .i64 0, .slice X5 0 c6]) (c' := #[.int .i64 0, .int .i64 0, .int .i64 0, .slice X5 0 c6]) (AF_ev rfl tp) (AF_ev rfl (up rfl (up rfl (up rfl tp)))) hst .here sz29 (by simp [Value.cells]) (by simp [Value.cells, Value.oneCell']) rfl fun w hst => ?_
  refine RW.soft Wd.a (v := .bool false) (by exact E.assign (AF_ev rfl (u0 (up rfl (up rfl tp))))) ?_
  refine RW.soft Wd.a (v := .int .i64 0) (by exact E.assign (AF_ev rfl (up rfl (u0 (up rfl tp))))) ?_
  refine RW.fin (fun τ => τ 0 = .int .i64 a ∧ τ 1 = .int .i64 b ∧ τ 2 = .agg #[.int .i64 c0, .int .i64 c1, .int .i64 c2, .slice X ns.length c] ∧ τ 5 = .pointer (some ⟨b1, 0, none⟩) ∧ τ 6 = .bool false ∧ τ 7 = .bool true ∧ τ 8 = .pointer (some ⟨t2, 0, none⟩) ∧ τ 9 = .int .i64 0 ∧ τ 11 = .bool false ∧ τ 12 = .int .i64 0 ∧ τ 25 = .bool false) ⟨up rfl (up rfl (u0 (up rfl (up rfl (up rfl (up rfl (up rfl (up rfl (up rfl (up rfl hs0)))))))))), up rfl (up rfl (u0 (up rfl (up rfl (up rfl (up rfl (up rfl (up rfl (up rfl (up rfl hs1)))))))))), up rfl (up rfl (u0 (up rfl (up rfl (up rfl (up rfl (up rfl (up rfl (up rfl (up rfl hs2)))))))))), up rfl (up rfl (u0 (up rfl (up rfl (up rfl (up rfl (up rfl (up rfl (up rfl (up rfl hs5)))))))))), up rfl (up rfl (u0 (up rfl (up rfl (up rfl (up rfl (up rfl (up rfl (up rfl (up rfl hs6)))))))))), up rfl (up rfl (u0 (up rfl (up rfl (up rfl (up rfl (up rfl (up rfl (up rfl (up rfl hs7)))))))))), up rfl (up rfl (u0 (up rfl (up rfl (up rfl (up rfl (up rfl (up rfl (up rfl (up rfl hs8)))))))))), up rfl (up rfl (u0 (up rfl (up rfl (up rfl (up rfl (up rfl (up rfl (up rfl (up rfl hs9)))))))))), up rfl tp, tp, up rfl (up rfl (u0 (up rfl (up rfl (up rfl (up rfl (up rfl (up rfl (up rfl (up rfl hs25))))))))))⟩ ?_
  rintro τ ⟨hs0, hs1, hs2, hs5, hs6, hs7, hs8, hs9, hs11, hs12, hs25⟩
  refine CW.seq ?_
  refine CW.region ?_
  refine RW.soft Wd.a (v := .pointer (some ⟨t2, 0, none⟩)) (by exact E.move (AF_ev rfl hs8)) ?_
  have hst := hst.take (.there (.there .here))
  refine RW.hard Wd.a ?_
  refine H.call0 Try.func19 nm19 rfl (map2 (AF_ev rfl tp) rfl) (Calls.mono (Expire_C (L' := [(1, a, ⟨c0, c1, c2, (ns.take 100)⟩)]) (e := 0) 2 (by rfl) (by rfl) hst) ?_)
  rintro _ w ⟨rfl, hst⟩
  refine ⟨_, rfl, ?_⟩
  show RW _ _ _ _ _ _ _
  refine RW.soft Wd.a (v := .int .i64 0) (by exact E.assign (AF_ev rfl tp)) ?_
  refine RW.fin (fun τ => τ 0 = .int .i64 a ∧ τ 1 = .int .i64 b ∧ τ 2 = .agg #[.int .i64 c0, .int .i64 c1, .int .i64 c2, .slice X ns.length c] ∧ τ 5 = .pointer (some ⟨b1, 0, none⟩) ∧ τ 6 = .bool false ∧ τ 7 = .bool true ∧ τ 8 = .pointer (some ⟨t2, 0, none⟩) ∧ τ 9 = .int .i64 0 ∧ τ 11 = .bool false ∧ τ 12 = .int .i64 0 ∧ τ 13 = .int .i64 0 ∧ τ 25 = .bool false) ⟨up rfl (up rfl (up rfl hs0)), up rfl (up rfl (up rfl hs1)), up rfl (up rfl (up rfl hs2)), up rfl (up rfl (up rfl hs5)), up rfl (up rfl (up rfl hs6)), up rfl (up rfl (up rfl hs7)), up rfl (up rfl (up rfl hs8)), up rfl (up rfl (up rfl hs9)), up rfl (up rfl (up rfl hs11)), up rfl (up rfl (up rfl hs12)), tp, up rfl (up rfl (up rfl hs25))⟩ ?_
  rintro τ ⟨hs0, hs1, hs2, hs5, hs6, hs7, hs8, hs9, hs11, hs12, hs13, hs25⟩
  refine CW.seq ?_
  refine CW.region ?_
  refine RW.soft Wd.a (v := .pointer (some ⟨t2, 0, none⟩)) (by exact E.move (AF_ev rfl hs8)) ?_
  refine RW.soft Wd.a (v := .int .i64 a) (by exact E.move (AF_ev rfl (up rfl hs0))) ?_
  refine RW.hard Wd.a ?_
  refine H.call0 Try.func20 nm20 rfl (map3 (AF_ev rfl (up rfl tp)) rfl (AF_ev rfl tp)) (Calls.mono (Ask_C (r := ⟨c0, c1, c2, (ns.take 100)⟩) (sn := true) (e := 0) 1 a (by show (if a < max 1 a then _ else if a = a then _ else _) = _; rw [if_neg (by omega), if_pos rfl]) (by show (if a < max 1 a then _ else decide (a = a)) = _; rw [if_neg (by omega), decide_eq_true_eq]) (by show (if a < max 1 a then _ else _) = _; rw [if_neg (by omega)]) hst) ?_)
  rintro _ w ⟨vX8, rfl, hbX8, hst⟩
  obtain ⟨X8, c9, rfl, hcX8, hmX8, hlX8, hbbX8⟩ := hst.shape
  refine ⟨_, rfl, ?_⟩
  show RW _ _ _ _ _ _ _
  refine RW.soft Wd.a (v := .tuple #[.agg #[.int .i64 c0, .int .i64 c1, .int .i64 c2, .slice X8 ((ns.take 100).length) c9], .bool true, .int .i64 0]) (by exact E.move (AF_ev rfl tp)) ?_
  refine RW.soft Wd.a (v := .agg #[.int .i64 c0, .int .i64 c1, .int .i64 c2, .slice X8 ((ns.take 100).length) c9]) (by exact E.extract (vs := #[.agg #[.int .i64 c0, .int .i64 c1, .int .i64 c2, .slice X8 ((ns.take 100).length) c9], .bool true, .int .i64 0]) (AF_ev rfl tp) rfl) ?_
  refine RW.soft Wd.a (v := .bool true) (by exact E.extract (vs := #[.agg #[.int .i64 c0, .int .i64 c1, .int .i64 c2, .slice X8 ((ns.take 100).length) c9], .bool true, .int .i64 0]) (AF_ev rfl (up rfl tp)) rfl) ?_
  refine RW.soft Wd.a (v := .int .i64 0) (by exact E.extract (vs := #[.agg #[.int .i64 c0, .int .i64 c1, .int .i64 c2, .slice X8 ((ns.take 100).length) c9], .bool true, .int .i64 0]) (AF_ev rfl (up rfl (up rfl tp))) rfl) ?_
  refine RW.hard Wd.a ?_
  refine H.alloc zr29 hst fun b10 w hst => ?_
  refine RW.hard Wd.a ?_
  refine H.store (b := b10) (o := 0) (v := .agg #[.int .i64 c0, .int .i64 c1, .int .i64 c2, .slice X8 ((ns.take 100).length) c9]) (c' := #[.int .i64 c0, .int .i64 c1, .int .i64 c2, .slice X8 ((ns.take 100).length) c9]) (AF_ev rfl tp) (AF_ev rfl (up rfl (up rfl (up rfl tp)))) hst .here sz29 (by simp [Value.cells]) (by simp [Value.cells, Value.oneCell']) rfl fun w hst => ?_
  refine RW.soft Wd.a (v := .bool true) (by exact E.assign (AF_ev rfl (u0 (up rfl (up rfl tp))))) ?_
  refine RW.soft Wd.a (v := .int .i64 0) (by exact E.assign (AF_ev rfl (up rfl (u0 (up rfl tp))))) ?_
  refine RW.fin (fun τ => τ 0 = .int .i64 a ∧ τ 1 = .int .i64 b ∧ τ 2 = .agg #[.int .i64 c0, .int .i64 c1, .int .i64 c2, .slice X ns.length c] ∧ τ 5 = .pointer (some ⟨b1, 0, none⟩) ∧ τ 6 = .bool false ∧ τ 7 = .bool true ∧ τ 8 = .pointer (some ⟨t2, 0, none⟩) ∧ τ 9 = .int .i64 0 ∧ τ 11 = .bool false ∧ τ 12 = .int .i64 0 ∧ τ 13 = .int .i64 0 ∧ τ 14 = .pointer (some ⟨b10, 0, none⟩) ∧ τ 15 = .bool true ∧ τ 16 = .int .i64 0 ∧ τ 25 = .bool false) ⟨up rfl (up rfl (u0 (up rfl (up rfl (up rfl (up rfl (up rfl (up rfl (up rfl (up rfl hs0)))))))))), up rfl (up rfl (u0 (up rfl (up rfl (up rfl (up rfl (up rfl (up rfl (up rfl (up rfl hs1)))))))))), up rfl (up rfl (u0 (up rfl (up rfl (up rfl (up rfl (up rfl (up rfl (up rfl (up rfl hs2)))))))))), up rfl (up rfl (u0 (up rfl (up rfl (up rfl (up rfl (up rfl (up rfl (up rfl (up rfl hs5)))))))))), up rfl (up rfl (u0 (up rfl (up rfl (up rfl (up rfl (up rfl (up rfl (up rfl (up rfl hs6)))))))))), up rfl (up rfl (u0 (up rfl (up rfl (up rfl (up rfl (up rfl (up rfl (up rfl (up rfl hs7)))))))))), up rfl (up rfl (u0 (up rfl (up rfl (up rfl (up rfl (up rfl (up rfl (up rfl (up rfl hs8)))))))))), up rfl (up rfl (u0 (up rfl (up rfl (up rfl (up rfl (up rfl (up rfl (up rfl (up rfl hs9)))))))))), up rfl (up rfl (u0 (up rfl (up rfl (up rfl (up rfl (up rfl (up rfl (up rfl (up rfl hs11)))))))))), up rfl (up rfl (u0 (up rfl (up rfl (up rfl (up rfl (up rfl (up rfl (up rfl (up rfl hs12)))))))))), up rfl (up rfl (u0 (up rfl (up rfl (up rfl (up rfl (up rfl (up rfl (up rfl (up rfl hs13)))))))))), up rfl (up rfl (u0 tp)), up rfl tp, tp, up rfl (up rfl (u0 (up rfl (up rfl (up rfl (up rfl (up rfl (up rfl (up rfl (up rfl hs25))))))))))⟩ ?_
  rintro τ ⟨hs0, hs1, hs2, hs5, hs6, hs7, hs8, hs9, hs11, hs12, hs13, hs14, hs15, hs16, hs25⟩
  refine CW.seq ?_
  refine CW.seq ?_
  refine CW.region ?_
  refine RW.soft Wd.a (v := .int .i64 0) (by exact E.move (AF_ev rfl hs9)) ?_
  refine RW.soft Wd.a (v := .bool true) (by exact E.eql (k := .i64) (a := 0) (b := 0) (AF_ev rfl tp) rfl) ?_
  refine RW.soft Wd.a (v := .int .i64 a) (by exact E.move (AF_ev rfl (up rfl (up rfl hs0)))) ?_
  refine RW.soft Wd.a (v := .bool true) (by exact E.b (a := decide (a > 0)) (E.gtr (k := .i64) (a := a) (b := 0) (AF_ev rfl tp) rfl) (by rw [decide_eq_true_eq]; omega)) ?_
  refine RW.soft Wd.a (v := .bool false) (by exact E.neqB (a := true) (b := true) Try.underlying4 (AF_ev rfl (up rfl (up rfl tp))) (AF_ev rfl tp)) ?_
  refine RW.soft Wd.a (v := .bool false) (by exact E.move (AF_ev rfl tp)) ?_
  refine RW.soft (by exact Wd.yes (x := 56) rfl (AF_ev rfl tp)) (v := .bool false) (by exact E.move (AF_ev rfl (up rfl (up rfl (up rfl (up rfl (up rfl (up rfl hs11)))))))) ?_
  refine RW.soft Wd.a (v := .bool false) (by exact E.pickF (AF_ev rfl (up rfl tp)) (AF_ev rfl tp)) ?_
  refine RW.soft Wd.a (v := .bool false) (by exact E.move (AF_ev rfl tp)) ?_
  refine RW.soft (by exact Wd.yes (x := 59) rfl (AF_ev rfl tp)) (v := .int .i64 0) (by exact E.move (AF_ev rfl (up rfl (up rfl (up rfl (up rfl (up rfl (up rfl (up rfl (up rfl (up rfl hs12))))))))))) ?_
  refine RW.soft (by exact Wd.yes (x := 59) rfl (AF_ev rfl (up rfl tp))) (v := .bool true) (by exact E.eql (k := .i64) (a := 0) (b := 0) (AF_ev rfl tp) rfl) ?_
  refine RW.soft (by exact Wd.yes (x := 59) rfl (AF_ev rfl (up rfl (up rfl tp)))) (v := .int .i64 b) (by exact E.move (AF_ev rfl (up rfl (up rfl (up rfl (up rfl (up rfl (up rfl (up rfl (up rfl (up rfl (up rfl (up rfl hs1))))))))))))) ?_
  refine RW.soft (by exact Wd.yes (x := 59) rfl (AF_ev rfl (up rfl (up rfl (up rfl tp))))) (v := .bool true) (by exact E.b (a := decide (b > 0)) (E.gtr (k := .i64) (a := b) (b := 0) (AF_ev rfl tp) rfl) (by rw [decide_eq_true_eq]; omega)) ?_
  refine RW.soft (by exact Wd.yes (x := 59) rfl (AF_ev rfl (up rfl (up rfl (up rfl (up rfl tp)))))) (v := .bool false) (by exact E.neqB (a := true) (b := true) Try.underlying4 (AF_ev rfl (up rfl (up rfl tp))) (AF_ev rfl tp)) ?_
  refine RW.soft Wd.a (v := .bool false) (by exact E.pickF (AF_ev rfl (up rfl (up rfl (up rfl (up rfl (up rfl tp)))))) (AF_ev rfl tp)) ?_
  refine RW.soft Wd.a (v := .bool false) (by exact E.move (AF_ev rfl tp)) ?_
  refine RW.soft (by exact Wd.yes (x := 66) rfl (AF_ev rfl tp)) (v := .int .i64 0) (by exact E.move (AF_ev rfl (up rfl (up rfl (up rfl (up rfl (up rfl (up rfl (up rfl (up rfl (up rfl (up rfl (up rfl (up rfl (up rfl (up rfl (up rfl (up rfl hs13)))))))))))))))))) ?_
  refine RW.soft (by exact Wd.yes (x := 66) rfl (AF_ev rfl (up rfl tp))) (v := .bool false) (by exact E.neq (k := .i64) (a := 0) (b := 0) (AF_ev rfl tp) rfl) ?_
  refine RW.soft Wd.a (v := .bool false) (by exact E.pickF (AF_ev rfl (up rfl (up rfl tp))) (AF_ev rfl tp)) ?_
  refine RW.fin (fun τ => τ 0 = .int .i64 a ∧ τ 1 = .int .i64 b ∧ τ 2 = .agg #[.int .i64 c0, .int .i64 c1, .int .i64 c2, .slice X ns.length c] ∧ τ 5 = .pointer (some ⟨b1, 0, none⟩) ∧ τ 6 = .bool false ∧ τ 7 = .bool true ∧ τ 8 = .pointer (some ⟨t2, 0, none⟩) ∧ τ 9 = .int .i64 0 ∧ τ 11 = .bool false ∧ τ 12 = .int .i64 0 ∧ τ 13 = .int .i64 0 ∧ τ 14 = .pointer (some ⟨b10, 0, none⟩) ∧ τ 15 = .bool true ∧ τ 16 = .int .i64 0 ∧ τ 25 = .bool false ∧ τ 69 = .bool false) ⟨up rfl (up rfl (up rfl (up rfl (up rfl (up rfl (up rfl (up rfl (up rfl (up rfl (up rfl (up rfl (up rfl (up rfl (up rfl (up rfl (up rfl (up rfl (up rfl hs0)))))))))))))))))), up rfl (up rfl (up rfl (up rfl (up rfl (up rfl (up rfl (up rfl (up rfl (up rfl (up rfl (up rfl (up rfl (up rfl (up rfl (up rfl (up rfl (up rfl (up rfl hs1)))))))))))))))))), up rfl (up rfl (up rfl (up rfl (up rfl (up rfl (up rfl (up rfl (up rfl (up rfl (up rfl (up rfl (up rfl (up rfl (up rfl (up rfl (up rfl (up rfl (up rfl hs2)))))))))))))))))), up rfl (up rfl (up rfl (up rfl (up rfl (up rfl (up rfl (up rfl (up rfl (up rfl (up rfl (up rfl (up rfl (up rfl (up rfl (up rfl (up rfl (up rfl (up rfl hs5)))))))))))))))))), up rfl (up rfl (up rfl (up rfl (up rfl (up rfl (up rfl (up rfl (up rfl (up rfl (up rfl (up rfl (up rfl (up rfl (up rfl (up rfl (up rfl (up rfl (up rfl hs6)))))))))))))))))), up rfl (up rfl (up rfl (up rfl (up rfl (up rfl (up rfl (up rfl (up rfl (up rfl (up rfl (up rfl (up rfl (up rfl (up rfl (up rfl (up rfl (up rfl (up rfl hs7)))))))))))))))))), up rfl (up rfl (up rfl (up rfl (up rfl (up rfl (up rfl (up rfl (up rfl (up rfl (up rfl (up rfl (up rfl (up rfl (up rfl (up rfl (up rfl (up rfl (up rfl hs8)))))))))))))))))), up rfl (up rfl (up rfl (up rfl (up rfl (up rfl (up rfl (up rfl (up rfl (up rfl (up rfl (up rfl (up rfl (up rfl (up rfl (up rfl (up rfl (up rfl (up rfl hs9)))))))))))))))))), up rfl (up rfl (up rfl (up rfl (up rfl (up rfl (up rfl (up rfl (up rfl (up rfl (up rfl (up rfl (up rfl (up rfl (up rfl (up rfl (up rfl (up rfl (up rfl hs11)))))))))))))))))), up rfl (up rfl (up rfl (up rfl (up rfl (up rfl (up rfl (up rfl (up rfl (up rfl (up rfl (up rfl (up rfl (up rfl (up rfl (up rfl (up rfl (up rfl (up rfl hs12)))))))))))))))))), up rfl (up rfl (up rfl (up rfl (up rfl (up rfl (up rfl (up rfl (up rfl (up rfl (up rfl (up rfl (up rfl (up rfl (up rfl (up rfl (up rfl (up rfl (up rfl hs13)))))))))))))))))), up rfl (up rfl (up rfl (up rfl (up rfl (up rfl (up rfl (up rfl (up rfl (up rfl (up rfl (up rfl (up rfl (up rfl (up rfl (up rfl (up rfl (up rfl (up rfl hs14)))))))))))))))))), up rfl (up rfl (up rfl (up rfl (up rfl (up rfl (up rfl (up rfl (up rfl (up rfl (up rfl (up rfl (up rfl (up rfl (up rfl (up rfl (up rfl (up rfl (up rfl hs15)))))))))))))))))), up rfl (up rfl (up rfl (up rfl (up rfl (up rfl (up rfl (up rfl (up rfl (up rfl (up rfl (up rfl (up rfl (up rfl (up rfl (up rfl (up rfl (up rfl (up rfl hs16)))))))))))))))))), up rfl (up rfl (up rfl (up rfl (up rfl (up rfl (up rfl (up rfl (up rfl (up rfl (up rfl (up rfl (up rfl (up rfl (up rfl (up rfl (up rfl (up rfl (up rfl hs25)))))))))))))))))), tp⟩ ?_
  rintro τ ⟨hs0, hs1, hs2, hs5, hs6, hs7, hs8, hs9, hs11, hs12, hs13, hs14, hs15, hs16, hs25, hs69⟩
  refine CW.condF (AF_ev rfl hs69) ?_
  refine CW.skip ?_
  refine Th.n ?_
  refine CW.seq ?_
  refine CW.seq ?_
  refine CW.region ?_
  refine RW.soft Wd.a (v := .int .i64 a) (by exact E.move (AF_ev rfl hs0)) ?_
  refine RW.soft Wd.a (v := .bool false) (by exact E.b (a := decide (a ≤ 0)) (E.leq (k := .i64) (a := a) (b := 0) (AF_ev rfl tp) rfl) (by rw [decide_eq_false_iff_not]; omega)) ?_
  refine RW.fin (fun τ => τ 0 = .int .i64 a ∧ τ 1 = .int .i64 b ∧ τ 2 = .agg #[.int .i64 c0, .int .i64 c1, .int .i64 c2, .slice X ns.length c] ∧ τ 5 = .pointer (some ⟨b1, 0, none⟩) ∧ τ 6 = .bool false ∧ τ 7 = .bool true ∧ τ 8 = .pointer (some ⟨t2, 0, none⟩) ∧ τ 9 = .int .i64 0 ∧ τ 11 = .bool false ∧ τ 12 = .int .i64 0 ∧ τ 13 = .int .i64 0 ∧ τ 14 = .pointer (some ⟨b10, 0, none⟩) ∧ τ 15 = .bool true ∧ τ 16 = .int .i64 0 ∧ τ 25 = .bool false ∧ τ 69 = .bool false ∧ τ 71 = .bool false) ⟨up rfl (up rfl hs0), up rfl (up rfl hs1), up rfl (up rfl hs2), up rfl (up rfl hs5), up rfl (up rfl hs6), up rfl (up rfl hs7), up rfl (up rfl hs8), up rfl (up rfl hs9), up rfl (up rfl hs11), up rfl (up rfl hs12), up rfl (up rfl hs13), up rfl (up rfl hs14), up rfl (up rfl hs15), up rfl (up rfl hs16), up rfl (up rfl hs25), up rfl (up rfl hs69), tp⟩ ?_
  rintro τ ⟨hs0, hs1, hs2, hs5, hs6, hs7, hs8, hs9, hs11, hs12, hs13, hs14, hs15, hs16, hs25, hs69, hs71⟩
  refine CW.condF (AF_ev rfl hs71) ?_
  refine CW.skip ?_
  refine Th.n ?_
  refine CW.seq ?_
  refine CW.regionD [0, 1, 4] (fun w => (∀ j v, ([.int .i64 c0, .int .i64 c1, .int .i64 c2, .slice X8 ((ns.take 100).length) c9] : List Value)[j]? = some v → w.cell? ⟨b10, 0 + j, none⟩ = some v) ∧ (∀ j v, ([.int .i64 c0, .int .i64 c1, .int .i64 c2, .slice X ns.length c] : List Value)[j]? = some v → w.cell? ⟨b1, 0 + j, none⟩ = some v)) mixed ?_
  have hst := hst.drew
  generalize w.drew = w at hst ⊢
  have hS : (∀ j v, ([.int .i64 c0, .int .i64 c1, .int .i64 c2, .slice X8 ((ns.take 100).length) c9] : List Value)[j]? = some v → w.cell? ⟨b10, 0 + j, none⟩ = some v) ∧ (∀ j v, ([.int .i64 c0, .int .i64 c1, .int .i64 c2, .slice X ns.length c] : List Value)[j]? = some v → w.cell? ⟨b1, 0 + j, none⟩ = some v) := ⟨hst.cellsIn .here rfl, hst.cellsIn (.there (.there (.there (.there (.there (.there (.there .here))))))) rfl⟩
  refine RD.take 0 rfl (by kernel_rfl) Wd.a (v := .agg #[.int .i64 c0, .int .i64 c1, .int .i64 c2, .slice X8 ((ns.take 100).length) c9]) (fun w hS => by exact E.loadN (b := b10) (o := 0) (cs := [.int .i64 c0, .int .i64 c1, .int .i64 c2, .slice X8 ((ns.take 100).length) c9]) Try.underlying29 rfl sz29 (AF_ev rfl hs14) rfl hS.1) hS ?_
  refine RD.take 1 rfl (by kernel_rfl) Wd.a (v := .agg #[.int .i64 c0, .int .i64 c1, .int .i64 c2, .slice X ns.length c]) (fun w hS => by exact E.loadN (b := b1) (o := 0) (cs := [.int .i64 c0, .int .i64 c1, .int .i64 c2, .slice X ns.length c]) Try.underlying29 rfl sz29 (AF_ev rfl (up rfl hs5)) rfl hS.2) hS ?_
  have hst := hst.take (.there (.there (.there (.there (.there (.there .here))))))
  refine RD.only 2 rfl (by kernel_rfl) Wd.a ?_
  refine H.call0 Try.func22 nm22 rfl (map1 (AF_ev rfl tp)) (Calls.mono (law15_own_ (A := Emp) (fun w H s => hL.src s) c0 c1 c2 hst) ?_)
  rintro _ w ⟨vX11, rfl, hnX11, hst⟩
  obtain ⟨X11, c12, rfl, hcX11, hmX11, hlX11, hbX11⟩ := hst.shape
  refine ⟨_, rfl, ?_⟩
  have hS : (∀ j v, ([.int .i64 c0, .int .i64 c1, .int .i64 c2, .slice X8 ((ns.take 100).length) c9] : List Value)[j]? = some v → w.cell? ⟨b10, 0 + j, none⟩ = some v) ∧ (∀ j v, ([.int .i64 c0, .int .i64 c1, .int .i64 c2, .slice X ns.length c] : List Value)[j]? = some v → w.cell? ⟨b1, 0 + j, none⟩ = some v) := ⟨hst.cellsIn (.there (.there .here)) rfl, hst.cellsIn (.there (.there (.there (.there (.there (.there (.there (.there .here)))))))) rfl⟩
  refine ⟨fun _ => hS, ?_⟩
  have hst := hst.take (.there (.there (.there .here)))
  refine RD.only 3 rfl (by kernel_rfl) Wd.a ?_
  refine H.call0 Try.func23 nm23 rfl (map2 (AF_ev rfl (up rfl (up rfl tp))) (AF_ev rfl tp)) (Calls.mono (same_true (ref_SameReply (A := Own 5 1 (.slice X8 ((ns.take 100).length) c9) ((ns.take 100).length) (bv (ns.take 100))) (B := Own 5 1 (.slice X11 ((ns.take 100).length) c12) ((ns.take 100).length) (bv (ns.take 100))) (fun w H s => Own.src s) (fun w H s => Own.src s) c0 c1 c2 c0 c1 c2 hst)) ?_)
  rintro _ w ⟨rfl, hst⟩
  refine ⟨_, rfl, ?_⟩
  have hS : (∀ j v, ([.int .i64 c0, .int .i64 c1, .int .i64 c2, .slice X8 ((ns.take 100).length) c9] : List Value)[j]? = some v → w.cell? ⟨b10, 0 + j, none⟩ = some v) ∧ (∀ j v, ([.int .i64 c0, .int .i64 c1, .int .i64 c2, .slice X ns.length c] : List Value)[j]? = some v → w.cell? ⟨b1, 0 + j, none⟩ = some v) := ⟨hst.cellsIn (.there (.there (.there .here))) rfl, hst.cellsIn (.there (.there (.there (.there (.there (.there (.there (.there .here)))))))) rfl⟩
  refine ⟨fun _ => hS, ?_⟩
  refine RD.take 4 rfl (by kernel_rfl) Wd.a (v := .bool true) (fun w hS => by exact E.assign (AF_ev rfl tp)) hS ?_
  refine RD.fin (by kernel_rfl) (fun τ => τ 0 = .int .i64 a ∧ τ 1 = .int .i64 b ∧ τ 2 = .agg #[.int .i64 c0, .int .i64 c1, .int .i64 c2, .slice X ns.length c] ∧ τ 5 = .pointer (some ⟨b1, 0, none⟩) ∧ τ 6 = .bool false ∧ τ 7 = .bool true ∧ τ 8 = .pointer (some ⟨t2, 0, none⟩) ∧ τ 9 = .int .i64 0 ∧ τ 11 = .bool false ∧ τ 12 = .int .i64 0 ∧ τ 13 = .int .i64 0 ∧ τ 14 = .pointer (some ⟨b10, 0, none⟩) ∧ τ 15 = .bool true ∧ τ 16 = .int .i64 0 ∧ τ 17 = .bool true ∧ τ 25 = .bool false ∧ τ 69 = .bool false ∧ τ 71 = .bool false) ⟨up rfl (up rfl (up rfl (up rfl (up rfl hs0)))), up rfl (up rfl (up rfl (up rfl (up rfl hs1)))), up rfl (up rfl (up rfl (up rfl (up rfl hs2)))), up rfl (up rfl (up rfl (up rfl (up rfl hs5)))), up rfl (up rfl (up rfl (up rfl (up rfl hs6)))), up rfl (up rfl (up rfl (up rfl (up rfl hs7)))), up rfl (up rfl (up rfl (up rfl (up rfl hs8)))), up rfl (up rfl (up rfl (up rfl (up rfl hs9)))), up rfl (up rfl (up rfl (up rfl (up rfl hs11)))), up rfl (up rfl (up rfl (up rfl (up rfl hs12)))), up rfl (up rfl (up rfl (up rfl (up rfl hs13)))), up rfl (up rfl (up rfl (up rfl (up rfl hs14)))), up rfl (up rfl (up rfl (up rfl (up rfl hs15)))), up rfl (up rfl (up rfl (up rfl (up rfl hs16)))), tp, up rfl (up rfl (up rfl (up rfl (up rfl hs25)))), up rfl (up rfl (up rfl (up rfl (up rfl hs69)))), up rfl (up rfl (up rfl (up rfl (up rfl hs71))))⟩ ?_
  rintro τ ⟨hs0, hs1, hs2, hs5, hs6, hs7, hs8, hs9, hs11, hs12, hs13, hs14, hs15, hs16, hs17, hs25, hs69, hs71⟩
  refine CW.seq ?_
  refine CW.region ?_
  refine RW.soft Wd.a (v := .bool true) (by exact E.move (AF_ev rfl hs15)) ?_
  refine RW.soft Wd.a (v := .bool true) (by exact E.move (AF_ev rfl tp)) ?_
  refine RW.soft (by exact Wd.yes (x := 83) rfl (AF_ev rfl tp)) (v := .int .i64 0) (by exact E.move (AF_ev rfl (up rfl (up rfl hs16)))) ?_
  refine RW.soft (by exact Wd.yes (x := 83) rfl (AF_ev rfl (up rfl tp))) (v := .bool true) (by exact E.eql (k := .i64) (a := 0) (b := 0) (AF_ev rfl tp) rfl) ?_
  refine RW.soft Wd.a (v := .bool true) (by exact E.pickT (AF_ev rfl (up rfl (up rfl tp))) (AF_ev rfl tp)) ?_
  refine RW.soft Wd.a (v := .bool true) (by exact E.move (AF_ev rfl tp)) ?_
  refine RW.soft (by exact Wd.yes (x := 87) rfl (AF_ev rfl tp)) (v := .bool true) (by exact E.move (AF_ev rfl (up rfl (up rfl (up rfl (up rfl (up rfl (up rfl hs17)))))))) ?_
  refine RW.soft Wd.a (v := .bool true) (by exact E.pickT (AF_ev rfl (up rfl tp)) (AF_ev rfl tp)) ?_
  refine RW.soft Wd.a (v := .bool true) (by exact E.assign (AF_ev rfl tp)) ?_
  refine RW.fin (fun τ => τ 0 = .int .i64 a ∧ τ 1 = .int .i64 b ∧ τ 2 = .agg #[.int .i64 c0, .int .i64 c1, .int .i64 c2, .slice X ns.length c] ∧ τ 5 = .pointer (some ⟨b1, 0, none⟩) ∧ τ 6 = .bool true ∧ τ 7 = .bool true ∧ τ 8 = .pointer (some ⟨t2, 0, none⟩) ∧ τ 9 = .int .i64 0 ∧ τ 11 = .bool false ∧ τ 12 = .int .i64 0 ∧ τ 13 = .int .i64 0 ∧ τ 14 = .pointer (some ⟨b10, 0, none⟩) ∧ τ 15 = .bool true ∧ τ 16 = .int .i64 0 ∧ τ 17 = .bool true ∧ τ 25 = .bool false ∧ τ 69 = .bool false ∧ τ 71 = .bool false) ⟨up rfl (up rfl (up rfl (up rfl (up rfl (up rfl (up rfl (up rfl (up rfl hs0)))))))), up rfl (up rfl (up rfl (up rfl (up rfl (up rfl (up rfl (up rfl (up rfl hs1)))))))), up rfl (up rfl (up rfl (up rfl (up rfl (up rfl (up rfl (up rfl (up rfl hs2)))))))), up rfl (up rfl (up rfl (up rfl (up rfl (up rfl (up rfl (up rfl (up rfl hs5)))))))), tp, up rfl (up rfl (up rfl (up rfl (up rfl (up rfl (up rfl (up rfl (up rfl hs7)))))))), up rfl (up rfl (up rfl (up rfl (up rfl (up rfl (up rfl (up rfl (up rfl hs8)))))))), up rfl (up rfl (up rfl (up rfl (up rfl (up rfl (up rfl (up rfl (up rfl hs9)))))))), up rfl (up rfl (up rfl (up rfl (up rfl (up rfl (up rfl (up rfl (up rfl hs11)))))))), up rfl (up rfl (up rfl (up rfl (up rfl (up rfl (up rfl (up rfl (up rfl hs12)))))))), up rfl (up rfl (up rfl (up rfl (up rfl (up rfl (up rfl (up rfl (up rfl hs13)))))))), up rfl (up rfl (up rfl (up rfl (up rfl (up rfl (up rfl (up rfl (up rfl hs14)))))))), up rfl (up rfl (up rfl (up rfl (up rfl (up rfl (up rfl (up rfl (up rfl hs15)))))))), up rfl (up rfl (up rfl (up rfl (up rfl (up rfl (up rfl (up rfl (up rfl hs16)))))))), up rfl (up rfl (up rfl (up rfl (up rfl (up rfl (up rfl (up rfl (up rfl hs17)))))))), up rfl (up rfl (up rfl (up rfl (up rfl (up rfl (up rfl (up rfl (up rfl hs25)))))))), up rfl (up rfl (up rfl (up rfl (up rfl (up rfl (up rfl (up rfl (up rfl hs69)))))))), up rfl (up rfl (up rfl (up rfl (up rfl (up rfl (up rfl (up rfl (up rfl hs71))))))))⟩ ?_
  rintro τ ⟨hs0, hs1, hs2, hs5, hs6, hs7, hs8, hs9, hs11, hs12, hs13, hs14, hs15, hs16, hs17, hs25, hs69, hs71⟩
  refine CW.ret ?_
  refine ret1 (v := .bool true) rfl (by exact (.tmp (AF_ev rfl hs6) .nil)) ?_
  have hst := hst.drop
  have hst := hst.drop
  have hst := hst.drop
  have hst := hst.drop
  have hst := hst.drop
  have hst := hst.drop
  have hst := hst.drop
  have hst := hst.drop
  have hst := hst.drop
  exact ⟨p, hp0, rfl, hst⟩

theorem apart_10 {p : Pers} {w : World} {R : List Assn} {p0 : Pers} {X : Option Addr} {c : Nat} {ns : List Int} (a b c0 c1 c2 : Int) (hL : Las p 1 (.slice X ns.length c) ns.length (bv ns)) (hp0 : p0.le p) (ha : 0 < a) (hbb : b ≤ 0) (hst : St p w (Emp :: R)) :
    Calls Try.prog 4 #[.int .i64 a, .int .i64 b, .agg #[.int .i64 c0, .int .i64 c1, .int .i64 c2, .slice X ns.length c]] w fun e w => ∃ q, p0.le q ∧ e = .returned (.bool true) ∧ St q w R := by
  refine enter Try.func4 rfl (by simp) (n := 90) rfl fun τ hτ => ?_
  have hs0 : τ 0 = .int .i64 a := hτ 0 (by simp)
  have hs1 : τ 1 = .int .i64 b := hτ 1 (by simp)
  have hs2 : τ 2 = .agg #[.int .i64 c0, .int .i64 c1, .int .i64 c2, .slice X ns.length c] := hτ 2 (by simp)
  clear hτ
  refine CW.seq ?_
  refine CW.region ?_
  refine RW.hard Wd.a ?_
  refine H.box (v := .agg #[.int .i64 c0, .int .i64 c1, .int .i64 c2, .slice X ns.length c]) (AF_ev rfl hs2) hst fun b1 w hst => ?_
  refine RW.soft Wd.a (v := .bool false) (by exact E.assign rfl) ?_
  refine RW.fin (fun τ => τ 0 = .int .i64 a ∧ τ 1 = .int .i64 b ∧ τ 2 = .agg #[.int .i64 c0, .int .i64 c1, .int .i64 c2, .slice X ns.length c] ∧ τ 5 = .pointer (some ⟨b1, 0, none⟩) ∧ τ 6 = .bool false) ⟨up rfl (up rfl hs0), up rfl (up rfl hs1), up rfl (up rfl hs2), up rfl tp, tp⟩ ?_
  rintro τ ⟨hs0, hs1, hs2, hs5, hs6⟩
  refine CW.seq ?_
  refine CW.region ?_
  refine RW.hard Wd.a ?_
  refine H.call0 Try.func15 nm15 rfl map0 (Calls.mono (law15_shown hst) ?_)
  rintro _ w ⟨p, hle, rfl, hst⟩
  have hL := hL.le hle
  have hp0 := hp0.le hle
  refine ⟨_, rfl, ?_⟩
  show RW _ _ _ _ _ _ _
  refine RW.soft Wd.a (v := .bool true) (by exact E.assign (AF_ev rfl tp)) ?_
  refine RW.fin (fun τ => τ 0 = .int .i64 a ∧ τ 1 = .int .i64 b ∧ τ 2 = .agg #[.int .i64 c0, .int .i64 c1, .int .i64 c2, .slice X ns.length c] ∧ τ 5 = .pointer (some ⟨b1, 0, none⟩) ∧ τ 6 = .bool false ∧ τ 7 = .bool true) ⟨up rfl (up rfl hs0), up rfl (up rfl hs1), up rfl (up rfl hs2), up rfl (up rfl hs5), up rfl (up rfl hs6), tp⟩ ?_
  rintro τ ⟨hs0, hs1, hs2, hs5, hs6, hs7⟩
  refine CW.seq ?_
  refine CW.region ?_
  refine RW.hard Wd.a ?_
  refine H.call0 Try.func16 nm16 rfl map0 (Calls.mono (New_L hst) ?_)
  rintro _ w ⟨t2, rfl, hst⟩
  refine ⟨_, rfl, ?_⟩
  show RW _ _ _ _ _ _ _
  refine RW.soft Wd.a (v := .pointer (some ⟨t2, 0, none⟩)) (by exact E.assign (AF_ev rfl tp)) ?_
  refine RW.fin (fun τ => τ 0 = .int .i64 a ∧ τ 1 = .int .i64 b ∧ τ 2 = .agg #[.int .i64 c0, .int .i64 c1, .int .i64 c2, .slice X ns.length c] ∧ τ 5 = .pointer (some ⟨b1, 0, none⟩) ∧ τ 6 = .bool false ∧ τ 7 = .bool true ∧ τ 8 = .pointer (some ⟨t2, 0, none⟩)) ⟨up rfl (up rfl hs0), up rfl (up rfl hs1), up rfl (up rfl hs2), up rfl (up rfl hs5), up rfl (up rfl hs6), up rfl (up rfl hs7), tp⟩ ?_
  rintro τ ⟨hs0, hs1, hs2, hs5, hs6, hs7, hs8⟩
  refine CW.seq ?_
  refine CW.seq ?_
  refine CW.region ?_
  refine RW.soft Wd.a (v := .bool true) (by exact E.move (AF_ev rfl hs7)) ?_
  refine RW.soft Wd.a (v := .bool false) (by exact E.not (b := true) (AF_ev rfl tp)) ?_
  refine RW.soft Wd.a (v := .bool false) (by exact E.move (AF_ev rfl tp)) ?_
  refine RW.soft (by exact Wd.yes (x := 22) rfl (AF_ev rfl tp)) (v := .pointer (some ⟨t2, 0, none⟩)) (by exact E.move (AF_ev rfl (up rfl (up rfl (up rfl hs8))))) ?_
  refine RW.soft (by exact Wd.yes (x := 22) rfl (AF_ev rfl (up rfl tp))) (v := .bool false) (by exact E.eqlP (p := (some ⟨t2, 0, none⟩)) Try.underlying24 (AF_ev rfl tp) rfl) ?_
  refine RW.soft Wd.a (v := .bool false) (by exact E.pickF (AF_ev rfl (up rfl (up rfl tp))) (AF_ev rfl tp)) ?_
  refine RW.fin (fun τ => τ 0 = .int .i64 a ∧ τ 1 = .int .i64 b ∧ τ 2 = .agg #[.int .i64 c0, .int .i64 c1, .int .i64 c2, .slice X ns.length c] ∧ τ 5 = .pointer (some ⟨b1, 0, none⟩) ∧ τ 6 = .bool false ∧ τ 7 = .bool true ∧ τ 8 = .pointer (some ⟨t2, 0, none⟩) ∧ τ 25 = .bool false) ⟨up rfl (up rfl (up rfl (up rfl (up rfl (up rfl hs0))))), up rfl (up rfl (up rfl (up rfl (up rfl (up rfl hs1))))), up rfl (up rfl (up rfl (up rfl (up rfl (up rfl hs2))))), up rfl (up rfl (up rfl (up rfl (up rfl (up rfl hs5))))), up rfl (up rfl (up rfl (up rfl (up rfl (up rfl hs6))))), up rfl (up rfl (up rfl (up rfl (up rfl (up rfl hs7))))), up rfl (up rfl (up rfl (up rfl (up rfl (up rfl hs8))))), tp⟩ ?_
  rintro τ ⟨hs0, hs1, hs2, hs5, hs6, hs7, hs8, hs25⟩
  refine CW.condF (AF_ev rfl hs25) ?_
  refine CW.skip ?_
  refine Th.n ?_
  refine CW.seq ?_
  refine CW.region ?_
  refine RW.soft Wd.a (v := .pointer (some ⟨t2, 0, none⟩)) (by exact E.move (AF_ev rfl hs8)) ?_
  refine RW.hard Wd.a ?_
  refine H.call0 Try.func18 nm18 rfl (map1 (AF_ev rfl tp)) (Calls.mono (Open_C (L' := [(1, 0, ⟨0, 0, 0, []⟩)]) (n' := 2) (a := 1) (e := 0) (by rfl) (by rfl) (by rfl) (by rfl) (by decide) hst) ?_)
  rintro _ w ⟨rfl, hst⟩
  refine ⟨_, rfl, ?_⟩
  show RW _ _ _ _ _ _ _
  refine RW.fin (fun τ => τ 0 = .int .i64 a ∧ τ 1 = .int .i64 b ∧ τ 2 = .agg #[.int .i64 c0, .int .i64 c1, .int .i64 c2, .slice X ns.length c] ∧ τ 5 = .pointer (some ⟨b1, 0, none⟩) ∧ τ 6 = .bool false ∧ τ 7 = .bool true ∧ τ 8 = .pointer (some ⟨t2, 0, none⟩) ∧ τ 25 = .bool false) ⟨up rfl (up rfl hs0), up rfl (up rfl hs1), up rfl (up rfl hs2), up rfl (up rfl hs5), up rfl (up rfl hs6), up rfl (up rfl hs7), up rfl (up rfl hs8), up rfl (up rfl hs25)⟩ ?_
  rintro τ ⟨hs0, hs1, hs2, hs5, hs6, hs7, hs8, hs25⟩
  refine CW.seq ?_
  refine CW.region ?_
  refine RW.soft Wd.a (v := .pointer (some ⟨t2, 0, none⟩)) (by exact E.move (AF_ev rfl hs8)) ?_
  refine RW.hard Wd.a ?_
  refine H.call0 Try.func18 nm18 rfl (map1 (AF_ev rfl tp)) (Calls.mono (Open_C (L' := [(1, 0, ⟨0, 0, 0, []⟩), (2, 0, ⟨0, 0, 0, []⟩)]) (n' := 3) (a := 2) (e := 0) (by rfl) (by rfl) (by rfl) (by rfl) (by decide) hst) ?_)
  rintro _ w ⟨rfl, hst⟩
  refine ⟨_, rfl, ?_⟩
  show RW _ _ _ _ _ _ _
  refine RW.fin (fun τ => τ 0 = .int .i64 a ∧ τ 1 = .int .i64 b ∧ τ 2 = .agg #[.int .i64 c0, .int .i64 c1, .int .i64 c2, .slice X ns.length c] ∧ τ 5 = .pointer (some ⟨b1, 0, none⟩) ∧ τ 6 = .bool false ∧ τ 7 = .bool true ∧ τ 8 = .pointer (some ⟨t2, 0, none⟩) ∧ τ 25 = .bool false) ⟨up rfl (up rfl hs0), up rfl (up rfl hs1), up rfl (up rfl hs2), up rfl (up rfl hs5), up rfl (up rfl hs6), up rfl (up rfl hs7), up rfl (up rfl hs8), up rfl (up rfl hs25)⟩ ?_
  rintro τ ⟨hs0, hs1, hs2, hs5, hs6, hs7, hs8, hs25⟩
  refine CW.seq ?_
  refine CW.region ?_
  refine RW.soft Wd.a (v := .pointer (some ⟨t2, 0, none⟩)) (by exact E.move (AF_ev rfl hs8)) ?_
  refine RW.soft Wd.a (v := .int .i64 a) (by exact E.move (AF_ev rfl (up rfl hs0))) ?_
  refine RW.soft Wd.a (v := .agg #[.int .i64 c0, .int .i64 c1, .int .i64 c2, .slice X ns.length c]) (by exact E.loadN (b := b1) (o := 0) (cs := [.int .i64 c0, .int .i64 c1, .int .i64 c2, .slice X ns.length c]) Try.underlying29 rfl sz29 (AF_ev rfl (up rfl (up rfl hs5))) rfl (hst.cellsIn (.there .here) rfl)) ?_
  have hst := hst.take (.there (.there .here))
  refine RW.hard Wd.a ?_
  refine H.call0 Try.func22 nm22 rfl (map1 (AF_ev rfl tp)) (Calls.mono (law15_own_ (A := Emp) (fun w H s => hL.src s) c0 c1 c2 hst) ?_)
  rintro _ w ⟨vX3, rfl, hnX3, hst⟩
  obtain ⟨X3, c4, rfl, hcX3, hmX3, hlX3, hbX3⟩ := hst.shape
  refine ⟨_, rfl, ?_⟩
  show RW _ _ _ _ _ _ _
  have hst := hst.take (.there (.there .here))
  refine RW.hard Wd.a ?_
  refine H.call0 Try.func21 nm21 rfl (map4 (AF_ev rfl (up rfl (up rfl (up rfl tp)))) rfl (AF_ev rfl (up rfl (up rfl tp))) (AF_ev rfl tp)) (Calls.mono (Done_C (A := Own 5 1 (.slice X3 ((ns.take 100).length) c4) ((ns.take 100).length) (bv (ns.take 100))) (Y := X3) (d := c4) (L' := [(1, a, ⟨c0, c1, c2, (ns.take 100)⟩), (2, 0, ⟨0, 0, 0, []⟩)]) (e := 0) 1 a c0 c1 c2 (ns.take 100) (by show (if a ≤ 0 then _ else _) = _; rw [if_neg (by omega)]; rfl) (by show (if a ≤ 0 then _ else _) = _; rw [if_neg (by omega)]) (fun w H s => Own.src s) (by first | omega | (simp; done) | (simp; omega)) hst) ?_)
  rintro _ w ⟨p, hle, rfl, hst⟩
  have hL := hL.le hle
  have hp0 := hp0.le hle
  refine ⟨_, rfl, ?_⟩
  show RW _ _ _ _ _ _ _
  refine RW.soft Wd.a (v := .int .i64 0) (by exact E.assign (AF_ev rfl tp)) ?_
  refine RW.fin (fun τ => τ 0 = .int .i64 a ∧ τ 1 = .int .i64 b ∧ τ 2 = .agg #[.int .i64 c0, .int .i64 c1, .int .i64 c2, .slice X ns.length c] ∧ τ 5 = .pointer (some ⟨b1, 0, none⟩) ∧ τ 6 = .bool false ∧ τ 7 = .bool true ∧ τ 8 = .pointer (some ⟨t2, 0, none⟩) ∧ τ 9 = .int .i64 0 ∧ τ 25 = .bool false) ⟨up rfl (up rfl (up rfl (up rfl (up rfl (up rfl hs0))))), up rfl (up rfl (up rfl (up rfl (up rfl (up rfl hs1))))), up rfl (up rfl (up rfl (up rfl (up rfl (up rfl hs2))))), up rfl (up rfl (up rfl (up rfl (up rfl (up rfl hs5))))), up rfl (up rfl (up rfl (up rfl (up rfl (up rfl hs6))))), up rfl (up rfl (up rfl (up rfl (up rfl (up rfl hs7))))), up rfl (up rfl (up rfl (up rfl (up rfl (up rfl hs8))))), tp, up rfl (up rfl (up rfl (up rfl (up rfl (up rfl hs25)))))⟩ ?_
  rintro τ ⟨hs0, hs1, hs2, hs5, hs6, hs7, hs8, hs9, hs25⟩
  refine CW.seq ?_
  refine CW.region ?_
  refine RW.soft Wd.a (v := .pointer (some ⟨t2, 0, none⟩)) (by exact E.move (AF_ev rfl hs8)) ?_
  refine RW.soft Wd.a (v := .int .i64 b) (by exact E.move (AF_ev rfl (up rfl hs1))) ?_
  refine RW.hard Wd.a ?_
  refine H.call0 Try.func20 nm20 rfl (map3 (AF_ev rfl (up rfl tp)) rfl (AF_ev rfl tp)) (Calls.mono (Ask_C (r := ⟨0, 0, 0, []⟩) (sn := false) (e := 151) 2 b (by show (if b < max 1 0 then _ else if b = 0 then _ else _) = _; rw [if_pos (by omega)] <;> rfl) (by show (if b < max 1 0 then _ else decide (b = 0)) = _; rw [if_pos (by omega)]) (by show (if b < max 1 0 then _ else _) = _; rw [if_pos (by omega)]) hst) ?_)
  rintro _ w ⟨vX5, rfl, hbX5, hst⟩
  obtain ⟨X5, c6, rfl, hcX5, hmX5, hlX5, hbbX5⟩ := hst.shape
  refine ⟨_, rfl, ?_⟩
  show RW _ _ _ _ _ _ _
  refine RW.soft Wd.a (v := .tuple #[.agg #[.int .i64 0, .int .i64 0, .int .i64 0, .slice X5 0 c6], .bool false, .int .i64 151]) (by exact E.move (AF_ev rfl tp)) ?_
  refine RW.soft Wd.a (v := .agg #[.int .i64 0, .int .i64 0, .int .i64 0, .slice X5 0 c6]) (by exact E.extract (vs := #[.agg #[.int .i64 0, .int .i64 0, .int .i64 0, .slice X5 0 c6], .bool false, .int .i64 151]) (AF_ev rfl tp) rfl) ?_
  refine RW.soft Wd.a (v := .bool false) (by exact E.extract (vs := #[.agg #[.int .i64 0, .int .i64 0, .int .i64 0, .slice X5 0 c6], .bool false, .int .i64 151]) (AF_ev rfl (up rfl tp)) rfl) ?_
  refine RW.soft Wd.a (v := .int .i64 151) (by exact E.extract (vs := #[.agg #[.int .i64 0, .int .i64 0, .int .i64 0, .slice X5 0 c6], .bool false, .int .i64 151]) (AF_ev rfl (up rfl (up rfl tp))) rfl) ?_
  refine RW.hard Wd.a ?_
  refine H.alloc zr29 hst fun b7 w hst => ?_
  refine RW.hard Wd.a ?_
  refine H.store (b := b7) (o := 0) (v := .agg #[.int .i64 0, .int .i64 0, .int .i64 0, .slice X5 0 c6]) (c' := #[.int .i64 0, .int .i64 0, .int .i64 0, .slice X5 0 c6]) (AF_ev rfl tp) (AF_ev rfl (up rfl (up rfl (up rfl tp)))) hst .here sz29 (by simp [Value.cells]) (by simp [Value.cells, Value.oneCell']) rfl fun w hst => ?_
  refine RW.soft Wd.a (v := .bool false) (by exact E.assign (AF_ev rfl (u0 (up rfl (up rfl tp))))) ?_
  refine RW.soft Wd.a (v := .int .i64 151) (by exact E.assign (AF_ev rfl (up rfl (u0 (up rfl tp))))) ?_
  refine RW.fin (fun τ => τ 0 = .int .i64 a ∧ τ 1 = .int .i64 b ∧ τ 2 = .agg #[.int .i64 c0, .int .i64 c1, .int .i64 c2, .slice X ns.length c] ∧ τ 5 = .pointer (some ⟨b1, 0, none⟩) ∧ τ 6 = .bool false ∧ τ 7 = .bool true ∧ τ 8 = .pointer (some ⟨t2, 0, none⟩) ∧ τ 9 = .int .i64 0 ∧ τ 11 = .bool false ∧ τ 12 = .int .i64 151 ∧ τ 25 = .bool false) ⟨up rfl (up rfl (u0 (up rfl (up rfl (up rfl (up rfl (up rfl (up rfl (up rfl (up rfl hs0)))))))))), up rfl (up rfl (u0 (up rfl (up rfl (up rfl (up rfl (up rfl (up rfl (up rfl (up rfl hs1)))))))))), up rfl (up rfl (u0 (up rfl (up rfl (up rfl (up rfl (up rfl (up rfl (up rfl (up rfl hs2)))))))))), up rfl (up rfl (u0 (up rfl (up rfl (up rfl (up rfl (up rfl (up rfl (up rfl (up rfl hs5)))))))))), up rfl (up rfl (u0 (up rfl (up rfl (up rfl (up rfl (up rfl (up rfl (up rfl (up rfl hs6)))))))))), up rfl (up rfl (u0 (up rfl (up rfl (up rfl (up rfl (up rfl (up rfl (up rfl (up rfl hs7)))))))))), up rfl (up rfl (u0 (up rfl (up rfl (up rfl (up rfl (up rfl (up rfl (up rfl (up rfl hs8)))))))))), up rfl (up rfl (u0 (up rfl (up rfl (up rfl (up rfl (up rfl (up rfl (up rfl (up rfl hs9)))))))))), up rfl tp, tp, up rfl (up rfl (u0 (up rfl (up rfl (up rfl (up rfl (up rfl (up rfl (up rfl (up rfl hs25))))))))))⟩ ?_
  rintro τ ⟨hs0, hs1, hs2, hs5, hs6, hs7, hs8, hs9, hs11, hs12, hs25⟩
  refine CW.seq ?_
  refine CW.region ?_
  refine RW.soft Wd.a (v := .pointer (some ⟨t2, 0, none⟩)) (by exact E.move (AF_ev rfl hs8)) ?_
  have hst := hst.take (.there (.there .here))
  refine RW.hard Wd.a ?_
  refine H.call0 Try.func19 nm19 rfl (map2 (AF_ev rfl tp) rfl) (Calls.mono (Expire_C (L' := [(1, a, ⟨c0, c1, c2, (ns.take 100)⟩)]) (e := 0) 2 (by rfl) (by rfl) hst) ?_)
  rintro _ w ⟨rfl, hst⟩
  refine ⟨_, rfl, ?_⟩
  show RW _ _ _ _ _ _ _
  refine RW.soft Wd.a (v := .int .i64 0) (by exact E.assign (AF_ev rfl tp)) ?_
  refine RW.fin (fun τ => τ 0 = .int .i64 a ∧ τ 1 = .int .i64 b ∧ τ 2 = .agg #[.int .i64 c0, .int .i64 c1, .int .i64 c2, .slice X ns.length c] ∧ τ 5 = .pointer (some ⟨b1, 0, none⟩) ∧ τ 6 = .bool false ∧ τ 7 = .bool true ∧ τ 8 = .pointer (some ⟨t2, 0, none⟩) ∧ τ 9 = .int .i64 0 ∧ τ 11 = .bool false ∧ τ 12 = .int .i64 151 ∧ τ 13 = .int .i64 0 ∧ τ 25 = .bool false) ⟨up rfl (up rfl (up rfl hs0)), up rfl (up rfl (up rfl hs1)), up rfl (up rfl (up rfl hs2)), up rfl (up rfl (up rfl hs5)), up rfl (up rfl (up rfl hs6)), up rfl (up rfl (up rfl hs7)), up rfl (up rfl (up rfl hs8)), up rfl (up rfl (up rfl hs9)), up rfl (up rfl (up rfl hs11)), up rfl (up rfl (up rfl hs12)), tp, up rfl (up rfl (up rfl hs25))⟩ ?_
  rintro τ ⟨hs0, hs1, hs2, hs5, hs6, hs7, hs8, hs9, hs11, hs12, hs13, hs25⟩
  refine CW.seq ?_
  refine CW.region ?_
  refine RW.soft Wd.a (v := .pointer (some ⟨t2, 0, none⟩)) (by exact E.move (AF_ev rfl hs8)) ?_
  refine RW.soft Wd.a (v := .int .i64 a) (by exact E.move (AF_ev rfl (up rfl hs0))) ?_
  refine RW.hard Wd.a ?_
  refine H.call0 Try.func20 nm20 rfl (map3 (AF_ev rfl (up rfl tp)) rfl (AF_ev rfl tp)) (Calls.mono (Ask_C (r := ⟨c0, c1, c2, (ns.take 100)⟩) (sn := true) (e := 0) 1 a (by show (if a < max 1 a then _ else if a = a then _ else _) = _; rw [if_neg (by omega), if_pos rfl]) (by show (if a < max 1 a then _ else decide (a = a)) = _; rw [if_neg (by omega), decide_eq_true_eq]) (by show (if a < max 1 a then _ else _) = _; rw [if_neg (by omega)]) hst) ?_)
  rintro _ w ⟨vX8, rfl, hbX8, hst⟩
  obtain ⟨X8, c9, rfl, hcX8, hmX8, hlX8, hbbX8⟩ := hst.shape
  refine ⟨_, rfl, ?_⟩
  show RW _ _ _ _ _ _ _
  refine RW.soft Wd.a (v := .tuple #[.agg #[.int .i64 c0, .int .i64 c1, .int .i64 c2, .slice X8 ((ns.take 100).length) c9], .bool true, .int .i64 0]) (by exact E.move (AF_ev rfl tp)) ?_
  refine RW.soft Wd.a (v := .agg #[.int .i64 c0, .int .i64 c1, .int .i64 c2, .slice X8 ((ns.take 100).length) c9]) (by exact E.extract (vs := #[.agg #[.int .i64 c0, .int .i64 c1, .int .i64 c2, .slice X8 ((ns.take 100).length) c9], .bool true, .int .i64 0]) (AF_ev rfl tp) rfl) ?_
  refine RW.soft Wd.a (v := .bool true) (by exact E.extract (vs := #[.agg #[.int .i64 c0, .int .i64 c1, .int .i64 c2, .slice X8 ((ns.take 100).length) c9], .bool true, .int .i64 0]) (AF_ev rfl (up rfl tp)) rfl) ?_
  refine RW.soft Wd.a (v := .int .i64 0) (by exact E.extract (vs := #[.agg #[.int .i64 c0, .int .i64 c1, .int .i64 c2, .slice X8 ((ns.take 100).length) c9], .bool true, .int .i64 0]) (AF_ev rfl (up rfl (up rfl tp))) rfl) ?_
  refine RW.hard Wd.a ?_
  refine H.alloc zr29 hst fun b10 w hst => ?_
  refine RW.hard Wd.a ?_
  refine H.store (b := b10) (o := 0) (v := .agg #[.int .i64 c0, .int .i64 c1, .int .i64 c2, .slice X8 ((ns.take 100).length) c9]) (c' := #[.int .i64 c0, .int .i64 c1, .int .i64 c2, .slice X8 ((ns.take 100).length) c9]) (AF_ev rfl tp) (AF_ev rfl (up rfl (up rfl (up rfl tp)))) hst .here sz29 (by simp [Value.cells]) (by simp [Value.cells, Value.oneCell']) rfl fun w hst => ?_
  refine RW.soft Wd.a (v := .bool true) (by exact E.assign (AF_ev rfl (u0 (up rfl (up rfl tp))))) ?_
  refine RW.soft Wd.a (v := .int .i64 0) (by exact E.assign (AF_ev rfl (up rfl (u0 (up rfl tp))))) ?_
  refine RW.fin (fun τ => τ 0 = .int .i64 a ∧ τ 1 = .int .i64 b ∧ τ 2 = .agg #[.int .i64 c0, .int .i64 c1, .int .i64 c2, .slice X ns.length c] ∧ τ 5 = .pointer (some ⟨b1, 0, none⟩) ∧ τ 6 = .bool false ∧ τ 7 = .bool true ∧ τ 8 = .pointer (some ⟨t2, 0, none⟩) ∧ τ 9 = .int .i64 0 ∧ τ 11 = .bool false ∧ τ 12 = .int .i64 151 ∧ τ 13 = .int .i64 0 ∧ τ 14 = .pointer (some ⟨b10, 0, none⟩) ∧ τ 15 = .bool true ∧ τ 16 = .int .i64 0 ∧ τ 25 = .bool false) ⟨up rfl (up rfl (u0 (up rfl (up rfl (up rfl (up rfl (up rfl (up rfl (up rfl (up rfl hs0)))))))))), up rfl (up rfl (u0 (up rfl (up rfl (up rfl (up rfl (up rfl (up rfl (up rfl (up rfl hs1)))))))))), up rfl (up rfl (u0 (up rfl (up rfl (up rfl (up rfl (up rfl (up rfl (up rfl (up rfl hs2)))))))))), up rfl (up rfl (u0 (up rfl (up rfl (up rfl (up rfl (up rfl (up rfl (up rfl (up rfl hs5)))))))))), up rfl (up rfl (u0 (up rfl (up rfl (up rfl (up rfl (up rfl (up rfl (up rfl (up rfl hs6)))))))))), up rfl (up rfl (u0 (up rfl (up rfl (up rfl (up rfl (up rfl (up rfl (up rfl (up rfl hs7)))))))))), up rfl (up rfl (u0 (up rfl (up rfl (up rfl (up rfl (up rfl (up rfl (up rfl (up rfl hs8)))))))))), up rfl (up rfl (u0 (up rfl (up rfl (up rfl (up rfl (up rfl (up rfl (up rfl (up rfl hs9)))))))))), up rfl (up rfl (u0 (up rfl (up rfl (up rfl (up rfl (up rfl (up rfl (up rfl (up rfl hs11)))))))))), up rfl (up rfl (u0 (up rfl (up rfl (up rfl (up rfl (up rfl (up rfl (up rfl (up rfl hs12)))))))))), up rfl (up rfl (u0 (up rfl (up rfl (up rfl (up rfl (up rfl (up rfl (up rfl (up rfl hs13)))))))))), up rfl (up rfl (u0 tp)), up rfl tp, tp, up rfl (up rfl (u0 (up rfl (up rfl (up rfl (up rfl (up rfl (up rfl (up rfl (up rfl hs25))))))))))⟩ ?_
  rintro τ ⟨hs0, hs1, hs2, hs5, hs6, hs7, hs8, hs9, hs11, hs12, hs13, hs14, hs15, hs16, hs25⟩
  refine CW.seq ?_
  refine CW.seq ?_
  refine CW.region ?_
  refine RW.soft Wd.a (v := .int .i64 0) (by exact E.move (AF_ev rfl hs9)) ?_
  refine RW.soft Wd.a (v := .bool true) (by exact E.eql (k := .i64) (a := 0) (b := 0) (AF_ev rfl tp) rfl) ?_
  refine RW.soft Wd.a (v := .int .i64 a) (by exact E.move (AF_ev rfl (up rfl (up rfl hs0)))) ?_
  refine RW.soft Wd.a (v := .bool true) (by exact E.b (a := decide (a > 0)) (E.gtr (k := .i64) (a := a) (b := 0) (AF_ev rfl tp) rfl) (by rw [decide_eq_true_eq]; omega)) ?_
  refine RW.soft Wd.a (v := .bool false) (by exact E.neqB (a := true) (b := true) Try.underlying4 (AF_ev rfl (up rfl (up rfl tp))) (AF_ev rfl tp)) ?_
  refine RW.soft Wd.a (v := .bool false) (by exact E.move (AF_ev rfl tp)) ?_
  refine RW.soft (by exact Wd.yes (x := 56) rfl (AF_ev rfl tp)) (v := .bool false) (by exact E.move (AF_ev rfl (up rfl (up rfl (up rfl (up rfl (up rfl (up rfl hs11)))))))) ?_
  refine RW.soft Wd.a (v := .bool false) (by exact E.pickF (AF_ev rfl (up rfl tp)) (AF_ev rfl tp)) ?_
  refine RW.soft Wd.a (v := .bool false) (by exact E.move (AF_ev rfl tp)) ?_
  refine RW.soft (by exact Wd.yes (x := 59) rfl (AF_ev rfl tp)) (v := .int .i64 151) (by exact E.move (AF_ev rfl (up rfl (up rfl (up rfl (up rfl (up rfl (up rfl (up rfl (up rfl (up rfl hs12))))))))))) ?_
  refine RW.soft (by exact Wd.yes (x := 59) rfl (AF_ev rfl (up rfl tp))) (v := .bool false) (by exact E.eql (k := .i64) (a := 151) (b := 0) (AF_ev rfl tp) rfl) ?_
  refine RW.soft (by exact Wd.yes (x := 59) rfl (AF_ev rfl (up rfl (up rfl tp)))) (v := .int .i64 b) (by exact E.move (AF_ev rfl (up rfl (up rfl (up rfl (up rfl (up rfl (up rfl (up rfl (up rfl (up rfl (up rfl (up rfl hs1))))))))))))) ?_
  refine RW.soft (by exact Wd.yes (x := 59) rfl (AF_ev rfl (up rfl (up rfl (up rfl tp))))) (v := .bool false) (by exact E.b (a := decide (b > 0)) (E.gtr (k := .i64) (a := b) (b := 0) (AF_ev rfl tp) rfl) (by rw [decide_eq_false_iff_not]; omega)) ?_
  refine RW.soft (by exact Wd.yes (x := 59) rfl (AF_ev rfl (up rfl (up rfl (up rfl (up rfl tp)))))) (v := .bool false) (by exact E.neqB (a := false) (b := false) Try.underlying4 (AF_ev rfl (up rfl (up rfl tp))) (AF_ev rfl tp)) ?_
  refine RW.soft Wd.a (v := .bool false) (by exact E.pickF (AF_ev rfl (up rfl (up rfl (up rfl (up rfl (up rfl tp)))))) (AF_ev rfl tp)) ?_
  refine RW.soft Wd.a (v := .bool false) (by exact E.move (AF_ev rfl tp)) ?_
  refine RW.soft (by exact Wd.yes (x := 66) rfl (AF_ev rfl tp)) (v := .int .i64 0) (by exact E.move (AF_ev rfl (up rfl (up rfl (up rfl (up rfl (up rfl (up rfl (up rfl (up rfl (up rfl (up rfl (up rfl (up rfl (up rfl (up rfl (up rfl (up rfl hs13)))))))))))))))))) ?_
  refine RW.soft (by exact Wd.yes (x := 66) rfl (AF_ev rfl (up rfl tp))) (v := .bool false) (by exact E.neq (k := .i64) (a := 0) (b := 0) (AF_ev rfl tp) rfl) ?_
  refine RW.soft Wd.a (v := .bool false) (by exact E.pickF (AF_ev rfl (up rfl (up rfl tp))) (AF_ev rfl tp)) ?_
  refine RW.fin (fun τ => τ 0 = .int .i64 a ∧ τ 1 = .int .i64 b ∧ τ 2 = .agg #[.int .i64 c0, .int .i64 c1, .int .i64 c2, .slice X ns.length c] ∧ τ 5 = .pointer (some ⟨b1, 0, none⟩) ∧ τ 6 = .bool false ∧ τ 7 = .bool true ∧ τ 8 = .pointer (some ⟨t2, 0, none⟩) ∧ τ 9 = .int .i64 0 ∧ τ 11 = .bool false ∧ τ 12 = .int .i64 151 ∧ τ 13 = .int .i64 0 ∧ τ 14 = .pointer (some ⟨b10, 0, none⟩) ∧ τ 15 = .bool true ∧ τ 16 = .int .i64 0 ∧ τ 25 = .bool false ∧ τ 69 = .bool false) ⟨up rfl (up rfl (up rfl (up rfl (up rfl (up rfl (up rfl (up rfl (up rfl (up rfl (up rfl (up rfl (up rfl (up rfl (up rfl (up rfl (up rfl (up rfl (up rfl hs0)))))))))))))))))), up rfl (up rfl (up rfl (up rfl (up rfl (up rfl (up rfl (up rfl (up rfl (up rfl (up rfl (up rfl (up rfl (up rfl (up rfl (up rfl (up rfl (up rfl (up rfl hs1)))))))))))))))))), up rfl (up rfl (up rfl (up rfl (up rfl (up rfl (up rfl (up rfl (up rfl (up rfl (up rfl (up rfl (up rfl (up rfl (up rfl (up rfl (up rfl (up rfl (up rfl hs2)))))))))))))))))), up rfl (up rfl (up rfl (up rfl (up rfl (up rfl (up rfl (up rfl (up rfl (up rfl (up rfl (up rfl (up rfl (up rfl (up rfl (up rfl (up rfl (up rfl (up rfl hs5)))))))))))))))))), up rfl (up rfl (up rfl (up rfl (up rfl (up rfl (up rfl (up rfl (up rfl (up rfl (up rfl (up rfl (up rfl (up rfl (up rfl (up rfl (up rfl (up rfl (up rfl hs6)))))))))))))))))), up rfl (up rfl (up rfl (up rfl (up rfl (up rfl (up rfl (up rfl (up rfl (up rfl (up rfl (up rfl (up rfl (up rfl (up rfl (up rfl (up rfl (up rfl (up rfl hs7)))))))))))))))))), up rfl (up rfl (up rfl (up rfl (up rfl (up rfl (up rfl (up rfl (up rfl (up rfl (up rfl (up rfl (up rfl (up rfl (up rfl (up rfl (up rfl (up rfl (up rfl hs8)))))))))))))))))), up rfl (up rfl (up rfl (up rfl (up rfl (up rfl (up rfl (up rfl (up rfl (up rfl (up rfl (up rfl (up rfl (up rfl (up rfl (up rfl (up rfl (up rfl (up rfl hs9)))))))))))))))))), up rfl (up rfl (up rfl (up rfl (up rfl (up rfl (up rfl (up rfl (up rfl (up rfl (up rfl (up rfl (up rfl (up rfl (up rfl (up rfl (up rfl (up rfl (up rfl hs11)))))))))))))))))), up rfl (up rfl (up rfl (up rfl (up rfl (up rfl (up rfl (up rfl (up rfl (up rfl (up rfl (up rfl (up rfl (up rfl (up rfl (up rfl (up rfl (up rfl (up rfl hs12)))))))))))))))))), up rfl (up rfl (up rfl (up rfl (up rfl (up rfl (up rfl (up rfl (up rfl (up rfl (up rfl (up rfl (up rfl (up rfl (up rfl (up rfl (up rfl (up rfl (up rfl hs13)))))))))))))))))), up rfl (up rfl (up rfl (up rfl (up rfl (up rfl (up rfl (up rfl (up rfl (up rfl (up rfl (up rfl (up rfl (up rfl (up rfl (up rfl (up rfl (up rfl (up rfl hs14)))))))))))))))))), up rfl (up rfl (up rfl (up rfl (up rfl (up rfl (up rfl (up rfl (up rfl (up rfl (up rfl (up rfl (up rfl (up rfl (up rfl (up rfl (up rfl (up rfl (up rfl hs15)))))))))))))))))), up rfl (up rfl (up rfl (up rfl (up rfl (up rfl (up rfl (up rfl (up rfl (up rfl (up rfl (up rfl (up rfl (up rfl (up rfl (up rfl (up rfl (up rfl (up rfl hs16)))))))))))))))))), up rfl (up rfl (up rfl (up rfl (up rfl (up rfl (up rfl (up rfl (up rfl (up rfl (up rfl (up rfl (up rfl (up rfl (up rfl (up rfl (up rfl (up rfl (up rfl hs25)))))))))))))))))), tp⟩ ?_
  rintro τ ⟨hs0, hs1, hs2, hs5, hs6, hs7, hs8, hs9, hs11, hs12, hs13, hs14, hs15, hs16, hs25, hs69⟩
  refine CW.condF (AF_ev rfl hs69) ?_
  refine CW.skip ?_
  refine Th.n ?_
  refine CW.seq ?_
  refine CW.seq ?_
  refine CW.region ?_
  refine RW.soft Wd.a (v := .int .i64 a) (by exact E.move (AF_ev rfl hs0)) ?_
  refine RW.soft Wd.a (v := .bool false) (by exact E.b (a := decide (a ≤ 0)) (E.leq (k := .i64) (a := a) (b := 0) (AF_ev rfl tp) rfl) (by rw [decide_eq_false_iff_not]; omega)) ?_
  refine RW.fin (fun τ => τ 0 = .int .i64 a ∧ τ 1 = .int .i64 b ∧ τ 2 = .agg #[.int .i64 c0, .int .i64 c1, .int .i64 c2, .slice X ns.length c] ∧ τ 5 = .pointer (some ⟨b1, 0, none⟩) ∧ τ 6 = .bool false ∧ τ 7 = .bool true ∧ τ 8 = .pointer (some ⟨t2, 0, none⟩) ∧ τ 9 = .int .i64 0 ∧ τ 11 = .bool false ∧ τ 12 = .int .i64 151 ∧ τ 13 = .int .i64 0 ∧ τ 14 = .pointer (some ⟨b10, 0, none⟩) ∧ τ 15 = .bool true ∧ τ 16 = .int .i64 0 ∧ τ 25 = .bool false ∧ τ 69 = .bool false ∧ τ 71 = .bool false) ⟨up rfl (up rfl hs0), up rfl (up rfl hs1), up rfl (up rfl hs2), up rfl (up rfl hs5), up rfl (up rfl hs6), up rfl (up rfl hs7), up rfl (up rfl hs8), up rfl (up rfl hs9), up rfl (up rfl hs11), up rfl (up rfl hs12), up rfl (up rfl hs13), up rfl (up rfl hs14), up rfl (up rfl hs15), up rfl (up rfl hs16), up rfl (up rfl hs25), up rfl (up rfl hs69), tp⟩ ?_
  rintro τ ⟨hs0, hs1, hs2, hs5, hs6, hs7, hs8, hs9, hs11, hs12, hs13, hs14, hs15, hs16, hs25, hs69, hs71⟩
  refine CW.condF (AF_ev rfl hs71) ?_
  refine CW.skip ?_
  refine Th.n ?_
  refine CW.seq ?_
  refine CW.regionD [0, 1, 4] (fun w => (∀ j v, ([.int .i64 c0, .int .i64 c1, .int .i64 c2, .slice X8 ((ns.take 100).length) c9] : List Value)[j]? = some v → w.cell? ⟨b10, 0 + j, none⟩ = some v) ∧ (∀ j v, ([.int .i64 c0, .int .i64 c1, .int .i64 c2, .slice X ns.length c] : List Value)[j]? = some v → w.cell? ⟨b1, 0 + j, none⟩ = some v)) mixed ?_
  have hst := hst.drew
  generalize w.drew = w at hst ⊢
  have hS : (∀ j v, ([.int .i64 c0, .int .i64 c1, .int .i64 c2, .slice X8 ((ns.take 100).length) c9] : List Value)[j]? = some v → w.cell? ⟨b10, 0 + j, none⟩ = some v) ∧ (∀ j v, ([.int .i64 c0, .int .i64 c1, .int .i64 c2, .slice X ns.length c] : List Value)[j]? = some v → w.cell? ⟨b1, 0 + j, none⟩ = some v) := ⟨hst.cellsIn .here rfl, hst.cellsIn (.there (.there (.there (.there (.there (.there (.there .here))))))) rfl⟩
  refine RD.take 0 rfl (by kernel_rfl) Wd.a (v := .agg #[.int .i64 c0, .int .i64 c1, .int .i64 c2, .slice X8 ((ns.take 100).length) c9]) (fun w hS => by exact E.loadN (b := b10) (o := 0) (cs := [.int .i64 c0, .int .i64 c1, .int .i64 c2, .slice X8 ((ns.take 100).length) c9]) Try.underlying29 rfl sz29 (AF_ev rfl hs14) rfl hS.1) hS ?_
  refine RD.take 1 rfl (by kernel_rfl) Wd.a (v := .agg #[.int .i64 c0, .int .i64 c1, .int .i64 c2, .slice X ns.length c]) (fun w hS => by exact E.loadN (b := b1) (o := 0) (cs := [.int .i64 c0, .int .i64 c1, .int .i64 c2, .slice X ns.length c]) Try.underlying29 rfl sz29 (AF_ev rfl (up rfl hs5)) rfl hS.2) hS ?_
  have hst := hst.take (.there (.there (.there (.there (.there (.there .here))))))
  refine RD.only 2 rfl (by kernel_rfl) Wd.a ?_
  refine H.call0 Try.func22 nm22 rfl (map1 (AF_ev rfl tp)) (Calls.mono (law15_own_ (A := Emp) (fun w H s => hL.src s) c0 c1 c2 hst) ?_)
  rintro _ w ⟨vX11, rfl, hnX11, hst⟩
  obtain ⟨X11, c12, rfl, hcX11, hmX11, hlX11, hbX11⟩ := hst.shape
  refine ⟨_, rfl, ?_⟩
  have hS : (∀ j v, ([.int .i64 c0, .int .i64 c1, .int .i64 c2, .slice X8 ((ns.take 100).length) c9] : List Value)[j]? = some v → w.cell? ⟨b10, 0 + j, none⟩ = some v) ∧ (∀ j v, ([.int .i64 c0, .int .i64 c1, .int .i64 c2, .slice X ns.length c] : List Value)[j]? = some v → w.cell? ⟨b1, 0 + j, none⟩ = some v) := ⟨hst.cellsIn (.there (.there .here)) rfl, hst.cellsIn (.there (.there (.there (.there (.there (.there (.there (.there .here)))))))) rfl⟩
  refine ⟨fun _ => hS, ?_⟩
  have hst := hst.take (.there (.there (.there .here)))
  refine RD.only 3 rfl (by kernel_rfl) Wd.a ?_
  refine H.call0 Try.func23 nm23 rfl (map2 (AF_ev rfl (up rfl (up rfl tp))) (AF_ev rfl tp)) (Calls.mono (same_true (ref_SameReply (A := Own 5 1 (.slice X8 ((ns.take 100).length) c9) ((ns.take 100).length) (bv (ns.take 100))) (B := Own 5 1 (.slice X11 ((ns.take 100).length) c12) ((ns.take 100).length) (bv (ns.take 100))) (fun w H s => Own.src s) (fun w H s => Own.src s) c0 c1 c2 c0 c1 c2 hst)) ?_)
  rintro _ w ⟨rfl, hst⟩
  refine ⟨_, rfl, ?_⟩
  have hS : (∀ j v, ([.int .i64 c0, .int .i64 c1, .int .i64 c2, .slice X8 ((ns.take 100).length) c9] : List Value)[j]? = some v → w.cell? ⟨b10, 0 + j, none⟩ = some v) ∧ (∀ j v, ([.int .i64 c0, .int .i64 c1, .int .i64 c2, .slice X ns.length c] : List Value)[j]? = some v → w.cell? ⟨b1, 0 + j, none⟩ = some v) := ⟨hst.cellsIn (.there (.there (.there .here))) rfl, hst.cellsIn (.there (.there (.there (.there (.there (.there (.there (.there .here)))))))) rfl⟩
  refine ⟨fun _ => hS, ?_⟩
  refine RD.take 4 rfl (by kernel_rfl) Wd.a (v := .bool true) (fun w hS => by exact E.assign (AF_ev rfl tp)) hS ?_
  refine RD.fin (by kernel_rfl) (fun τ => τ 0 = .int .i64 a ∧ τ 1 = .int .i64 b ∧ τ 2 = .agg #[.int .i64 c0, .int .i64 c1, .int .i64 c2, .slice X ns.length c] ∧ τ 5 = .pointer (some ⟨b1, 0, none⟩) ∧ τ 6 = .bool false ∧ τ 7 = .bool true ∧ τ 8 = .pointer (some ⟨t2, 0, none⟩) ∧ τ 9 = .int .i64 0 ∧ τ 11 = .bool false ∧ τ 12 = .int .i64 151 ∧ τ 13 = .int .i64 0 ∧ τ 14 = .pointer (some ⟨b10, 0, none⟩) ∧ τ 15 = .bool true ∧ τ 16 = .int .i64 0 ∧ τ 17 = .bool true ∧ τ 25 = .bool false ∧ τ 69 = .bool false ∧ τ 71 = .bool false) ⟨up rfl (up rfl (up rfl (up rfl (up rfl hs0)))), up rfl (up rfl (up rfl (up rfl (up rfl hs1)))), up rfl (up rfl (up rfl (up rfl (up rfl hs2)))), up rfl (up rfl (up rfl (up rfl (up rfl hs5)))), up rfl (up rfl (up rfl (up rfl (up rfl hs6)))), up rfl (up rfl (up rfl (up rfl (up rfl hs7)))), up rfl (up rfl (up rfl (up rfl (up rfl hs8)))), up rfl (up rfl (up rfl (up rfl (up rfl hs9)))), up rfl (up rfl (up rfl (up rfl (up rfl hs11)))), up rfl (up rfl (up rfl (up rfl (up rfl hs12)))), up rfl (up rfl (up rfl (up rfl (up rfl hs13)))), up rfl (up rfl (up rfl (up rfl (up rfl hs14)))), up rfl (up rfl (up rfl (up rfl (up rfl hs15)))), up rfl (up rfl (up rfl (up rfl (up rfl hs16)))), tp, up rfl (up rfl (up rfl (up rfl (up rfl hs25)))), up rfl (up rfl (up rfl (up rfl (up rfl hs69)))), up rfl (up rfl (up rfl (up rfl (up rfl hs71))))⟩ ?_
  rintro τ ⟨hs0, hs1, hs2, hs5, hs6, hs7, hs8, hs9, hs11, hs12, hs13, hs14, hs15, hs16, hs17, hs25, hs69, hs71⟩
  refine CW.seq ?_
  refine CW.region ?_
  refine RW.soft Wd.a (v := .bool true) (by exact E.move (AF_ev rfl hs15)) ?_
  refine RW.soft Wd.a (v := .bool true) (by exact E.move (AF_ev rfl tp)) ?_
  refine RW.soft (by exact Wd.yes (x := 83) rfl (AF_ev rfl tp)) (v := .int .i64 0) (by exact E.move (AF_ev rfl (up rfl (up rfl hs16)))) ?_
  refine RW.soft (by exact Wd.yes (x := 83) rfl (AF_ev rfl (up rfl tp))) (v := .bool true) (by exact E.eql (k := .i64) (a := 0) (b := 0) (AF_ev rfl tp) rfl) ?_
  refine RW.soft Wd.a (v := .bool true) (by exact E.pickT (AF_ev rfl (up rfl (up rfl tp))) (AF_ev rfl tp)) ?_
  refine RW.soft Wd.a (v := .bool true) (by exact E.move (AF_ev rfl tp)) ?_
  refine RW.soft (by exact Wd.yes (x := 87) rfl (AF_ev rfl tp)) (v := .bool true) (by exact E.move (AF_ev rfl (up rfl (up rfl (up rfl (up rfl (up rfl (up rfl hs17)))))))) ?_
  refine RW.soft Wd.a (v := .bool true) (by exact E.pickT (AF_ev rfl (up rfl tp)) (AF_ev rfl tp)) ?_
  refine RW.soft Wd.a (v := .bool true) (by exact E.assign (AF_ev rfl tp)) ?_
  refine RW.fin (fun τ => τ 0 = .int .i64 a ∧ τ 1 = .int .i64 b ∧ τ 2 = .agg #[.int .i64 c0, .int .i64 c1, .int .i64 c2, .slice X ns.length c] ∧ τ 5 = .pointer (some ⟨b1, 0, none⟩) ∧ τ 6 = .bool true ∧ τ 7 = .bool true ∧ τ 8 = .pointer (some ⟨t2, 0, none⟩) ∧ τ 9 = .int .i64 0 ∧ τ 11 = .bool false ∧ τ 12 = .int .i64 151 ∧ τ 13 = .int .i64 0 ∧ τ 14 = .pointer (some ⟨b10, 0, none⟩) ∧ τ 15 = .bool true ∧ τ 16 = .int .i64 0 ∧ τ 17 = .bool true ∧ τ 25 = .bool false ∧ τ 69 = .bool false ∧ τ 71 = .bool false) ⟨up rfl (up rfl (up rfl (up rfl (up rfl (up rfl (up rfl (up rfl (up rfl hs0)))))))), up rfl (up rfl (up rfl (up rfl (up rfl (up rfl (up rfl (up rfl (up rfl hs1)))))))), up rfl (up rfl (up rfl (up rfl (up rfl (up rfl (up rfl (up rfl (up rfl hs2)))))))), up rfl (up rfl (up rfl (up rfl (up rfl (up rfl (up rfl (up rfl (up rfl hs5)))))))), tp, up rfl (up rfl (up rfl (up rfl (up rfl (up rfl (up rfl (up rfl (up rfl hs7)))))))), up rfl (up rfl (up rfl (up rfl (up rfl (up rfl (up rfl (up rfl (up rfl hs8)))))))), up rfl (up rfl (up rfl (up rfl (up rfl (up rfl (up rfl (up rfl (up rfl hs9)))))))), up rfl (up rfl (up rfl (up rfl (up rfl (up rfl (up rfl (up rfl (up rfl hs11)))))))), up rfl (up rfl (up rfl (up rfl (up rfl (up rfl (up rfl (up rfl (up rfl hs12)))))))), up rfl (up rfl (up rfl (up rfl (up rfl (up rfl (up rfl (up rfl (up rfl hs13)))))))), up rfl (up rfl (up rfl (up rfl (up rfl (up rfl (up rfl (up rfl (up rfl hs14)))))))), up rfl (up rfl (up rfl (up rfl (up rfl (up rfl (up rfl (up rfl (up rfl hs15)))))))), up rfl (up rfl (up rfl (up rfl (up rfl (up rfl (up rfl (up rfl (up rfl hs16)))))))), up rfl (up rfl (up rfl (up rfl (up rfl (up rfl (up rfl (up rfl (up rfl hs17)))))))), up rfl (up rfl (up rfl (up rfl (up rfl (up rfl (up rfl (up rfl (up rfl hs25)))))))), up rfl (up rfl (up rfl (up rfl (up rfl (up rfl (up rfl (up rfl (up rfl hs69)))))))), up rfl (up rfl (up rfl (up rfl (up rfl (up rfl (up rfl (up rfl (up rfl hs71))))))))⟩ ?_
  rintro τ ⟨hs0, hs1, hs2, hs5, hs6, hs7, hs8, hs9, hs11, hs12, hs13, hs14, hs15, hs16, hs17, hs25, hs69, hs71⟩
  refine CW.ret ?_
  refine ret1 (v := .bool true) rfl (by exact (.tmp (AF_ev rfl hs6) .nil)) ?_
  have hst := hst.drop
  have hst := hst.drop
  have hst := hst.drop
  have hst := hst.drop
  have hst := hst.drop
  have hst := hst.drop
  have hst := hst.drop
  have hst := hst.drop
  have hst := hst.drop
  exact ⟨p, hp0, rfl, hst⟩

theorem apart_01 {p : Pers} {w : World} {R : List Assn} {p0 : Pers} {X : Option Addr} {c : Nat} {ns : List Int} (a b c0 c1 c2 : Int) (hL : Las p 1 (.slice X ns.length c) ns.length (bv ns)) (hp0 : p0.le p) (ha : a ≤ 0) (hbb : 0 < b) (hst : St p w (Emp :: R)) :
    Calls Try.prog 4 #[.int .i64 a, .int .i64 b, .agg #[.int .i64 c0, .int .i64 c1, .int .i64 c2, .slice X ns.length c]] w fun e w => ∃ q, p0.le q ∧ e = .returned (.bool true) ∧ St q w R := by
  refine enter Try.func4 rfl (by simp) (n := 90) rfl fun τ hτ => ?_
  have hs0 : τ 0 = .int .i64 a := hτ 0 (by simp)
  have hs1 : τ 1 = .int .i64 b := hτ 1 (by simp)
  have hs2 : τ 2 = .agg #[.int .i64 c0, .int .i64 c1, .int .i64 c2, .slice X ns.length c] := hτ 2 (by simp)
  clear hτ
  refine CW.seq ?_
  refine CW.region ?_
  refine RW.hard Wd.a ?_
  refine H.box (v := .agg #[.int .i64 c0, .int .i64 c1, .int .i64 c2, .slice X ns.length c]) (AF_ev rfl hs2) hst fun b1 w hst => ?_
  refine RW.soft Wd.a (v := .bool false) (by exact E.assign rfl) ?_
  refine RW.fin (fun τ => τ 0 = .int .i64 a ∧ τ 1 = .int .i64 b ∧ τ 2 = .agg #[.int .i64 c0, .int .i64 c1, .int .i64 c2, .slice X ns.length c] ∧ τ 5 = .pointer (some ⟨b1, 0, none⟩) ∧ τ 6 = .bool false) ⟨up rfl (up rfl hs0), up rfl (up rfl hs1), up rfl (up rfl hs2), up rfl tp, tp⟩ ?_
  rintro τ ⟨hs0, hs1, hs2, hs5, hs6⟩
  refine CW.seq ?_
  refine CW.region ?_
  refine RW.hard Wd.a ?_
  refine H.call0 Try.func15 nm15 rfl map0 (Calls.mono (law15_shown hst) ?_)
  rintro _ w ⟨p, hle, rfl, hst⟩
  have hL := hL.le hle
  have hp0 := hp0.le hle
  refine ⟨_, rfl, ?_⟩
  show RW _ _ _ _ _ _ _
  refine RW.soft Wd.a (v := .bool true) (by exact E.assign (AF_ev rfl tp)) ?_
  refine RW.fin (fun τ => τ 0 = .int .i64 a ∧ τ 1 = .int .i64 b ∧ τ 2 = .agg #[.int .i64 c0, .int .i64 c1, .int .i64 c2, .slice X ns.length c] ∧ τ 5 = .pointer (some ⟨b1, 0, none⟩) ∧ τ 6 = .bool false ∧ τ 7 = .bool true) ⟨up rfl (up rfl hs0), up rfl (up rfl hs1), up rfl (up rfl hs2), up rfl (up rfl hs5), up rfl (up rfl hs6), tp⟩ ?_
  rintro τ ⟨hs0, hs1, hs2, hs5, hs6, hs7⟩
  refine CW.seq ?_
  refine CW.region ?_
  refine RW.hard Wd.a ?_
  refine H.call0 Try.func16 nm16 rfl map0 (Calls.mono (New_L hst) ?_)
  rintro _ w ⟨t2, rfl, hst⟩
  refine ⟨_, rfl, ?_⟩
  show RW _ _ _ _ _ _ _
  refine RW.soft Wd.a (v := .pointer (some ⟨t2, 0, none⟩)) (by exact E.assign (AF_ev rfl tp)) ?_
  refine RW.fin (fun τ => τ 0 = .int .i64 a ∧ τ 1 = .int .i64 b ∧ τ 2 = .agg #[.int .i64 c0, .int .i64 c1, .int .i64 c2, .slice X ns.length c] ∧ τ 5 = .pointer (some ⟨b1, 0, none⟩) ∧ τ 6 = .bool false ∧ τ 7 = .bool true ∧ τ 8 = .pointer (some ⟨t2, 0, none⟩)) ⟨up rfl (up rfl hs0), up rfl (up rfl hs1), up rfl (up rfl hs2), up rfl (up rfl hs5), up rfl (up rfl hs6), up rfl (up rfl hs7), tp⟩ ?_
  rintro τ ⟨hs0, hs1, hs2, hs5, hs6, hs7, hs8⟩
  refine CW.seq ?_
  refine CW.seq ?_
  refine CW.region ?_
  refine RW.soft Wd.a (v := .bool true) (by exact E.move (AF_ev rfl hs7)) ?_
  refine RW.soft Wd.a (v := .bool false) (by exact E.not (b := true) (AF_ev rfl tp)) ?_
  refine RW.soft Wd.a (v := .bool false) (by exact E.move (AF_ev rfl tp)) ?_
  refine RW.soft (by exact Wd.yes (x := 22) rfl (AF_ev rfl tp)) (v := .pointer (some ⟨t2, 0, none⟩)) (by exact E.move (AF_ev rfl (up rfl (up rfl (up rfl hs8))))) ?_
  refine RW.soft (by exact Wd.yes (x := 22) rfl (AF_ev rfl (up rfl tp))) (v := .bool false) (by exact E.eqlP (p := (some ⟨t2, 0, none⟩)) Try.underlying24 (AF_ev rfl tp) rfl) ?_
  refine RW.soft Wd.a (v := .bool false) (by exact E.pickF (AF_ev rfl (up rfl (up rfl tp))) (AF_ev rfl tp)) ?_
  refine RW.fin (fun τ => τ 0 = .int .i64 a ∧ τ 1 = .int .i64 b ∧ τ 2 = .agg #[.int .i64 c0, .int .i64 c1, .int .i64 c2, .slice X ns.length c] ∧ τ 5 = .pointer (some ⟨b1, 0, none⟩) ∧ τ 6 = .bool false ∧ τ 7 = .bool true ∧ τ 8 = .pointer (some ⟨t2, 0, none⟩) ∧ τ 25 = .bool false) ⟨up rfl (up rfl (up rfl (up rfl (up rfl (up rfl hs0))))), up rfl (up rfl (up rfl (up rfl (up rfl (up rfl hs1))))), up rfl (up rfl (up rfl (up rfl (up rfl (up rfl hs2))))), up rfl (up rfl (up rfl (up rfl (up rfl (up rfl hs5))))), up rfl (up rfl (up rfl (up rfl (up rfl (up rfl hs6))))), up rfl (up rfl (up rfl (up rfl (up rfl (up rfl hs7))))), up rfl (up rfl (up rfl (up rfl (up rfl (up rfl hs8))))), tp⟩ ?_
  rintro τ ⟨hs0, hs1, hs2, hs5, hs6, hs7, hs8, hs25⟩
  refine CW.condF (AF_ev rfl hs25) ?_
  refine CW.skip ?_
  refine Th.n ?_
  refine CW.seq ?_
  refine CW.region ?_
  refine RW.soft Wd.a (v := .pointer (some ⟨t2, 0, none⟩)) (by exact E.move (AF_ev rfl hs8)) ?_
  refine RW.hard Wd.a ?_
  refine H.call0 Try.func18 nm18 rfl (map1 (AF_ev rfl tp)) (Calls.mono (Open_C (L' := [(1, 0, ⟨0, 0, 0, []⟩)]) (n' := 2) (a := 1) (e := 0) (by rfl) (by rfl) (by rfl) (by rfl) (by decide) hst) ?_)
  rintro _ w ⟨rfl, hst⟩
  refine ⟨_, rfl, ?_⟩
  show RW _ _ _ _ _ _ _
  refine RW.fin (fun τ => τ 0 = .int .i64 a ∧ τ 1 = .int .i64 b ∧ τ 2 = .agg #[.int .i64 c0, .int .i64 c1, .int .i64 c2, .slice X ns.length c] ∧ τ 5 = .pointer (some ⟨b1, 0, none⟩) ∧ τ 6 = .bool false ∧ τ 7 = .bool true ∧ τ 8 = .pointer (some ⟨t2, 0, none⟩) ∧ τ 25 = .bool false) ⟨up rfl (up rfl hs0), up rfl (up rfl hs1), up rfl (up rfl hs2), up rfl (up rfl hs5), up rfl (up rfl hs6), up rfl (up rfl hs7), up rfl (up rfl hs8), up rfl (up rfl hs25)⟩ ?_
  rintro τ ⟨hs0, hs1, hs2, hs5, hs6, hs7, hs8, hs25⟩
  refine CW.seq ?_
  refine CW.region ?_
  refine RW.soft Wd.a (v := .pointer (some ⟨t2, 0, none⟩)) (by exact E.move (AF_ev rfl hs8)) ?_
  refine RW.hard Wd.a ?_
  refine H.call0 Try.func18 nm18 rfl (map1 (AF_ev rfl tp)) (Calls.mono (Open_C (L' := [(1, 0, ⟨0, 0, 0, []⟩), (2, 0, ⟨0, 0, 0, []⟩)]) (n' := 3) (a := 2) (e := 0) (by rfl) (by rfl) (by rfl) (by rfl) (by decide) hst) ?_)
  rintro _ w ⟨rfl, hst⟩
  refine ⟨_, rfl, ?_⟩
  show RW _ _ _ _ _ _ _
  refine RW.fin (fun τ => τ 0 = .int .i64 a ∧ τ 1 = .int .i64 b ∧ τ 2 = .agg #[.int .i64 c0, .int .i64 c1, .int .i64 c2, .slice X ns.length c] ∧ τ 5 = .pointer (some ⟨b1, 0, none⟩) ∧ τ 6 = .bool false ∧ τ 7 = .bool true ∧ τ 8 = .pointer (some ⟨t2, 0, none⟩) ∧ τ 25 = .bool false) ⟨up rfl (up rfl hs0), up rfl (up rfl hs1), up rfl (up rfl hs2), up rfl (up rfl hs5), up rfl (up rfl hs6), up rfl (up rfl hs7), up rfl (up rfl hs8), up rfl (up rfl hs25)⟩ ?_
  rintro τ ⟨hs0, hs1, hs2, hs5, hs6, hs7, hs8, hs25⟩
  refine CW.seq ?_
  refine CW.region ?_
  refine RW.soft Wd.a (v := .pointer (some ⟨t2, 0, none⟩)) (by exact E.move (AF_ev rfl hs8)) ?_
  refine RW.soft Wd.a (v := .int .i64 a) (by exact E.move (AF_ev rfl (up rfl hs0))) ?_
  refine RW.soft Wd.a (v := .agg #[.int .i64 c0, .int .i64 c1, .int .i64 c2, .slice X ns.length c]) (by exact E.loadN (b := b1) (o := 0) (cs := [.int .i64 c0, .int .i64 c1, .int .i64 c2, .slice X ns.length c]) Try.underlying29 rfl sz29 (AF_ev rfl (up rfl (up rfl hs5))) rfl (hst.cellsIn (.there .here) rfl)) ?_
  have hst := hst.take (.there (.there .here))
  refine RW.hard Wd.a ?_
  refine H.call0 Try.func22 nm22 rfl (map1 (AF_ev rfl tp)) (Calls.mono (law15_own_ (A := Emp) (fun w H s => hL.src s) c0 c1 c2 hst) ?_)
  rintro _ w ⟨vX3, rfl, hnX3, hst⟩
  obtain ⟨X3, c4, rfl, hcX3, hmX3, hlX3, hbX3⟩ := hst.shape
  refine ⟨_, rfl, ?_⟩
  show RW _ _ _ _ _ _ _
  have hst := hst.take (.there (.there .here))
  refine RW.hard Wd.a ?_
  refine H.call0 Try.func21 nm21 rfl (map4 (AF_ev rfl (up rfl (up rfl (up rfl tp)))) rfl (AF_ev rfl (up rfl (up rfl tp))) (AF_ev rfl tp)) (Calls.mono (Done_C (A := Own 5 1 (.slice X3 ((ns.take 100).length) c4) ((ns.take 100).length) (bv (ns.take 100))) (Y := X3) (d := c4) (L' := [(1, 0, ⟨0, 0, 0, []⟩), (2, 0, ⟨0, 0, 0, []⟩)]) (e := 151) 1 a c0 c1 c2 (ns.take 100) (by show (if a ≤ 0 then _ else _) = _; rw [if_pos (by omega)]) (by show (if a ≤ 0 then _ else _) = _; rw [if_pos (by omega)]) (fun w H s => Own.src s) (by first | omega | (simp; done) | (simp; omega)) hst) ?_)
  rintro _ w ⟨p, hle, rfl, hst⟩
  have hL := hL.le hle
  have hp0 := hp0.le hle
  refine ⟨_, rfl, ?_⟩
  show RW _ _ _ _ _ _ _
  refine RW.soft Wd.a (v := .int .i64 151) (by exact E.assign (AF_ev rfl tp)) ?_
  refine RW.fin (fun τ => τ 0 = .int .i64 a ∧ τ 1 = .int .i64 b ∧ τ 2 = .agg #[.int .i64 c0, .int .i64 c1, .int .i64 c2, .slice X ns.length c] ∧ τ 5 = .pointer (some ⟨b1, 0, none⟩) ∧ τ 6 = .bool false ∧ τ 7 = .bool true ∧ τ 8 = .pointer (some ⟨t2, 0, none⟩) ∧ τ 9 = .int .i64 151 ∧ τ 25 = .bool false) ⟨up rfl (up rfl (up rfl (up rfl (up rfl (up rfl hs0))))), up rfl (up rfl (up rfl (up rfl (up rfl (up rfl hs1))))), up rfl (up rfl (up rfl (up rfl (up rfl (up rfl hs2))))), up rfl (up rfl (up rfl (up rfl (up rfl (up rfl hs5))))), up rfl (up rfl (up rfl (up rfl (up rfl (up rfl hs6))))), up rfl (up rfl (up rfl (up rfl (up rfl (up rfl hs7))))), up rfl (up rfl (up rfl (up rfl (up rfl (up rfl hs8))))), tp, up rfl (up rfl (up rfl (up rfl (up rfl (up rfl hs25)))))⟩ ?_
  rintro τ ⟨hs0, hs1, hs2, hs5, hs6, hs7, hs8, hs9, hs25⟩
  refine CW.seq ?_
  refine CW.region ?_
  refine RW.soft Wd.a (v := .pointer (some ⟨t2, 0, none⟩)) (by exact E.move (AF_ev rfl hs8)) ?_
  refine RW.soft Wd.a (v := .int .i64 b) (by exact E.move (AF_ev rfl (up rfl hs1))) ?_
  refine RW.hard Wd.a ?_
  refine H.call0 Try.func20 nm20 rfl (map3 (AF_ev rfl (up rfl tp)) rfl (AF_ev rfl tp)) (Calls.mono (Ask_C (r := ⟨0, 0, 0, []⟩) (sn := false) (e := 0) 2 b (by show (if b < max 1 0 then _ else if b = 0 then _ else _) = _; rw [if_neg (by omega), if_neg (by omega)] <;> rfl) (by show (if b < max 1 0 then _ else decide (b = 0)) = _; rw [if_neg (by omega), decide_eq_false_iff_not]; omega) (by show (if b < max 1 0 then _ else _) = _; rw [if_neg (by omega)]) hst) ?_)
  rintro _ w ⟨vX5, rfl, hbX5, hst⟩
  obtain ⟨X5, c6, rfl, hcX5, hmX5, hlX5, hbbX5⟩ := hst.shape
  refine ⟨_, rfl, ?_⟩
  show RW _ _ _ _ _ _ _
  refine RW.soft Wd.a (v := .tuple #[.agg #[.int .i64 0, .int .i64 0, .int .i64 0, .slice X5 0 c6], .bool false, .int .i64 0]) (by exact E.move (AF_ev rfl tp)) ?_
  refine RW.soft Wd.a (v := .agg #[.int .i64 0, .int .i64 0, .int .i64 0, .slice X5 0 c6]) (by exact E.extract (vs := #[.agg #[.int .i64 0, .int .i64 0, .int .i64 0, .slice X5 0 c6], .bool false, .int .i64 0]) (AF_ev rfl tp) rfl) ?_
  refine RW.soft Wd.a (v := .bool false) (by exact E.extract (vs := #[.agg #[.int .i64 0, .int .i64 0, .int .i64 0, .slice X5 0 c6], .bool false, .int .i64 0]) (AF_ev rfl (up rfl tp)) rfl) ?_
  refine RW.soft Wd.a (v := .int .i64 0) (by exact E.extract (vs := #[.agg #[.int .i64 0, .int .i64 0, .int .i64 0, .slice X5 0 c6], .bool false, .int .i64 0]) (AF_ev rfl (up rfl (up rfl tp))) rfl) ?_
  refine RW.hard Wd.a ?_
  refine H.alloc zr29 hst fun b7 w hst => ?_
  refine RW.hard Wd.a ?_
  refine H.store (b := b7) (o := 0) (v := .agg #[.int .i64 0, .int .i64 0, .int .i64 0, .slice X5 0 c6]) (c' := #[.int .i64 0, .int .i64 0, .int .i64 0, .slice X5 0 c6]) (AF_ev rfl tp) (AF_ev rfl (up rfl (up rfl (up rfl tp)))) hst .here sz29 (by simp [Value.cells]) (by simp [Value.cells, Value.oneCell']) rfl fun w hst => ?_
  refine RW.soft Wd.a (v := .bool false) (by exact E.assign (AF_ev rfl (u0 (up rfl (up rfl tp))))) ?_
  refine RW.soft Wd.a (v := .int .i64 0) (by exact E.assign (AF_ev rfl (up rfl (u0 (up rfl tp))))) ?_
  refine RW.fin (fun τ => τ 0 = .int .i64 a ∧ τ 1 = .int .i64 b ∧ τ 2 = .agg #[.int .i64 c0, .int .i64 c1, .int .i64 c2, .slice X ns.length c] ∧ τ 5 = .pointer (some ⟨b1, 0, none⟩) ∧ τ 6 = .bool false ∧ τ 7 = .bool true ∧ τ 8 = .pointer (some ⟨t2, 0, none⟩) ∧ τ 9 = .int .i64 151 ∧ τ 11 = .bool false ∧ τ 12 = .int .i64 0 ∧ τ 25 = .bool false) ⟨up rfl (up rfl (u0 (up rfl (up rfl (up rfl (up rfl (up rfl (up rfl (up rfl (up rfl hs0)))))))))), up rfl (up rfl (u0 (up rfl (up rfl (up rfl (up rfl (up rfl (up rfl (up rfl (up rfl hs1)))))))))), up rfl (up rfl (u0 (up rfl (up rfl (up rfl (up rfl (up rfl (up rfl (up rfl (up rfl hs2)))))))))), up rfl (up rfl (u0 (up rfl (up rfl (up rfl (up rfl (up rfl (up rfl (up rfl (up rfl hs5)))))))))), up rfl (up rfl (u0 (up rfl (up rfl (up rfl (up rfl (up rfl (up rfl (up rfl (up rfl hs6)))))))))), up rfl (up rfl (u0 (up rfl (up rfl (up rfl (up rfl (up rfl (up rfl (up rfl (up rfl hs7)))))))))), up rfl (up rfl (u0 (up rfl (up rfl (up rfl (up rfl (up rfl (up rfl (up rfl (up rfl hs8)))))))))), up rfl (up rfl (u0 (up rfl (up rfl (up rfl (up rfl (up rfl (up rfl (up rfl (up rfl hs9)))))))))), up rfl tp, tp, up rfl (up rfl (u0 (up rfl (up rfl (up rfl (up rfl (up rfl (up rfl (up rfl (up rfl hs25))))))))))⟩ ?_
  rintro τ ⟨hs0, hs1, hs2, hs5, hs6, hs7, hs8, hs9, hs11, hs12, hs25⟩
  refine CW.seq ?_
  refine CW.region ?_
  refine RW.soft Wd.a (v := .pointer (some ⟨t2, 0, none⟩)) (by exact E.move (AF_ev rfl hs8)) ?_
  have hst := hst.take (.there (.there .here))
  refine RW.hard Wd.a ?_
  refine H.call0 Try.func19 nm19 rfl (map2 (AF_ev rfl tp) rfl) (Calls.mono (Expire_C (L' := [(1, 0, ⟨0, 0, 0, []⟩)]) (e := 0) 2 (by rfl) (by rfl) hst) ?_)
  rintro _ w ⟨rfl, hst⟩
  refine ⟨_, rfl, ?_⟩
  show RW _ _ _ _ _ _ _
  refine RW.soft Wd.a (v := .int .i64 0) (by exact E.assign (AF_ev rfl tp)) ?_
  refine RW.fin (fun τ => τ 0 = .int .i64 a ∧ τ 1 = .int .i64 b ∧ τ 2 = .agg #[.int .i64 c0, .int .i64 c1, .int .i64 c2, .slice X ns.length c] ∧ τ 5 = .pointer (some ⟨b1, 0, none⟩) ∧ τ 6 = .bool false ∧ τ 7 = .bool true ∧ τ 8 = .pointer (some ⟨t2, 0, none⟩) ∧ τ 9 = .int .i64 151 ∧ τ 11 = .bool false ∧ τ 12 = .int .i64 0 ∧ τ 13 = .int .i64 0 ∧ τ 25 = .bool false) ⟨up rfl (up rfl (up rfl hs0)), up rfl (up rfl (up rfl hs1)), up rfl (up rfl (up rfl hs2)), up rfl (up rfl (up rfl hs5)), up rfl (up rfl (up rfl hs6)), up rfl (up rfl (up rfl hs7)), up rfl (up rfl (up rfl hs8)), up rfl (up rfl (up rfl hs9)), up rfl (up rfl (up rfl hs11)), up rfl (up rfl (up rfl hs12)), tp, up rfl (up rfl (up rfl hs25))⟩ ?_
  rintro τ ⟨hs0, hs1, hs2, hs5, hs6, hs7, hs8, hs9, hs11, hs12, hs13, hs25⟩
  refine CW.seq ?_
  refine CW.region ?_
  refine RW.soft Wd.a (v := .pointer (some ⟨t2, 0, none⟩)) (by exact E.move (AF_ev rfl hs8)) ?_
  refine RW.soft Wd.a (v := .int .i64 a) (by exact E.move (AF_ev rfl (up rfl hs0))) ?_
  refine RW.hard Wd.a ?_
  refine H.call0 Try.func20 nm20 rfl (map3 (AF_ev rfl (up rfl tp)) rfl (AF_ev rfl tp)) (Calls.mono (Ask_C (r := ⟨0, 0, 0, []⟩) (sn := false) (e := 151) 1 a (by show (if a < max 1 0 then _ else if a = 0 then _ else _) = _; rw [if_pos (by omega)] <;> rfl) (by show (if a < max 1 0 then _ else decide (a = 0)) = _; rw [if_pos (by omega)]) (by show (if a < max 1 0 then _ else _) = _; rw [if_pos (by omega)]) hst) ?_)
  rintro _ w ⟨vX8, rfl, hbX8, hst⟩
  obtain ⟨X8, c9, rfl, hcX8, hmX8, hlX8, hbbX8⟩ := hst.shape
  refine ⟨_, rfl, ?_⟩
  show RW _ _ _ _ _ _ _
  refine RW.soft Wd.a (v := .tuple #[.agg #[.int .i64 0, .int .i64 0, .int .i64 0, .slice X8 0 c9], .bool false, .int .i64 151]) (by exact E.move (AF_ev rfl tp)) ?_
  refine RW.soft Wd.a (v := .agg #[.int .i64 0, .int .i64 0, .int .i64 0, .slice X8 0 c9]) (by exact E.extract (vs := #[.agg #[.int .i64 0, .int .i64 0, .int .i64 0, .slice X8 0 c9], .bool false, .int .i64 151]) (AF_ev rfl tp) rfl) ?_
  refine RW.soft Wd.a (v := .bool false) (by exact E.extract (vs := #[.agg #[.int .i64 0, .int .i64 0, .int .i64 0, .slice X8 0 c9], .bool false, .int .i64 151]) (AF_ev rfl (up rfl tp)) rfl) ?_
  refine RW.soft Wd.a (v := .int .i64 151) (by exact E.extract (vs := #[.agg #[.int .i64 0, .int .i64 0, .int .i64 0, .slice X8 0 c9], .bool false, .int .i64 151]) (AF_ev rfl (up rfl (up rfl tp))) rfl) ?_
  refine RW.hard Wd.a ?_
  refine H.alloc zr29 hst fun b10 w hst => ?_
  refine RW.hard Wd.a ?_
  refine H.store (b := b10) (o := 0) (v := .agg #[.int .i64 0, .int .i64 0, .int .i64 0, .slice X8 0 c9]) (c' := #[.int .i64 0, .int .i64 0, .int .i64 0, .slice X8 0 c9]) (AF_ev rfl tp) (AF_ev rfl (up rfl (up rfl (up rfl tp)))) hst .here sz29 (by simp [Value.cells]) (by simp [Value.cells, Value.oneCell']) rfl fun w hst => ?_
  refine RW.soft Wd.a (v := .bool false) (by exact E.assign (AF_ev rfl (u0 (up rfl (up rfl tp))))) ?_
  refine RW.soft Wd.a (v := .int .i64 151) (by exact E.assign (AF_ev rfl (up rfl (u0 (up rfl tp))))) ?_
  refine RW.fin (fun τ => τ 0 = .int .i64 a ∧ τ 1 = .int .i64 b ∧ τ 2 = .agg #[.int .i64 c0, .int .i64 c1, .int .i64 c2, .slice X ns.length c] ∧ τ 5 = .pointer (some ⟨b1, 0, none⟩) ∧ τ 6 = .bool false ∧ τ 7 = .bool true ∧ τ 8 = .pointer (some ⟨t2, 0, none⟩) ∧ τ 9 = .int .i64 151 ∧ τ 11 = .bool false ∧ τ 12 = .int .i64 0 ∧ τ 13 = .int .i64 0 ∧ τ 14 = .pointer (some ⟨b10, 0, none⟩) ∧ τ 15 = .bool false ∧ τ 16 = .int .i64 151 ∧ τ 25 = .bool false) ⟨up rfl (up rfl (u0 (up rfl (up rfl (up rfl (up rfl (up rfl (up rfl (up rfl (up rfl hs0)))))))))), up rfl (up rfl (u0 (up rfl (up rfl (up rfl (up rfl (up rfl (up rfl (up rfl (up rfl hs1)))))))))), up rfl (up rfl (u0 (up rfl (up rfl (up rfl (up rfl (up rfl (up rfl (up rfl (up rfl hs2)))))))))), up rfl (up rfl (u0 (up rfl (up rfl (up rfl (up rfl (up rfl (up rfl (up rfl (up rfl hs5)))))))))), up rfl (up rfl (u0 (up rfl (up rfl (up rfl (up rfl (up rfl (up rfl (up rfl (up rfl hs6)))))))))), up rfl (up rfl (u0 (up rfl (up rfl (up rfl (up rfl (up rfl (up rfl (up rfl (up rfl hs7)))))))))), up rfl (up rfl (u0 (up rfl (up rfl (up rfl (up rfl (up rfl (up rfl (up rfl (up rfl hs8)))))))))), up rfl (up rfl (u0 (up rfl (up rfl (up rfl (up rfl (up rfl (up rfl (up rfl (up rfl hs9)))))))))), up rfl (up rfl (u0 (up rfl (up rfl (up rfl (up rfl (up rfl (up rfl (up rfl (up rfl hs11)))))))))), up rfl (up rfl (u0 (up rfl (up rfl (up rfl (up rfl (up rfl (up rfl (up rfl (up rfl hs12)))))))))), up rfl (up rfl (u0 (up rfl (up rfl (up rfl (up rfl (up rfl (up rfl (up rfl (up rfl hs13)))))))))), up rfl (up rfl (u0 tp)), up rfl tp, tp, up rfl (up rfl (u0 (up rfl (up rfl (up rfl (up rfl (up rfl (up rfl (up rfl (up rfl hs25))))))))))⟩ ?_
  rintro τ ⟨hs0, hs1, hs2, hs5, hs6, hs7, hs8, hs9, hs11, hs12, hs13, hs14, hs15, hs16, hs25⟩
  refine CW.seq ?_
  refine CW.seq ?_
  refine CW.region ?_
  refine RW.soft Wd.a (v := .int .i64 151) (by exact E.move (AF_ev rfl hs9)) ?_
  refine RW.soft Wd.a (v := .bool false) (by exact E.eql (k := .i64) (a := 151) (b := 0) (AF_ev rfl tp) rfl) ?_
  refine RW.soft Wd.a (v := .int .i64 a) (by exact E.move (AF_ev rfl (up rfl (up rfl hs0)))) ?_
  refine RW.soft Wd.a (v := .bool false) (by exact E.b (a := decide (a > 0)) (E.gtr (k := .i64) (a := a) (b := 0) (AF_ev rfl tp) rfl) (by rw [decide_eq_false_iff_not]; omega)) ?_
  refine RW.soft Wd.a (v := .bool false) (by exact E.neqB (a := false) (b := false) Try.underlying4 (AF_ev rfl (up rfl (up rfl tp))) (AF_ev rfl tp)) ?_
  refine RW.soft Wd.a (v := .bool false) (by exact E.move (AF_ev rfl tp)) ?_
  refine RW.soft (by exact Wd.yes (x := 56) rfl (AF_ev rfl tp)) (v := .bool false) (by exact E.move (AF_ev rfl (up rfl (up rfl (up rfl (up rfl (up rfl (up rfl hs11)))))))) ?_
  refine RW.soft Wd.a (v := .bool false) (by exact E.pickF (AF_ev rfl (up rfl tp)) (AF_ev rfl tp)) ?_
  refine RW.soft Wd.a (v := .bool false) (by exact E.move (AF_ev rfl tp)) ?_
  refine RW.soft (by exact Wd.yes (x := 59) rfl (AF_ev rfl tp)) (v := .int .i64 0) (by exact E.move (AF_ev rfl (up rfl (up rfl (up rfl (up rfl (up rfl (up rfl (up rfl (up rfl (up rfl hs12))))))))))) ?_
  refine RW.soft (by exact Wd.yes (x := 59) rfl (AF_ev rfl (up rfl tp))) (v := .bool true) (by exact E.eql (k := .i64) (a := 0) (b := 0) (AF_ev rfl tp) rfl) ?_
  refine RW.soft (by exact Wd.yes (x := 59) rfl (AF_ev rfl (up rfl (up rfl tp)))) (v := .int .i64 b) (by exact E.move (AF_ev rfl (up rfl (up rfl (up rfl (up rfl (up rfl (up rfl (up rfl (up rfl (up rfl (up rfl (up rfl hs1))))))))))))) ?_
  refine RW.soft (by exact Wd.yes (x := 59) rfl (AF_ev rfl (up rfl (up rfl (up rfl tp))))) (v := .bool true) (by exact E.b (a := decide (b > 0)) (E.gtr (k := .i64) (a := b) (b := 0) (AF_ev rfl tp) rfl) (by rw [decide_eq_true_eq]; omega)) ?_
  refine RW.soft (by exact Wd.yes (x := 59) rfl (AF_ev rfl (up rfl (up rfl (up rfl (up rfl tp)))))) (v := .bool false) (by exact E.neqB (a := true) (b := true) Try.underlying4 (AF_ev rfl (up rfl (up rfl tp))) (AF_ev rfl tp)) ?_
  refine RW.soft Wd.a (v := .bool false) (by exact E.pickF (AF_ev rfl (up rfl (up rfl (up rfl (up rfl (up rfl tp)))))) (AF_ev rfl tp)) ?_
  refine RW.soft Wd.a (v := .bool false) (by exact E.move (AF_ev rfl tp)) ?_
  refine RW.soft (by exact Wd.yes (x := 66) rfl (AF_ev rfl tp)) (v := .int .i64 0) (by exact E.move (AF_ev rfl (up rfl (up rfl (up rfl (up rfl (up rfl (up rfl (up rfl (up rfl (up rfl (up rfl (up rfl (up rfl (up rfl (up rfl (up rfl (up rfl hs13)))))))))))))))))) ?_
  refine RW.soft (by exact Wd.yes (x := 66) rfl (AF_ev rfl (up rfl tp))) (v := .bool false) (by exact E.neq (k := .i64) (a := 0) (b := 0) (AF_ev rfl tp) rfl) ?_
  refine RW.soft Wd.a (v := .bool false) (by exact E.pickF (AF_ev rfl (up rfl (up rfl tp))) (AF_ev rfl tp)) ?_
  refine RW.fin (fun τ => τ 0 = .int .i64 a ∧ τ 1 = .int .i64 b ∧ τ 2 = .agg #[.int .i64 c0, .int .i64 c1, .int .i64 c2, .slice X ns.length c] ∧ τ 5 = .pointer (some ⟨b1, 0, none⟩) ∧ τ 6 = .bool false ∧ τ 7 = .bool true ∧ τ 8 = .pointer (some ⟨t2, 0, none⟩) ∧ τ 9 = .int .i64 151 ∧ τ 11 = .bool false ∧ τ 12 = .int .i64 0 ∧ τ 13 = .int .i64 0 ∧ τ 14 = .pointer (some ⟨b10, 0, none⟩) ∧ τ 15 = .bool false ∧ τ 16 = .int .i64 151 ∧ τ 25 = .bool false ∧ τ 69 = .bool false) ⟨up rfl (up rfl (up rfl (up rfl (up rfl (up rfl (up rfl (up rfl (up rfl (up rfl (up rfl (up rfl (up rfl (up rfl (up rfl (up rfl (up rfl (up rfl (up rfl hs0)))))))))))))))))), up rfl (up rfl (up rfl (up rfl (up rfl (up rfl (up rfl (up rfl (up rfl (up rfl (up rfl (up rfl (up rfl (up rfl (up rfl (up rfl (up rfl (up rfl (up rfl hs1)))))))))))))))))), up rfl (up rfl (up rfl (up rfl (up rfl (up rfl (up rfl (up rfl (up rfl (up rfl (up rfl (up rfl (up rfl (up rfl (up rfl (up rfl (up rfl (up rfl (up rfl hs2)))))))))))))))))), up rfl (up rfl (up rfl (up rfl (up rfl (up rfl (up rfl (up rfl (up rfl (up rfl (up rfl (up rfl (up rfl (up rfl (up rfl (up rfl (up rfl (up rfl (up rfl hs5)))))))))))))))))), up rfl (up rfl (up rfl (up rfl (up rfl (up rfl (up rfl (up rfl (up rfl (up rfl (up rfl (up rfl (up rfl (up rfl (up rfl (up rfl (up rfl (up rfl (up rfl hs6)))))))))))))))))), up rfl (up rfl (up rfl (up rfl (up rfl (up rfl (up rfl (up rfl (up rfl (up rfl (up rfl (up rfl (up rfl (up rfl (up rfl (up rfl (up rfl (up rfl (up rfl hs7)))))))))))))))))), up rfl (up rfl (up rfl (up rfl (up rfl (up rfl (up rfl (up rfl (up rfl (up rfl (up rfl (up rfl (up rfl (up rfl (up rfl (up rfl (up rfl (up rfl (up rfl hs8)))))))))))))))))), up rfl (up rfl (up rfl (up rfl (up rfl (up rfl (up rfl (up rfl (up rfl (up rfl (up rfl (up rfl (up rfl (up rfl (up rfl (up rfl (up rfl (up rfl (up rfl hs9)))))))))))))))))), up rfl (up rfl (up rfl (up rfl (up rfl (up rfl (up rfl (up rfl (up rfl (up rfl (up rfl (up rfl (up rfl (up rfl (up rfl (up rfl (up rfl (up rfl (up rfl hs11)))))))))))))))))), up rfl (up rfl (up rfl (up rfl (up rfl (up rfl (up rfl (up rfl (up rfl (up rfl (up rfl (up rfl (up rfl (up rfl (up rfl (up rfl (up rfl (up rfl (up rfl hs12)))))))))))))))))), up rfl (up rfl (up rfl (up rfl (up rfl (up rfl (up rfl (up rfl (up rfl (up rfl (up rfl (up rfl (up rfl (up rfl (up rfl (up rfl (up rfl (up rfl (up rfl hs13)))))))))))))))))), up rfl (up rfl (up rfl (up rfl (up rfl (up rfl (up rfl (up rfl (up rfl (up rfl (up rfl (up rfl (up rfl (up rfl (up rfl (up rfl (up rfl (up rfl (up rfl hs14)))))))))))))))))), up rfl (up rfl (up rfl (up rfl (up rfl (up rfl (up rfl (up rfl (up rfl (up rfl (up rfl (up rfl (up rfl (up rfl (up rfl (up rfl (up rfl (up rfl (up rfl hs15)))))))))))))))))), up rfl (up rfl (up rfl (up rfl (up rfl (up rfl (up rfl (up rfl (up rfl (up rfl (up rfl (up rfl (up rfl (up rfl (up rfl (up rfl (up rfl (up rfl (up rfl hs16)))))))))))))))))), up rfl (up rfl (up rfl (up rfl (up rfl (up rfl (up rfl (up rfl (up rfl (up rfl (up rfl (up rfl (up rfl (up rfl (up rfl (up rfl (up rfl (up rfl (up rfl hs25)))))))))))))))))), tp⟩ ?_
  rintro τ ⟨hs0, hs1, hs2, hs5, hs6, hs7, hs8, hs9, hs11, hs12, hs13, hs14, hs15, hs16, hs25, hs69⟩
  refine CW.condF (AF_ev rfl hs69) ?_
  refine CW.skip ?_
  refine Th.n ?_
  refine CW.seq ?_
  refine CW.seq ?_
  refine CW.region ?_
  refine RW.soft Wd.a (v := .int .i64 a) (by exact E.move (AF_ev rfl hs0)) ?_
  refine RW.soft Wd.a (v := .bool true) (by exact E.b (a := decide (a ≤ 0)) (E.leq (k := .i64) (a := a) (b := 0) (AF_ev rfl tp) rfl) (by rw [decide_eq_true_eq]; omega)) ?_
  refine RW.fin (fun τ => τ 0 = .int .i64 a ∧ τ 1 = .int .i64 b ∧ τ 2 = .agg #[.int .i64 c0, .int .i64 c1, .int .i64 c2, .slice X ns.length c] ∧ τ 5 = .pointer (some ⟨b1, 0, none⟩) ∧ τ 6 = .bool false ∧ τ 7 = .bool true ∧ τ 8 = .pointer (some ⟨t2, 0, none⟩) ∧ τ 9 = .int .i64 151 ∧ τ 11 = .bool false ∧ τ 12 = .int .i64 0 ∧ τ 13 = .int .i64 0 ∧ τ 14 = .pointer (some ⟨b10, 0, none⟩) ∧ τ 15 = .bool false ∧ τ 16 = .int .i64 151 ∧ τ 25 = .bool false ∧ τ 69 = .bool false ∧ τ 71 = .bool true) ⟨up rfl (up rfl hs0), up rfl (up rfl hs1), up rfl (up rfl hs2), up rfl (up rfl hs5), up rfl (up rfl hs6), up rfl (up rfl hs7), up rfl (up rfl hs8), up rfl (up rfl hs9), up rfl (up rfl hs11), up rfl (up rfl hs12), up rfl (up rfl hs13), up rfl (up rfl hs14), up rfl (up rfl hs15), up rfl (up rfl hs16), up rfl (up rfl hs25), up rfl (up rfl hs69), tp⟩ ?_
  rintro τ ⟨hs0, hs1, hs2, hs5, hs6, hs7, hs8, hs9, hs11, hs12, hs13, hs14, hs15, hs16, hs25, hs69, hs71⟩
  refine CW.condT (AF_ev rfl hs71) ?_
  refine CW.seq ?_
  refine CW.region ?_
  refine RW.soft Wd.a (v := .int .i64 151) (by exact E.move (AF_ev rfl hs9)) ?_
  refine RW.soft Wd.a (v := .bool true) (by exact E.eql (k := .i64) (a := 151) (b := 151) (AF_ev rfl tp) rfl) ?_
  refine RW.soft Wd.a (v := .bool true) (by exact E.move (AF_ev rfl tp)) ?_
  refine RW.soft (by exact Wd.yes (x := 74) rfl (AF_ev rfl tp)) (v := .int .i64 151) (by exact E.move (AF_ev rfl (up rfl (up rfl (up rfl hs16))))) ?_
  refine RW.soft (by exact Wd.yes (x := 74) rfl (AF_ev rfl (up rfl tp))) (v := .bool true) (by exact E.eql (k := .i64) (a := 151) (b := 151) (AF_ev rfl tp) rfl) ?_
  refine RW.soft Wd.a (v := .bool true) (by exact E.pickT (AF_ev rfl (up rfl (up rfl tp))) (AF_ev rfl tp)) ?_
  refine RW.soft Wd.a (v := .bool true) (by exact E.assign (AF_ev rfl tp)) ?_
  refine RW.fin (fun τ => τ 0 = .int .i64 a ∧ τ 1 = .int .i64 b ∧ τ 2 = .agg #[.int .i64 c0, .int .i64 c1, .int .i64 c2, .slice X ns.length c] ∧ τ 5 = .pointer (some ⟨b1, 0, none⟩) ∧ τ 6 = .bool true ∧ τ 7 = .bool true ∧ τ 8 = .pointer (some ⟨t2, 0, none⟩) ∧ τ 9 = .int .i64 151 ∧ τ 11 = .bool false ∧ τ 12 = .int .i64 0 ∧ τ 13 = .int .i64 0 ∧ τ 14 = .pointer (some ⟨b10, 0, none⟩) ∧ τ 15 = .bool false ∧ τ 16 = .int .i64 151 ∧ τ 25 = .bool false ∧ τ 69 = .bool false ∧ τ 71 = .bool true) ⟨up rfl (up rfl (up rfl (up rfl (up rfl (up rfl (up rfl hs0)))))), up rfl (up rfl (up rfl (up rfl (up rfl (up rfl (up rfl hs1)))))), up rfl (up rfl (up rfl (up rfl (up rfl (up rfl (up rfl hs2)))))), up rfl (up rfl (up rfl (up rfl (up rfl (up rfl (up rfl hs5)))))), tp, up rfl (up rfl (up rfl (up rfl (up rfl (up rfl (up rfl hs7)))))), up rfl (up rfl (up rfl (up rfl (up rfl (up rfl (up rfl hs8)))))), up rfl (up rfl (up rfl (up rfl (up rfl (up rfl (up rfl hs9)))))), up rfl (up rfl (up rfl (up rfl (up rfl (up rfl (up rfl hs11)))))), up rfl (up rfl (up rfl (up rfl (up rfl (up rfl (up rfl hs12)))))), up rfl (up rfl (up rfl (up rfl (up rfl (up rfl (up rfl hs13)))))), up rfl (up rfl (up rfl (up rfl (up rfl (up rfl (up rfl hs14)))))), up rfl (up rfl (up rfl (up rfl (up rfl (up rfl (up rfl hs15)))))), up rfl (up rfl (up rfl (up rfl (up rfl (up rfl (up rfl hs16)))))), up rfl (up rfl (up rfl (up rfl (up rfl (up rfl (up rfl hs25)))))), up rfl (up rfl (up rfl (up rfl (up rfl (up rfl (up rfl hs69)))))), up rfl (up rfl (up rfl (up rfl (up rfl (up rfl (up rfl hs71))))))⟩ ?_
  rintro τ ⟨hs0, hs1, hs2, hs5, hs6, hs7, hs8, hs9, hs11, hs12, hs13, hs14, hs15, hs16, hs25, hs69, hs71⟩
  refine CW.ret ?_
  refine Th.r ?_
  refine ret1 (v := .bool true) rfl (by exact (.tmp (AF_ev rfl hs6) .nil)) ?_
  have hst := hst.drop
  have hst := hst.drop
  have hst := hst.drop
  have hst := hst.drop
  have hst := hst.drop
  have hst := hst.drop
  have hst := hst.drop
  have hst := hst.drop
  exact ⟨p, hp0, rfl, hst⟩

theorem apart_00 {p : Pers} {w : World} {R : List Assn} {p0 : Pers} {X : Option Addr} {c : Nat} {ns : List Int} (a b c0 c1 c2 : Int) (hL : Las p 1 (.slice X ns.length c) ns.length (bv ns)) (hp0 : p0.le p) (ha : a ≤ 0) (hbb : b ≤ 0) (hst : St p w (Emp :: R)) :
    Calls Try.prog 4 #[.int .i64 a, .int .i64 b, .agg #[.int .i64 c0, .int .i64 c1, .int .i64 c2, .slice X ns.length c]] w fun e w => ∃ q, p0.le q ∧ e = .returned (.bool true) ∧ St q w R := by
  refine enter Try.func4 rfl (by simp) (n := 90) rfl fun τ hτ => ?_
  have hs0 : τ 0 = .int .i64 a := hτ 0 (by simp)
  have hs1 : τ 1 = .int .i64 b := hτ 1 (by simp)
  have hs2 : τ 2 = .agg #[.int .i64 c0, .int .i64 c1, .int .i64 c2, .slice X ns.length c] := hτ 2 (by simp)
  clear hτ
  refine CW.seq ?_
  refine CW.region ?_
  refine RW.hard Wd.a ?_
  refine H.box (v := .agg #[.int .i64 c0, .int .i64 c1, .int .i64 c2, .slice X ns.length c]) (AF_ev rfl hs2) hst fun b1 w hst => ?_
  refine RW.soft Wd.a (v := .bool false) (by exact E.assign rfl) ?_
  refine RW.fin (fun τ => τ 0 = .int .i64 a ∧ τ 1 = .int .i64 b ∧ τ 2 = .agg #[.int .i64 c0, .int .i64 c1, .int .i64 c2, .slice X ns.length c] ∧ τ 5 = .pointer (some ⟨b1, 0, none⟩) ∧ τ 6 = .bool false) ⟨up rfl (up rfl hs0), up rfl (up rfl hs1), up rfl (up rfl hs2), up rfl tp, tp⟩ ?_
  rintro τ ⟨hs0, hs1, hs2, hs5, hs6⟩
  refine CW.seq ?_
  refine CW.region ?_
  refine RW.hard Wd.a ?_
  refine H.call0 Try.func15 nm15 rfl map0 (Calls.mono (law15_shown hst) ?_)
  rintro _ w ⟨p, hle, rfl, hst⟩
  have hL := hL.le hle
  have hp0 := hp0.le hle
  refine ⟨_, rfl, ?_⟩
  show RW _ _ _ _ _ _ _
  refine RW.soft Wd.a (v := .bool true) (by exact E.assign (AF_ev rfl tp)) ?_
  refine RW.fin (fun τ => τ 0 = .int .i64 a ∧ τ 1 = .int .i64 b ∧ τ 2 = .agg #[.int .i64 c0, .int .i64 c1, .int .i64 c2, .slice X ns.length c] ∧ τ 5 = .pointer (some ⟨b1, 0, none⟩) ∧ τ 6 = .bool false ∧ τ 7 = .bool true) ⟨up rfl (up rfl hs0), up rfl (up rfl hs1), up rfl (up rfl hs2), up rfl (up rfl hs5), up rfl (up rfl hs6), tp⟩ ?_
  rintro τ ⟨hs0, hs1, hs2, hs5, hs6, hs7⟩
  refine CW.seq ?_
  refine CW.region ?_
  refine RW.hard Wd.a ?_
  refine H.call0 Try.func16 nm16 rfl map0 (Calls.mono (New_L hst) ?_)
  rintro _ w ⟨t2, rfl, hst⟩
  refine ⟨_, rfl, ?_⟩
  show RW _ _ _ _ _ _ _
  refine RW.soft Wd.a (v := .pointer (some ⟨t2, 0, none⟩)) (by exact E.assign (AF_ev rfl tp)) ?_
  refine RW.fin (fun τ => τ 0 = .int .i64 a ∧ τ 1 = .int .i64 b ∧ τ 2 = .agg #[.int .i64 c0, .int .i64 c1, .int .i64 c2, .slice X ns.length c] ∧ τ 5 = .pointer (some ⟨b1, 0, none⟩) ∧ τ 6 = .bool false ∧ τ 7 = .bool true ∧ τ 8 = .pointer (some ⟨t2, 0, none⟩)) ⟨up rfl (up rfl hs0), up rfl (up rfl hs1), up rfl (up rfl hs2), up rfl (up rfl hs5), up rfl (up rfl hs6), up rfl (up rfl hs7), tp⟩ ?_
  rintro τ ⟨hs0, hs1, hs2, hs5, hs6, hs7, hs8⟩
  refine CW.seq ?_
  refine CW.seq ?_
  refine CW.region ?_
  refine RW.soft Wd.a (v := .bool true) (by exact E.move (AF_ev rfl hs7)) ?_
  refine RW.soft Wd.a (v := .bool false) (by exact E.not (b := true) (AF_ev rfl tp)) ?_
  refine RW.soft Wd.a (v := .bool false) (by exact E.move (AF_ev rfl tp)) ?_
  refine RW.soft (by exact Wd.yes (x := 22) rfl (AF_ev rfl tp)) (v := .pointer (some ⟨t2, 0, none⟩)) (by exact E.move (AF_ev rfl (up rfl (up rfl (up rfl hs8))))) ?_
  refine RW.soft (by exact Wd.yes (x := 22) rfl (AF_ev rfl (up rfl tp))) (v := .bool false) (by exact E.eqlP (p := (some ⟨t2, 0, none⟩)) Try.underlying24 (AF_ev rfl tp) rfl) ?_
  refine RW.soft Wd.a (v := .bool false) (by exact E.pickF (AF_ev rfl (up rfl (up rfl tp))) (AF_ev rfl tp)) ?_
  refine RW.fin (fun τ => τ 0 = .int .i64 a ∧ τ 1 = .int .i64 b ∧ τ 2 = .agg #[.int .i64 c0, .int .i64 c1, .int .i64 c2, .slice X ns.length c] ∧ τ 5 = .pointer (some ⟨b1, 0, none⟩) ∧ τ 6 = .bool false ∧ τ 7 = .bool true ∧ τ 8 = .pointer (some ⟨t2, 0, none⟩) ∧ τ 25 = .bool false) ⟨up rfl (up rfl (up rfl (up rfl (up rfl (up rfl hs0))))), up rfl (up rfl (up rfl (up rfl (up rfl (up rfl hs1))))), up rfl (up rfl (up rfl (up rfl (up rfl (up rfl hs2))))), up rfl (up rfl (up rfl (up rfl (up rfl (up rfl hs5))))), up rfl (up rfl (up rfl (up rfl (up rfl (up rfl hs6))))), up rfl (up rfl (up rfl (up rfl (up rfl (up rfl hs7))))), up rfl (up rfl (up rfl (up rfl (up rfl (up rfl hs8))))), tp⟩ ?_
  rintro τ ⟨hs0, hs1, hs2, hs5, hs6, hs7, hs8, hs25⟩
  refine CW.condF (AF_ev rfl hs25) ?_
  refine CW.skip ?_
  refine Th.n ?_
  refine CW.seq ?_
  refine CW.region ?_
  refine RW.soft Wd.a (v := .pointer (some ⟨t2, 0, none⟩)) (by exact E.move (AF_ev rfl hs8)) ?_
  refine RW.hard Wd.a ?_
  refine H.call0 Try.func18 nm18 rfl (map1 (AF_ev rfl tp)) (Calls.mono (Open_C (L' := [(1, 0, ⟨0, 0, 0, []⟩)]) (n' := 2) (a := 1) (e := 0) (by rfl) (by rfl) (by rfl) (by rfl) (by decide) hst) ?_)
  rintro _ w ⟨rfl, hst⟩
  refine ⟨_, rfl, ?_⟩
  show RW _ _ _ _ _ _ _
  refine RW.fin (fun τ => τ 0 = .int .i64 a ∧ τ 1 = .int .i64 b ∧ τ 2 = .agg #[.int .i64 c0, .int .i64 c1, .int .i64 c2, .slice X ns.length c] ∧ τ 5 = .pointer (some ⟨b1, 0, none⟩) ∧ τ 6 = .bool false ∧ τ 7 = .bool true ∧ τ 8 = .pointer (some ⟨t2, 0, none⟩) ∧ τ 25 = .bool false) ⟨up rfl (up rfl hs0), up rfl (up rfl hs1), up rfl (up rfl hs2), up rfl (up rfl hs5), up rfl (up rfl hs6), up rfl (up rfl hs7), up rfl (up rfl hs8), up rfl (up rfl hs25)⟩ ?_
  rintro τ ⟨hs0, hs1, hs2, hs5, hs6, hs7, hs8, hs25⟩
  refine CW.seq ?_
  refine CW.region ?_
  refine RW.soft Wd.a (v := .pointer (some ⟨t2, 0, none⟩)) (by exact E.move (AF_ev rfl hs8)) ?_
  refine RW.hard Wd.a ?_
  refine H.call0 Try.func18 nm18 rfl (map1 (AF_ev rfl tp)) (Calls.mono (Open_C (L' := [(1, 0, ⟨0, 0, 0, []⟩), (2, 0, ⟨0, 0, 0, []⟩)]) (n' := 3) (a := 2) (e := 0) (by rfl) (by rfl) (by rfl) (by rfl) (by decide) hst) ?_)
  rintro _ w ⟨rfl, hst⟩
  refine ⟨_, rfl, ?_⟩
  show RW _ _ _ _ _ _ _
  refine RW.fin (fun τ => τ 0 = .int .i64 a ∧ τ 1 = .int .i64 b ∧ τ 2 = .agg #[.int .i64 c0, .int .i64 c1, .int .i64 c2, .slice X ns.length c] ∧ τ 5 = .pointer (some ⟨b1, 0, none⟩) ∧ τ 6 = .bool false ∧ τ 7 = .bool true ∧ τ 8 = .pointer (some ⟨t2, 0, none⟩) ∧ τ 25 = .bool false) ⟨up rfl (up rfl hs0), up rfl (up rfl hs1), up rfl (up rfl hs2), up rfl (up rfl hs5), up rfl (up rfl hs6), up rfl (up rfl hs7), up rfl (up rfl hs8), up rfl (up rfl hs25)⟩ ?_
  rintro τ ⟨hs0, hs1, hs2, hs5, hs6, hs7, hs8, hs25⟩
  refine CW.seq ?_
  refine CW.region ?_
  refine RW.soft Wd.a (v := .pointer (some ⟨t2, 0, none⟩)) (by exact E.move (AF_ev rfl hs8)) ?_
  refine RW.soft Wd.a (v := .int .i64 a) (by exact E.move (AF_ev rfl (up rfl hs0))) ?_
  refine RW.soft Wd.a (v := .agg #[.int .i64 c0, .int .i64 c1, .int .i64 c2, .slice X ns.length c]) (by exact E.loadN (b := b1) (o := 0) (cs := [.int .i64 c0, .int .i64 c1, .int .i64 c2, .slice X ns.length c]) Try.underlying29 rfl sz29 (AF_ev rfl (up rfl (up rfl hs5))) rfl (hst.cellsIn (.there .here) rfl)) ?_
  have hst := hst.take (.there (.there .here))
  refine RW.hard Wd.a ?_
  refine H.call0 Try.func22 nm22 rfl (map1 (AF_ev rfl tp)) (Calls.mono (law15_own_ (A := Emp) (fun w H s => hL.src s) c0 c1 c2 hst) ?_)
  rintro _ w ⟨vX3, rfl, hnX3, hst⟩
  obtain ⟨X3, c4, rfl, hcX3, hmX3, hlX3, hbX3⟩ := hst.shape
  refine ⟨_, rfl, ?_⟩
  show RW _ _ _ _ _ _ _
  have hst := hst.take (.there (.there .here))
  refine RW.hard Wd.a ?_
  refine H.call0 Try.func21 nm21 rfl (map4 (AF_ev rfl (up rfl (up rfl (up rfl tp)))) rfl (AF_ev rfl (up rfl (up rfl tp))) (AF_ev rfl tp)) (Calls.mono (Done_C (A := Own 5 1 (.slice X3 ((ns.take 100).length) c4) ((ns.take 100).length) (bv (ns.take 100))) (Y := X3) (d := c4) (L' := [(1, 0, ⟨0, 0, 0, []⟩), (2, 0, ⟨0, 0, 0, []⟩)]) (e := 151) 1 a c0 c1 c2 (ns.take 100) (by show (if a ≤ 0 then _ else _) = _; rw [if_pos (by omega)]) (by show (if a ≤ 0 then _ else _) = _; rw [if_pos (by omega)]) (fun w H s => Own.src s) (by first | omega | (simp; done) | (simp; omega)) hst) ?_)
  rintro _ w ⟨p, hle, rfl, hst⟩
  have hL := hL.le hle
  have hp0 := hp0.le hle
  refine ⟨_, rfl, ?_⟩
  show RW _ _ _ _ _ _ _
  refine RW.soft Wd.a (v := .int .i64 151) (by exact E.assign (AF_ev rfl tp)) ?_
  refine RW.fin (fun τ => τ 0 = .int .i64 a ∧ τ 1 = .int .i64 b ∧ τ 2 = .agg #[.int .i64 c0, .int .i64 c1, .int .i64 c2, .slice X ns.length c] ∧ τ 5 = .pointer (some ⟨b1, 0, none⟩) ∧ τ 6 = .bool false ∧ τ 7 = .bool true ∧ τ 8 = .pointer (some ⟨t2, 0, none⟩) ∧ τ 9 = .int .i64 151 ∧ τ 25 = .bool false) ⟨up rfl (up rfl (up rfl (up rfl (up rfl (up rfl hs0))))), up rfl (up rfl (up rfl (up rfl (up rfl (up rfl hs1))))), up rfl (up rfl (up rfl (up rfl (up rfl (up rfl hs2))))), up rfl (up rfl (up rfl (up rfl (up rfl (up rfl hs5))))), up rfl (up rfl (up rfl (up rfl (up rfl (up rfl hs6))))), up rfl (up rfl (up rfl (up rfl (up rfl (up rfl hs7))))), up rfl (up rfl (up rfl (up rfl (up rfl (up rfl hs8))))), tp, up rfl (up rfl (up rfl (up rfl (up rfl (up rfl hs25)))))⟩ ?_
  rintro τ ⟨hs0, hs1, hs2, hs5, hs6, hs7, hs8, hs9, hs25⟩
  refine CW.seq ?_
  refine CW.region ?_
  refine RW.soft Wd.a (v := .pointer (some ⟨t2, 0, none⟩)) (by exact E.move (AF_ev rfl hs8)) ?_
  refine RW.soft Wd.a (v := .int .i64 b) (by exact E.move (AF_ev rfl (up rfl hs1))) ?_
  refine RW.hard Wd.a ?_
  refine H.call0 Try.func20 nm20 rfl (map3 (AF_ev rfl (up rfl tp)) rfl (AF_ev rfl tp)) (Calls.mono (Ask_C (r := ⟨0, 0, 0, []⟩) (sn := false) (e := 151) 2 b (by show (if b < max 1 0 then _ else if b = 0 then _ else _) = _; rw [if_pos (by omega)] <;> rfl) (by show (if b < max 1 0 then _ else decide (b = 0)) = _; rw [if_pos (by omega)]) (by show (if b < max 1 0 then _ else _) = _; rw [if_pos (by omega)]) hst) ?_)
  rintro _ w ⟨vX5, rfl, hbX5, hst⟩
  obtain ⟨X5, c6, rfl, hcX5, hmX5, hlX5, hbbX5⟩ := hst.shape
  refine ⟨_, rfl, ?_⟩
  show RW _ _ _ _ _ _ _
  refine RW.soft Wd.a (v := .tuple #[.agg #[.int .i64 0, .int .i64 0, .int .i64 0, .slice X5 0 c6], .bool false, .int .i64 151]) (by exact E.move (AF_ev rfl tp)) ?_
  refine RW.soft Wd.a (v := .agg #[.int .i64 0, .int .i64 0, .int .i64 0, .slice X5 0 c6]) (by exact E.extract (vs := #[.agg #[.int .i64 0, .int .i64 0, .int .i64 0, .slice X5 0 c6], .bool false, .int .i64 151]) (AF_ev rfl tp) rfl) ?_
  refine RW.soft Wd.a (v := .bool false) (by exact E.extract (vs := #[.agg #[.int .i64 0, .int .i64 0, .int .i64 0, .slice X5 0 c6], .bool false, .int .i64 151]) (AF_ev rfl (up rfl tp)) rfl) ?_
  refine RW.soft Wd.a (v := .int .i64 151) (by exact E.extract (vs := #[.agg #[.int .i64 0, .int .i64 0, .int .i64 0, .slice X5 0 c6], .bool false, .int .i64 151]) (AF_ev rfl (up rfl (up rfl tp))) rfl) ?_
  refine RW.hard Wd.a ?_
  refine H.alloc zr29 hst fun b7 w hst => ?_
  refine RW.hard Wd.a ?_
  refine H.store (b := b7) (o := 0) (v := .agg #[.int .i64 0, .int .i64 0, .int .i64 0, .slice X5 0 c6]) (c' := #[.int .i64 0, .int .i64 0, .int .i64 0, .slice X5 0 c6]) (AF_ev rfl tp) (AF_ev rfl (up rfl (up rfl (up rfl tp)))) hst .here sz29 (by simp [Value.cells]) (by simp [Value.cells, Value.oneCell']) rfl fun w hst => ?_
  refine RW.soft Wd.a (v := .bool false) (by exact E.assign (AF_ev rfl (u0 (up rfl (up rfl tp))))) ?_
  refine RW.soft Wd.a (v := .int .i64 151) (by exact E.assign (AF_ev rfl (up rfl (u0 (up rfl tp))))) ?_
  refine RW.fin (fun τ => τ 0 = .int .i64 a ∧ τ 1 = .int .i64 b ∧ τ 2 = .agg #[.int .i64 c0, .int .i64 c1, .int .i64 c2, .slice X ns.length c] ∧ τ 5 = .pointer (some ⟨b1, 0, none⟩) ∧ τ 6 = .bool false ∧ τ 7 = .bool true ∧ τ 8 = .pointer (some ⟨t2, 0, none⟩) ∧ τ 9 = .int .i64 151 ∧ τ 11 = .bool false ∧ τ 12 = .int .i64 151 ∧ τ 25 = .bool false) ⟨up rfl (up rfl (u0 (up rfl (up rfl (up rfl (up rfl (up rfl (up rfl (up rfl (up rfl hs0)))))))))), up rfl (up rfl (u0 (up rfl (up rfl (up rfl (up rfl (up rfl (up rfl (up rfl (up rfl hs1)))))))))), up rfl (up rfl (u0 (up rfl (up rfl (up rfl (up rfl (up rfl (up rfl (up rfl (up rfl hs2)))))))))), up rfl (up rfl (u0 (up rfl (up rfl (up rfl (up rfl (up rfl (up rfl (up rfl (up rfl hs5)))))))))), up rfl (up rfl (u0 (up rfl (up rfl (up rfl (up rfl (up rfl (up rfl (up rfl (up rfl hs6)))))))))), up rfl (up rfl (u0 (up rfl (up rfl (up rfl (up rfl (up rfl (up rfl (up rfl (up rfl hs7)))))))))), up rfl (up rfl (u0 (up rfl (up rfl (up rfl (up rfl (up rfl (up rfl (up rfl (up rfl hs8)))))))))), up rfl (up rfl (u0 (up rfl (up rfl (up rfl (up rfl (up rfl (up rfl (up rfl (up rfl hs9)))))))))), up rfl tp, tp, up rfl (up rfl (u0 (up rfl (up rfl (up rfl (up rfl (up rfl (up rfl (up rfl (up rfl hs25))))))))))⟩ ?_
  rintro τ ⟨hs0, hs1, hs2, hs5, hs6, hs7, hs8, hs9, hs11, hs12, hs25⟩
  refine CW.seq ?_
  refine CW.region ?_
  refine RW.soft Wd.a (v := .pointer (some ⟨t2, 0, none⟩)) (by exact E.move (AF_ev rfl hs8)) ?_
  have hst := hst.take (.there (.there .here))
  refine RW.hard Wd.a ?_
  refine H.call0 Try.func19 nm19 rfl (map2 (AF_ev rfl tp) rfl) (Calls.mono (Expire_C (L' := [(1, 0, ⟨0, 0, 0, []⟩)]) (e := 0) 2 (by rfl) (by rfl) hst) ?_)
  rintro _ w ⟨rfl, hst⟩
  refine ⟨_, rfl, ?_⟩
  show RW _ _ _ _ _ _ _
  refine RW.soft Wd.a (v := .int .i64 0) (by exact E.assign (AF_ev rfl tp)) ?_
  refine RW.fin (fun τ => τ 0 = .int .i64 a ∧ τ 1 = .int .i64 b ∧ τ 2 = .agg #[.int .i64 c0, .int .i64 c1, .int .i64 c2, .slice X ns.length c] ∧ τ 5 = .pointer (some ⟨b1, 0, none⟩) ∧ τ 6 = .bool false ∧ τ 7 = .bool true ∧ τ 8 = .pointer (some ⟨t2, 0, none⟩) ∧ τ 9 = .int .i64 151 ∧ τ 11 = .bool false ∧ τ 12 = .int .i64 151 ∧ τ 13 = .int .i64 0 ∧ τ 25 = .bool false) ⟨up rfl (up rfl (up rfl hs0)), up rfl (up rfl (up rfl hs1)), up rfl (up rfl (up rfl hs2)), up rfl (up rfl (up rfl hs5)), up rfl (up rfl (up rfl hs6)), up rfl (up rfl (up rfl hs7)), up rfl (up rfl (up rfl hs8)), up rfl (up rfl (up rfl hs9)), up rfl (up rfl (up rfl hs11)), up rfl (up rfl (up rfl hs12)), tp, up rfl (up rfl (up rfl hs25))⟩ ?_
  rintro τ ⟨hs0, hs1, hs2, hs5, hs6, hs7, hs8, hs9, hs11, hs12, hs13, hs25⟩
  refine CW.seq ?_
  refine CW.region ?_
  refine RW.soft Wd.a (v := .pointer (some ⟨t2, 0, none⟩)) (by exact E.move (AF_ev rfl hs8)) ?_
  refine RW.soft Wd.a (v := .int .i64 a) (by exact E.move (AF_ev rfl (up rfl hs0))) ?_
  refine RW.hard Wd.a ?_
  refine H.call0 Try.func20 nm20 rfl (map3 (AF_ev rfl (up rfl tp)) rfl (AF_ev rfl tp)) (Calls.mono (Ask_C (r := ⟨0, 0, 0, []⟩) (sn := false) (e := 151) 1 a (by show (if a < max 1 0 then _ else if a = 0 then _ else _) = _; rw [if_pos (by omega)] <;> rfl) (by show (if a < max 1 0 then _ else decide (a = 0)) = _; rw [if_pos (by omega)]) (by show (if a < max 1 0 then _ else _) = _; rw [if_pos (by omega)]) hst) ?_)
  rintro _ w ⟨vX8, rfl, hbX8, hst⟩
  obtain ⟨X8, c9, rfl, hcX8, hmX8, hlX8, hbbX8⟩ := hst.shape
  refine ⟨_, rfl, ?_⟩
  show RW _ _ _ _ _ _ _
  refine RW.soft Wd.a (v := .tuple #[.agg #[.int .i64 0, .int .i64 0, .int .i64 0, .slice X8 0 c9], .bool false, .int .i64 151]) (by exact E.move (AF_ev rfl tp)) ?_
  refine RW.soft Wd.a (v := .agg #[.int .i64 0, .int .i64 0, .int .i64 0, .slice X8 0 c9]) (by exact E.extract (vs := #[.agg #[.int .i64 0, .int .i64 0, .int .i64 0, .slice X8 0 c9], .bool false, .int .i64 151]) (AF_ev rfl tp) rfl) ?_
  refine RW.soft Wd.a (v := .bool false) (by exact E.extract (vs := #[.agg #[.int .i64 0, .int .i64 0, .int .i64 0, .slice X8 0 c9], .bool false, .int .i64 151]) (AF_ev rfl (up rfl tp)) rfl) ?_
  refine RW.soft Wd.a (v := .int .i64 151) (by exact E.extract (vs := #[.agg #[.int .i64 0, .int .i64 0, .int .i64 0, .slice X8 0 c9], .bool false, .int .i64 151]) (AF_ev rfl (up rfl (up rfl tp))) rfl) ?_
  refine RW.hard Wd.a ?_
  refine H.alloc zr29 hst fun b10 w hst => ?_
  refine RW.hard Wd.a ?_
  refine H.store (b := b10) (o := 0) (v := .agg #[.int .i64 0, .int .i64 0, .int .i64 0, .slice X8 0 c9]) (c' := #[.int .i64 0, .int .i64 0, .int .i64 0, .slice X8 0 c9]) (AF_ev rfl tp) (AF_ev rfl (up rfl (up rfl (up rfl tp)))) hst .here sz29 (by simp [Value.cells]) (by simp [Value.cells, Value.oneCell']) rfl fun w hst => ?_
  refine RW.soft Wd.a (v := .bool false) (by exact E.assign (AF_ev rfl (u0 (up rfl (up rfl tp))))) ?_
  refine RW.soft Wd.a (v := .int .i64 151) (by exact E.assign (AF_ev rfl (up rfl (u0 (up rfl tp))))) ?_
  refine RW.fin (fun τ => τ 0 = .int .i64 a ∧ τ 1 = .int .i64 b ∧ τ 2 = .agg #[.int .i64 c0, .int .i64 c1, .int .i64 c2, .slice X ns.length c] ∧ τ 5 = .pointer (some ⟨b1, 0, none⟩) ∧ τ 6 = .bool false ∧ τ 7 = .bool true ∧ τ 8 = .pointer (some ⟨t2, 0, none⟩) ∧ τ 9 = .int .i64 151 ∧ τ 11 = .bool false ∧ τ 12 = .int .i64 151 ∧ τ 13 = .int .i64 0 ∧ τ 14 = .pointer (some ⟨b10, 0, none⟩) ∧ τ 15 = .bool false ∧ τ 16 = .int .i64 151 ∧ τ 25 = .bool false) ⟨up rfl (up rfl (u0 (up rfl (up rfl (up rfl (up rfl (up rfl (up rfl (up rfl (up rfl hs0)))))))))), up rfl (up rfl (u0 (up rfl (up rfl (up rfl (up rfl (up rfl (up rfl (up rfl (up rfl hs1)))))))))), up rfl (up rfl (u0 (up rfl (up rfl (up rfl (up rfl (up rfl (up rfl (up rfl (up rfl hs2)))))))))), up rfl (up rfl (u0 (up rfl (up rfl (up rfl (up rfl (up rfl (up rfl (up rfl (up rfl hs5)))))))))), up rfl (up rfl (u0 (up rfl (up rfl (up rfl (up rfl (up rfl (up rfl (up rfl (up rfl hs6)))))))))), up rfl (up rfl (u0 (up rfl (up rfl (up rfl (up rfl (up rfl (up rfl (up rfl (up rfl hs7)))))))))), up rfl (up rfl (u0 (up rfl (up rfl (up rfl (up rfl (up rfl (up rfl (up rfl (up rfl hs8)))))))))), up rfl (up rfl (u0 (up rfl (up rfl (up rfl (up rfl (up rfl (up rfl (up rfl (up rfl hs9)))))))))), up rfl (up rfl (u0 (up rfl (up rfl (up rfl (up rfl (up rfl (up rfl (up rfl (up rfl hs11)))))))))), up rfl (up rfl (u0 (up rfl (up rfl (up rfl (up rfl (up rfl (up rfl (up rfl (up rfl hs12)))))))))), up rfl (up rfl (u0 (up rfl (up rfl (up rfl (up rfl (up rfl (up rfl (up rfl (up rfl hs13)))))))))), up rfl (up rfl (u0 tp)), up rfl tp, tp, up rfl (up rfl (u0 (up rfl (up rfl (up rfl (up rfl (up rfl (up rfl (up rfl (up rfl hs25))))))))))⟩ ?_
  rintro τ ⟨hs0, hs1, hs2, hs5, hs6, hs7, hs8, hs9, hs11, hs12, hs13, hs14, hs15, hs16, hs25⟩
  refine CW.seq ?_
  refine CW.seq ?_
  refine CW.region ?_
  refine RW.soft Wd.a (v := .int .i64 151) (by exact E.move (AF_ev rfl hs9)) ?_
  refine RW.soft Wd.a (v := .bool false) (by exact E.eql (k := .i64) (a := 151) (b := 0) (AF_ev rfl tp) rfl) ?_
  refine RW.soft Wd.a (v := .int .i64 a) (by exact E.move (AF_ev rfl (up rfl (up rfl hs0)))) ?_
  refine RW.soft Wd.a (v := .bool false) (by exact E.b (a := decide (a > 0)) (E.gtr (k := .i64) (a := a) (b := 0) (AF_ev rfl tp) rfl) (by rw [decide_eq_false_iff_not]; omega)) ?_
  refine RW.soft Wd.a (v := .bool false) (by exact E.neqB (a := false) (b := false) Try.underlying4 (AF_ev rfl (up rfl (up rfl tp))) (AF_ev rfl tp)) ?_
  refine RW.soft Wd.a (v := .bool false) (by exact E.move (AF_ev rfl tp)) ?_
  refine RW.soft (by exact Wd.yes (x := 56) rfl (AF_ev rfl tp)) (v := .bool false) (by exact E.move (AF_ev rfl (up rfl (up rfl (up rfl (up rfl (up rfl (up rfl hs11)))))))) ?_
  refine RW.soft Wd.a (v := .bool false) (by exact E.pickF (AF_ev rfl (up rfl tp)) (AF_ev rfl tp)) ?_
  refine RW.soft Wd.a (v := .bool false) (by exact E.move (AF_ev rfl tp)) ?_
  refine RW.soft (by exact Wd.yes (x := 59) rfl (AF_ev rfl tp)) (v := .int .i64 151) (by exact E.move (AF_ev rfl (up rfl (up rfl (up rfl (up rfl (up rfl (up rfl (up rfl (up rfl (up rfl hs12))))))))))) ?_
  refine RW.soft (by exact Wd.yes (x := 59) rfl (AF_ev rfl (up rfl tp))) (v := .bool false) (by exact E.eql (k := .i64) (a := 151) (b := 0) (AF_ev rfl tp) rfl) ?_
  refine RW.soft (by exact Wd.yes (x := 59) rfl (AF_ev rfl (up rfl (up rfl tp)))) (v := .int .i64 b) (by exact E.move (AF_ev rfl (up rfl (up rfl (up rfl (up rfl (up rfl (up rfl (up rfl (up rfl (up rfl (up rfl (up rfl hs1))))))))))))) ?_
  refine RW.soft (by exact Wd.yes (x := 59) rfl (AF_ev rfl (up rfl (up rfl (up rfl tp))))) (v := .bool false) (by exact E.b (a := decide (b > 0)) (E.gtr (k := .i64) (a := b) (b := 0) (AF_ev rfl tp) rfl) (by rw [decide_eq_false_iff_not]; omega)) ?_
  refine RW.soft (by exact Wd.yes (x := 59) rfl (AF_ev rfl (up rfl (up rfl (up rfl (up rfl tp)))))) (v := .bool false) (by exact E.neqB (a := false) (b := false) Try.underlying4 (AF_ev rfl (up rfl (up rfl tp))) (AF_ev rfl tp)) ?_
  refine RW.soft Wd.a (v := .bool false) (by exact E.pickF (AF_ev rfl (up rfl (up rfl (up rfl (up rfl (up rfl tp)))))) (AF_ev rfl tp)) ?_
  refine RW.soft Wd.a (v := .bool false) (by exact E.move (AF_ev rfl tp)) ?_
  refine RW.soft (by exact Wd.yes (x := 66) rfl (AF_ev rfl tp)) (v := .int .i64 0) (by exact E.move (AF_ev rfl (up rfl (up rfl (up rfl (up rfl (up rfl (up rfl (up rfl (up rfl (up rfl (up rfl (up rfl (up rfl (up rfl (up rfl (up rfl (up rfl hs13)))))))))))))))))) ?_
  refine RW.soft (by exact Wd.yes (x := 66) rfl (AF_ev rfl (up rfl tp))) (v := .bool false) (by exact E.neq (k := .i64) (a := 0) (b := 0) (AF_ev rfl tp) rfl) ?_
  refine RW.soft Wd.a (v := .bool false) (by exact E.pickF (AF_ev rfl (up rfl (up rfl tp))) (AF_ev rfl tp)) ?_
  refine RW.fin (fun τ => τ 0 = .int .i64 a ∧ τ 1 = .int .i64 b ∧ τ 2 = .agg #[.int .i64 c0, .int .i64 c1, .int .i64 c2, .slice X ns.length c] ∧ τ 5 = .pointer (some ⟨b1, 0, none⟩) ∧ τ 6 = .bool false ∧ τ 7 = .bool true ∧ τ 8 = .pointer (some ⟨t2, 0, none⟩) ∧ τ 9 = .int .i64 151 ∧ τ 11 = .bool false ∧ τ 12 = .int .i64 151 ∧ τ 13 = .int .i64 0 ∧ τ 14 = .pointer (some ⟨b10, 0, none⟩) ∧ τ 15 = .bool false ∧ τ 16 = .int .i64 151 ∧ τ 25 = .bool false ∧ τ 69 = .bool false) ⟨up rfl (up rfl (up rfl (up rfl (up rfl (up rfl (up rfl (up rfl (up rfl (up rfl (up rfl (up rfl (up rfl (up rfl (up rfl (up rfl (up rfl (up rfl (up rfl hs0)))))))))))))))))), up rfl (up rfl (up rfl (up rfl (up rfl (up rfl (up rfl (up rfl (up rfl (up rfl (up rfl (up rfl (up rfl (up rfl (up rfl (up rfl (up rfl (up rfl (up rfl hs1)))))))))))))))))), up rfl (up rfl (up rfl (up rfl (up rfl (up rfl (up rfl (up rfl (up rfl (up rfl (up rfl (up rfl (up rfl (up rfl (up rfl (up rfl (up rfl (up rfl (up rfl hs2)))))))))))))))))), up rfl (up rfl (up rfl (up rfl (up rfl (up rfl (up rfl (up rfl (up rfl (up rfl (up rfl (up rfl (up rfl (up rfl (up rfl (up rfl (up rfl (up rfl (up rfl hs5)))))))))))))))))), up rfl (up rfl (up rfl (up rfl (up rfl (up rfl (up rfl (up rfl (up rfl (up rfl (up rfl (up rfl (up rfl (up rfl (up rfl (up rfl (up rfl (up rfl (up rfl hs6)))))))))))))))))), up rfl (up rfl (up rfl (up rfl (up rfl (up rfl (up rfl (up rfl (up rfl (up rfl (up rfl (up rfl (up rfl (up rfl (up rfl (up rfl (up rfl (up rfl (up rfl hs7)))))))))))))))))), up rfl (up rfl (up rfl (up rfl (up rfl (up rfl (up rfl (up rfl (up rfl (up rfl (up rfl (up rfl (up rfl (up rfl (up rfl (up rfl (up rfl (up rfl (up rfl hs8)))))))))))))))))), up rfl (up rfl (up rfl (up rfl (up rfl (up rfl (up rfl (up rfl (up rfl (up rfl (up rfl (up rfl (up rfl (up rfl (up rfl (up rfl (up rfl (up rfl (up rfl hs9)))))))))))))))))), up rfl (up rfl (up rfl (up rfl (up rfl (up rfl (up rfl (up rfl (up rfl (up rfl (up rfl (up rfl (up rfl (up rfl (up rfl (up rfl (up rfl (up rfl (up rfl hs11)))))))))))))))))), up rfl (up rfl (up rfl (up rfl (up rfl (up rfl (up rfl (up rfl (up rfl (up rfl (up rfl (up rfl (up rfl (up rfl (up rfl (up rfl (up rfl (up rfl (up rfl hs12)))))))))))))))))), up rfl (up rfl (up rfl (up rfl (up rfl (up rfl (up rfl (up rfl (up rfl (up rfl (up rfl (up rfl (up rfl (up rfl (up rfl (up rfl (up rfl (up rfl (up rfl hs13)))))))))))))))))), up rfl (up rfl (up rfl (up rfl (up rfl (up rfl (up rfl (up rfl (up rfl (up rfl (up rfl (up rfl (up rfl (up rfl (up rfl (up rfl (up rfl (up rfl (up rfl hs14)))))))))))))))))), up rfl (up rfl (up rfl (up rfl (up rfl (up rfl (up rfl (up rfl (up rfl (up rfl (up rfl (up rfl (up rfl (up rfl (up rfl (up rfl (up rfl (up rfl (up rfl hs15)))))))))))))))))), up rfl (up rfl (up rfl (up rfl (up rfl (up rfl (up rfl (up rfl (up rfl (up rfl (up rfl (up rfl (up rfl (up rfl (up rfl (up rfl (up rfl (up rfl (up rfl hs16)))))))))))))))))), up rfl (up rfl (up rfl (up rfl (up rfl (up rfl (up rfl (up rfl (up rfl (up rfl (up rfl (up rfl (up rfl (up rfl (up rfl (up rfl (up rfl (up rfl (up rfl hs25)))))))))))))))))), tp⟩ ?_
  rintro τ ⟨hs0, hs1, hs2, hs5, hs6, hs7, hs8, hs9, hs11, hs12, hs13, hs14, hs15, hs16, hs25, hs69⟩
  refine CW.condF (AF_ev rfl hs69) ?_
  refine CW.skip ?_
  refine Th.n ?_
  refine CW.seq ?_
  refine CW.seq ?_
  refine CW.region ?_
  refine RW.soft Wd.a (v := .int .i64 a) (by exact E.move (AF_ev rfl hs0)) ?_
  refine RW.soft Wd.a (v := .bool true) (by exact E.b (a := decide (a ≤ 0)) (E.leq (k := .i64) (a := a) (b := 0) (AF_ev rfl tp) rfl) (by rw [decide_eq_true_eq]; omega)) ?_
  refine RW.fin (fun τ => τ 0 = .int .i64 a ∧ τ 1 = .int .i64 b ∧ τ 2 = .agg #[.int .i64 c0, .int .i64 c1, .int .i64 c2, .slice X ns.length c] ∧ τ 5 = .pointer (some ⟨b1, 0, none⟩) ∧ τ 6 = .bool false ∧ τ 7 = .bool true ∧ τ 8 = .pointer (some ⟨t2, 0, none⟩) ∧ τ 9 = .int .i64 151 ∧ τ 11 = .bool false ∧ τ 12 = .int .i64 151 ∧ τ 13 = .int .i64 0 ∧ τ 14 = .pointer (some ⟨b10, 0, none⟩) ∧ τ 15 = .bool false ∧ τ 16 = .int .i64 151 ∧ τ 25 = .bool false ∧ τ 69 = .bool false ∧ τ 71 = .bool true) ⟨up rfl (up rfl hs0), up rfl (up rfl hs1), up rfl (up rfl hs2), up rfl (up rfl hs5), up rfl (up rfl hs6), up rfl (up rfl hs7), up rfl (up rfl hs8), up rfl (up rfl hs9), up rfl (up rfl hs11), up rfl (up rfl hs12), up rfl (up rfl hs13), up rfl (up rfl hs14), up rfl (up rfl hs15), up rfl (up rfl hs16), up rfl (up rfl hs25), up rfl (up rfl hs69), tp⟩ ?_
  rintro τ ⟨hs0, hs1, hs2, hs5, hs6, hs7, hs8, hs9, hs11, hs12, hs13, hs14, hs15, hs16, hs25, hs69, hs71⟩
  refine CW.condT (AF_ev rfl hs71) ?_
  refine CW.seq ?_
  refine CW.region ?_
  refine RW.soft Wd.a (v := .int .i64 151) (by exact E.move (AF_ev rfl hs9)) ?_
  refine RW.soft Wd.a (v := .bool true) (by exact E.eql (k := .i64) (a := 151) (b := 151) (AF_ev rfl tp) rfl) ?_
  refine RW.soft Wd.a (v := .bool true) (by exact E.move (AF_ev rfl tp)) ?_
  refine RW.soft (by exact Wd.yes (x := 74) rfl (AF_ev rfl tp)) (v := .int .i64 151) (by exact E.move (AF_ev rfl (up rfl (up rfl (up rfl hs16))))) ?_
  refine RW.soft (by exact Wd.yes (x := 74) rfl (AF_ev rfl (up rfl tp))) (v := .bool true) (by exact E.eql (k := .i64) (a := 151) (b := 151) (AF_ev rfl tp) rfl) ?_
  refine RW.soft Wd.a (v := .bool true) (by exact E.pickT (AF_ev rfl (up rfl (up rfl tp))) (AF_ev rfl tp)) ?_
  refine RW.soft Wd.a (v := .bool true) (by exact E.assign (AF_ev rfl tp)) ?_
  refine RW.fin (fun τ => τ 0 = .int .i64 a ∧ τ 1 = .int .i64 b ∧ τ 2 = .agg #[.int .i64 c0, .int .i64 c1, .int .i64 c2, .slice X ns.length c] ∧ τ 5 = .pointer (some ⟨b1, 0, none⟩) ∧ τ 6 = .bool true ∧ τ 7 = .bool true ∧ τ 8 = .pointer (some ⟨t2, 0, none⟩) ∧ τ 9 = .int .i64 151 ∧ τ 11 = .bool false ∧ τ 12 = .int .i64 151 ∧ τ 13 = .int .i64 0 ∧ τ 14 = .pointer (some ⟨b10, 0, none⟩) ∧ τ 15 = .bool false ∧ τ 16 = .int .i64 151 ∧ τ 25 = .bool false ∧ τ 69 = .bool false ∧ τ 71 = .bool true) ⟨up rfl (up rfl (up rfl (up rfl (up rfl (up rfl (up rfl hs0)))))), up rfl (up rfl (up rfl (up rfl (up rfl (up rfl (up rfl hs1)))))), up rfl (up rfl (up rfl (up rfl (up rfl (up rfl (up rfl hs2)))))), up rfl (up rfl (up rfl (up rfl (up rfl (up rfl (up rfl hs5)))))), tp, up rfl (up rfl (up rfl (up rfl (up rfl (up rfl (up rfl hs7)))))), up rfl (up rfl (up rfl (up rfl (up rfl (up rfl (up rfl hs8)))))), up rfl (up rfl (up rfl (up rfl (up rfl (up rfl (up rfl hs9)))))), up rfl (up rfl (up rfl (up rfl (up rfl (up rfl (up rfl hs11)))))), up rfl (up rfl (up rfl (up rfl (up rfl (up rfl (up rfl hs12)))))), up rfl (up rfl (up rfl (up rfl (up rfl (up rfl (up rfl hs13)))))), up rfl (up rfl (up rfl (up rfl (up rfl (up rfl (up rfl hs14)))))), up rfl (up rfl (up rfl (up rfl (up rfl (up rfl (up rfl hs15)))))), up rfl (up rfl (up rfl (up rfl (up rfl (up rfl (up rfl hs16)))))), up rfl (up rfl (up rfl (up rfl (up rfl (up rfl (up rfl hs25)))))), up rfl (up rfl (up rfl (up rfl (up rfl (up rfl (up rfl hs69)))))), up rfl (up rfl (up rfl (up rfl (up rfl (up rfl (up rfl hs71))))))⟩ ?_
  rintro τ ⟨hs0, hs1, hs2, hs5, hs6, hs7, hs8, hs9, hs11, hs12, hs13, hs14, hs15, hs16, hs25, hs69, hs71⟩
  refine CW.ret ?_
  refine Th.r ?_
  refine ret1 (v := .bool true) rfl (by exact (.tmp (AF_ev rfl hs6) .nil)) ?_
  have hst := hst.drop
  have hst := hst.drop
  have hst := hst.drop
  have hst := hst.drop
  have hst := hst.drop
  have hst := hst.drop
  have hst := hst.drop
  have hst := hst.drop
  exact ⟨p, hp0, rfl, hst⟩
end Go.Proofs.Ytdlcjoonhojpfaa
