/- The calls of the package sessions, walked through operation by operation. -/
import Derived.Test.YtjagffnbobnofaaU2
namespace Go.Proofs.Ytjagffnbobnofaa
open Go.RowKit Go.SL Go.S15
attribute [local irreducible] Go.SL.RW Go.SL.CW Go.SL.RD Go.SL.Hd Go.SL.St
set_option linter.unusedVariables false
set_option linter.unusedSimpArgs false

theorem nm13 : (Try.f13.name == "runtime.NumGoroutine") = false := by kernel_rfl
theorem nm15 : (Try.f15.name == "runtime.NumGoroutine") = false := by kernel_rfl
theorem nm16 : (Try.f16.name == "runtime.NumGoroutine") = false := by kernel_rfl
theorem nm21 : (Try.f21.name == "runtime.NumGoroutine") = false := by kernel_rfl
theorem nm25 : (Try.f25.name == "runtime.NumGoroutine") = false := by kernel_rfl

theorem same_true {P : Program} {f : FuncId} {args : Array Value} {w : World} {a b c : Int} {ns : List Int} {Q : World → Prop} (h : Calls P f args w fun e w => e = .returned (.bool (((a == a) && (b == b)) && (c == c) && ((bstr ns).toList == (bstr ns).toList))) ∧ Q w) :
    Calls P f args w fun e w => e = .returned (.bool true) ∧ Q w := Calls.mono h (by rintro e w ⟨rfl, h⟩; exact ⟨by simp, h⟩)

theorem law15_shown {p : Pers} {w : World} {R : List Assn}  (hst : St p w (R)) :
    Calls Try.prog 12 #[] w fun e w => ∃ q, p.le q ∧ e = .returned (.bool true) ∧ St q w R := by
  refine enter Try.func12 rfl (by simp) (n := 129) rfl fun τ hτ => ?_
  clear hτ
  refine CW.seq ?_
  refine CW.region ?_
  refine RW.soft Wd.a (v := .bool false) (by exact E.assign rfl) ?_
  refine RW.fin (fun τ => τ 0 = .bool false) tp ?_
  rintro τ hs0
  refine CW.seq ?_
  refine CW.region ?_
  refine RW.hard Wd.a ?_
  refine H.call0 Try.func13 nm13 rfl map0 (Calls.mono (New_L hst) ?_)
  rintro _ w ⟨t1, rfl, hst⟩
  refine ⟨_, rfl, ?_⟩
  show RW _ _ _ _ _ _ _
  refine RW.soft Wd.a (v := .pointer (some ⟨t1, 0, none⟩)) (by exact E.assign (AF_ev rfl tp)) ?_
  refine RW.fin (fun τ => τ 0 = .bool false ∧ τ 1 = .pointer (some ⟨t1, 0, none⟩)) ⟨up rfl (up rfl hs0), tp⟩ ?_
  rintro τ ⟨hs0, hs1⟩
  refine CW.seq ?_
  refine CW.seq ?_
  refine CW.region ?_
  refine RW.soft Wd.a (v := .pointer (some ⟨t1, 0, none⟩)) (by exact E.move (AF_ev rfl hs1)) ?_
  refine RW.soft Wd.a (v := .bool false) (by exact E.eqlP (p := (some ⟨t1, 0, none⟩)) Try.underlying23 (AF_ev rfl tp) rfl) ?_
  refine RW.fin (fun τ => τ 0 = .bool false ∧ τ 1 = .pointer (some ⟨t1, 0, none⟩) ∧ τ 25 = .bool false) ⟨up rfl (up rfl hs0), up rfl (up rfl hs1), tp⟩ ?_
  rintro τ ⟨hs0, hs1, hs25⟩
  refine CW.condF (AF_ev rfl hs25) ?_
  refine CW.skip ?_
  refine Th.n ?_
  refine CW.seq ?_
  refine CW.region ?_
  refine RW.soft Wd.a (v := .pointer (some ⟨t1, 0, none⟩)) (by exact E.move (AF_ev rfl hs1)) ?_
  refine RW.hard Wd.a ?_
  refine H.call0 Try.func15 nm15 rfl (map1 (AF_ev rfl tp)) (Calls.mono (Open_C (L' := [(1, 0, ⟨0, 0, 0, []⟩)]) (n' := 2) (a := 1) (e := 0) (by rfl) (by rfl) (by rfl) (by rfl) (by decide) hst) ?_)
  rintro _ w ⟨rfl, hst⟩
  refine ⟨_, rfl, ?_⟩
  show RW _ _ _ _ _ _ _
  refine RW.soft Wd.a (v := .tuple #[.int .i64 1, .int .i64 0]) (by exact E.move (AF_ev rfl tp)) ?_
  refine RW.soft Wd.a (v := .int .i64 1) (by exact E.extract (vs := #[.int .i64 1, .int .i64 0]) (AF_ev rfl tp) rfl) ?_
  refine RW.soft Wd.a (v := .int .i64 0) (by exact E.extract (vs := #[.int .i64 1, .int .i64 0]) (AF_ev rfl (up rfl tp)) rfl) ?_
  refine RW.soft Wd.a (v := .int .i64 1) (by exact E.assign (AF_ev rfl (up rfl tp))) ?_
  refine RW.soft Wd.a (v := .int .i64 0) (by exact E.assign (AF_ev rfl (up rfl tp))) ?_
  refine RW.fin (fun τ => τ 0 = .bool false ∧ τ 1 = .pointer (some ⟨t1, 0, none⟩) ∧ τ 2 = .int .i64 1 ∧ τ 3 = .int .i64 0 ∧ τ 25 = .bool false) ⟨up rfl (up rfl (up rfl (up rfl (up rfl (up rfl (up rfl hs0)))))), up rfl (up rfl (up rfl (up rfl (up rfl (up rfl (up rfl hs1)))))), up rfl tp, tp, up rfl (up rfl (up rfl (up rfl (up rfl (up rfl (up rfl hs25))))))⟩ ?_
  rintro τ ⟨hs0, hs1, hs2, hs3, hs25⟩
  refine CW.seq ?_
  refine CW.region ?_
  refine RW.soft Wd.a (v := .pointer (some ⟨t1, 0, none⟩)) (by exact E.move (AF_ev rfl hs1)) ?_
  refine RW.hard Wd.a ?_
  refine H.call0 Try.func21 nm21 rfl (map3 (AF_ev rfl tp) rfl rfl) (Calls.mono (Ask_C (r := ⟨0, 0, 0, []⟩) (sn := false) (e := 0) 1 5 (by rfl) (by rfl) (by rfl) hst) ?_)
  rintro _ w ⟨vX2, rfl, hbX2, hst⟩
  obtain ⟨X2, c3, rfl, hcX2, hmX2, hlX2, hbbX2⟩ := hst.shape
  refine ⟨_, rfl, ?_⟩
  show RW _ _ _ _ _ _ _
  refine RW.soft Wd.a (v := .tuple #[.agg #[.int .i64 0, .int .i64 0, .int .i64 0, .slice X2 0 c3], .bool false, .int .i64 0]) (by exact E.move (AF_ev rfl tp)) ?_
  refine RW.soft Wd.a (v := .agg #[.int .i64 0, .int .i64 0, .int .i64 0, .slice X2 0 c3]) (by exact E.extract (vs := #[.agg #[.int .i64 0, .int .i64 0, .int .i64 0, .slice X2 0 c3], .bool false, .int .i64 0]) (AF_ev rfl tp) rfl) ?_
  refine RW.soft Wd.a (v := .bool false) (by exact E.extract (vs := #[.agg #[.int .i64 0, .int .i64 0, .int .i64 0, .slice X2 0 c3], .bool false, .int .i64 0]) (AF_ev rfl (up rfl tp)) rfl) ?_
  refine RW.soft Wd.a (v := .int .i64 0) (by exact E.extract (vs := #[.agg #[.int .i64 0, .int .i64 0, .int .i64 0, .slice X2 0 c3], .bool false, .int .i64 0]) (AF_ev rfl (up rfl (up rfl tp))) rfl) ?_
  refine RW.hard Wd.a ?_
  refine H.alloc zr39 hst fun b4 w hst => ?_
  refine RW.hard Wd.a ?_
  refine H.store (b := b4) (o := 0) (v := .agg #[.int .i64 0, .int .i64 0, .int .i64 0, .slice X2 0 c3]) (c' := #[.int .i64 0, .int .i64 0, .int .i64 0, .slice X2 0 c3]) (AF_ev rfl tp) (AF_ev rfl (up rfl (up rfl (up rfl tp)))) hst .here sz39 (by simp [Value.cells]) (by simp [Value.cells, Value.oneCell']) rfl fun w hst => ?_
  refine RW.soft Wd.a (v := .bool false) (by exact E.assign (AF_ev rfl (u0 (up rfl (up rfl tp))))) ?_
  refine RW.soft Wd.a (v := .int .i64 0) (by exact E.assign (AF_ev rfl (up rfl (u0 (up rfl tp))))) ?_
  refine RW.fin (fun τ => τ 0 = .bool false ∧ τ 1 = .pointer (some ⟨t1, 0, none⟩) ∧ τ 2 = .int .i64 1 ∧ τ 3 = .int .i64 0 ∧ τ 5 = .bool false ∧ τ 6 = .int .i64 0 ∧ τ 25 = .bool false) ⟨up rfl (up rfl (u0 (up rfl (up rfl (up rfl (up rfl (up rfl (up rfl (up rfl hs0))))))))), up rfl (up rfl (u0 (up rfl (up rfl (up rfl (up rfl (up rfl (up rfl (up rfl hs1))))))))), up rfl (up rfl (u0 (up rfl (up rfl (up rfl (up rfl (up rfl (up rfl (up rfl hs2))))))))), up rfl (up rfl (u0 (up rfl (up rfl (up rfl (up rfl (up rfl (up rfl (up rfl hs3))))))))), up rfl tp, tp, up rfl (up rfl (u0 (up rfl (up rfl (up rfl (up rfl (up rfl (up rfl (up rfl hs25)))))))))⟩ ?_
  rintro τ ⟨hs0, hs1, hs2, hs3, hs5, hs6, hs25⟩
  refine CW.seq ?_
  refine CW.region ?_
  refine RW.soft Wd.a (v := .pointer (some ⟨t1, 0, none⟩)) (by exact E.move (AF_ev rfl hs1)) ?_
  refine RW.soft Wd.a (v := .agg #[.int .i64 0, .int .i64 7, .int .i64 0, .slice none 0 0]) (by exact E.build (vs := #[(1, .int .i64 7)]) (bld1 rfl) (by kernel_rfl)) ?_
  have hst := hst.ownNil (e := 5) (sz := 1) none
  have hst := hst.take (.there (.there (.there .here)))
  refine RW.hard Wd.a ?_
  refine H.call0 Try.func25 nm25 rfl (map4 (AF_ev rfl (up rfl tp)) rfl rfl (AF_ev rfl tp)) (Calls.mono (Done_C (A := Own 5 1 (.slice none 0 0) 0 (bv [])) (Y := none) (d := 0) (L' := [(1, 5, ⟨0, 7, 0, []⟩)]) (e := 0) 1 5 0 7 0 ([]) (by rfl) (by rfl) (fun w H s => Own.src s) (by first | omega | (simp; done) | (simp; omega)) hst) ?_)
  rintro _ w ⟨p, hle, rfl, hst⟩
  refine ⟨_, rfl, ?_⟩
  show RW _ _ _ _ _ _ _
  refine RW.soft Wd.a (v := .int .i64 0) (by exact E.assign (AF_ev rfl tp)) ?_
  refine RW.fin (fun τ => τ 0 = .bool false ∧ τ 1 = .pointer (some ⟨t1, 0, none⟩) ∧ τ 2 = .int .i64 1 ∧ τ 3 = .int .i64 0 ∧ τ 5 = .bool false ∧ τ 6 = .int .i64 0 ∧ τ 7 = .int .i64 0 ∧ τ 25 = .bool false) ⟨up rfl (up rfl (up rfl (up rfl hs0))), up rfl (up rfl (up rfl (up rfl hs1))), up rfl (up rfl (up rfl (up rfl hs2))), up rfl (up rfl (up rfl (up rfl hs3))), up rfl (up rfl (up rfl (up rfl hs5))), up rfl (up rfl (up rfl (up rfl hs6))), tp, up rfl (up rfl (up rfl (up rfl hs25)))⟩ ?_
  rintro τ ⟨hs0, hs1, hs2, hs3, hs5, hs6, hs7, hs25⟩
  refine CW.seq ?_
  refine CW.region ?_
  refine RW.soft Wd.a (v := .pointer (some ⟨t1, 0, none⟩)) (by exact E.move (AF_ev rfl hs1)) ?_
  refine RW.hard Wd.a ?_
  refine H.call0 Try.func21 nm21 rfl (map3 (AF_ev rfl tp) rfl rfl) (Calls.mono (Ask_C (r := ⟨0, 7, 0, []⟩) (sn := true) (e := 0) 1 5 (by rfl) (by rfl) (by rfl) hst) ?_)
  rintro _ w ⟨vX5, rfl, hbX5, hst⟩
  obtain ⟨X5, c6, rfl, hcX5, hmX5, hlX5, hbbX5⟩ := hst.shape
  refine ⟨_, rfl, ?_⟩
  show RW _ _ _ _ _ _ _
  refine RW.soft Wd.a (v := .tuple #[.agg #[.int .i64 0, .int .i64 7, .int .i64 0, .slice X5 0 c6], .bool true, .int .i64 0]) (by exact E.move (AF_ev rfl tp)) ?_
  refine RW.soft Wd.a (v := .agg #[.int .i64 0, .int .i64 7, .int .i64 0, .slice X5 0 c6]) (by exact E.extract (vs := #[.agg #[.int .i64 0, .int .i64 7, .int .i64 0, .slice X5 0 c6], .bool true, .int .i64 0]) (AF_ev rfl tp) rfl) ?_
  refine RW.soft Wd.a (v := .bool true) (by exact E.extract (vs := #[.agg #[.int .i64 0, .int .i64 7, .int .i64 0, .slice X5 0 c6], .bool true, .int .i64 0]) (AF_ev rfl (up rfl tp)) rfl) ?_
  refine RW.soft Wd.a (v := .int .i64 0) (by exact E.extract (vs := #[.agg #[.int .i64 0, .int .i64 7, .int .i64 0, .slice X5 0 c6], .bool true, .int .i64 0]) (AF_ev rfl (up rfl (up rfl tp))) rfl) ?_
  refine RW.hard Wd.a ?_
  refine H.alloc zr39 hst fun b7 w hst => ?_
  refine RW.hard Wd.a ?_
  refine H.store (b := b7) (o := 0) (v := .agg #[.int .i64 0, .int .i64 7, .int .i64 0, .slice X5 0 c6]) (c' := #[.int .i64 0, .int .i64 7, .int .i64 0, .slice X5 0 c6]) (AF_ev rfl tp) (AF_ev rfl (up rfl (up rfl (up rfl tp)))) hst .here sz39 (by simp [Value.cells]) (by simp [Value.cells, Value.oneCell']) rfl fun w hst => ?_
  refine RW.soft Wd.a (v := .bool true) (by exact E.assign (AF_ev rfl (u0 (up rfl (up rfl tp))))) ?_
  refine RW.soft Wd.a (v := .int .i64 0) (by exact E.assign (AF_ev rfl (up rfl (u0 (up rfl tp))))) ?_
  refine RW.fin (fun τ => τ 0 = .bool false ∧ τ 1 = .pointer (some ⟨t1, 0, none⟩) ∧ τ 2 = .int .i64 1 ∧ τ 3 = .int .i64 0 ∧ τ 5 = .bool false ∧ τ 6 = .int .i64 0 ∧ τ 7 = .int .i64 0 ∧ τ 8 = .pointer (some ⟨b7, 0, none⟩) ∧ τ 9 = .bool true ∧ τ 10 = .int .i64 0 ∧ τ 25 = .bool false) ⟨up rfl (up rfl (u0 (up rfl (up rfl (up rfl (up rfl (up rfl (up rfl (up rfl hs0))))))))), up rfl (up rfl (u0 (up rfl (up rfl (up rfl (up rfl (up rfl (up rfl (up rfl hs1))))))))), up rfl (up rfl (u0 (up rfl (up rfl (up rfl (up rfl (up rfl (up rfl (up rfl hs2))))))))), up rfl (up rfl (u0 (up rfl (up rfl (up rfl (up rfl (up rfl (up rfl (up rfl hs3))))))))), up rfl (up rfl (u0 (up rfl (up rfl (up rfl (up rfl (up rfl (up rfl (up rfl hs5))))))))), up rfl (up rfl (u0 (up rfl (up rfl (up rfl (up rfl (up rfl (up rfl (up rfl hs6))))))))), up rfl (up rfl (u0 (up rfl (up rfl (up rfl (up rfl (up rfl (up rfl (up rfl hs7))))))))), up rfl (up rfl (u0 tp)), up rfl tp, tp, up rfl (up rfl (u0 (up rfl (up rfl (up rfl (up rfl (up rfl (up rfl (up rfl hs25)))))))))⟩ ?_
  rintro τ ⟨hs0, hs1, hs2, hs3, hs5, hs6, hs7, hs8, hs9, hs10, hs25⟩
  refine CW.seq ?_
  refine CW.region ?_
  refine RW.soft Wd.a (v := .pointer (some ⟨t1, 0, none⟩)) (by exact E.move (AF_ev rfl hs1)) ?_
  have hst := hst.take (.there (.there .here))
  refine RW.hard Wd.a ?_
  refine H.call0 Try.func21 nm21 rfl (map3 (AF_ev rfl tp) rfl rfl) (Calls.mono (Ask_C (r := ⟨0, 0, 0, []⟩) (sn := false) (e := 151) 1 4 (by rfl) (by rfl) (by rfl) hst) ?_)
  rintro _ w ⟨vX8, rfl, hbX8, hst⟩
  obtain ⟨X8, c9, rfl, hcX8, hmX8, hlX8, hbbX8⟩ := hst.shape
  refine ⟨_, rfl, ?_⟩
  show RW _ _ _ _ _ _ _
  refine RW.soft Wd.a (v := .tuple #[.agg #[.int .i64 0, .int .i64 0, .int .i64 0, .slice X8 0 c9], .bool false, .int .i64 151]) (by exact E.move (AF_ev rfl tp)) ?_
  refine RW.soft Wd.a (v := .agg #[.int .i64 0, .int .i64 0, .int .i64 0, .slice X8 0 c9]) (by exact E.extract (vs := #[.agg #[.int .i64 0, .int .i64 0, .int .i64 0, .slice X8 0 c9], .bool false, .int .i64 151]) (AF_ev rfl tp) rfl) ?_
  refine RW.soft Wd.a (v := .bool false) (by exact E.extract (vs := #[.agg #[.int .i64 0, .int .i64 0, .int .i64 0, .slice X8 0 c9], .bool false, .int .i64 151]) (AF_ev rfl (up rfl tp)) rfl) ?_
  refine RW.soft Wd.a (v := .int .i64 151) (by exact E.extract (vs := #[.agg #[.int .i64 0, .int .i64 0, .int .i64 0, .slice X8 0 c9], .bool false, .int .i64 151]) (AF_ev rfl (up rfl (up rfl tp))) rfl) ?_
  refine RW.hard Wd.a ?_
  refine H.alloc zr39 hst fun b10 w hst => ?_
  refine RW.hard Wd.a ?_
  refine H.store (b := b10) (o := 0) (v := .agg #[.int .i64 0, .int .i64 0, .int .i64 0, .slice X8 0 c9]) (c' := #[.int .i64 0, .int .i64 0, .int .i64 0, .slice X8 0 c9]) (AF_ev rfl tp) (AF_ev rfl (up rfl (up rfl (up rfl tp)))) hst .here sz39 (by simp [Value.cells]) (by simp [Value.cells, Value.oneCell']) rfl fun w hst => ?_
  refine RW.soft Wd.a (v := .bool false) (by exact E.assign (AF_ev rfl (u0 (up rfl (up rfl tp))))) ?_
  refine RW.soft Wd.a (v := .int .i64 151) (by exact E.assign (AF_ev rfl (up rfl (u0 (up rfl tp))))) ?_
  refine RW.fin (fun τ => τ 0 = .bool false ∧ τ 1 = .pointer (some ⟨t1, 0, none⟩) ∧ τ 2 = .int .i64 1 ∧ τ 3 = .int .i64 0 ∧ τ 5 = .bool false ∧ τ 6 = .int .i64 0 ∧ τ 7 = .int .i64 0 ∧ τ 8 = .pointer (some ⟨b7, 0, none⟩) ∧ τ 9 = .bool true ∧ τ 10 = .int .i64 0 ∧ τ 13 = .int .i64 151 ∧ τ 25 = .bool false) ⟨up rfl (up rfl (u0 (up rfl (up rfl (up rfl (up rfl (up rfl (up rfl (up rfl hs0))))))))), up rfl (up rfl (u0 (up rfl (up rfl (up rfl (up rfl (up rfl (up rfl (up rfl hs1))))))))), up rfl (up rfl (u0 (up rfl (up rfl (up rfl (up rfl (up rfl (up rfl (up rfl hs2))))))))), up rfl (up rfl (u0 (up rfl (up rfl (up rfl (up rfl (up rfl (up rfl (up rfl hs3))))))))), up rfl (up rfl (u0 (up rfl (up rfl (up rfl (up rfl (up rfl (up rfl (up rfl hs5))))))))), up rfl (up rfl (u0 (up rfl (up rfl (up rfl (up rfl (up rfl (up rfl (up rfl hs6))))))))), up rfl (up rfl (u0 (up rfl (up rfl (up rfl (up rfl (up rfl (up rfl (up rfl hs7))))))))), up rfl (up rfl (u0 (up rfl (up rfl (up rfl (up rfl (up rfl (up rfl (up rfl hs8))))))))), up rfl (up rfl (u0 (up rfl (up rfl (up rfl (up rfl (up rfl (up rfl (up rfl hs9))))))))), up rfl (up rfl (u0 (up rfl (up rfl (up rfl (up rfl (up rfl (up rfl (up rfl hs10))))))))), tp, up rfl (up rfl (u0 (up rfl (up rfl (up rfl (up rfl (up rfl (up rfl (up rfl hs25)))))))))⟩ ?_
  rintro τ ⟨hs0, hs1, hs2, hs3, hs5, hs6, hs7, hs8, hs9, hs10, hs13, hs25⟩
  refine CW.seq ?_
  refine CW.region ?_
  refine RW.soft Wd.a (v := .pointer (some ⟨t1, 0, none⟩)) (by exact E.move (AF_ev rfl hs1)) ?_
  have hst := hst.take (.there (.there .here))
  refine RW.hard Wd.a ?_
  refine H.call0 Try.func21 nm21 rfl (map3 (AF_ev rfl tp) rfl rfl) (Calls.mono (Ask_C (r := ⟨0, 0, 0, []⟩) (sn := false) (e := 0) 1 6 (by rfl) (by rfl) (by rfl) hst) ?_)
  rintro _ w ⟨vX11, rfl, hbX11, hst⟩
  obtain ⟨X11, c12, rfl, hcX11, hmX11, hlX11, hbbX11⟩ := hst.shape
  refine ⟨_, rfl, ?_⟩
  show RW _ _ _ _ _ _ _
  refine RW.soft Wd.a (v := .tuple #[.agg #[.int .i64 0, .int .i64 0, .int .i64 0, .slice X11 0 c12], .bool false, .int .i64 0]) (by exact E.move (AF_ev rfl tp)) ?_
  refine RW.soft Wd.a (v := .agg #[.int .i64 0, .int .i64 0, .int .i64 0, .slice X11 0 c12]) (by exact E.extract (vs := #[.agg #[.int .i64 0, .int .i64 0, .int .i64 0, .slice X11 0 c12], .bool false, .int .i64 0]) (AF_ev rfl tp) rfl) ?_
  refine RW.soft Wd.a (v := .bool false) (by exact E.extract (vs := #[.agg #[.int .i64 0, .int .i64 0, .int .i64 0, .slice X11 0 c12], .bool false, .int .i64 0]) (AF_ev rfl (up rfl tp)) rfl) ?_
  refine RW.soft Wd.a (v := .int .i64 0) (by exact E.extract (vs := #[.agg #[.int .i64 0, .int .i64 0, .int .i64 0, .slice X11 0 c12], .bool false, .int .i64 0]) (AF_ev rfl (up rfl (up rfl tp))) rfl) ?_
  refine RW.hard Wd.a ?_
  refine H.alloc zr39 hst fun b13 w hst => ?_
  refine RW.hard Wd.a ?_
  refine H.store (b := b13) (o := 0) (v := .agg #[.int .i64 0, .int .i64 0, .int .i64 0, .slice X11 0 c12]) (c' := #[.int .i64 0, .int .i64 0, .int .i64 0, .slice X11 0 c12]) (AF_ev rfl tp) (AF_ev rfl (up rfl (up rfl (up rfl tp)))) hst .here sz39 (by simp [Value.cells]) (by simp [Value.cells, Value.oneCell']) rfl fun w hst => ?_
  refine RW.soft Wd.a (v := .bool false) (by exact E.assign (AF_ev rfl (u0 (up rfl (up rfl tp))))) ?_
  refine RW.soft Wd.a (v := .int .i64 0) (by exact E.assign (AF_ev rfl (up rfl (u0 (up rfl tp))))) ?_
  refine RW.fin (fun τ => τ 0 = .bool false ∧ τ 1 = .pointer (some ⟨t1, 0, none⟩) ∧ τ 2 = .int .i64 1 ∧ τ 3 = .int .i64 0 ∧ τ 5 = .bool false ∧ τ 6 = .int .i64 0 ∧ τ 7 = .int .i64 0 ∧ τ 8 = .pointer (some ⟨b7, 0, none⟩) ∧ τ 9 = .bool true ∧ τ 10 = .int .i64 0 ∧ τ 13 = .int .i64 151 ∧ τ 15 = .bool false ∧ τ 16 = .int .i64 0 ∧ τ 25 = .bool false) ⟨up rfl (up rfl (u0 (up rfl (up rfl (up rfl (up rfl (up rfl (up rfl (up rfl hs0))))))))), up rfl (up rfl (u0 (up rfl (up rfl (up rfl (up rfl (up rfl (up rfl (up rfl hs1))))))))), up rfl (up rfl (u0 (up rfl (up rfl (up rfl (up rfl (up rfl (up rfl (up rfl hs2))))))))), up rfl (up rfl (u0 (up rfl (up rfl (up rfl (up rfl (up rfl (up rfl (up rfl hs3))))))))), up rfl (up rfl (u0 (up rfl (up rfl (up rfl (up rfl (up rfl (up rfl (up rfl hs5))))))))), up rfl (up rfl (u0 (up rfl (up rfl (up rfl (up rfl (up rfl (up rfl (up rfl hs6))))))))), up rfl (up rfl (u0 (up rfl (up rfl (up rfl (up rfl (up rfl (up rfl (up rfl hs7))))))))), up rfl (up rfl (u0 (up rfl (up rfl (up rfl (up rfl (up rfl (up rfl (up rfl hs8))))))))), up rfl (up rfl (u0 (up rfl (up rfl (up rfl (up rfl (up rfl (up rfl (up rfl hs9))))))))), up rfl (up rfl (u0 (up rfl (up rfl (up rfl (up rfl (up rfl (up rfl (up rfl hs10))))))))), up rfl (up rfl (u0 (up rfl (up rfl (up rfl (up rfl (up rfl (up rfl (up rfl hs13))))))))), up rfl tp, tp, up rfl (up rfl (u0 (up rfl (up rfl (up rfl (up rfl (up rfl (up rfl (up rfl hs25)))))))))⟩ ?_
  rintro τ ⟨hs0, hs1, hs2, hs3, hs5, hs6, hs7, hs8, hs9, hs10, hs13, hs15, hs16, hs25⟩
  refine CW.seq ?_
  refine CW.region ?_
  refine RW.soft Wd.a (v := .pointer (some ⟨t1, 0, none⟩)) (by exact E.move (AF_ev rfl hs1)) ?_
  have hst := hst.take (.there (.there .here))
  refine RW.hard Wd.a ?_
  refine H.call0 Try.func16 nm16 rfl (map2 (AF_ev rfl tp) rfl) (Calls.mono (Expire_C (L' := []) (e := 0) 1 (by rfl) (by rfl) hst) ?_)
  rintro _ w ⟨rfl, hst⟩
  refine ⟨_, rfl, ?_⟩
  show RW _ _ _ _ _ _ _
  refine RW.soft Wd.a (v := .int .i64 0) (by exact E.assign (AF_ev rfl tp)) ?_
  refine RW.fin (fun τ => τ 0 = .bool false ∧ τ 1 = .pointer (some ⟨t1, 0, none⟩) ∧ τ 2 = .int .i64 1 ∧ τ 3 = .int .i64 0 ∧ τ 5 = .bool false ∧ τ 6 = .int .i64 0 ∧ τ 7 = .int .i64 0 ∧ τ 8 = .pointer (some ⟨b7, 0, none⟩) ∧ τ 9 = .bool true ∧ τ 10 = .int .i64 0 ∧ τ 13 = .int .i64 151 ∧ τ 15 = .bool false ∧ τ 16 = .int .i64 0 ∧ τ 17 = .int .i64 0 ∧ τ 25 = .bool false) ⟨up rfl (up rfl (up rfl hs0)), up rfl (up rfl (up rfl hs1)), up rfl (up rfl (up rfl hs2)), up rfl (up rfl (up rfl hs3)), up rfl (up rfl (up rfl hs5)), up rfl (up rfl (up rfl hs6)), up rfl (up rfl (up rfl hs7)), up rfl (up rfl (up rfl hs8)), up rfl (up rfl (up rfl hs9)), up rfl (up rfl (up rfl hs10)), up rfl (up rfl (up rfl hs13)), up rfl (up rfl (up rfl hs15)), up rfl (up rfl (up rfl hs16)), tp, up rfl (up rfl (up rfl hs25))⟩ ?_
  rintro τ ⟨hs0, hs1, hs2, hs3, hs5, hs6, hs7, hs8, hs9, hs10, hs13, hs15, hs16, hs17, hs25⟩
  refine CW.seq ?_
  refine CW.region ?_
  refine RW.soft Wd.a (v := .pointer (some ⟨t1, 0, none⟩)) (by exact E.move (AF_ev rfl hs1)) ?_
  refine RW.hard Wd.a ?_
  refine H.call0 Try.func21 nm21 rfl (map3 (AF_ev rfl tp) rfl rfl) (Calls.mono (Ask_C (r := ⟨0, 0, 0, []⟩) (sn := false) (e := 150) 1 5 (by rfl) (by rfl) (by rfl) hst) ?_)
  rintro _ w ⟨vX14, rfl, hbX14, hst⟩
  obtain ⟨X14, c15, rfl, hcX14, hmX14, hlX14, hbbX14⟩ := hst.shape
  refine ⟨_, rfl, ?_⟩
  show RW _ _ _ _ _ _ _
  refine RW.soft Wd.a (v := .tuple #[.agg #[.int .i64 0, .int .i64 0, .int .i64 0, .slice X14 0 c15], .bool false, .int .i64 150]) (by exact E.move (AF_ev rfl tp)) ?_
  refine RW.soft Wd.a (v := .agg #[.int .i64 0, .int .i64 0, .int .i64 0, .slice X14 0 c15]) (by exact E.extract (vs := #[.agg #[.int .i64 0, .int .i64 0, .int .i64 0, .slice X14 0 c15], .bool false, .int .i64 150]) (AF_ev rfl tp) rfl) ?_
  refine RW.soft Wd.a (v := .bool false) (by exact E.extract (vs := #[.agg #[.int .i64 0, .int .i64 0, .int .i64 0, .slice X14 0 c15], .bool false, .int .i64 150]) (AF_ev rfl (up rfl tp)) rfl) ?_
  refine RW.soft Wd.a (v := .int .i64 150) (by exact E.extract (vs := #[.agg #[.int .i64 0, .int .i64 0, .int .i64 0, .slice X14 0 c15], .bool false, .int .i64 150]) (AF_ev rfl (up rfl (up rfl tp))) rfl) ?_
  refine RW.hard Wd.a ?_
  refine H.alloc zr39 hst fun b16 w hst => ?_
  refine RW.hard Wd.a ?_
  refine H.store (b := b16) (o := 0) (v := .agg #[.int .i64 0, .int .i64 0, .int .i64 0, .slice X14 0 c15]) (c' := #[.int .i64 0, .int .i64 0, .int .i64 0, .slice X14 0 c15]) (AF_ev rfl tp) (AF_ev rfl (up rfl (up rfl (up rfl tp)))) hst .here sz39 (by simp [Value.cells]) (by simp [Value.cells, Value.oneCell']) rfl fun w hst => ?_
  refine RW.soft Wd.a (v := .bool false) (by exact E.assign (AF_ev rfl (u0 (up rfl (up rfl tp))))) ?_
  refine RW.soft Wd.a (v := .int .i64 150) (by exact E.assign (AF_ev rfl (up rfl (u0 (up rfl tp))))) ?_
  refine RW.fin (fun τ => τ 0 = .bool false ∧ τ 1 = .pointer (some ⟨t1, 0, none⟩) ∧ τ 2 = .int .i64 1 ∧ τ 3 = .int .i64 0 ∧ τ 5 = .bool false ∧ τ 6 = .int .i64 0 ∧ τ 7 = .int .i64 0 ∧ τ 8 = .pointer (some ⟨b7, 0, none⟩) ∧ τ 9 = .bool true ∧ τ 10 = .int .i64 0 ∧ τ 13 = .int .i64 151 ∧ τ 15 = .bool false ∧ τ 16 = .int .i64 0 ∧ τ 17 = .int .i64 0 ∧ τ 20 = .int .i64 150 ∧ τ 25 = .bool false) ⟨up rfl (up rfl (u0 (up rfl (up rfl (up rfl (up rfl (up rfl (up rfl (up rfl hs0))))))))), up rfl (up rfl (u0 (up rfl (up rfl (up rfl (up rfl (up rfl (up rfl (up rfl hs1))))))))), up rfl (up rfl (u0 (up rfl (up rfl (up rfl (up rfl (up rfl (up rfl (up rfl hs2))))))))), up rfl (up rfl (u0 (up rfl (up rfl (up rfl (up rfl (up rfl (up rfl (up rfl hs3))))))))), up rfl (up rfl (u0 (up rfl (up rfl (up rfl (up rfl (up rfl (up rfl (up rfl hs5))))))))), up rfl (up rfl (u0 (up rfl (up rfl (up rfl (up rfl (up rfl (up rfl (up rfl hs6))))))))), up rfl (up rfl (u0 (up rfl (up rfl (up rfl (up rfl (up rfl (up rfl (up rfl hs7))))))))), up rfl (up rfl (u0 (up rfl (up rfl (up rfl (up rfl (up rfl (up rfl (up rfl hs8))))))))), up rfl (up rfl (u0 (up rfl (up rfl (up rfl (up rfl (up rfl (up rfl (up rfl hs9))))))))), up rfl (up rfl (u0 (up rfl (up rfl (up rfl (up rfl (up rfl (up rfl (up rfl hs10))))))))), up rfl (up rfl (u0 (up rfl (up rfl (up rfl (up rfl (up rfl (up rfl (up rfl hs13))))))))), up rfl (up rfl (u0 (up rfl (up rfl (up rfl (up rfl (up rfl (up rfl (up rfl hs15))))))))), up rfl (up rfl (u0 (up rfl (up rfl (up rfl (up rfl (up rfl (up rfl (up rfl hs16))))))))), up rfl (up rfl (u0 (up rfl (up rfl (up rfl (up rfl (up rfl (up rfl (up rfl hs17))))))))), tp, up rfl (up rfl (u0 (up rfl (up rfl (up rfl (up rfl (up rfl (up rfl (up rfl hs25)))))))))⟩ ?_
  rintro τ ⟨hs0, hs1, hs2, hs3, hs5, hs6, hs7, hs8, hs9, hs10, hs13, hs15, hs16, hs17, hs20, hs25⟩
  refine CW.seq ?_
  refine CW.region ?_
  refine RW.soft Wd.a (v := .pointer (some ⟨t1, 0, none⟩)) (by exact E.move (AF_ev rfl hs1)) ?_
  have hst := hst.take (.there (.there .here))
  refine RW.hard Wd.a ?_
  refine H.call0 Try.func15 nm15 rfl (map1 (AF_ev rfl tp)) (Calls.mono (Open_C (L' := [(2, 0, ⟨0, 0, 0, []⟩)]) (n' := 3) (a := 2) (e := 0) (by rfl) (by rfl) (by rfl) (by rfl) (by decide) hst) ?_)
  rintro _ w ⟨rfl, hst⟩
  refine ⟨_, rfl, ?_⟩
  show RW _ _ _ _ _ _ _
  refine RW.soft Wd.a (v := .tuple #[.int .i64 2, .int .i64 0]) (by exact E.move (AF_ev rfl tp)) ?_
  refine RW.soft Wd.a (v := .int .i64 2) (by exact E.extract (vs := #[.int .i64 2, .int .i64 0]) (AF_ev rfl tp) rfl) ?_
  refine RW.soft Wd.a (v := .int .i64 0) (by exact E.extract (vs := #[.int .i64 2, .int .i64 0]) (AF_ev rfl (up rfl tp)) rfl) ?_
  refine RW.soft Wd.a (v := .int .i64 2) (by exact E.assign (AF_ev rfl (up rfl tp))) ?_
  refine RW.soft Wd.a (v := .int .i64 0) (by exact E.assign (AF_ev rfl (up rfl tp))) ?_
  refine RW.fin (fun τ => τ 0 = .bool false ∧ τ 1 = .pointer (some ⟨t1, 0, none⟩) ∧ τ 2 = .int .i64 1 ∧ τ 3 = .int .i64 0 ∧ τ 5 = .bool false ∧ τ 6 = .int .i64 0 ∧ τ 7 = .int .i64 0 ∧ τ 8 = .pointer (some ⟨b7, 0, none⟩) ∧ τ 9 = .bool true ∧ τ 10 = .int .i64 0 ∧ τ 13 = .int .i64 151 ∧ τ 15 = .bool false ∧ τ 16 = .int .i64 0 ∧ τ 17 = .int .i64 0 ∧ τ 20 = .int .i64 150 ∧ τ 21 = .int .i64 2 ∧ τ 22 = .int .i64 0 ∧ τ 25 = .bool false) ⟨up rfl (up rfl (up rfl (up rfl (up rfl (up rfl (up rfl hs0)))))), up rfl (up rfl (up rfl (up rfl (up rfl (up rfl (up rfl hs1)))))), up rfl (up rfl (up rfl (up rfl (up rfl (up rfl (up rfl hs2)))))), up rfl (up rfl (up rfl (up rfl (up rfl (up rfl (up rfl hs3)))))), up rfl (up rfl (up rfl (up rfl (up rfl (up rfl (up rfl hs5)))))), up rfl (up rfl (up rfl (up rfl (up rfl (up rfl (up rfl hs6)))))), up rfl (up rfl (up rfl (up rfl (up rfl (up rfl (up rfl hs7)))))), up rfl (up rfl (up rfl (up rfl (up rfl (up rfl (up rfl hs8)))))), up rfl (up rfl (up rfl (up rfl (up rfl (up rfl (up rfl hs9)))))), up rfl (up rfl (up rfl (up rfl (up rfl (up rfl (up rfl hs10)))))), up rfl (up rfl (up rfl (up rfl (up rfl (up rfl (up rfl hs13)))))), up rfl (up rfl (up rfl (up rfl (up rfl (up rfl (up rfl hs15)))))), up rfl (up rfl (up rfl (up rfl (up rfl (up rfl (up rfl hs16)))))), up rfl (up rfl (up rfl (up rfl (up rfl (up rfl (up rfl hs17)))))), up rfl (up rfl (up rfl (up rfl (up rfl (up rfl (up rfl hs20)))))), up rfl tp, tp, up rfl (up rfl (up rfl (up rfl (up rfl (up rfl (up rfl hs25))))))⟩ ?_
  rintro τ ⟨hs0, hs1, hs2, hs3, hs5, hs6, hs7, hs8, hs9, hs10, hs13, hs15, hs16, hs17, hs20, hs21, hs22, hs25⟩
  refine CW.seq ?_
  refine CW.region ?_
  refine RW.soft Wd.a (v := .int .i64 1) (by exact E.move (AF_ev rfl hs2)) ?_
  refine RW.soft Wd.a (v := .bool true) (by exact E.eql (k := .i64) (a := 1) (b := 1) (AF_ev rfl tp) rfl) ?_
  refine RW.soft Wd.a (v := .bool true) (by exact E.move (AF_ev rfl tp)) ?_
  refine RW.soft (by exact Wd.yes (x := 73) rfl (AF_ev rfl tp)) (v := .int .i64 0) (by exact E.move (AF_ev rfl (up rfl (up rfl (up rfl hs3))))) ?_
  refine RW.soft (by exact Wd.yes (x := 73) rfl (AF_ev rfl (up rfl tp))) (v := .bool true) (by exact E.eql (k := .i64) (a := 0) (b := 0) (AF_ev rfl tp) rfl) ?_
  refine RW.soft Wd.a (v := .bool true) (by exact E.pickT (AF_ev rfl (up rfl (up rfl tp))) (AF_ev rfl tp)) ?_
  refine RW.soft Wd.a (v := .bool true) (by exact E.move (AF_ev rfl tp)) ?_
  refine RW.soft (by exact Wd.yes (x := 77) rfl (AF_ev rfl tp)) (v := .bool false) (by exact E.move (AF_ev rfl (up rfl (up rfl (up rfl (up rfl (up rfl (up rfl (up rfl hs5))))))))) ?_
  refine RW.soft (by exact Wd.yes (x := 77) rfl (AF_ev rfl (up rfl tp))) (v := .bool true) (by exact E.not (b := false) (AF_ev rfl tp)) ?_
  refine RW.soft Wd.a (v := .bool true) (by exact E.pickT (AF_ev rfl (up rfl (up rfl tp))) (AF_ev rfl tp)) ?_
  refine RW.soft Wd.a (v := .bool true) (by exact E.move (AF_ev rfl tp)) ?_
  refine RW.soft (by exact Wd.yes (x := 81) rfl (AF_ev rfl tp)) (v := .int .i64 0) (by exact E.move (AF_ev rfl (up rfl (up rfl (up rfl (up rfl (up rfl (up rfl (up rfl (up rfl (up rfl (up rfl (up rfl hs6))))))))))))) ?_
  refine RW.soft (by exact Wd.yes (x := 81) rfl (AF_ev rfl (up rfl tp))) (v := .bool true) (by exact E.eql (k := .i64) (a := 0) (b := 0) (AF_ev rfl tp) rfl) ?_
  refine RW.soft Wd.a (v := .bool true) (by exact E.pickT (AF_ev rfl (up rfl (up rfl tp))) (AF_ev rfl tp)) ?_
  refine RW.soft Wd.a (v := .bool true) (by exact E.move (AF_ev rfl tp)) ?_
  refine RW.soft (by exact Wd.yes (x := 85) rfl (AF_ev rfl tp)) (v := .int .i64 0) (by exact E.move (AF_ev rfl (up rfl (up rfl (up rfl (up rfl (up rfl (up rfl (up rfl (up rfl (up rfl (up rfl (up rfl (up rfl (up rfl (up rfl (up rfl hs7))))))))))))))))) ?_
  refine RW.soft (by exact Wd.yes (x := 85) rfl (AF_ev rfl (up rfl tp))) (v := .bool true) (by exact E.eql (k := .i64) (a := 0) (b := 0) (AF_ev rfl tp) rfl) ?_
  refine RW.soft Wd.a (v := .bool true) (by exact E.pickT (AF_ev rfl (up rfl (up rfl tp))) (AF_ev rfl tp)) ?_
  refine RW.soft Wd.a (v := .bool true) (by exact E.move (AF_ev rfl tp)) ?_
  refine RW.soft (by exact Wd.yes (x := 89) rfl (AF_ev rfl tp)) (v := .pointer (some ⟨b7, 1, none⟩)) (by exact E.fieldAddr (b := b7) (o := 0) (f := { name := "N", type := 3, offset := 1, embedded := false, tag := "", pkgPath := "", byteOffset := 8 }) (AF_ev rfl (up rfl (up rfl (up rfl (up rfl (up rfl (up rfl (up rfl (up rfl (up rfl (up rfl (up rfl (up rfl (up rfl (up rfl (up rfl (up rfl (up rfl (up rfl (up rfl hs8)))))))))))))))))))) Try.underlying39 rfl sz3 rfl) ?_
  refine RW.soft (by exact Wd.yes (x := 89) rfl (AF_ev rfl (up rfl tp))) (v := .int .i64 7) (by exact E.load (a := ⟨b7, 1, none⟩) Try.underlying3 rfl (AF_ev rfl tp) (hst.cell (.there (.there (.there (.there (.there (.there (.there .here))))))) rfl)) ?_
  refine RW.soft (by exact Wd.yes (x := 89) rfl (AF_ev rfl (up rfl (up rfl tp)))) (v := .bool true) (by exact E.eql (k := .i64) (a := 7) (b := 7) (AF_ev rfl tp) rfl) ?_
  refine RW.soft Wd.a (v := .bool true) (by exact E.pickT (AF_ev rfl (up rfl (up rfl (up rfl tp)))) (AF_ev rfl tp)) ?_
  refine RW.soft Wd.a (v := .bool true) (by exact E.move (AF_ev rfl tp)) ?_
  refine RW.soft (by exact Wd.yes (x := 94) rfl (AF_ev rfl tp)) (v := .bool true) (by exact E.move (AF_ev rfl (up rfl (up rfl (up rfl (up rfl (up rfl (up rfl (up rfl (up rfl (up rfl (up rfl (up rfl (up rfl (up rfl (up rfl (up rfl (up rfl (up rfl (up rfl (up rfl (up rfl (up rfl (up rfl (up rfl (up rfl hs9)))))))))))))))))))))))))) ?_
  refine RW.soft Wd.a (v := .bool true) (by exact E.pickT (AF_ev rfl (up rfl tp)) (AF_ev rfl tp)) ?_
  refine RW.soft Wd.a (v := .bool true) (by exact E.move (AF_ev rfl tp)) ?_
  refine RW.soft (by exact Wd.yes (x := 97) rfl (AF_ev rfl tp)) (v := .int .i64 0) (by exact E.move (AF_ev rfl (up rfl (up rfl (up rfl (up rfl (up rfl (up rfl (up rfl (up rfl (up rfl (up rfl (up rfl (up rfl (up rfl (up rfl (up rfl (up rfl (up rfl (up rfl (up rfl (up rfl (up rfl (up rfl (up rfl (up rfl (up rfl (up rfl (up rfl hs10))))))))))))))))))))))))))))) ?_
  refine RW.soft (by exact Wd.yes (x := 97) rfl (AF_ev rfl (up rfl tp))) (v := .bool true) (by exact E.eql (k := .i64) (a := 0) (b := 0) (AF_ev rfl tp) rfl) ?_
  refine RW.soft Wd.a (v := .bool true) (by exact E.pickT (AF_ev rfl (up rfl (up rfl tp))) (AF_ev rfl tp)) ?_
  refine RW.soft Wd.a (v := .bool true) (by exact E.move (AF_ev rfl tp)) ?_
  refine RW.soft (by exact Wd.yes (x := 101) rfl (AF_ev rfl tp)) (v := .int .i64 151) (by exact E.move (AF_ev rfl (up rfl (up rfl (up rfl (up rfl (up rfl (up rfl (up rfl (up rfl (up rfl (up rfl (up rfl (up rfl (up rfl (up rfl (up rfl (up rfl (up rfl (up rfl (up rfl (up rfl (up rfl (up rfl (up rfl (up rfl (up rfl (up rfl (up rfl (up rfl (up rfl (up rfl (up rfl hs13))))))))))))))))))))))))))))))))) ?_
  refine RW.soft (by exact Wd.yes (x := 101) rfl (AF_ev rfl (up rfl tp))) (v := .bool true) (by exact E.eql (k := .i64) (a := 151) (b := 151) (AF_ev rfl tp) rfl) ?_
  refine RW.soft Wd.a (v := .bool true) (by exact E.pickT (AF_ev rfl (up rfl (up rfl tp))) (AF_ev rfl tp)) ?_
  refine RW.soft Wd.a (v := .bool true) (by exact E.move (AF_ev rfl tp)) ?_
  refine RW.soft (by exact Wd.yes (x := 105) rfl (AF_ev rfl tp)) (v := .bool false) (by exact E.move (AF_ev rfl (up rfl (up rfl (up rfl (up rfl (up rfl (up rfl (up rfl (up rfl (up rfl (up rfl (up rfl (up rfl (up rfl (up rfl (up rfl (up rfl (up rfl (up rfl (up rfl (up rfl (up rfl (up rfl (up rfl (up rfl (up rfl (up rfl (up rfl (up rfl (up rfl (up rfl (up rfl (up rfl (up rfl (up rfl (up rfl hs15))))))))))))))))))))))))))))))))))))) ?_
  refine RW.soft (by exact Wd.yes (x := 105) rfl (AF_ev rfl (up rfl tp))) (v := .bool true) (by exact E.not (b := false) (AF_ev rfl tp)) ?_
  refine RW.soft Wd.a (v := .bool true) (by exact E.pickT (AF_ev rfl (up rfl (up rfl tp))) (AF_ev rfl tp)) ?_
  refine RW.soft Wd.a (v := .bool true) (by exact E.move (AF_ev rfl tp)) ?_
  refine RW.soft (by exact Wd.yes (x := 109) rfl (AF_ev rfl tp)) (v := .int .i64 0) (by exact E.move (AF_ev rfl (up rfl (up rfl (up rfl (up rfl (up rfl (up rfl (up rfl (up rfl (up rfl (up rfl (up rfl (up rfl (up rfl (up rfl (up rfl (up rfl (up rfl (up rfl (up rfl (up rfl (up rfl (up rfl (up rfl (up rfl (up rfl (up rfl (up rfl (up rfl (up rfl (up rfl (up rfl (up rfl (up rfl (up rfl (up rfl (up rfl (up rfl (up rfl (up rfl hs16))))))))))))))))))))))))))))))))))))))))) ?_
  refine RW.soft (by exact Wd.yes (x := 109) rfl (AF_ev rfl (up rfl tp))) (v := .bool true) (by exact E.eql (k := .i64) (a := 0) (b := 0) (AF_ev rfl tp) rfl) ?_
  refine RW.soft Wd.a (v := .bool true) (by exact E.pickT (AF_ev rfl (up rfl (up rfl tp))) (AF_ev rfl tp)) ?_
  refine RW.soft Wd.a (v := .bool true) (by exact E.move (AF_ev rfl tp)) ?_
  refine RW.soft (by exact Wd.yes (x := 113) rfl (AF_ev rfl tp)) (v := .int .i64 0) (by exact E.move (AF_ev rfl (up rfl (up rfl (up rfl (up rfl (up rfl (up rfl (up rfl (up rfl (up rfl (up rfl (up rfl (up rfl (up rfl (up rfl (up rfl (up rfl (up rfl (up rfl (up rfl (up rfl (up rfl (up rfl (up rfl (up rfl (up rfl (up rfl (up rfl (up rfl (up rfl (up rfl (up rfl (up rfl (up rfl (up rfl (up rfl (up rfl (up rfl (up rfl (up rfl (up rfl (up rfl (up rfl (up rfl hs17))))))))))))))))))))))))))))))))))))))))))))) ?_
  refine RW.soft (by exact Wd.yes (x := 113) rfl (AF_ev rfl (up rfl tp))) (v := .bool true) (by exact E.eql (k := .i64) (a := 0) (b := 0) (AF_ev rfl tp) rfl) ?_
  refine RW.soft Wd.a (v := .bool true) (by exact E.pickT (AF_ev rfl (up rfl (up rfl tp))) (AF_ev rfl tp)) ?_
  refine RW.soft Wd.a (v := .bool true) (by exact E.move (AF_ev rfl tp)) ?_
  refine RW.soft (by exact Wd.yes (x := 117) rfl (AF_ev rfl tp)) (v := .int .i64 150) (by exact E.move (AF_ev rfl (up rfl (up rfl (up rfl (up rfl (up rfl (up rfl (up rfl (up rfl (up rfl (up rfl (up rfl (up rfl (up rfl (up rfl (up rfl (up rfl (up rfl (up rfl (up rfl (up rfl (up rfl (up rfl (up rfl (up rfl (up rfl (up rfl (up rfl (up rfl (up rfl (up rfl (up rfl (up rfl (up rfl (up rfl (up rfl (up rfl (up rfl (up rfl (up rfl (up rfl (up rfl (up rfl (up rfl (up rfl (up rfl (up rfl (up rfl hs20))))))))))))))))))))))))))))))))))))))))))))))))) ?_
  refine RW.soft (by exact Wd.yes (x := 117) rfl (AF_ev rfl (up rfl tp))) (v := .bool true) (by exact E.eql (k := .i64) (a := 150) (b := 150) (AF_ev rfl tp) rfl) ?_
  refine RW.soft Wd.a (v := .bool true) (by exact E.pickT (AF_ev rfl (up rfl (up rfl tp))) (AF_ev rfl tp)) ?_
  refine RW.soft Wd.a (v := .bool true) (by exact E.move (AF_ev rfl tp)) ?_
  refine RW.soft (by exact Wd.yes (x := 121) rfl (AF_ev rfl tp)) (v := .int .i64 2) (by exact E.move (AF_ev rfl (up rfl (up rfl (up rfl (up rfl (up rfl (up rfl (up rfl (up rfl (up rfl (up rfl (up rfl (up rfl (up rfl (up rfl (up rfl (up rfl (up rfl (up rfl (up rfl (up rfl (up rfl (up rfl (up rfl (up rfl (up rfl (up rfl (up rfl (up rfl (up rfl (up rfl (up rfl (up rfl (up rfl (up rfl (up rfl (up rfl (up rfl (up rfl (up rfl (up rfl (up rfl (up rfl (up rfl (up rfl (up rfl (up rfl (up rfl (up rfl (up rfl (up rfl (up rfl hs21))))))))))))))))))))))))))))))))))))))))))))))))))))) ?_
  refine RW.soft (by exact Wd.yes (x := 121) rfl (AF_ev rfl (up rfl tp))) (v := .bool true) (by exact E.eql (k := .i64) (a := 2) (b := 2) (AF_ev rfl tp) rfl) ?_
  refine RW.soft Wd.a (v := .bool true) (by exact E.pickT (AF_ev rfl (up rfl (up rfl tp))) (AF_ev rfl tp)) ?_
  refine RW.soft Wd.a (v := .bool true) (by exact E.move (AF_ev rfl tp)) ?_
  refine RW.soft (by exact Wd.yes (x := 125) rfl (AF_ev rfl tp)) (v := .int .i64 0) (by exact E.move (AF_ev rfl (up rfl (up rfl (up rfl (up rfl (up rfl (up rfl (up rfl (up rfl (up rfl (up rfl (up rfl (up rfl (up rfl (up rfl (up rfl (up rfl (up rfl (up rfl (up rfl (up rfl (up rfl (up rfl (up rfl (up rfl (up rfl (up rfl (up rfl (up rfl (up rfl (up rfl (up rfl (up rfl (up rfl (up rfl (up rfl (up rfl (up rfl (up rfl (up rfl (up rfl (up rfl (up rfl (up rfl (up rfl (up rfl (up rfl (up rfl (up rfl (up rfl (up rfl (up rfl (up rfl (up rfl (up rfl (up rfl hs22))))))))))))))))))))))))))))))))))))))))))))))))))))))))) ?_
  refine RW.soft (by exact Wd.yes (x := 125) rfl (AF_ev rfl (up rfl tp))) (v := .bool true) (by exact E.eql (k := .i64) (a := 0) (b := 0) (AF_ev rfl tp) rfl) ?_
  refine RW.soft Wd.a (v := .bool true) (by exact E.pickT (AF_ev rfl (up rfl (up rfl tp))) (AF_ev rfl tp)) ?_
  refine RW.soft Wd.a (v := .bool true) (by exact E.assign (AF_ev rfl tp)) ?_
  refine RW.fin (fun τ => τ 0 = .bool true ∧ τ 1 = .pointer (some ⟨t1, 0, none⟩) ∧ τ 2 = .int .i64 1 ∧ τ 3 = .int .i64 0 ∧ τ 5 = .bool false ∧ τ 6 = .int .i64 0 ∧ τ 7 = .int .i64 0 ∧ τ 8 = .pointer (some ⟨b7, 0, none⟩) ∧ τ 9 = .bool true ∧ τ 10 = .int .i64 0 ∧ τ 13 = .int .i64 151 ∧ τ 15 = .bool false ∧ τ 16 = .int .i64 0 ∧ τ 17 = .int .i64 0 ∧ τ 20 = .int .i64 150 ∧ τ 21 = .int .i64 2 ∧ τ 22 = .int .i64 0 ∧ τ 25 = .bool false) ⟨tp, up rfl (up rfl (up rfl (up rfl (up rfl (up rfl (up rfl (up rfl (up rfl (up rfl (up rfl (up rfl (up rfl (up rfl (up rfl (up rfl (up rfl (up rfl (up rfl (up rfl (up rfl (up rfl (up rfl (up rfl (up rfl (up rfl (up rfl (up rfl (up rfl (up rfl (up rfl (up rfl (up rfl (up rfl (up rfl (up rfl (up rfl (up rfl (up rfl (up rfl (up rfl (up rfl (up rfl (up rfl (up rfl (up rfl (up rfl (up rfl (up rfl (up rfl (up rfl (up rfl (up rfl (up rfl (up rfl (up rfl (up rfl (up rfl (up rfl hs1)))))))))))))))))))))))))))))))))))))))))))))))))))))))))), up rfl (up rfl (up rfl (up rfl (up rfl (up rfl (up rfl (up rfl (up rfl (up rfl (up rfl (up rfl (up rfl (up rfl (up rfl (up rfl (up rfl (up rfl (up rfl (up rfl (up rfl (up rfl (up rfl (up rfl (up rfl (up rfl (up rfl (up rfl (up rfl (up rfl (up rfl (up rfl (up rfl (up rfl (up rfl (up rfl (up rfl (up rfl (up rfl (up rfl (up rfl (up rfl (up rfl (up rfl (up rfl (up rfl (up rfl (up rfl (up rfl (up rfl (up rfl (up rfl (up rfl (up rfl (up rfl (up rfl (up rfl (up rfl (up rfl hs2)))))))))))))))))))))))))))))))))))))))))))))))))))))))))), up rfl (up rfl (up rfl (up rfl (up rfl (up rfl (up rfl (up rfl (up rfl (up rfl (up rfl (up rfl (up rfl (up rfl (up rfl (up rfl (up rfl (up rfl (up rfl (up rfl (up rfl (up rfl (up rfl (up rfl (up rfl (up rfl (up rfl (up rfl (up rfl (up rfl (up rfl (up rfl (up rfl (up rfl (up rfl (up rfl (up rfl (up rfl (up rfl (up rfl (up rfl (up rfl (up rfl (up rfl (up rfl (up rfl (up rfl (up rfl (up rfl (up rfl (up rfl (up rfl (up rfl (up rfl (up rfl (up rfl (up rfl (up rfl (up rfl hs3)))))))))))))))))))))))))))))))))))))))))))))))))))))))))), up rfl (up rfl (up rfl (up rfl (up rfl (up rfl (up rfl (up rfl (up rfl (up rfl (up rfl (up rfl (up rfl (up rfl (up rfl (up rfl (up rfl (up rfl (up rfl (up rfl (up rfl (up rfl (up rfl (up rfl (up rfl (up rfl (up rfl (up rfl (up rfl (up rfl (up rfl (up rfl (up rfl (up rfl (up rfl (up rfl (up rfl (up rfl (up rfl (up rfl (up rfl (up rfl (up rfl (up rfl (up rfl (up rfl (up rfl (up rfl (up rfl (up rfl (up rfl (up rfl (up rfl (up rfl (up rfl (up rfl (up rfl (up rfl (up rfl hs5)))))))))))))))))))))))))))))))))))))))))))))))))))))))))), up rfl (up rfl (up rfl (up rfl (up rfl (up rfl (up rfl (up rfl (up rfl (up rfl (up rfl (up rfl (up rfl (up rfl (up rfl (up rfl (up rfl (up rfl (up rfl (up rfl (up rfl (up rfl (up rfl (up rfl (up rfl (up rfl (up rfl (up rfl (up rfl (up rfl (up rfl (up rfl (up rfl (up rfl (up rfl (up rfl (up rfl (up rfl (up rfl (up rfl (up rfl (up rfl (up rfl (up rfl (up rfl (up rfl (up rfl (up rfl (up rfl (up rfl (up rfl (up rfl (up rfl (up rfl (up rfl (up rfl (up rfl (up rfl (up rfl hs6)))))))))))))))))))))))))))))))))))))))))))))))))))))))))), up rfl (up rfl (up rfl (up rfl (up rfl (up rfl (up rfl (up rfl (up rfl (up rfl (up rfl (up rfl (up rfl (up rfl (up rfl (up rfl (up rfl (up rfl (up rfl (up rfl (up rfl (up rfl (up rfl (up rfl (up rfl (up rfl (up rfl (up rfl (up rfl (up rfl (up rfl (up rfl (up rfl (up rfl (up rfl (up rfl (up rfl (up rfl (up rfl (up rfl (up rfl (up rfl (up rfl (up rfl (up rfl (up rfl (up rfl (up rfl (up rfl (up rfl (up rfl (up rfl (up rfl (up rfl (up rfl (up rfl (up rfl (up rfl (up rfl hs7)))))))))))))))))))))))))))))))))))))))))))))))))))))))))), up rfl (up rfl (up rfl (up rfl (up rfl (up rfl (up rfl (up rfl (up rfl (up rfl (up rfl (up rfl (up rfl (up rfl (up rfl (up rfl (up rfl (up rfl (up rfl (up rfl (up rfl (up rfl (up rfl (up rfl (up rfl (up rfl (up rfl (up rfl (up rfl (up rfl (up rfl (up rfl (up rfl (up rfl (up rfl (up rfl (up rfl (up rfl (up rfl (up rfl (up rfl (up rfl (up rfl (up rfl (up rfl (up rfl (up rfl (up rfl (up rfl (up rfl (up rfl (up rfl (up rfl (up rfl (up rfl (up rfl (up rfl (up rfl (up rfl hs8)))))))))))))))))))))))))))))))))))))))))))))))))))))))))), up rfl (up rfl (up rfl (up rfl (up rfl (up rfl (up rfl (up rfl (up rfl (up rfl (up rfl (up rfl (up rfl (up rfl (up rfl (up rfl (up rfl (up rfl (up rfl (up rfl (up rfl (up rfl (up rfl (up rfl (up rfl (up rfl (up rfl (up rfl (up rfl (up rfl (up rfl (up rfl (up rfl (up rfl (up rfl (up rfl (up rfl (up rfl (up rfl (up rfl (up rfl (up rfl (up rfl (up rfl (up rfl (up rfl (up rfl (up rfl (up rfl (up rfl (up rfl (up rfl (up rfl (up rfl (up rfl (up rfl (up rfl (up rfl (up rfl hs9)))))))))))))))))))))))))))))))))))))))))))))))))))))))))), up rfl (up rfl (up rfl (up rfl (up rfl (up rfl (up rfl (up rfl (up rfl (up rfl (up rfl (up rfl (up rfl (up rfl (up rfl (up rfl (up rfl (up rfl (up rfl (up rfl (up rfl (up rfl (up rfl (up rfl (up rfl (up rfl (up rfl (up rfl (up rfl (up rfl (up rfl (up rfl (up rfl (up rfl (up rfl (up rfl (up rfl (up rfl (up rfl (up rfl (up rfl (up rfl (up rfl (up rfl (up rfl (up rfl (up rfl (up rfl (up rfl (up rfl (up rfl (up rfl (up rfl (up rfl (up rfl (up rfl (up rfl (up rfl (up rfl hs10)))))))))))))))))))))))))))))))))))))))))))))))))))))))))), up rfl (up rfl (up rfl (up rfl (up rfl (up rfl (up rfl (up rfl (up rfl (up rfl (up rfl (up rfl (up rfl (up rfl (up rfl (up rfl (up rfl (up rfl (up rfl (up rfl (up rfl (up rfl (up rfl (up rfl (up rfl (up rfl (up rfl (up rfl (up rfl (up rfl (up rfl (up rfl (up rfl (up rfl (up rfl (up rfl (up rfl (up rfl (up rfl (up rfl (up rfl (up rfl (up rfl (up rfl (up rfl (up rfl (up rfl (up rfl (up rfl (up rfl (up rfl (up rfl (up rfl (up rfl (up rfl (up rfl (up rfl (up rfl (up rfl hs13)))))))))))))))))))))))))))))))))))))))))))))))))))))))))), up rfl (up rfl (up rfl (up rfl (up rfl (up rfl (up rfl (up rfl (up rfl (up rfl (up rfl (up rfl (up rfl (up rfl (up rfl (up rfl (up rfl (up rfl (up rfl (up rfl (up rfl (up rfl (up rfl (up rfl (up rfl (up rfl (up rfl (up rfl (up rfl (up rfl (up rfl (up rfl (up rfl (up rfl (up rfl (up rfl (up rfl (up rfl (up rfl (up rfl (up rfl (up rfl (up rfl (up rfl (up rfl (up rfl (up rfl (up rfl (up rfl (up rfl (up rfl (up rfl (up rfl (up rfl (up rfl (up rfl (up rfl (up rfl (up rfl hs15)))))))))))))))))))))))))))))))))))))))))))))))))))))))))), up rfl (up rfl (up rfl (up rfl (up rfl (up rfl (up rfl (up rfl (up rfl (up rfl (up rfl (up rfl (up rfl (up rfl (up rfl (up rfl (up rfl (up rfl (up rfl (up rfl (up rfl (up rfl (up rfl (up rfl (up rfl (up rfl (up rfl (up rfl (up rfl (up rfl (up rfl (up rfl (up rfl (up rfl (up rfl (up rfl (up rfl (up rfl (up rfl (up rfl (up rfl (up rfl (up rfl (up rfl (up rfl (up rfl (up rfl (up rfl (up rfl (up rfl (up rfl (up rfl (up rfl (up rfl (up rfl (up rfl (up rfl (up rfl (up rfl hs16)))))))))))))))))))))))))))))))))))))))))))))))))))))))))), up rfl (up rfl (up rfl (up rfl (up rfl (up rfl (up rfl (up rfl (up rfl (up rfl (up rfl (up rfl (up rfl (up rfl (up rfl (up rfl (up rfl (up rfl (up rfl (up rfl (up rfl (up rfl (up rfl (up rfl (up rfl (up rfl (up rfl (up rfl (up rfl (up rfl (up rfl (up rfl (up rfl (up rfl (up rfl (up rfl (up rfl (up rfl (up rfl (up rfl (up rfl (up rfl (up rfl (up rfl (up rfl (up rfl (up rfl (up rfl (up rfl (up rfl (up rfl (up rfl (up rfl (up rfl (up rfl (up rfl (up rfl (up rfl (up rfl hs17)))))))))))))))))))))))))))))))))))))))))))))))))))))))))), up rfl (up rfl (up rfl (up rfl (up rfl (up rfl (up rfl (up rfl (up rfl (up rfl (up rfl (up rfl (up rfl (up rfl (up rfl (up rfl (up rfl (up rfl (up rfl (up rfl (up rfl (up rfl (up rfl (up rfl (up rfl (up rfl (up rfl (up rfl (up rfl (up rfl (up rfl (up rfl (up rfl (up rfl (up rfl (up rfl (up rfl (up rfl (up rfl (up rfl (up rfl (up rfl (up rfl (up rfl (up rfl (up rfl (up rfl (up rfl (up rfl (up rfl (up rfl (up rfl (up rfl (up rfl (up rfl (up rfl (up rfl (up rfl (up rfl hs20)))))))))))))))))))))))))))))))))))))))))))))))))))))))))), up rfl (up rfl (up rfl (up rfl (up rfl (up rfl (up rfl (up rfl (up rfl (up rfl (up rfl (up rfl (up rfl (up rfl (up rfl (up rfl (up rfl (up rfl (up rfl (up rfl (up rfl (up rfl (up rfl (up rfl (up rfl (up rfl (up rfl (up rfl (up rfl (up rfl (up rfl (up rfl (up rfl (up rfl (up rfl (up rfl (up rfl (up rfl (up rfl (up rfl (up rfl (up rfl (up rfl (up rfl (up rfl (up rfl (up rfl (up rfl (up rfl (up rfl (up rfl (up rfl (up rfl (up rfl (up rfl (up rfl (up rfl (up rfl (up rfl hs21)))))))))))))))))))))))))))))))))))))))))))))))))))))))))), up rfl (up rfl (up rfl (up rfl (up rfl (up rfl (up rfl (up rfl (up rfl (up rfl (up rfl (up rfl (up rfl (up rfl (up rfl (up rfl (up rfl (up rfl (up rfl (up rfl (up rfl (up rfl (up rfl (up rfl (up rfl (up rfl (up rfl (up rfl (up rfl (up rfl (up rfl (up rfl (up rfl (up rfl (up rfl (up rfl (up rfl (up rfl (up rfl (up rfl (up rfl (up rfl (up rfl (up rfl (up rfl (up rfl (up rfl (up rfl (up rfl (up rfl (up rfl (up rfl (up rfl (up rfl (up rfl (up rfl (up rfl (up rfl (up rfl hs22)))))))))))))))))))))))))))))))))))))))))))))))))))))))))), up rfl (up rfl (up rfl (up rfl (up rfl (up rfl (up rfl (up rfl (up rfl (up rfl (up rfl (up rfl (up rfl (up rfl (up rfl (up rfl (up rfl (up rfl (up rfl (up rfl (up rfl (up rfl (up rfl (up rfl (up rfl (up rfl (up rfl (up rfl (up rfl (up rfl (up rfl (up rfl (up rfl (up rfl (up rfl (up rfl (up rfl (up rfl (up rfl (up rfl (up rfl (up rfl (up rfl (up rfl (up rfl (up rfl (up rfl (up rfl (up rfl (up rfl (up rfl (up rfl (up rfl (up rfl (up rfl (up rfl (up rfl (up rfl (up rfl hs25))))))))))))))))))))))))))))))))))))))))))))))))))))))))))⟩ ?_
  rintro τ ⟨hs0, hs1, hs2, hs3, hs5, hs6, hs7, hs8, hs9, hs10, hs13, hs15, hs16, hs17, hs20, hs21, hs22, hs25⟩
  refine CW.ret ?_
  refine ret1 (v := .bool true) rfl (by exact (.tmp (AF_ev rfl hs0) .nil)) ?_
  have hst := hst.drop
  have hst := hst.drop
  have hst := hst.drop
  have hst := hst.drop
  have hst := hst.drop
  have hst := hst.drop
  have hst := hst.drop
  have hst := hst.drop
  have hst := hst.drop
  have hst := hst.drop
  have hst := hst.drop
  have hst := hst.drop
  exact ⟨p, hle, rfl, hst⟩
end Go.Proofs.Ytjagffnbobnofaa
