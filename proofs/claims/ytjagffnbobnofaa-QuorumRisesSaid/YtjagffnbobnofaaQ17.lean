/- The functions of the package quorum, walked through operation by operation. -/
import Derived.Test.YtjagffnbobnofaaQ15
import Derived.Test.YtjagffnbobnofaaQ16
import Derived.Test.YtjagffnbobnofaaQ13
import Derived.Test.YtjagffnbobnofaaQ14
import Derived.Test.YtjagffnbobnofaaQ11
import Derived.Test.YtjagffnbobnofaaQ12
import Derived.Test.YtjagffnbobnofaaQ9
import Derived.Test.YtjagffnbobnofaaQ10
import Derived.Test.YtjagffnbobnofaaQ8
import Derived.Test.YtjagffnbobnofaaSN
import Derived.Test.YtjagffnbobnofaaQ6
import Derived.Test.YtjagffnbobnofaaQ7
import Derived.Test.YtjagffnbobnofaaQ4
import Derived.Test.YtjagffnbobnofaaQ5
import Derived.Test.YtjagffnbobnofaaQ2
import Derived.Test.YtjagffnbobnofaaQ1
import Derived.Test.YtjagffnbobnofaaQ3
import Derived.Test.YtjagffnbobnofaaQ0
import Derived.Test.YtjagffnbobnofaaSM
namespace Go.Proofs.Ytjagffnbobnofaa
open Go.RowKit Go.SL Go.Q18
attribute [local irreducible] Go.SL.RW Go.SL.CW Go.SL.RD Go.SL.Hd Go.SL.St
set_option linter.unusedVariables false
set_option linter.unusedSimpArgs false

theorem nm33 : (Try.f33.name == "runtime.NumGoroutine") = false := by kernel_rfl
theorem nm35 : (Try.f35.name == "runtime.NumGoroutine") = false := by kernel_rfl
theorem nm41 : (Try.f41.name == "runtime.NumGoroutine") = false := by kernel_rfl
theorem nm43 : (Try.f43.name == "runtime.NumGoroutine") = false := by kernel_rfl

theorem shown18 {p : Pers} {w : World} {R : List Assn}  (hst : St p w (R)) :
    Calls Try.prog 31 #[] w fun e w => e = .returned (.bool true) ∧ St p w R := by
  refine enter Try.func31 rfl (by simp) (n := 74) rfl fun τ hτ => ?_
  clear hτ
  refine CW.seq ?_
  refine CW.region ?_
  refine RW.soft Wd.a (v := .bool false) (by exact E.assign rfl) ?_
  refine RW.fin (fun τ => τ 0 = .bool false) tp ?_
  rintro τ hs0
  refine CW.seq ?_
  refine CW.region ?_
  refine RW.hard Wd.a ?_
  refine H.buildSlice (e := 3) (cs := #[.int .i64 1, .int .i64 2]) (vs := #[(0, .int .i64 1), (1, .int .i64 2)]) (bld2 rfl rfl) (fun _ => by kernel_rfl) hst fun b1 w hst => ?_
  have hst : St p w (Own 3 1 (.slice (some ⟨b1, 0, none⟩) 2 2) 2 (([1, 2] : List Int).flatMap ienc) :: _) := hst.ownNew (n := 2) (cap := 2) (sz := 1) (xs := ([1, 2] : List Int).flatMap ienc) (by omega) (by simp [maxLen]) rfl rfl
  refine RW.hard Wd.a ?_
  refine H.call0 Try.func33 nm33 rfl (map2 (AF_ev rfl tp) rfl) (Calls.mono ((show Calls Try.prog 33 #[.slice (some ⟨b1, 0, none⟩) 2 2, .int .i64 3] w (fun e w => ∃ v, e = .returned (.tuple #[v, .int .i64 0]) ∧ St p w (Own 3 1 v [1, 2, 3].length ([1, 2, 3].flatMap ienc) :: Own 3 1 (.slice (some ⟨b1, 0, none⟩) 2 2) 2 (([1, 2]).flatMap ienc) :: R)) from (by
    have hq := q_Change (zs := ([1, 2] : List Int)) (own_TI (by first | rfl | omega | simp)) (by first | omega | decide) 3 hst
    rw [show chgE ([1, 2] : List Int) 3 = 0 from by decide, show chgR ([1, 2] : List Int) 3 = [1, 2, 3] from by decide] at hq; exact hq))) ?_)
  rintro _ w ⟨vX2, rfl, hst⟩
  obtain ⟨X2, c3, heX2, hcX2, hmX2, hlX2, hbX2⟩ := hst.shape
  subst heX2
  refine ⟨_, rfl, ?_⟩
  show RW _ _ _ _ _ _ _
  refine RW.soft Wd.a (v := .tuple #[.slice X2 3 c3, .int .i64 0]) (by exact E.move (AF_ev rfl tp)) ?_
  refine RW.soft Wd.a (v := .slice X2 3 c3) (by exact E.extract (vs := #[.slice X2 3 c3, .int .i64 0]) (AF_ev rfl tp) rfl) ?_
  refine RW.soft Wd.a (v := .int .i64 0) (by exact E.extract (vs := #[.slice X2 3 c3, .int .i64 0]) (AF_ev rfl (up rfl tp)) rfl) ?_
  refine RW.soft Wd.a (v := .slice X2 3 c3) (by exact E.assign (AF_ev rfl (up rfl tp))) ?_
  refine RW.soft Wd.a (v := .int .i64 0) (by exact E.assign (AF_ev rfl (up rfl tp))) ?_
  refine RW.fin (fun τ => τ 0 = .bool false ∧ τ 1 = .slice X2 3 c3 ∧ τ 2 = .int .i64 0) ⟨up rfl (up rfl (up rfl (up rfl (up rfl (up rfl (up rfl hs0)))))), up rfl tp, tp⟩ ?_
  rintro τ ⟨hs0, hs1, hs2⟩
  refine CW.seq ?_
  refine CW.region ?_
  refine RW.hard Wd.a ?_
  refine H.buildSlice (e := 3) (cs := #[.int .i64 1, .int .i64 2]) (vs := #[(0, .int .i64 1), (1, .int .i64 2)]) (bld2 rfl rfl) (fun _ => by kernel_rfl) hst fun b4 w hst => ?_
  have hst : St p w (Own 3 1 (.slice (some ⟨b4, 0, none⟩) 2 2) 2 (([1, 2] : List Int).flatMap ienc) :: _) := hst.ownNew (n := 2) (cap := 2) (sz := 1) (xs := ([1, 2] : List Int).flatMap ienc) (by omega) (by simp [maxLen]) rfl rfl
  refine RW.hard Wd.a ?_
  refine H.call0 Try.func33 nm33 rfl (map2 (AF_ev rfl tp) rfl) (Calls.mono ((show Calls Try.prog 33 #[.slice (some ⟨b4, 0, none⟩) 2 2, .int .i64 1] w (fun e w => ∃ v, e = .returned (.tuple #[v, .int .i64 0]) ∧ St p w (Own 3 1 v [2].length ([2].flatMap ienc) :: Own 3 1 (.slice (some ⟨b4, 0, none⟩) 2 2) 2 (([1, 2]).flatMap ienc) :: Own 3 1 (.slice X2 3 c3) 3 (([1, 2, 3]).flatMap ienc) :: Own 3 1 (.slice (some ⟨b1, 0, none⟩) 2 2) 2 (([1, 2]).flatMap ienc) :: R)) from (by
    have hq := q_Change (zs := ([1, 2] : List Int)) (own_TI (by first | rfl | omega | simp)) (by first | omega | decide) 1 hst
    rw [show chgE ([1, 2] : List Int) 1 = 0 from by decide, show chgR ([1, 2] : List Int) 1 = [2] from by decide] at hq; exact hq))) ?_)
  rintro _ w ⟨vX5, rfl, hst⟩
  obtain ⟨X5, c6, heX5, hcX5, hmX5, hlX5, hbX5⟩ := hst.shape
  subst heX5
  refine ⟨_, rfl, ?_⟩
  show RW _ _ _ _ _ _ _
  refine RW.soft Wd.a (v := .tuple #[.slice X5 1 c6, .int .i64 0]) (by exact E.move (AF_ev rfl tp)) ?_
  refine RW.soft Wd.a (v := .slice X5 1 c6) (by exact E.extract (vs := #[.slice X5 1 c6, .int .i64 0]) (AF_ev rfl tp) rfl) ?_
  refine RW.soft Wd.a (v := .int .i64 0) (by exact E.extract (vs := #[.slice X5 1 c6, .int .i64 0]) (AF_ev rfl (up rfl tp)) rfl) ?_
  refine RW.soft Wd.a (v := .slice X5 1 c6) (by exact E.assign (AF_ev rfl (up rfl tp))) ?_
  refine RW.soft Wd.a (v := .int .i64 0) (by exact E.assign (AF_ev rfl (up rfl tp))) ?_
  refine RW.fin (fun τ => τ 0 = .bool false ∧ τ 1 = .slice X2 3 c3 ∧ τ 2 = .int .i64 0 ∧ τ 3 = .slice X5 1 c6 ∧ τ 4 = .int .i64 0) ⟨up rfl (up rfl (up rfl (up rfl (up rfl (up rfl (up rfl hs0)))))), up rfl (up rfl (up rfl (up rfl (up rfl (up rfl (up rfl hs1)))))), up rfl (up rfl (up rfl (up rfl (up rfl (up rfl (up rfl hs2)))))), up rfl tp, tp⟩ ?_
  rintro τ ⟨hs0, hs1, hs2, hs3, hs4⟩
  refine CW.seq ?_
  refine CW.region ?_
  refine RW.hard Wd.a ?_
  refine H.buildSlice (e := 3) (cs := #[.int .i64 1]) (vs := #[(0, .int .i64 1)]) (bld1 rfl) (fun _ => by kernel_rfl) hst fun b7 w hst => ?_
  have hst : St p w (Own 3 1 (.slice (some ⟨b7, 0, none⟩) 1 1) 1 (([1] : List Int).flatMap ienc) :: _) := hst.ownNew (n := 1) (cap := 1) (sz := 1) (xs := ([1] : List Int).flatMap ienc) (by omega) (by simp [maxLen]) rfl rfl
  refine RW.hard Wd.a ?_
  refine H.call0 Try.func33 nm33 rfl (map2 (AF_ev rfl tp) rfl) (Calls.mono ((show Calls Try.prog 33 #[.slice (some ⟨b7, 0, none⟩) 1 1, .int .i64 1] w (fun e w => ∃ v, e = .returned (.tuple #[v, .int .i64 192]) ∧ St p w (Own 3 1 v ([] : List Int).length (([] : List Int).flatMap ienc) :: Own 3 1 (.slice (some ⟨b7, 0, none⟩) 1 1) 1 (([1]).flatMap ienc) :: Own 3 1 (.slice X5 1 c6) 1 (([2]).flatMap ienc) :: Own 3 1 (.slice (some ⟨b4, 0, none⟩) 2 2) 2 (([1, 2]).flatMap ienc) :: Own 3 1 (.slice X2 3 c3) 3 (([1, 2, 3]).flatMap ienc) :: Own 3 1 (.slice (some ⟨b1, 0, none⟩) 2 2) 2 (([1, 2]).flatMap ienc) :: R)) from (by
    have hq := q_Change (zs := ([1] : List Int)) (own_TI (by first | rfl | omega | simp)) (by first | omega | decide) 1 hst
    rw [show chgE ([1] : List Int) 1 = 192 from by decide, show chgR ([1] : List Int) 1 = ([] : List Int) from by decide] at hq; exact hq))) ?_)
  rintro _ w ⟨vX8, rfl, hst⟩
  obtain ⟨X8, c9, heX8, hcX8, hmX8, hlX8, hbX8⟩ := hst.shape
  subst heX8
  refine ⟨_, rfl, ?_⟩
  show RW _ _ _ _ _ _ _
  refine RW.soft Wd.a (v := .tuple #[.slice X8 0 c9, .int .i64 192]) (by exact E.move (AF_ev rfl tp)) ?_
  refine RW.soft Wd.a (v := .slice X8 0 c9) (by exact E.extract (vs := #[.slice X8 0 c9, .int .i64 192]) (AF_ev rfl tp) rfl) ?_
  refine RW.soft Wd.a (v := .int .i64 192) (by exact E.extract (vs := #[.slice X8 0 c9, .int .i64 192]) (AF_ev rfl (up rfl tp)) rfl) ?_
  refine RW.soft Wd.a (v := .slice X8 0 c9) (by exact E.assign (AF_ev rfl (up rfl tp))) ?_
  refine RW.soft Wd.a (v := .int .i64 192) (by exact E.assign (AF_ev rfl (up rfl tp))) ?_
  refine RW.fin (fun τ => τ 0 = .bool false ∧ τ 1 = .slice X2 3 c3 ∧ τ 2 = .int .i64 0 ∧ τ 3 = .slice X5 1 c6 ∧ τ 4 = .int .i64 0 ∧ τ 6 = .int .i64 192) ⟨up rfl (up rfl (up rfl (up rfl (up rfl (up rfl (up rfl hs0)))))), up rfl (up rfl (up rfl (up rfl (up rfl (up rfl (up rfl hs1)))))), up rfl (up rfl (up rfl (up rfl (up rfl (up rfl (up rfl hs2)))))), up rfl (up rfl (up rfl (up rfl (up rfl (up rfl (up rfl hs3)))))), up rfl (up rfl (up rfl (up rfl (up rfl (up rfl (up rfl hs4)))))), tp⟩ ?_
  rintro τ ⟨hs0, hs1, hs2, hs3, hs4, hs6⟩
  refine CW.seq ?_
  refine CW.region ?_
  refine RW.hard Wd.a ?_
  refine H.buildSlice (e := 3) (cs := #[.int .i64 1]) (vs := #[(0, .int .i64 1)]) (bld1 rfl) (fun _ => by kernel_rfl) hst fun b10 w hst => ?_
  have hst : St p w (Own 3 1 (.slice (some ⟨b10, 0, none⟩) 1 1) 1 (([1] : List Int).flatMap ienc) :: _) := hst.ownNew (n := 1) (cap := 1) (sz := 1) (xs := ([1] : List Int).flatMap ienc) (by omega) (by simp [maxLen]) rfl rfl
  refine RW.hard Wd.a ?_
  refine H.call0 Try.func33 nm33 rfl (map2 (AF_ev rfl tp) rfl) (Calls.mono ((show Calls Try.prog 33 #[.slice (some ⟨b10, 0, none⟩) 1 1, .int .i64 8] w (fun e w => ∃ v, e = .returned (.tuple #[v, .int .i64 192]) ∧ St p w (Own 3 1 v ([] : List Int).length (([] : List Int).flatMap ienc) :: Own 3 1 (.slice (some ⟨b10, 0, none⟩) 1 1) 1 (([1]).flatMap ienc) :: Own 3 1 (.slice X8 0 c9) 0 (([] : List Int).flatMap ienc) :: Own 3 1 (.slice (some ⟨b7, 0, none⟩) 1 1) 1 (([1]).flatMap ienc) :: Own 3 1 (.slice X5 1 c6) 1 (([2]).flatMap ienc) :: Own 3 1 (.slice (some ⟨b4, 0, none⟩) 2 2) 2 (([1, 2]).flatMap ienc) :: Own 3 1 (.slice X2 3 c3) 3 (([1, 2, 3]).flatMap ienc) :: Own 3 1 (.slice (some ⟨b1, 0, none⟩) 2 2) 2 (([1, 2]).flatMap ienc) :: R)) from (by
    have hq := q_Change (zs := ([1] : List Int)) (own_TI (by first | rfl | omega | simp)) (by first | omega | decide) 8 hst
    rw [show chgE ([1] : List Int) 8 = 192 from by decide, show chgR ([1] : List Int) 8 = ([] : List Int) from by decide] at hq; exact hq))) ?_)
  rintro _ w ⟨vX11, rfl, hst⟩
  obtain ⟨X11, c12, heX11, hcX11, hmX11, hlX11, hbX11⟩ := hst.shape
  subst heX11
  refine ⟨_, rfl, ?_⟩
  show RW _ _ _ _ _ _ _
  refine RW.soft Wd.a (v := .tuple #[.slice X11 0 c12, .int .i64 192]) (by exact E.move (AF_ev rfl tp)) ?_
  refine RW.soft Wd.a (v := .slice X11 0 c12) (by exact E.extract (vs := #[.slice X11 0 c12, .int .i64 192]) (AF_ev rfl tp) rfl) ?_
  refine RW.soft Wd.a (v := .int .i64 192) (by exact E.extract (vs := #[.slice X11 0 c12, .int .i64 192]) (AF_ev rfl (up rfl tp)) rfl) ?_
  refine RW.soft Wd.a (v := .slice X11 0 c12) (by exact E.assign (AF_ev rfl (up rfl tp))) ?_
  refine RW.soft Wd.a (v := .int .i64 192) (by exact E.assign (AF_ev rfl (up rfl tp))) ?_
  refine RW.fin (fun τ => τ 0 = .bool false ∧ τ 1 = .slice X2 3 c3 ∧ τ 2 = .int .i64 0 ∧ τ 3 = .slice X5 1 c6 ∧ τ 4 = .int .i64 0 ∧ τ 6 = .int .i64 192 ∧ τ 8 = .int .i64 192) ⟨up rfl (up rfl (up rfl (up rfl (up rfl (up rfl (up rfl hs0)))))), up rfl (up rfl (up rfl (up rfl (up rfl (up rfl (up rfl hs1)))))), up rfl (up rfl (up rfl (up rfl (up rfl (up rfl (up rfl hs2)))))), up rfl (up rfl (up rfl (up rfl (up rfl (up rfl (up rfl hs3)))))), up rfl (up rfl (up rfl (up rfl (up rfl (up rfl (up rfl hs4)))))), up rfl (up rfl (up rfl (up rfl (up rfl (up rfl (up rfl hs6)))))), tp⟩ ?_
  rintro τ ⟨hs0, hs1, hs2, hs3, hs4, hs6, hs8⟩
  refine CW.seq ?_
  refine CW.region ?_
  refine RW.soft Wd.a (v := .slice X2 3 c3) (by exact E.move (AF_ev rfl hs1)) ?_
  refine RW.hard Wd.a ?_
  refine H.buildSlice (e := 3) (cs := #[.int .i64 1, .int .i64 2, .int .i64 3]) (vs := #[(0, .int .i64 1), (1, .int .i64 2), (2, .int .i64 3)]) (bld3 rfl rfl rfl) (fun _ => by kernel_rfl) hst fun b13 w hst => ?_
  have hst : St p w (Own 3 1 (.slice (some ⟨b13, 0, none⟩) 3 3) 3 (([1, 2, 3] : List Int).flatMap ienc) :: _) := hst.ownNew (n := 3) (cap := 3) (sz := 1) (xs := ([1, 2, 3] : List Int).flatMap ienc) (by omega) (by simp [maxLen]) rfl rfl
  have hst := hst.take (.there (.there (.there (.there (.there (.there (.there .here)))))))
  refine RW.hard Wd.a ?_
  refine H.call0 Try.func35 nm35 rfl (map2 (AF_ev rfl (up rfl tp)) (AF_ev rfl tp)) (Calls.mono (q_ints (zs := ([1, 2, 3] : List Int)) (own_TI (by first | rfl | omega | simp)) (own_TI (by first | rfl | omega | simp)) (by first | omega | decide) hst) ?_)
  rintro _ w ⟨rfl, hst⟩
  refine ⟨_, rfl, ?_⟩
  show RW _ _ _ _ _ _ _
  refine RW.soft Wd.a (v := .bool true) (by exact E.assign (AF_ev rfl tp)) ?_
  refine RW.fin (fun τ => τ 0 = .bool false ∧ τ 1 = .slice X2 3 c3 ∧ τ 2 = .int .i64 0 ∧ τ 3 = .slice X5 1 c6 ∧ τ 4 = .int .i64 0 ∧ τ 6 = .int .i64 192 ∧ τ 8 = .int .i64 192 ∧ τ 9 = .bool true) ⟨up rfl (up rfl (up rfl (up rfl hs0))), up rfl (up rfl (up rfl (up rfl hs1))), up rfl (up rfl (up rfl (up rfl hs2))), up rfl (up rfl (up rfl (up rfl hs3))), up rfl (up rfl (up rfl (up rfl hs4))), up rfl (up rfl (up rfl (up rfl hs6))), up rfl (up rfl (up rfl (up rfl hs8))), tp⟩ ?_
  rintro τ ⟨hs0, hs1, hs2, hs3, hs4, hs6, hs8, hs9⟩
  refine CW.seq ?_
  refine CW.region ?_
  refine RW.soft Wd.a (v := .slice X5 1 c6) (by exact E.move (AF_ev rfl hs3)) ?_
  refine RW.hard Wd.a ?_
  refine H.buildSlice (e := 3) (cs := #[.int .i64 2]) (vs := #[(0, .int .i64 2)]) (bld1 rfl) (fun _ => by kernel_rfl) hst fun b14 w hst => ?_
  have hst : St p w (Own 3 1 (.slice (some ⟨b14, 0, none⟩) 1 1) 1 (([2] : List Int).flatMap ienc) :: _) := hst.ownNew (n := 1) (cap := 1) (sz := 1) (xs := ([2] : List Int).flatMap ienc) (by omega) (by simp [maxLen]) rfl rfl
  have hst := hst.take (.there (.there (.there (.there (.there (.there (.there .here)))))))
  refine RW.hard Wd.a ?_
  refine H.call0 Try.func35 nm35 rfl (map2 (AF_ev rfl (up rfl tp)) (AF_ev rfl tp)) (Calls.mono (q_ints (zs := ([2] : List Int)) (own_TI (by first | rfl | omega | simp)) (own_TI (by first | rfl | omega | simp)) (by first | omega | decide) hst) ?_)
  rintro _ w ⟨rfl, hst⟩
  refine ⟨_, rfl, ?_⟩
  show RW _ _ _ _ _ _ _
  refine RW.soft Wd.a (v := .bool true) (by exact E.assign (AF_ev rfl tp)) ?_
  refine RW.fin (fun τ => τ 0 = .bool false ∧ τ 1 = .slice X2 3 c3 ∧ τ 2 = .int .i64 0 ∧ τ 3 = .slice X5 1 c6 ∧ τ 4 = .int .i64 0 ∧ τ 6 = .int .i64 192 ∧ τ 8 = .int .i64 192 ∧ τ 9 = .bool true ∧ τ 10 = .bool true) ⟨up rfl (up rfl (up rfl (up rfl hs0))), up rfl (up rfl (up rfl (up rfl hs1))), up rfl (up rfl (up rfl (up rfl hs2))), up rfl (up rfl (up rfl (up rfl hs3))), up rfl (up rfl (up rfl (up rfl hs4))), up rfl (up rfl (up rfl (up rfl hs6))), up rfl (up rfl (up rfl (up rfl hs8))), up rfl (up rfl (up rfl (up rfl hs9))), tp⟩ ?_
  rintro τ ⟨hs0, hs1, hs2, hs3, hs4, hs6, hs8, hs9, hs10⟩
  refine CW.seq ?_
  refine CW.region ?_
  refine RW.hard Wd.a ?_
  refine H.buildSlice (e := 3) (cs := #[.int .i64 1, .int .i64 2, .int .i64 3]) (vs := #[(0, .int .i64 1), (1, .int .i64 2), (2, .int .i64 3)]) (bld3 rfl rfl rfl) (fun _ => by kernel_rfl) hst fun b15 w hst => ?_
  refine RW.hard Wd.a ?_
  refine H.buildSlice (e := 3) (cs := #[.int .i64 3, .int .i64 1]) (vs := #[(0, .int .i64 3), (1, .int .i64 1)]) (bld2 rfl rfl) (fun _ => by kernel_rfl) hst fun b16 w hst => ?_
  have hst := hst.take (.there .here)
  have hst : St p w (Own 3 1 (.slice (some ⟨b15, 0, none⟩) 3 3) 3 (([1, 2, 3] : List Int).flatMap ienc) :: _) := hst.ownNew (n := 3) (cap := 3) (sz := 1) (xs := ([1, 2, 3] : List Int).flatMap ienc) (by omega) (by simp [maxLen]) rfl rfl
  have hst := hst.take (.there .here)
  have hst : St p w (Own 3 1 (.slice (some ⟨b16, 0, none⟩) 2 2) 2 (([3, 1] : List Int).flatMap ienc) :: _) := hst.ownNew (n := 2) (cap := 2) (sz := 1) (xs := ([3, 1] : List Int).flatMap ienc) (by omega) (by simp [maxLen]) rfl rfl
  have hst := hst.take (.there .here)
  refine RW.hard Wd.a ?_
  refine H.call0 Try.func41 nm41 rfl (map2 (AF_ev rfl (up rfl tp)) (AF_ev rfl tp)) (Calls.mono ((show Calls Try.prog 41 #[.slice (some ⟨b15, 0, none⟩) 3 3, .slice (some ⟨b16, 0, none⟩) 2 2] w (fun e w => e = .returned (.bool true) ∧ St p w (Own 3 1 (.slice (some ⟨b15, 0, none⟩) 3 3) 3 (([1, 2, 3]).flatMap ienc) :: Own 3 1 (.slice (some ⟨b16, 0, none⟩) 2 2) 2 (([3, 1]).flatMap ienc) :: Own 3 1 (.slice X5 1 c6) 1 (([2]).flatMap ienc) :: Own 3 1 (.slice (some ⟨b14, 0, none⟩) 1 1) 1 (([2]).flatMap ienc) :: Own 3 1 (.slice X2 3 c3) 3 (([1, 2, 3]).flatMap ienc) :: Own 3 1 (.slice (some ⟨b13, 0, none⟩) 3 3) 3 (([1, 2, 3]).flatMap ienc) :: Own 3 1 (.slice X11 0 c12) 0 (([] : List Int).flatMap ienc) :: Own 3 1 (.slice (some ⟨b10, 0, none⟩) 1 1) 1 (([1]).flatMap ienc) :: Own 3 1 (.slice X8 0 c9) 0 (([] : List Int).flatMap ienc) :: Own 3 1 (.slice (some ⟨b7, 0, none⟩) 1 1) 1 (([1]).flatMap ienc) :: Own 3 1 (.slice (some ⟨b4, 0, none⟩) 2 2) 2 (([1, 2]).flatMap ienc) :: Own 3 1 (.slice (some ⟨b1, 0, none⟩) 2 2) 2 (([1, 2]).flatMap ienc) :: R)) from (by
    have hq := q_Most (zs := ([1, 2, 3] : List Int)) (ys := ([3, 1] : List Int)) (own_TI (by first | rfl | omega | simp)) (by first | omega | decide) (own_TI (by first | rfl | omega | simp)) (by first | omega | decide) (by decide) hst
    rw [show (decide (((cntOf ([1, 2, 3] : List Int) ([3, 1] : List Int) : Nat) : Int) > ((([1, 2, 3] : List Int).length : Nat) : Int) / 2)) = true from by decide] at hq; exact hq))) ?_)
  rintro _ w ⟨rfl, hst⟩
  refine ⟨_, rfl, ?_⟩
  show RW _ _ _ _ _ _ _
  refine RW.soft Wd.a (v := .bool true) (by exact E.move (AF_ev rfl tp)) ?_
  refine RW.hard (by exact Wd.yes (x := 40) rfl (AF_ev rfl tp)) ?_
  refine H.buildSlice (e := 3) (cs := #[.int .i64 1, .int .i64 2, .int .i64 3, .int .i64 4]) (vs := #[(0, .int .i64 1), (1, .int .i64 2), (2, .int .i64 3), (3, .int .i64 4)]) (bld4 rfl rfl rfl rfl) (fun _ => by kernel_rfl) hst fun b17 w hst => ?_
  refine RW.hard (by exact Wd.yes (x := 40) rfl (AF_ev rfl (up rfl tp))) ?_
  refine H.buildSlice (e := 3) (cs := #[.int .i64 1, .int .i64 2]) (vs := #[(0, .int .i64 1), (1, .int .i64 2)]) (bld2 rfl rfl) (fun _ => by kernel_rfl) hst fun b18 w hst => ?_
  have hst := hst.take (.there .here)
  have hst : St p w (Own 3 1 (.slice (some ⟨b17, 0, none⟩) 4 4) 4 (([1, 2, 3, 4] : List Int).flatMap ienc) :: _) := hst.ownNew (n := 4) (cap := 4) (sz := 1) (xs := ([1, 2, 3, 4] : List Int).flatMap ienc) (by omega) (by simp [maxLen]) rfl rfl
  have hst := hst.take (.there .here)
  have hst : St p w (Own 3 1 (.slice (some ⟨b18, 0, none⟩) 2 2) 2 (([1, 2] : List Int).flatMap ienc) :: _) := hst.ownNew (n := 2) (cap := 2) (sz := 1) (xs := ([1, 2] : List Int).flatMap ienc) (by omega) (by simp [maxLen]) rfl rfl
  have hst := hst.take (.there .here)
  refine RW.hard (by exact Wd.yes (x := 40) rfl (AF_ev rfl (up rfl (up rfl tp)))) ?_
  refine H.call0 Try.func41 nm41 rfl (map2 (AF_ev rfl (up rfl tp)) (AF_ev rfl tp)) (Calls.mono ((show Calls Try.prog 41 #[.slice (some ⟨b17, 0, none⟩) 4 4, .slice (some ⟨b18, 0, none⟩) 2 2] w (fun e w => e = .returned (.bool false) ∧ St p w (Own 3 1 (.slice (some ⟨b17, 0, none⟩) 4 4) 4 (([1, 2, 3, 4]).flatMap ienc) :: Own 3 1 (.slice (some ⟨b18, 0, none⟩) 2 2) 2 (([1, 2]).flatMap ienc) :: Own 3 1 (.slice (some ⟨b15, 0, none⟩) 3 3) 3 (([1, 2, 3]).flatMap ienc) :: Own 3 1 (.slice (some ⟨b16, 0, none⟩) 2 2) 2 (([3, 1]).flatMap ienc) :: Own 3 1 (.slice X5 1 c6) 1 (([2]).flatMap ienc) :: Own 3 1 (.slice (some ⟨b14, 0, none⟩) 1 1) 1 (([2]).flatMap ienc) :: Own 3 1 (.slice X2 3 c3) 3 (([1, 2, 3]).flatMap ienc) :: Own 3 1 (.slice (some ⟨b13, 0, none⟩) 3 3) 3 (([1, 2, 3]).flatMap ienc) :: Own 3 1 (.slice X11 0 c12) 0 (([] : List Int).flatMap ienc) :: Own 3 1 (.slice (some ⟨b10, 0, none⟩) 1 1) 1 (([1]).flatMap ienc) :: Own 3 1 (.slice X8 0 c9) 0 (([] : List Int).flatMap ienc) :: Own 3 1 (.slice (some ⟨b7, 0, none⟩) 1 1) 1 (([1]).flatMap ienc) :: Own 3 1 (.slice (some ⟨b4, 0, none⟩) 2 2) 2 (([1, 2]).flatMap ienc) :: Own 3 1 (.slice (some ⟨b1, 0, none⟩) 2 2) 2 (([1, 2]).flatMap ienc) :: R)) from (by
    have hq := q_Most (zs := ([1, 2, 3, 4] : List Int)) (ys := ([1, 2] : List Int)) (own_TI (by first | rfl | omega | simp)) (by first | omega | decide) (own_TI (by first | rfl | omega | simp)) (by first | omega | decide) (by decide) hst
    rw [show (decide (((cntOf ([1, 2, 3, 4] : List Int) ([1, 2] : List Int) : Nat) : Int) > ((([1, 2, 3, 4] : List Int).length : Nat) : Int) / 2)) = false from by decide] at hq; exact hq))) ?_)
  rintro _ w ⟨rfl, hst⟩
  refine ⟨_, rfl, ?_⟩
  show RW _ _ _ _ _ _ _
  refine RW.soft (by exact Wd.yes (x := 40) rfl (AF_ev rfl (up rfl (up rfl (up rfl tp))))) (v := .bool true) (by exact E.not (b := false) (AF_ev rfl tp)) ?_
  refine RW.soft Wd.a (v := .bool true) (by exact E.pickT (AF_ev rfl (up rfl (up rfl (up rfl (up rfl tp))))) (AF_ev rfl tp)) ?_
  refine RW.soft Wd.a (v := .bool true) (by exact E.move (AF_ev rfl tp)) ?_
  refine RW.hard (by exact Wd.yes (x := 46) rfl (AF_ev rfl tp)) ?_
  refine H.buildSlice (e := 3) (cs := #[.int .i64 1, .int .i64 2, .int .i64 3]) (vs := #[(0, .int .i64 1), (1, .int .i64 2), (2, .int .i64 3)]) (bld3 rfl rfl rfl) (fun _ => by kernel_rfl) hst fun b19 w hst => ?_
  refine RW.hard (by exact Wd.yes (x := 46) rfl (AF_ev rfl (up rfl tp))) ?_
  refine H.buildSlice (e := 3) (cs := #[.int .i64 0, .int .i64 5, .int .i64 3, .int .i64 9]) (vs := #[(0, .int .i64 0), (1, .int .i64 5), (2, .int .i64 3), (3, .int .i64 9)]) (bld4 rfl rfl rfl rfl) (fun _ => by kernel_rfl) hst fun b20 w hst => ?_
  have hst := hst.take (.there .here)
  have hst : St p w (Own 3 1 (.slice (some ⟨b19, 0, none⟩) 3 3) 3 (([1, 2, 3] : List Int).flatMap ienc) :: _) := hst.ownNew (n := 3) (cap := 3) (sz := 1) (xs := ([1, 2, 3] : List Int).flatMap ienc) (by omega) (by simp [maxLen]) rfl rfl
  have hst := hst.take (.there .here)
  have hst : St p w (Own 3 1 (.slice (some ⟨b20, 0, none⟩) 4 4) 4 (([0, 5, 3, 9] : List Int).flatMap ienc) :: _) := hst.ownNew (n := 4) (cap := 4) (sz := 1) (xs := ([0, 5, 3, 9] : List Int).flatMap ienc) (by omega) (by simp [maxLen]) rfl rfl
  have hst := hst.take (.there .here)
  refine RW.hard (by exact Wd.yes (x := 46) rfl (AF_ev rfl (up rfl (up rfl tp)))) ?_
  refine H.call0 Try.func43 nm43 rfl (map2 (AF_ev rfl (up rfl tp)) (AF_ev rfl tp)) (Calls.mono ((show Calls Try.prog 43 #[.slice (some ⟨b19, 0, none⟩) 3 3, .slice (some ⟨b20, 0, none⟩) 4 4] w (fun e w => e = .returned (.int .i64 5) ∧ St p w (Own 3 1 (.slice (some ⟨b19, 0, none⟩) 3 3) 3 (([1, 2, 3]).flatMap ienc) :: Own 3 1 (.slice (some ⟨b20, 0, none⟩) 4 4) 4 (([0, 5, 3, 9]).flatMap ienc) :: Own 3 1 (.slice (some ⟨b17, 0, none⟩) 4 4) 4 (([1, 2, 3, 4]).flatMap ienc) :: Own 3 1 (.slice (some ⟨b18, 0, none⟩) 2 2) 2 (([1, 2]).flatMap ienc) :: Own 3 1 (.slice (some ⟨b15, 0, none⟩) 3 3) 3 (([1, 2, 3]).flatMap ienc) :: Own 3 1 (.slice (some ⟨b16, 0, none⟩) 2 2) 2 (([3, 1]).flatMap ienc) :: Own 3 1 (.slice X5 1 c6) 1 (([2]).flatMap ienc) :: Own 3 1 (.slice (some ⟨b14, 0, none⟩) 1 1) 1 (([2]).flatMap ienc) :: Own 3 1 (.slice X2 3 c3) 3 (([1, 2, 3]).flatMap ienc) :: Own 3 1 (.slice (some ⟨b13, 0, none⟩) 3 3) 3 (([1, 2, 3]).flatMap ienc) :: Own 3 1 (.slice X11 0 c12) 0 (([] : List Int).flatMap ienc) :: Own 3 1 (.slice (some ⟨b10, 0, none⟩) 1 1) 1 (([1]).flatMap ienc) :: Own 3 1 (.slice X8 0 c9) 0 (([] : List Int).flatMap ienc) :: Own 3 1 (.slice (some ⟨b7, 0, none⟩) 1 1) 1 (([1]).flatMap ienc) :: Own 3 1 (.slice (some ⟨b4, 0, none⟩) 2 2) 2 (([1, 2]).flatMap ienc) :: Own 3 1 (.slice (some ⟨b1, 0, none⟩) 2 2) 2 (([1, 2]).flatMap ienc) :: R)) from (by
    have hq := q_Agreed (zs := ([1, 2, 3] : List Int)) (ys := ([0, 5, 3, 9] : List Int)) (own_TI (by first | rfl | omega | simp)) (by first | omega | decide) (own_TI (by first | rfl | omega | simp)) (by first | omega | decide) (by decide) (by decide) (by decide) (show Fit ([0, 5, 3, 9] : List Int) from by unfold Fit I64; decide) hst
    rw [show bestOf ([1, 2, 3] : List Int) ([0, 5, 3, 9] : List Int) ([1, 2, 3] : List Int) = 5 from by decide] at hq; exact hq))) ?_)
  rintro _ w ⟨rfl, hst⟩
  refine ⟨_, rfl, ?_⟩
  show RW _ _ _ _ _ _ _
  refine RW.soft (by exact Wd.yes (x := 46) rfl (AF_ev rfl (up rfl (up rfl (up rfl tp))))) (v := .bool true) (by exact E.eql (k := .i64) (a := 5) (b := 5) (AF_ev rfl tp) rfl) ?_
  refine RW.soft Wd.a (v := .bool true) (by exact E.pickT (AF_ev rfl (up rfl (up rfl (up rfl (up rfl tp))))) (AF_ev rfl tp)) ?_
  refine RW.soft Wd.a (v := .bool true) (by exact E.move (AF_ev rfl tp)) ?_
  refine RW.soft (by exact Wd.yes (x := 52) rfl (AF_ev rfl tp)) (v := .bool true) (by exact E.move (AF_ev rfl (up rfl (up rfl (up rfl (up rfl (up rfl (up rfl (up rfl (up rfl (up rfl (up rfl (up rfl (up rfl (up rfl (up rfl (up rfl (up rfl hs9)))))))))))))))))) ?_
  refine RW.soft Wd.a (v := .bool true) (by exact E.pickT (AF_ev rfl (up rfl tp)) (AF_ev rfl tp)) ?_
  refine RW.soft Wd.a (v := .bool true) (by exact E.move (AF_ev rfl tp)) ?_
  refine RW.soft (by exact Wd.yes (x := 55) rfl (AF_ev rfl tp)) (v := .bool true) (by exact E.move (AF_ev rfl (up rfl (up rfl (up rfl (up rfl (up rfl (up rfl (up rfl (up rfl (up rfl (up rfl (up rfl (up rfl (up rfl (up rfl (up rfl (up rfl (up rfl (up rfl (up rfl hs10))))))))))))))))))))) ?_
  refine RW.soft Wd.a (v := .bool true) (by exact E.pickT (AF_ev rfl (up rfl tp)) (AF_ev rfl tp)) ?_
  refine RW.soft Wd.a (v := .bool true) (by exact E.move (AF_ev rfl tp)) ?_
  refine RW.soft (by exact Wd.yes (x := 58) rfl (AF_ev rfl tp)) (v := .int .i64 0) (by exact E.move (AF_ev rfl (up rfl (up rfl (up rfl (up rfl (up rfl (up rfl (up rfl (up rfl (up rfl (up rfl (up rfl (up rfl (up rfl (up rfl (up rfl (up rfl (up rfl (up rfl (up rfl (up rfl (up rfl (up rfl hs2)))))))))))))))))))))))) ?_
  refine RW.soft (by exact Wd.yes (x := 58) rfl (AF_ev rfl (up rfl tp))) (v := .bool true) (by exact E.eql (k := .i64) (a := 0) (b := 0) (AF_ev rfl tp) rfl) ?_
  refine RW.soft Wd.a (v := .bool true) (by exact E.pickT (AF_ev rfl (up rfl (up rfl tp))) (AF_ev rfl tp)) ?_
  refine RW.soft Wd.a (v := .bool true) (by exact E.move (AF_ev rfl tp)) ?_
  refine RW.soft (by exact Wd.yes (x := 62) rfl (AF_ev rfl tp)) (v := .int .i64 0) (by exact E.move (AF_ev rfl (up rfl (up rfl (up rfl (up rfl (up rfl (up rfl (up rfl (up rfl (up rfl (up rfl (up rfl (up rfl (up rfl (up rfl (up rfl (up rfl (up rfl (up rfl (up rfl (up rfl (up rfl (up rfl (up rfl (up rfl (up rfl (up rfl hs4)))))))))))))))))))))))))))) ?_
  refine RW.soft (by exact Wd.yes (x := 62) rfl (AF_ev rfl (up rfl tp))) (v := .bool true) (by exact E.eql (k := .i64) (a := 0) (b := 0) (AF_ev rfl tp) rfl) ?_
  refine RW.soft Wd.a (v := .bool true) (by exact E.pickT (AF_ev rfl (up rfl (up rfl tp))) (AF_ev rfl tp)) ?_
  refine RW.soft Wd.a (v := .bool true) (by exact E.move (AF_ev rfl tp)) ?_
  refine RW.soft (by exact Wd.yes (x := 66) rfl (AF_ev rfl tp)) (v := .int .i64 192) (by exact E.move (AF_ev rfl (up rfl (up rfl (up rfl (up rfl (up rfl (up rfl (up rfl (up rfl (up rfl (up rfl (up rfl (up rfl (up rfl (up rfl (up rfl (up rfl (up rfl (up rfl (up rfl (up rfl (up rfl (up rfl (up rfl (up rfl (up rfl (up rfl (up rfl (up rfl (up rfl (up rfl hs6)))))))))))))))))))))))))))))))) ?_
  refine RW.soft (by exact Wd.yes (x := 66) rfl (AF_ev rfl (up rfl tp))) (v := .bool true) (by exact E.eql (k := .i64) (a := 192) (b := 192) (AF_ev rfl tp) rfl) ?_
  refine RW.soft Wd.a (v := .bool true) (by exact E.pickT (AF_ev rfl (up rfl (up rfl tp))) (AF_ev rfl tp)) ?_
  refine RW.soft Wd.a (v := .bool true) (by exact E.move (AF_ev rfl tp)) ?_
  refine RW.soft (by exact Wd.yes (x := 70) rfl (AF_ev rfl tp)) (v := .int .i64 192) (by exact E.move (AF_ev rfl (up rfl (up rfl (up rfl (up rfl (up rfl (up rfl (up rfl (up rfl (up rfl (up rfl (up rfl (up rfl (up rfl (up rfl (up rfl (up rfl (up rfl (up rfl (up rfl (up rfl (up rfl (up rfl (up rfl (up rfl (up rfl (up rfl (up rfl (up rfl (up rfl (up rfl (up rfl (up rfl (up rfl (up rfl hs8)))))))))))))))))))))))))))))))))))) ?_
  refine RW.soft (by exact Wd.yes (x := 70) rfl (AF_ev rfl (up rfl tp))) (v := .bool true) (by exact E.eql (k := .i64) (a := 192) (b := 192) (AF_ev rfl tp) rfl) ?_
  refine RW.soft Wd.a (v := .bool true) (by exact E.pickT (AF_ev rfl (up rfl (up rfl tp))) (AF_ev rfl tp)) ?_
  refine RW.soft Wd.a (v := .bool true) (by exact E.assign (AF_ev rfl tp)) ?_
  refine RW.fin (fun τ => τ 0 = .bool true ∧ τ 1 = .slice X2 3 c3 ∧ τ 2 = .int .i64 0 ∧ τ 3 = .slice X5 1 c6 ∧ τ 4 = .int .i64 0 ∧ τ 6 = .int .i64 192 ∧ τ 8 = .int .i64 192 ∧ τ 9 = .bool true ∧ τ 10 = .bool true) ⟨tp, up rfl (up rfl (up rfl (up rfl (up rfl (up rfl (up rfl (up rfl (up rfl (up rfl (up rfl (up rfl (up rfl (up rfl (up rfl (up rfl (up rfl (up rfl (up rfl (up rfl (up rfl (up rfl (up rfl (up rfl (up rfl (up rfl (up rfl (up rfl (up rfl (up rfl (up rfl (up rfl (up rfl (up rfl (up rfl (up rfl (up rfl (up rfl hs1))))))))))))))))))))))))))))))))))))), up rfl (up rfl (up rfl (up rfl (up rfl (up rfl (up rfl (up rfl (up rfl (up rfl (up rfl (up rfl (up rfl (up rfl (up rfl (up rfl (up rfl (up rfl (up rfl (up rfl (up rfl (up rfl (up rfl (up rfl (up rfl (up rfl (up rfl (up rfl (up rfl (up rfl (up rfl (up rfl (up rfl (up rfl (up rfl (up rfl (up rfl (up rfl hs2))))))))))))))))))))))))))))))))))))), up rfl (up rfl (up rfl (up rfl (up rfl (up rfl (up rfl (up rfl (up rfl (up rfl (up rfl (up rfl (up rfl (up rfl (up rfl (up rfl (up rfl (up rfl (up rfl (up rfl (up rfl (up rfl (up rfl (up rfl (up rfl (up rfl (up rfl (up rfl (up rfl (up rfl (up rfl (up rfl (up rfl (up rfl (up rfl (up rfl (up rfl (up rfl hs3))))))))))))))))))))))))))))))))))))), up rfl (up rfl (up rfl (up rfl (up rfl (up rfl (up rfl (up rfl (up rfl (up rfl (up rfl (up rfl (up rfl (up rfl (up rfl (up rfl (up rfl (up rfl (up rfl (up rfl (up rfl (up rfl (up rfl (up rfl (up rfl (up rfl (up rfl (up rfl (up rfl (up rfl (up rfl (up rfl (up rfl (up rfl (up rfl (up rfl (up rfl (up rfl hs4))))))))))))))))))))))))))))))))))))), up rfl (up rfl (up rfl (up rfl (up rfl (up rfl (up rfl (up rfl (up rfl (up rfl (up rfl (up rfl (up rfl (up rfl (up rfl (up rfl (up rfl (up rfl (up rfl (up rfl (up rfl (up rfl (up rfl (up rfl (up rfl (up rfl (up rfl (up rfl (up rfl (up rfl (up rfl (up rfl (up rfl (up rfl (up rfl (up rfl (up rfl (up rfl hs6))))))))))))))))))))))))))))))))))))), up rfl (up rfl (up rfl (up rfl (up rfl (up rfl (up rfl (up rfl (up rfl (up rfl (up rfl (up rfl (up rfl (up rfl (up rfl (up rfl (up rfl (up rfl (up rfl (up rfl (up rfl (up rfl (up rfl (up rfl (up rfl (up rfl (up rfl (up rfl (up rfl (up rfl (up rfl (up rfl (up rfl (up rfl (up rfl (up rfl (up rfl (up rfl hs8))))))))))))))))))))))))))))))))))))), up rfl (up rfl (up rfl (up rfl (up rfl (up rfl (up rfl (up rfl (up rfl (up rfl (up rfl (up rfl (up rfl (up rfl (up rfl (up rfl (up rfl (up rfl (up rfl (up rfl (up rfl (up rfl (up rfl (up rfl (up rfl (up rfl (up rfl (up rfl (up rfl (up rfl (up rfl (up rfl (up rfl (up rfl (up rfl (up rfl (up rfl (up rfl hs9))))))))))))))))))))))))))))))))))))), up rfl (up rfl (up rfl (up rfl (up rfl (up rfl (up rfl (up rfl (up rfl (up rfl (up rfl (up rfl (up rfl (up rfl (up rfl (up rfl (up rfl (up rfl (up rfl (up rfl (up rfl (up rfl (up rfl (up rfl (up rfl (up rfl (up rfl (up rfl (up rfl (up rfl (up rfl (up rfl (up rfl (up rfl (up rfl (up rfl (up rfl (up rfl hs10)))))))))))))))))))))))))))))))))))))⟩ ?_
  rintro τ ⟨hs0, hs1, hs2, hs3, hs4, hs6, hs8, hs9, hs10⟩
  refine CW.ret ?_
  refine ret1 (v := .bool true) rfl (by exact (.tmp (AF_ev rfl hs0) .nil)) ?_
  have hst := (hst.take .here).drop
  have hst := (hst.take .here).drop
  have hst := (hst.take .here).drop
  have hst := (hst.take .here).drop
  have hst := (hst.take .here).drop
  have hst := (hst.take .here).drop
  have hst := (hst.take .here).drop
  have hst := (hst.take .here).drop
  have hst := (hst.take .here).drop
  have hst := (hst.take .here).drop
  have hst := (hst.take .here).drop
  have hst := (hst.take .here).drop
  have hst := (hst.take .here).drop
  have hst := (hst.take .here).drop
  have hst := (hst.take .here).drop
  have hst := (hst.take .here).drop
  exact ⟨rfl, hst⟩
end Go.Proofs.Ytjagffnbobnofaa
