/- The functions of the package quorum, walked through operation by operation. -/
import Derived.Test.YtjagffnbobnofaaU6
import Derived.Test.YtjagffnbobnofaaQ15
import Derived.Test.YtjagffnbobnofaaQ13
import Derived.Test.YtjagffnbobnofaaQ14
import Derived.Test.YtjagffnbobnofaaQ11
import Derived.Test.YtjagffnbobnofaaQ12
import Derived.Test.YtjagffnbobnofaaQ9
import Derived.Test.YtjagffnbobnofaaQ10
import Derived.Test.YtjagffnbobnofaaQ8
import Derived.Test.YtjagffnbobnofaaSN
import Derived.Test.YtjagffnbobnofaaQ6
import Derived.Test.YtjagffnbobnofaaQ7
import Derived.Test.YtjagffnbobnofaaQ4
import Derived.Test.YtjagffnbobnofaaQ5
import Derived.Test.YtjagffnbobnofaaQ2
import Derived.Test.YtjagffnbobnofaaQ1
import Derived.Test.YtjagffnbobnofaaQ3
import Derived.Test.YtjagffnbobnofaaQ0
import Derived.Test.YtjagffnbobnofaaSM
namespace Go.Proofs.Ytjagffnbobnofaa
open Go.RowKit Go.SL Go.Q18
attribute [local irreducible] Go.SL.RW Go.SL.CW Go.SL.RD Go.SL.Hd Go.SL.St
set_option linter.unusedVariables false
set_option linter.unusedSimpArgs false

theorem nm61 : (Try.f61.name == "runtime.NumGoroutine") = false := by kernel_rfl
theorem nm77 : (Try.f77.name == "runtime.NumGoroutine") = false := by kernel_rfl

theorem ks_Collect {p : Pers} {w : World} {R : List Assn} {b Bm : Nat} {ks : List (Int × Value)} (hl : ks.length ≤ 12) (hk : ∀ q ∈ ks, I64 q.1) (hst : St p w (pt Bm (.cells #[.map (some b)] 71) :: MapI b ks :: R)) :
    Calls Try.prog 61 #[.func (.func 62) #[] #[.pointer (some ⟨Bm, 0, none⟩)]] w fun e w' => ∃ (v : Value) (xs : List Int), e = .returned v ∧ xs.Perm (ks.map (·.1)) ∧ St p w' (SL.Own 3 1 v xs.length (xs.flatMap ienc) :: pt Bm (.cells #[.map (some b)] 71) :: MapI b ks :: R) := by
  refine enter Try.func61 rfl (by simp) (n := 5) rfl fun τ hτ => ?_
  have hs0 : τ 0 = .func (.func 62) #[] #[.pointer (some ⟨Bm, 0, none⟩)] := hτ 0 (by simp)
  clear hτ
  refine CW.seq ?_
  refine CW.region ?_
  refine RW.soft Wd.a (v := .slice none 0 0) (by exact E.assign rfl) ?_
  refine RW.fin (fun τ => τ 0 = .func (.func 62) #[] #[.pointer (some ⟨Bm, 0, none⟩)] ∧ τ 2 = .slice none 0 0) ⟨up rfl hs0, tp⟩ ?_
  rintro τ ⟨hs0, hs2⟩
  refine CW.seq ?_
  refine CW.region ?_
  refine RW.soft Wd.a (v := .func (.func 62) #[] #[.pointer (some ⟨Bm, 0, none⟩)]) (by exact E.move (AF_ev rfl hs0)) ?_
  refine RW.hard Wd.a ?_
  refine H.call0 Try.func77 nm77 rfl (map2 rfl (AF_ev rfl tp)) (Calls.mono (ks_AppendSeq hl hk hst) ?_)
  rintro _ w ⟨vX1, xs, rfl, hPm, hst⟩
  obtain ⟨X1, c2, heX1, hcX1, hmX1, hlX1, hbX1⟩ := hst.shape
  subst heX1
  have hxl : xs.length = ks.length := by rw [hPm.length_eq, List.length_map]
  refine ⟨_, rfl, ?_⟩
  show RW _ _ _ _ _ _ _
  refine RW.soft Wd.a (v := .slice X1 xs.length c2) (by exact E.assign (AF_ev rfl tp)) ?_
  refine RW.fin (fun τ => τ 0 = .func (.func 62) #[] #[.pointer (some ⟨Bm, 0, none⟩)] ∧ τ 2 = .slice X1 xs.length c2) ⟨up rfl (up rfl (up rfl hs0)), tp⟩ ?_
  rintro τ ⟨hs0, hs2⟩
  refine CW.ret ?_
  refine ret1 (v := .slice X1 xs.length c2) rfl (by exact (.tmp (AF_ev rfl hs2) .nil)) ?_
  have hst := hst.take (.there (.there .here))
  have hst := hst.take (.there (.there .here))
  have hst := hst.take (.there (.there .here))
  exact ⟨_, xs, rfl, hPm, hst⟩

theorem ks_Sorted {p : Pers} {w : World} {R : List Assn} {b Bm : Nat} {ks : List (Int × Value)} (hl : ks.length ≤ 12) (hk : ∀ q ∈ ks, I64 q.1) (h0 : 0 < ks.length) (hst : St p w (pt Bm (.cells #[.map (some b)] 71) :: MapI b ks :: R)) :
    Calls Try.prog 45 #[.func (.func 62) #[] #[.pointer (some ⟨Bm, 0, none⟩)]] w fun e w' => ∃ (v : Value) (L : List Int), e = .returned v ∧ L.Perm (ks.map (·.1)) ∧ L.Pairwise (· ≤ ·) ∧ St p w' (SL.Own 3 1 v ks.length (L.flatMap ienc) :: pt Bm (.cells #[.map (some b)] 71) :: MapI b ks :: R) := by
  refine enter Try.func45 rfl (by simp) (n := 9) rfl fun τ hτ => ?_
  have hs0 : τ 0 = .func (.func 62) #[] #[.pointer (some ⟨Bm, 0, none⟩)] := hτ 0 (by simp)
  clear hτ
  refine CW.seq ?_
  refine CW.region ?_
  refine RW.soft Wd.a (v := .slice none 0 0) (by exact E.assign rfl) ?_
  refine RW.fin (fun τ => τ 0 = .func (.func 62) #[] #[.pointer (some ⟨Bm, 0, none⟩)] ∧ τ 2 = .slice none 0 0) ⟨up rfl hs0, tp⟩ ?_
  rintro τ ⟨hs0, hs2⟩
  refine CW.seq ?_
  refine CW.region ?_
  refine RW.soft Wd.a (v := .func (.func 62) #[] #[.pointer (some ⟨Bm, 0, none⟩)]) (by exact E.move (AF_ev rfl hs0)) ?_
  refine RW.hard Wd.a ?_
  refine H.call0 Try.func61 nm61 rfl (map1 (AF_ev rfl tp)) (Calls.mono (ks_Collect hl hk hst) ?_)
  rintro _ w ⟨vX1, xs, rfl, hPm, hst⟩
  obtain ⟨X1, c2, heX1, hcX1, hmX1, hlX1, hbX1⟩ := hst.shape
  subst heX1
  have hxl : xs.length = ks.length := by rw [hPm.length_eq, List.length_map]
  refine ⟨_, rfl, ?_⟩
  show RW _ _ _ _ _ _ _
  refine RW.soft Wd.a (v := .slice X1 xs.length c2) (by exact E.assign (AF_ev rfl tp)) ?_
  refine RW.fin (fun τ => τ 0 = .func (.func 62) #[] #[.pointer (some ⟨Bm, 0, none⟩)] ∧ τ 2 = .slice none 0 0 ∧ τ 3 = .slice X1 xs.length c2) ⟨up rfl (up rfl (up rfl hs0)), up rfl (up rfl (up rfl hs2)), tp⟩ ?_
  rintro τ ⟨hs0, hs2, hs3⟩
  refine CW.seq ?_
  obtain ⟨X8, c8, he8, hc8, hm8, hl8, hb8⟩ := hst.shape
  cases he8
  obtain ⟨g, hg⟩ := hb8 (by omega)
  subst hg
  refine CW.region ?_
  refine RW.soft Wd.a (v := .slice (some ⟨g, 0, none⟩) xs.length c2) (by exact E.move (AF_ev rfl hs3)) ?_
  refine RW.hard Wd.a ?_
  refine H.call0 Try.func59 nm59 rfl (map1 (AF_ev rfl tp)) (Calls.mono (q_Sort (zs := xs) (by omega) (by omega) hc8 hst) ?_)
  rintro _ w ⟨L2, rfl, hP, hW, hst⟩
  refine ⟨_, rfl, ?_⟩
  show RW _ _ _ _ _ _ _
  refine RW.fin (fun τ => τ 0 = .func (.func 62) #[] #[.pointer (some ⟨Bm, 0, none⟩)] ∧ τ 2 = .slice none 0 0 ∧ τ 3 = .slice (some ⟨g, 0, none⟩) xs.length c2) ⟨up rfl (up rfl hs0), up rfl (up rfl hs2), up rfl (up rfl hs3)⟩ ?_
  rintro τ ⟨hs0, hs2, hs3⟩
  refine CW.seq ?_
  refine CW.region ?_
  refine RW.soft Wd.a (v := .slice (some ⟨g, 0, none⟩) xs.length c2) (by exact E.move (AF_ev rfl hs3)) ?_
  refine RW.soft Wd.a (v := .slice (some ⟨g, 0, none⟩) xs.length c2) (by exact E.assign (AF_ev rfl tp)) ?_
  refine RW.fin (fun τ => τ 0 = .func (.func 62) #[] #[.pointer (some ⟨Bm, 0, none⟩)] ∧ τ 2 = .slice (some ⟨g, 0, none⟩) xs.length c2 ∧ τ 3 = .slice (some ⟨g, 0, none⟩) xs.length c2) ⟨up rfl (up rfl hs0), tp, up rfl (up rfl hs3)⟩ ?_
  rintro τ ⟨hs0, hs2, hs3⟩
  refine CW.ret ?_
  refine ret1 (v := .slice (some ⟨g, 0, none⟩) xs.length c2) rfl (by exact (.tmp (AF_ev rfl hs2) .nil)) ?_
  have hst := hst.take (.there (.there .here))
  have hst := hst.take (.there (.there .here))
  have hst := hst.take (.there (.there .here))
  exact ⟨_, L2, rfl, hP.trans hPm, hW, by rw [← hxl]; exact hst⟩

theorem ks_Keys {p : Pers} {w : World} {R : List Assn} {b : Nat} {ks : List (Int × Value)} (hst : St p w (MapI b ks :: R)) :
    Calls Try.prog 46 #[.map (some b)] w fun e w' => ∃ Bm, e = .returned (.func (.func 62) #[] #[.pointer (some ⟨Bm, 0, none⟩)]) ∧ St p w' (pt Bm (.cells #[.map (some b)] 71) :: MapI b ks :: R) := by
  refine enter Try.func46 rfl (by simp) (n := 4) rfl fun τ hτ => ?_
  have hs0 : τ 0 = .map (some b) := hτ 0 (by simp)
  clear hτ
  refine CW.seq ?_
  refine CW.region ?_
  refine RW.hard Wd.a ?_
  refine H.box (v := .map (some b)) (AF_ev rfl hs0) hst fun b1 w hst => ?_
  refine RW.soft Wd.a (v := .nilFunc) (by exact E.assign rfl) ?_
  refine RW.fin (fun τ => τ 0 = .map (some b) ∧ τ 1 = .pointer (some ⟨b1, 0, none⟩) ∧ τ 2 = .nilFunc) ⟨up rfl (up rfl hs0), up rfl tp, tp⟩ ?_
  rintro τ ⟨hs0, hs1, hs2⟩
  refine CW.seq ?_
  refine CW.region ?_
  refine RW.soft Wd.a (v := .func (.func 62) #[] #[.pointer (some ⟨b1, 0, none⟩)]) (by exact E.makeFunc map0 (map1 (AF_ev rfl hs1))) ?_
  refine RW.soft Wd.a (v := .func (.func 62) #[] #[.pointer (some ⟨b1, 0, none⟩)]) (by exact E.assign (AF_ev rfl tp)) ?_
  refine RW.fin (fun τ => τ 0 = .map (some b) ∧ τ 1 = .pointer (some ⟨b1, 0, none⟩) ∧ τ 2 = .func (.func 62) #[] #[.pointer (some ⟨b1, 0, none⟩)]) ⟨up rfl (up rfl hs0), up rfl (up rfl hs1), tp⟩ ?_
  rintro τ ⟨hs0, hs1, hs2⟩
  refine CW.ret ?_
  refine ret1 (v := .func (.func 62) #[] #[.pointer (some ⟨b1, 0, none⟩)]) rfl (by exact (.tmp (AF_ev rfl hs2) .nil)) ?_
  have hst := hst.take (.there .here)
  have hst := hst.take (.there .here)
  exact ⟨_, rfl, hst⟩
end Go.Proofs.Ytjagffnbobnofaa
