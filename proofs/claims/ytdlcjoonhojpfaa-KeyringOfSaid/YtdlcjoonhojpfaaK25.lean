/- Which keys may be taken. -/
import Derived.Test.YtdlcjoonhojpfaaK22
namespace Go.K13
open Go.RowKit Go.SL
set_option linter.unusedVariables false
set_option linter.unusedSimpArgs false
def badV (x : Ver) : Bool := (decide (x.uses < 0) || decide (x.uses > 16)) || (x.gone && !decide (x.mat = kz))
def badR (vs : List Ver) : Bool := (decide (((vs.length : Nat) : Int) < 1) || decide (((vs.length : Nat) : Int) > 4)) || vs.any badV
def badK (ks : RK) : Bool := decide (((ks.length : Nat) : Int) > 8) || ks.any fun r => badR r.2
theorem any_more {α : Type} {f : α → Bool} {l : List α} {j : Nat} {x : α} (h : (l.take j).any f = false) (hx : l[j]? = some x) (hf : f x = false) : (l.take (j + 1)).any f = false := by
  rw [List.take_add_one, hx, List.any_append, h]; simp [hf]
theorem any_found {α : Type} {f : α → Bool} {l : List α} {j : Nat} {x : α} (hx : l[j]? = some x) (hf : f x = true) : l.any f = true :=
  List.any_eq_true.2 ⟨x, List.mem_of_getElem? hx, hf⟩
theorem any_all {α : Type} {f : α → Bool} {l : List α} {j : Nat} (h : (l.take j).any f = false) (hj : l.length ≤ j) : l.any f = false := by
  rwa [List.take_of_length_le hj] at h
theorem any_view {rs : List RingM} : (rs.map RingM.view).any (fun r => badR r.2) = rs.any fun r => badR r.vers := by
  rw [List.any_map]; rfl
theorem kok_of {ks : RK} (h : badK ks = false) : KOk ks := by
  unfold badK at h
  obtain ⟨h1, h2⟩ := Bool.or_eq_false_iff.1 h
  have h1 := of_decide_eq_false h1
  refine ⟨by omega, fun r hr => ?_⟩
  have h3 := List.any_eq_false.1 h2 r hr
  have h3 : badR r.2 = false := by simpa using h3
  unfold badR at h3
  obtain ⟨h4, h5⟩ := Bool.or_eq_false_iff.1 h3
  obtain ⟨h6, h7⟩ := Bool.or_eq_false_iff.1 h4
  have h6 := of_decide_eq_false h6
  have h7 := of_decide_eq_false h7
  refine ⟨by omega, by omega, fun x hx => ?_⟩
  have h8 := List.any_eq_false.1 h5 x hx
  have h8 : badV x = false := by simpa using h8
  unfold badV at h8
  obtain ⟨h9, _⟩ := Bool.or_eq_false_iff.1 h8
  obtain ⟨ha, hb⟩ := Bool.or_eq_false_iff.1 h9
  have ha := of_decide_eq_false ha
  have hb := of_decide_eq_false hb
  exact ⟨by omega, by omega⟩
end Go.K13
