/- The keyring and the envelope, plainly: that they tell, and stay what they are. -/
import Derived.Test.YtifokhheojnipaaGreatDoorT1
set_option linter.unusedVariables false
set_option linter.unusedSimpArgs false
set_option linter.unnecessarySimpa false
namespace Go.GX
open Go.RowKit Go.SL
set_option linter.unusedVariables false
set_option linter.unusedSimpArgs false
set_option maxRecDepth 4000
def VOk (v : VerT) : Prop := v.1.length = 32
def ROk (r : RngT) : Prop := 1 ≤ r.2.1.length ∧ r.2.1.length ≤ 4 ∧ ∀ v ∈ r.2.1, VOk v
def KOk (k : KeyT) : Prop := k.1.length ≤ 8 ∧ ∀ r ∈ k.1, ROk r
def Cg (e : Int) : Prop := e ≠ 1 ∧ e ≠ 150 ∧ e ≠ 151
theorem Cg.mk {e : Int} (h : e = 0 ∨ e = 2 ∨ e = 3 ∨ e = 40 ∨ e = 70 ∨ (130 ≤ e ∧ e ≤ 140)) : Cg e := by unfold Cg; omega
theorem KOk.set {l : List RngT} (h : KOk (l, ())) (i : Nat) {r : RngT} (hr : ROk r) : KOk (List.set l i r, ()) := by
  refine ⟨?_, all_set h.2 i r hr⟩
  show (List.set l i r).length ≤ 8
  rw [List.length_set]; exact h.1
end Go.GX
namespace Go.GX
open Go.RowKit Go.SL
set_option linter.unusedVariables false
set_option linter.unusedSimpArgs false
set_option maxRecDepth 4000
theorem mget_mput {α : Type} {k : Int} {v : α} : ∀ {l : List (Int × α)}, mget (mput l k v) k = some v := by
  intro l
  induction l with
  | nil => unfold mput mget; rw [decide_eq_true rfl]; rfl
  | cons y l ih =>
    obtain ⟨q, y⟩ := y
    unfold mput
    by_cases e : q = k
    · rw [decide_eq_true e]; show mget ((k, v) :: l) k = _; unfold mget; rw [decide_eq_true rfl]; rfl
    · rw [decide_eq_false e]; show mget ((q, y) :: mput l k v) k = _; unfold mget; rw [decide_eq_false e]; exact ih
def ReOk (r : RepT) : Prop := Cg r.1 ∧ r.2.2.2.1.length ≤ 200
theorem ReOk.rep0 : ReOk rep0 := ⟨Cg.mk (by simp [Go.GX.rep0]), by simp [Go.GX.rep0]⟩
end Go.GX
namespace Go.GX
open Go.RowKit Go.SL
set_option linter.unusedVariables false
set_option linter.unusedSimpArgs false
set_option maxRecDepth 4000
end Go.GX
namespace Go.GX
open Go.RowKit Go.SL
set_option linter.unusedVariables false
set_option linter.unusedSimpArgs false
set_option maxRecDepth 4000
end Go.GX
