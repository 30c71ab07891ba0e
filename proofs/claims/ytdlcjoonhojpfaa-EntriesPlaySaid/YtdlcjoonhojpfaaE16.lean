/- The calls of the package entries, walked through operation by operation. -/
import Derived.Test.YtdlcjoonhojpfaaE0
import Derived.Test.YtdlcjoonhojpfaaT1
import Derived.Test.YtdlcjoonhojpfaaE1
import Derived.Test.YtdlcjoonhojpfaaE2
import Derived.Test.YtdlcjoonhojpfaaE3
import Derived.Test.YtdlcjoonhojpfaaE4
import Derived.Test.YtdlcjoonhojpfaaE5
import Derived.Test.YtdlcjoonhojpfaaE6
import Derived.Test.YtdlcjoonhojpfaaE9
import Derived.Test.YtdlcjoonhojpfaaE10
import Derived.Test.YtdlcjoonhojpfaaE11
import Derived.Test.YtdlcjoonhojpfaaE14
import Derived.Test.YtdlcjoonhojpfaaE15
namespace Go.Proofs.Ytdlcjoonhojpfaa
open Go.RowKit Go.SL Go.E17
attribute [local irreducible] Go.SL.RW Go.SL.CW Go.SL.RD Go.SL.Hd Go.SL.St
set_option linter.unusedVariables false
set_option linter.unusedSimpArgs false

theorem nm34 : (Try.f34.name == "runtime.NumGoroutine") = false := by kernel_rfl
theorem nm35 : (Try.f35.name == "runtime.NumGoroutine") = false := by kernel_rfl
theorem nm36 : (Try.f36.name == "runtime.NumGoroutine") = false := by kernel_rfl

theorem fromL_len {α : Type} {i k most : Int} {es : List α} : ((fromL i es k most).length : Int) = if max k (i + 1) ≤ i + (es.length : Nat) then max 0 (min most (i + (es.length : Nat) - max k (i + 1) + 1)) else 0 := by
  unfold fromL
  by_cases h : max k (i + 1) > i + (es.length : Nat) ∨ most < 1
  · rw [if_pos h, List.length_nil]; split <;> omega
  · rw [if_neg h, if_pos (by omega), List.length_take, List.length_drop]; omega
theorem from_elem {i k most : Int} {es es3 : List Ent} {j : Nat} {z : Ent} (h : vs es3 = vs (fromL i es k most)) (hz : es3[j]? = some z) :
    ∃ x, es[(max k (i + 1) + (j : Int) - (i + 1)).toNat]? = some x ∧ x.view = z.view ∧ max k (i + 1) + (j : Int) ≤ i + (es.length : Nat) := by
  have h1 : (vs es3)[j]? = some z.view := by simp [vs, hz]
  rw [h] at h1
  have h2 : ∃ x, (fromL i es k most)[j]? = some x ∧ x.view = z.view := by
    simp only [vs, List.getElem?_map, Option.map_eq_some_iff] at h1; exact h1
  obtain ⟨x, hx, hv⟩ := h2
  unfold fromL at hx
  split at hx
  · simp at hx
  · rename_i hc
    rw [List.getElem?_take] at hx
    split at hx
    · rename_i hj
      rw [List.getElem?_drop] at hx
      have hlt := (List.getElem?_eq_some_iff.1 hx).1
      refine ⟨x, ?_, hv, by omega⟩
      rw [← hx]; congr 1; omega
    · cases hx

end Go.Proofs.Ytdlcjoonhojpfaa
