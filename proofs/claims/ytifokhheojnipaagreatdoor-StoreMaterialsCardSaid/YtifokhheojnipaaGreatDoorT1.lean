/- AES and GCM, plainly: that they tell something, and of what length. -/
import Derived.Test.YtifokhheojnipaaGreatDoorZ2
set_option linter.unusedVariables false
set_option linter.unusedSimpArgs false
set_option linter.unnecessarySimpa false
namespace Go.GX
open Go.RowKit Go.SL
set_option linter.unusedVariables false
set_option linter.unusedSimpArgs false
end Go.GX
namespace Go.GX
open Go.RowKit Go.SL
set_option linter.unusedVariables false
set_option linter.unusedSimpArgs false
set_option maxRecDepth 4000
variable {α β : Type}
theorem Tot.jnP {j : α → Option β} {f : (α → Option β) → Option β} {R : β → Prop} (P : α → Prop) (hj : ∀ a, P a → Tot (j a) R) (h : ∀ k : α → Option β, (∀ a, P a → Tot (k a) R) → Tot (f k) R) : Tot (GX.jn j f) R := Tot.jn (h j hj)
theorem Tot.bth {x y : Option α} {R : α → Prop} (h : Tot x R) (g : x = y) : Tot (GX.bth x y) R := by rw [← g, bth_self]; exact h
theorem all_set {l : List α} {P : α → Prop} (h : ∀ a ∈ l, P a) (i : Nat) (x : α) (hx : P x) : ∀ a ∈ l.set i x, P a := fun a ha => (List.mem_or_eq_of_mem_set ha).elim (h a) (fun e => e ▸ hx)
theorem Tot.gdT {x : Option α} {R : α → Prop} (h : Tot x R) : Tot (GX.gdE True x) R := by rw [gdE_T']; exact h
end Go.GX
namespace Go.GX
open Go.RowKit Go.SL
set_option linter.unusedVariables false
set_option linter.unusedSimpArgs false
set_option maxRecDepth 4000
end Go.GX
namespace Go.GX
open Go.RowKit Go.SL
set_option linter.unusedVariables false
set_option linter.unusedSimpArgs false
set_option maxRecDepth 20000
variable {α β : Type}
end Go.GX
