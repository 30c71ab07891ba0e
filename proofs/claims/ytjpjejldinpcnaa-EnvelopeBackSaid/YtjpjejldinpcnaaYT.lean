/- Plain functions in Option that always tell something. -/
import Derived.Test.YtjpjejldinpcnaaAY
namespace Go.SL
set_option linter.unusedVariables false

variable {α β : Type}
/-- x is told, and is as Q says -/
def Tot (x : Option α) (Q : α → Prop) : Prop := ∃ r, x = some r ∧ Q r
theorem Tot.some {Q : α → Prop} {r : α} (h : Q r) : Tot (Option.some r) Q := ⟨r, rfl, h⟩
theorem Tot.bind {x : Option α} {f : α → Option β} {Q : α → Prop} {R : β → Prop} (h : Tot x Q) (g : ∀ a, Q a → Tot (f a) R) : Tot (x.bind f) R := by
  obtain ⟨a, rfl, ha⟩ := h; exact g a ha
theorem Tot.lt {e : α} {f : α → Option β} {R : β → Prop} (g : ∀ a, a = e → Tot (f a) R) : Tot (lt_ e f) R := g e rfl
theorem Tot.ite {c : Prop} [Decidable c] {x : Option α} {R : α → Prop} (h : c) (g : Tot x R) : Tot (if c then x else none) R := by rw [if_pos h]; exact g
theorem Tot.bif {c : Bool} {x y : Option α} {R : α → Prop} (g : c = true → Tot x R) (h : c = false → Tot y R) : Tot (bif c then x else y) R := by
  cases c with
  | true => exact g rfl
  | false => exact h rfl
theorem Tot.dif {c : Prop} [Decidable c] {x y : Option α} {R : α → Prop} (g : c → Tot x R) (h : ¬ c → Tot y R) : Tot (bif decide c then x else y) R := by
  by_cases hc : c
  · rw [decide_eq_true hc]; exact g hc
  · rw [decide_eq_false hc]; exact h hc
theorem Tot.mono {x : Option α} {Q R : α → Prop} (h : Tot x Q) (g : ∀ a, Q a → R a) : Tot x R := by
  obtain ⟨a, ha, hq⟩ := h; exact ⟨a, ha, g a hq⟩
theorem Tot.of {x : Option α} {r : α} (h : x = Option.some r) {Q : α → Prop} (q : Q r) : Tot x Q := ⟨r, h, q⟩
theorem Tot.get {x : Option α} {Q : α → Prop} (h : Tot x Q) : ∃ r, x = Option.some r ∧ Q r := h
theorem lt_eq {e : α} {f : α → Option β} : lt_ e f = f e := rfl
theorem sbind {a : α} {f : α → Option β} : (Option.some a).bind f = f a := rfl
/-- a counted loop -/
theorem Tot.count {σ : Type} {L : Nat → Nat → σ → Option β} {I : Nat → σ → Prop} {R : β → Prop} (N : Nat)
    (step : ∀ k i s, I i s → i ≤ N → (i < N → ∀ s', I (i + 1) s' → Tot (L k (i + 1) s') R) → Tot (L (k + 1) i s) R) :
    ∀ k i s, I i s → i ≤ N → N < k + i → Tot (L k i s) R := by
  intro k
  induction k with
  | zero => intro i s _ h1 h2; omega
  | succ k ih => intro i s hi h1 h2; exact step k i s hi h1 fun h3 s' hs' => ih (i + 1) s' hs' (by omega) (by omega)
theorem sl_length {α : Type} {r m : Nat} {l : List α} (h : r + m ≤ l.length) : (sl r m l).length = m := sl_len rfl h
end Go.SL
