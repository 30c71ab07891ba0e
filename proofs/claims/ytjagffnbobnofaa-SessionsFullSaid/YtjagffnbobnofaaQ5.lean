/- What is kept of a row, in place. -/
import Derived.Test.YtjagffnbobnofaaQ3
import Derived.Test.YtjagffnbobnofaaSN
namespace Go.Q18
open Go.RowKit Go.SL
set_option linter.unusedVariables false
set_option linter.unusedSimpArgs false
theorem zc_one (m : Nat) : ∀ u ∈ (Builtin.zeroCells (Value.int .i64 0).cells m).toList, u.oneCell' = true := by
  intro u hu
  simp only [Builtin.zeroCells, Array.toList_map, List.mem_map] at hu
  obtain ⟨i, _, rfl⟩ := hu
  have : i % (Value.int .i64 0).cells.size = 0 := by show i % 1 = 0; omega
  rw [this]; rfl
theorem any_more {α : Type} {f : α → Bool} {l : List α} {j : Nat} {x : α} (h : (l.take j).any f = false) (hx : l[j]? = some x) (hf : f x = false) : (l.take (j + 1)).any f = false := by
  rw [List.take_add_one, hx, List.any_append, h]; simp [hf]
theorem any_all {α : Type} {f : α → Bool} {l : List α} {j : Nat} (h : (l.take j).any f = false) (hj : l.length ≤ j) : l.any f = false := by
  rwa [List.take_of_length_le hj] at h
theorem any_found {α : Type} {f : α → Bool} {l : List α} {j : Nat} {x : α} (hx : l[j]? = some x) (hf : f x = true) : l.any f = true :=
  List.any_eq_true.2 ⟨x, List.mem_of_getElem? hx, hf⟩
theorem filter_all {f g : Int → Bool} {l : List Int} (hg : ∀ x, g x = !f x) (h : l.any g = false) : l.filter f = l := by
  rw [List.filter_eq_self]
  intro x hx
  have h2 := List.any_eq_false.1 h x hx
  rw [hg] at h2
  simpa using h2
theorem filter_start {f g : Int → Bool} {l : List Int} {j : Nat} {x : Int} (hg : ∀ x, g x = !f x) (h : (l.take j).any g = false) (hx : l[j]? = some x) (hp : g x = true) : l.take j = (l.take (j + 1)).filter f := by
  rw [List.take_add_one, hx, List.filter_append, filter_all hg h]
  have : f x = false := by rw [hg] at hp; simpa using hp
  simp [this]
/-- how far the row is compacted -/
structure Comp (zs : List Int) (f : Int → Bool) (j i : Nat) (L : List Int) : Prop where
  len : L.length = zs.length
  front : L.take i = (zs.take j).filter f
  back : L.drop j = zs.drop j
  lt : i < j
  le : j ≤ zs.length
theorem Comp.at {zs L : List Int} {f : Int → Bool} {j i : Nat} (h : Comp zs f j i L) {x : Int} (hx : L[j]? = some x) : zs[j]? = some x := by
  have h1 : (L.drop j)[0]? = some x := by rw [List.getElem?_drop, Nat.add_zero]; exact hx
  rw [h.back, List.getElem?_drop, Nat.add_zero] at h1; exact h1
theorem Comp.keep {zs L : List Int} {f : Int → Bool} {j i : Nat} (h : Comp zs f j i L) {x : Int} (hx : L[j]? = some x) (hf : f x = true) : Comp zs f (j + 1) (i + 1) (L.set i x) := by
  have hj := (List.getElem?_eq_some_iff.1 hx).1
  have hl := h.len
  have hlt := h.lt
  refine ⟨by rw [List.length_set]; exact hl, ?_, ?_, by omega, by omega⟩
  · rw [List.take_add_one, List.getElem?_set_self (by omega), List.take_set_of_le (Nat.le_refl i), h.front, List.take_add_one, h.at hx, List.filter_append]
    simp [hf]
  · rw [List.drop_set_of_lt (by omega), ← List.drop_drop, h.back, List.drop_drop]
theorem Comp.skip {zs L : List Int} {f : Int → Bool} {j i : Nat} (h : Comp zs f j i L) {x : Int} (hx : L[j]? = some x) (hf : f x = false) : Comp zs f (j + 1) i L := by
  have hj := (List.getElem?_eq_some_iff.1 hx).1
  have hl := h.len
  refine ⟨hl, ?_, ?_, by have := h.lt; omega, by omega⟩
  · rw [h.front, List.take_add_one, h.at hx, List.filter_append]; simp [hf]
  · rw [← List.drop_drop, h.back, List.drop_drop]
theorem Comp.done {zs L : List Int} {f : Int → Bool} {j i : Nat} (h : Comp zs f j i L) (hj : zs.length ≤ j) : L.take i = zs.filter f := by
  rw [h.front, List.take_of_length_le hj]
end Go.Q18
