/- A row put in order, one by one. -/
import Derived.Test.YtjagffnbobnofaaQ10
namespace Go.Q18
open Go.RowKit Go.SL
set_option linter.unusedVariables false
set_option linter.unusedSimpArgs false
theorem last_of {A : List Int} (h : 0 < A.length) : ∃ A' y, A = A' ++ [y] :=
  ⟨A.dropLast, A.getLast (List.length_pos_iff.1 h), (List.dropLast_concat_getLast _).symm⟩
theorem mid_x {A D : List Int} {x : Int} {j : Nat} (hA : A.length = j) : (A ++ x :: D)[j]? = some x := by
  subst hA; simp
theorem mid_y {A' D : List Int} {x y : Int} {j : Nat} (hA : (A' ++ [y]).length = j) : (A' ++ [y] ++ x :: D)[(((j : Nat) : Int) - 1).toNat]? = some y := by
  subst hA
  have : ((((A' ++ [y]).length : Nat) : Int) - 1).toNat = A'.length := by simp
  rw [this]; simp
theorem swap1 {A' B C : List Int} {x y : Int} {j : Nat} (hA : (A' ++ [y]).length = j) : ((A' ++ [y] ++ x :: (B ++ C)).set j y).set (((j : Nat) : Int) - 1).toNat x = A' ++ x :: ((y :: B) ++ C) := by
  subst hA
  have h1 : ((((A' ++ [y]).length : Nat) : Int) - 1).toNat = A'.length := by simp
  rw [h1]; simp [List.set_append]
theorem swap2 {A' B C : List Int} {x y : Int} {j : Nat} (hA : (A' ++ [y]).length = j) : ((A' ++ [y] ++ x :: (B ++ C)).set (((j : Nat) : Int) - 1).toNat x).set j y = A' ++ x :: ((y :: B) ++ C) := by
  subst hA
  have h1 : ((((A' ++ [y]).length : Nat) : Int) - 1).toNat = A'.length := by simp
  rw [h1]; simp [List.set_append]
/-- one number on its way down -/
structure Sink (zs : List Int) (i j : Nat) (A B C : List Int) (x : Int) : Prop where
  perm : (A ++ x :: (B ++ C)).Perm zs
  len : A.length = j
  rise : (A ++ B).Pairwise (· ≤ ·)
  low : ∀ y ∈ B, x ≤ y
  sum : A.length + B.length = i
theorem Sink.down {zs : List Int} {i j : Nat} {A' B C : List Int} {x y : Int} (h : Sink zs i j (A' ++ [y]) B C x) (hx : x < y) : Sink zs i (j - 1) A' (y :: B) C x := by
  have hl := h.len
  have hs := h.sum
  simp only [List.length_append, List.length_cons, List.length_nil] at hl hs
  refine ⟨?_, by omega, by have := h.rise; simpa using this, fun z hz => ?_, by simp only [List.length_cons]; omega⟩
  · refine List.Perm.trans ?_ h.perm
    rw [List.append_assoc]
    exact List.Perm.append_left A' (List.Perm.swap y x _)
  · rcases List.mem_cons.1 hz with rfl | hz
    · omega
    · exact h.low z hz
theorem Sink.done0 {zs : List Int} {i j : Nat} {A B C : List Int} {x : Int} (h : Sink zs i j A B C x) (hj : j = 0) : (A ++ x :: B).Pairwise (· ≤ ·) := by
  have hA : A = [] := List.eq_nil_of_length_eq_zero (by rw [h.len]; exact hj)
  have := h.rise
  subst hA
  exact List.Pairwise.cons h.low (by simpa using this)
theorem Sink.done1 {zs : List Int} {i j : Nat} {A' B C : List Int} {x y : Int} (h : Sink zs i j (A' ++ [y]) B C x) (hx : ¬ x < y) : ((A' ++ [y]) ++ x :: B).Pairwise (· ≤ ·) := by
  have hr := h.rise
  rw [List.pairwise_append] at hr ⊢
  obtain ⟨p1, p2, p3⟩ := hr
  refine ⟨p1, List.Pairwise.cons h.low p2, fun a ha b hb => ?_⟩
  rcases List.mem_cons.1 hb with rfl | hb
  · rcases List.mem_append.1 ha with h1 | h1
    · rw [List.pairwise_append] at p1
      have := p1.2.2 a h1 y (by simp)
      omega
    · rw [List.mem_singleton.1 h1]; omega
  · exact p3 a ha b hb
theorem Sink.out {zs : List Int} {i j : Nat} {A B C : List Int} {x : Int} (h : Sink zs i j A B C x) : (A ++ x :: (B ++ C)).take (i + 1) = A ++ x :: B := by
  have e : A ++ x :: (B ++ C) = (A ++ x :: B) ++ C := by simp
  rw [e, List.take_left' (by have := h.sum; simp only [List.length_append, List.length_cons]; omega)]
theorem Sink.start {zs L : List Int} {i : Nat} {x : Int} (hp : L.Perm zs) (hs : (L.take i).Pairwise (· ≤ ·)) (hx : L[i]? = some x) : Sink zs i i (L.take i) [] (L.drop (i + 1)) x ∧ L = L.take i ++ x :: ([] ++ L.drop (i + 1)) := by
  obtain ⟨hi, _⟩ := List.getElem?_eq_some_iff.1 hx
  have hc := cut_at hx
  have hl : (L.take i).length = i := by rw [List.length_take]; omega
  exact ⟨⟨by rw [List.nil_append, ← hc]; exact hp, hl, by simpa using hs, by simp, by simp [hl]⟩, hc⟩
end Go.Q18
