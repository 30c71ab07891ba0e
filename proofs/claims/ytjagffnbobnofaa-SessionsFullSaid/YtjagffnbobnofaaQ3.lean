/- Rows of the numbers 1 to 7; what a change makes, and how far most are, plainly. -/
import Derived.Test.YtjagffnbobnofaaQ0
import Derived.Test.YtjagffnbobnofaaSM
namespace Go.Q18
open Go.RowKit Go.SL
set_option linter.unusedVariables false
set_option linter.unusedSimpArgs false
def upL (f : Int → Bool) (j : Nat) : List Int := ((List.range j).map fun (i : Nat) => ((i : Nat) : Int) + 1).filter f
theorem upL_more {f : Int → Bool} {j : Nat} {L : List Int} (h : L = upL f j) (hf : f (((j : Nat) : Int) + 1) = true) : L ++ [((j : Nat) : Int) + 1] = upL f (j + 1) := by
  subst h; unfold upL
  rw [List.range_succ, List.map_append, List.filter_append]
  simp only [List.map_cons, List.map_nil, List.filter, hf]
theorem upL_same {f : Int → Bool} {j : Nat} {L : List Int} (h : L = upL f j) (hf : f (((j : Nat) : Int) + 1) = false) : L = upL f (j + 1) := by
  subst h; unfold upL
  rw [List.range_succ, List.map_append, List.filter_append]
  simp only [List.map_cons, List.map_nil, List.filter, hf, List.append_nil]
theorem upL_le (f : Int → Bool) (j : Nat) : (upL f j).length ≤ j := by
  unfold upL
  refine Nat.le_trans (List.length_filter_le _ _) ?_
  rw [List.length_map, List.length_range]; exact Nat.le_refl _
theorem upL_mem {f : Int → Bool} {j : Nat} {n : Int} : n ∈ upL f j ↔ 1 ≤ n ∧ n ≤ j ∧ f n = true := by
  unfold upL
  rw [List.mem_filter, List.mem_map]
  constructor
  · rintro ⟨⟨i, hi, rfl⟩, hf⟩
    have := List.mem_range.1 hi
    exact ⟨by omega, by omega, hf⟩
  · rintro ⟨h1, h2, hf⟩
    exact ⟨⟨(n - 1).toNat, List.mem_range.2 (by omega), show (((n - 1).toNat : Nat) : Int) + 1 = n by omega⟩, hf⟩
theorem upL_sorted (f : Int → Bool) (j : Nat) : (upL f j).Pairwise (· < ·) := by
  unfold upL
  refine List.Pairwise.filter _ ?_
  rw [List.pairwise_map]
  refine List.pairwise_lt_range.imp ?_
  intro a b h; omega
def bitB (bits n : Int) : Bool := andI (shrI bits n) 1 == 1
def madeR (bits : Int) : List Int := if (upL (bitB bits) 7).length = 0 then [1] else upL (bitB bits) 7
def chgF (zs : List Int) (id n : Int) : Bool := zs.contains n != (n == id)
def chgE (zs : List Int) (id : Int) : Int := if checkI zs = 0 ∧ (upL (chgF zs id) 7).length ≠ 0 ∧ 1 ≤ id ∧ id ≤ 7 then 0 else 192
def chgR (zs : List Int) (id : Int) : List Int := if checkI zs = 0 ∧ (upL (chgF zs id) 7).length ≠ 0 ∧ 1 ≤ id ∧ id ≤ 7 then upL (chgF zs id) 7 else []
def placeOf (zs : List Int) (i : Int) : Int := if 0 ≤ i ∧ i < zs.length then zs.getD i.toNat 0 else 0
def manyOf (ys : List Int) (n : Int) (zs : List Int) : Nat := (zs.filter fun m => decide (placeOf ys m ≥ n)).length
theorem many_step {zs ys : List Int} {j : Nat} {x n : Int} (hx : zs[j]? = some x) : manyOf ys n (zs.take (j + 1)) = manyOf ys n (zs.take j) + (if decide (placeOf ys x ≥ n) = true then 1 else 0) := by
  unfold manyOf
  rw [List.take_add_one, hx, List.filter_append, List.length_append, Option.toList_some]
  cases h : decide (placeOf ys x ≥ n) <;> simp only [List.filter, h] <;> rfl
theorem many_le (ys : List Int) (n : Int) (zs : List Int) : manyOf ys n zs ≤ zs.length := List.length_filter_le _ _
def bestStep (zs ys : List Int) (best m : Int) : Int := if (decide (2 * ((manyOf ys (placeOf ys m) zs : Nat) : Int) > ((zs.length : Nat) : Int)) && decide (placeOf ys m > best)) = true then placeOf ys m else best
def bestOf (zs ys : List Int) (l : List Int) : Int := l.foldl (bestStep zs ys) (-9223372036854775808)
theorem best_step {zs ys : List Int} {j : Nat} {x : Int} (hx : zs[j]? = some x) : bestOf zs ys (zs.take (j + 1)) = bestStep zs ys (bestOf zs ys (zs.take j)) x := by
  unfold bestOf
  rw [List.take_add_one, hx, List.foldl_append]; rfl
end Go.Q18
