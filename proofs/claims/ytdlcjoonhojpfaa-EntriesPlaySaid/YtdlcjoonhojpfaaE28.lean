/- A store into a slice that is held. What few entries are, by their views. -/
import Derived.Test.YtdlcjoonhojpfaaE22
namespace Go.SL
open Go.RowKit
set_option linter.unusedVariables false
set_option linter.unusedSimpArgs false
section
variable {P : Program} {n : Nat} {τ : Fr} {w : World} {dst : Option Tmp} {ty : TypeId} {pos : String} {af : Array Edge} {gd : Option (Nat × Bool)} {K : Value → World → Prop} {p : Pers} {HH H' : List Assn}
theorem H.storeOwn {t e : TypeId} {x y : Operand} {b o k c sz : Nat} {v : Value} {xs : List Value} (hx : (Act.eval (AF n τ)) x = .pointer (some ⟨b, o, none⟩)) (hy : (Act.eval (AF n τ)) y = v)
    (s : St p w HH) (hd : Del (Own e sz (.slice (some ⟨b, 0, none⟩) k c) k xs) HH H') (hk : 0 < k) (hz : (P.info? t).map (·.size) = some v.cells.size) (ho : o + v.cells.size ≤ k * sz)
    (h1 : ∀ u ∈ v.cells.toList, u.oneCell' = true) (h : ∀ xs' w', St p w' (Own e sz (.slice (some ⟨b, 0, none⟩) k c) k xs' :: H') → K undef w') : Hd P n ⟨dst, .store t x y, ty, pos, af, gd⟩ τ w K := by
  have s1 := s.take hd
  obtain ⟨hl, ⟨A, he, hk0, _⟩ | ⟨g, cap, cur, he, s2, hkc, hcm, hcs, hxx⟩⟩ := s1.ownOpen
  · omega
  · cases he
    have hle : k * sz ≤ c * sz := Nat.mul_le_mul_right _ hkc
    refine H.store (v := v) (c := cur) hx hy s2 .here hz (by omega) h1 rfl fun w' s3 => ?_
    refine h _ w' (s3.ownNew (xs := (over cur o v.cells.toList).toList.take (k * sz)) hkc hcm ?_ rfl)
    simp only [over, List.size_toArray, List.length_append, List.length_take, List.length_drop, Array.length_toList]
    have : v.cells.toList.length = v.cells.size := by simp
    omega
end
end Go.SL
namespace Go.E17
open Go.RowKit Go.SL
set_option linter.unusedVariables false
set_option linter.unusedSimpArgs false
def cutV (x : Ent) : Int × Int × List Int × List Int := (x.term, x.kind, x.ns.take 100, x.ms.take 9)
def fewV (l : List Ent) : List (Int × Int × List Int × List Int) := (l.take 20).map cutV
theorem few_step {l es' : List Ent} {i : Nat} {x y : Ent} (h : vs es' = (l.take i).map cutV) (hx : l[i]? = some x) (hy : y.view = cutV x) : vs (es' ++ [y]) = (l.take (i + 1)).map cutV := by
  rw [List.take_add_one, hx, List.map_append, ← h]
  simp [vs, hy]
theorem few_end {l es' : List Ent} {i : Nat} (h : vs es' = (l.take i).map cutV) (hi : i ≤ 20) (hl : i ≤ l.length) (hend : ¬ (i < l.length ∧ i < 20)) : vs es' = fewV l := by
  unfold fewV
  rw [h]
  by_cases h20 : i = 20
  · rw [h20]
  · rw [List.take_of_length_le (show l.length ≤ i by omega), List.take_of_length_le (show l.length ≤ 20 by omega)]
end Go.E17
