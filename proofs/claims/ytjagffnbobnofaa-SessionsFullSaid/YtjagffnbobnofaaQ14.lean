/- The middle one of a row that rises is the greatest that is enough. -/
import Derived.Test.YtjagffnbobnofaaQ12
namespace Go.Q18
open Go.RowKit Go.SL
set_option linter.unusedVariables false
set_option linter.unusedSimpArgs false
def geC (l : List Int) (v : Int) : Nat := (l.filter fun a => decide (a ≥ v)).length
theorem geC_many (ys : List Int) (v : Int) (zs : List Int) : geC (zs.map (placeOf ys)) v = manyOf ys v zs := by
  unfold geC manyOf
  rw [List.filter_map, List.length_map]; rfl
theorem geC_perm {a b : List Int} (h : a.Perm b) (v : Int) : geC a v = geC b v := (h.filter _).length_eq
theorem geC_low {L : List Int} (hs : L.Pairwise (· ≤ ·)) {k : Nat} {x : Int} (hx : L[k]? = some x) : L.length - k ≤ geC L x := by
  obtain ⟨hk, he⟩ := List.getElem?_eq_some_iff.1 hx
  have h1 : geC (L.drop k) x ≤ geC L x := by
    unfold geC
    exact ((List.drop_sublist k L).filter _).length_le
  have h2 : geC (L.drop k) x = (L.drop k).length := by
    unfold geC
    rw [List.filter_eq_self.2]
    intro y hy
    obtain ⟨j, hj⟩ := List.getElem?_of_mem hy
    rw [List.getElem?_drop] at hj
    obtain ⟨hj2, he2⟩ := List.getElem?_eq_some_iff.1 hj
    rcases Nat.eq_zero_or_pos j with h0 | h0
    · subst h0
      simp only [Nat.add_zero] at he2
      rw [he] at he2; subst he2; simp
    · have := List.pairwise_iff_getElem.1 hs k (k + j) hk hj2 (by omega)
      rw [he, he2] at this
      exact decide_eq_true this
  rw [h2, List.length_drop] at h1
  exact h1
theorem geC_high {L : List Int} (hs : L.Pairwise (· ≤ ·)) {k : Nat} {x v : Int} (hx : L[k]? = some x) (hv : x < v) : geC L v ≤ L.length - (k + 1) := by
  obtain ⟨hk, he⟩ := List.getElem?_eq_some_iff.1 hx
  have h1 : geC L v = geC (L.take (k + 1)) v + geC (L.drop (k + 1)) v := by
    unfold geC
    rw [← List.length_append, ← List.filter_append, List.take_append_drop]
  have h2 : geC (L.take (k + 1)) v = 0 := by
    unfold geC
    rw [List.length_eq_zero_iff, List.filter_eq_nil_iff]
    intro y hy
    obtain ⟨j, hj⟩ := List.getElem?_of_mem hy
    rw [List.getElem?_take] at hj
    split at hj
    · rename_i hlt
      obtain ⟨hj2, he2⟩ := List.getElem?_eq_some_iff.1 hj
      rcases Nat.lt_or_ge j k with h3 | h3
      · have := List.pairwise_iff_getElem.1 hs j k hj2 hk h3
        rw [he, he2] at this
        simp; omega
      · obtain rfl : j = k := by omega
        rw [he] at he2; subst he2
        simp; omega
    · cases hj
  have h3 : geC (L.drop (k + 1)) v ≤ L.length - (k + 1) := by
    unfold geC
    exact Nat.le_trans (List.length_filter_le _ _) (by rw [List.length_drop]; exact Nat.le_refl _)
  omega
theorem best_fold (zs ys : List Int) : ∀ (l : List Int) (b : Int), (b ≤ l.foldl (bestStep zs ys) b) ∧
    (∀ m ∈ l, 2 * ((manyOf ys (placeOf ys m) zs : Nat) : Int) > zs.length → placeOf ys m ≤ l.foldl (bestStep zs ys) b) ∧
    (l.foldl (bestStep zs ys) b = b ∨ ∃ m ∈ l, l.foldl (bestStep zs ys) b = placeOf ys m ∧ 2 * ((manyOf ys (placeOf ys m) zs : Nat) : Int) > zs.length)
  | [], b => ⟨Int.le_refl _, by simp, .inl rfl⟩
  | m :: l, b => by
    obtain ⟨h1, h2, h3⟩ := best_fold zs ys l (bestStep zs ys b m)
    have hb : b ≤ bestStep zs ys b m ∧ (2 * ((manyOf ys (placeOf ys m) zs : Nat) : Int) > zs.length → placeOf ys m ≤ bestStep zs ys b m) ∧ (bestStep zs ys b m = b ∨ (bestStep zs ys b m = placeOf ys m ∧ 2 * ((manyOf ys (placeOf ys m) zs : Nat) : Int) > zs.length)) := by
      unfold bestStep
      split
      · rename_i hc
        simp only [Bool.and_eq_true, decide_eq_true_eq] at hc
        exact ⟨by omega, fun _ => Int.le_refl _, .inr ⟨rfl, hc.1⟩⟩
      · rename_i hc
        simp only [Bool.and_eq_true, decide_eq_true_eq, not_and] at hc
        exact ⟨Int.le_refl _, fun h => by have := hc h; omega, .inl rfl⟩
    simp only [List.foldl_cons]
    refine ⟨by omega, fun n hn he => ?_, ?_⟩
    · rcases List.mem_cons.1 hn with rfl | hn
      · have := hb.2.1 he; omega
      · exact h2 n hn he
    · rcases h3 with h3 | ⟨n, hn, h4, h5⟩
      · rw [h3]
        rcases hb.2.2 with h6 | ⟨h6, h7⟩
        · exact .inl h6
        · exact .inr ⟨m, by simp, h6, h7⟩
      · exact .inr ⟨n, by simp [hn], h4, h5⟩
theorem place_fit {ys : List Int} (hf : Fit ys) (i : Int) : I64 (placeOf ys i) := by
  unfold placeOf
  split
  · rename_i h
    have hl : i.toNat < ys.length := by omega
    have : ys.getD i.toNat 0 = ys[i.toNat] := by simp [List.getD, hl]
    rw [this]
    exact hf _ (List.getElem_mem hl)
  · exact ⟨by omega, by omega⟩
theorem middle {zs ys L : List Int} {x : Int} (hf : Fit ys) (hp : L.Perm (zs.map (placeOf ys))) (hs : L.Pairwise (· ≤ ·)) (hx : L[(zs.length - 1) / 2]? = some x) (h0 : 0 < zs.length) : bestOf zs ys zs = x := by
  have hl : L.length = zs.length := by rw [hp.length_eq, List.length_map]
  have hm : x ∈ zs.map (placeOf ys) := hp.mem_iff.1 (List.mem_of_getElem? hx)
  obtain ⟨m, hm1, hm2⟩ := List.mem_map.1 hm
  obtain ⟨h1, h2, h3⟩ := best_fold zs ys zs (-9223372036854775808)
  have hen : 2 * ((manyOf ys (placeOf ys m) zs : Nat) : Int) > zs.length := by
    have := geC_low hs hx
    rw [geC_perm hp, geC_many] at this
    rw [hm2]; omega
  have h4 := h2 m hm1 hen
  rw [hm2] at h4
  have h5 : bestOf zs ys zs ≤ x := by
    unfold bestOf
    rcases h3 with h3 | ⟨n, hn, h6, h7⟩
    · rw [h3]
      have := (place_fit hf m).1
      rw [hm2] at this; exact this
    · rw [h6]
      rcases Int.lt_or_le x (placeOf ys n) with h8 | h8
      · have := geC_high hs hx h8
        rw [geC_perm hp, geC_many] at this
        omega
      · exact h8
  have h6 : x ≤ bestOf zs ys zs := h4
  omega
end Go.Q18
