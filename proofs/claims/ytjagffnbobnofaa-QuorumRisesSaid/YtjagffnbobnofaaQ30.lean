/- What a majority agreed to never falls as one place rises, and is at most the highest. -/
import Derived.Test.YtjagffnbobnofaaQ22
namespace Go.Q18
open Go.RowKit Go.SL
set_option linter.unusedVariables false
set_option linter.unusedSimpArgs false
theorem tmod_near (a : Int) {n : Int} (hn : 0 < n) : -n < Int.tmod a n ∧ Int.tmod a n < n := by
  refine ⟨?_, Int.tmod_lt_of_pos _ hn⟩
  have h := Int.tmod_lt_of_pos (-a) hn
  rw [Int.neg_tmod] at h
  omega
theorem least (f : Int → Int) : ∀ {l : List Int}, l ≠ [] → ∃ x ∈ l, ∀ y ∈ l, f x ≤ f y
  | [], h => absurd rfl h
  | [a], _ => ⟨a, by simp, fun y hy => by rw [List.mem_singleton] at hy; subst hy; exact Int.le_refl _⟩
  | a :: b :: l, _ => by
    obtain ⟨x, hx, h⟩ := least f (l := b :: l) (by simp)
    by_cases hc : f a ≤ f x
    · refine ⟨a, by simp, fun y hy => ?_⟩
      rcases List.mem_cons.1 hy with rfl | hy
      · exact Int.le_refl _
      · have := h y hy; omega
    · refine ⟨x, List.mem_cons_of_mem _ hx, fun y hy => ?_⟩
      rcases List.mem_cons.1 hy with rfl | hy
      · omega
      · exact h y hy
theorem many_mono {ys zs : List Int} {T : List Int} {n k : Int} (h : ∀ x ∈ zs, placeOf ys x ≥ n → placeOf T x ≥ k) : manyOf ys n zs ≤ manyOf T k zs := by
  unfold manyOf
  induction zs with
  | nil => simp
  | cons x zs ih =>
    have ih2 := ih fun y hy => h y (List.mem_cons_of_mem _ hy)
    have h0 := h x (by simp)
    simp only [List.filter]
    cases h1 : decide (placeOf ys x ≥ n) with
    | false =>
      simp only
      split
      · rw [List.length_cons]; omega
      · exact ih2
    | true =>
      have h2 := h0 (of_decide_eq_true h1)
      rw [decide_eq_true h2]
      simp only [List.length_cons]; omega
theorem best_rises {zs ys T : List Int} (h : ∀ x ∈ zs, placeOf ys x ≤ placeOf T x) : bestOf zs ys zs ≤ bestOf zs T zs := by
  obtain ⟨_, _, h3⟩ := best_fold zs ys zs (-9223372036854775808)
  obtain ⟨k1, k2, _⟩ := best_fold zs T zs (-9223372036854775808)
  unfold bestOf
  rcases h3 with e | ⟨m, hm, e, hmany⟩
  · rw [e]; exact k1
  · rw [e]
    have hmany2 : manyOf ys (placeOf ys m) zs ≤ manyOf T (placeOf ys m) zs := many_mono fun x hx hp => by have := h x hx; omega
    have hne : (zs.filter fun x => decide (placeOf T x ≥ placeOf ys m)) ≠ [] := fun e0 => by
      have : manyOf T (placeOf ys m) zs = 0 := by unfold manyOf; rw [e0]; rfl
      omega
    obtain ⟨x, hx, hl⟩ := least (placeOf T) hne
    obtain ⟨hxz, hxp⟩ := List.mem_filter.1 hx
    have hxp2 := of_decide_eq_true hxp
    have hmany3 : manyOf T (placeOf ys m) zs ≤ manyOf T (placeOf T x) zs := many_mono fun y hy hp => hl y (List.mem_filter.2 ⟨hy, decide_eq_true hp⟩)
    have := k2 x hxz (by omega)
    omega
theorem best_top {zs ys : List Int} {B : Int} (h0 : -9223372036854775808 ≤ B) (h : ∀ x ∈ zs, placeOf ys x ≤ B) : bestOf zs ys zs ≤ B := by
  obtain ⟨_, _, h3⟩ := best_fold zs ys zs (-9223372036854775808)
  unfold bestOf
  rcases h3 with e | ⟨m, hm, e, _⟩
  · rw [e]; exact h0
  · rw [e]; exact h m hm
theorem place_nil (n : Int) : placeOf [] n = 0 := by
  unfold placeOf
  split
  · rename_i h; simp at h; omega
  · rfl
theorem best_nil {zs : List Int} (h : 0 < zs.length) : bestOf zs [] zs = 0 := by
  obtain ⟨k1, k2, k3⟩ := best_fold zs [] zs (-9223372036854775808)
  have hm : manyOf [] 0 zs = zs.length := by
    unfold manyOf
    rw [List.filter_eq_self.2]
    intro x hx; rw [place_nil]; rfl
  unfold bestOf
  have h2 := k2 (zs[0]'h) (List.getElem_mem h) (by rw [place_nil, hm]; omega)
  rw [place_nil] at h2
  rcases k3 with e | ⟨m, _, e, _⟩
  · rw [e] at h2; omega
  · rw [e, place_nil]
theorem place_set {ys : List Int} {i : Nat} {v d : Int} (hv : ys[i]? = some v) (hd : 0 ≤ d) (n : Int) : placeOf ys n ≤ placeOf (ys.set i (v + d)) n := by
  unfold placeOf
  rw [List.length_set]
  split
  · rw [List.getD_eq_getElem?_getD, List.getD_eq_getElem?_getD, List.getElem?_set]
    split
    · rename_i hc he
      have hlt : i < ys.length := (List.getElem?_eq_some_iff.1 hv).1
      rw [if_pos hlt, ← he, hv]; simp; omega
    · exact Int.le_refl _
  · exact Int.le_refl _
theorem Fit.set {ys : List Int} {i : Nat} {v d : Int} (h : Fit ys) (hv : ys[i]? = some v) (hb : v ≤ 4611686018427387904) (hd : 0 ≤ d ∧ d ≤ 1001) : Fit (ys.set i (v + d)) := fun n hn => by
  rcases List.mem_or_eq_of_mem_set hn with hn | rfl
  · exact h n hn
  · have := h v (List.mem_of_getElem? hv)
    unfold I64 at this ⊢; omega
theorem Fit.place {ys : List Int} (h : Fit ys) (n : Int) : -9223372036854775808 ≤ placeOf ys n ∧ placeOf ys n ≤ 9223372036854775807 := by
  unfold placeOf
  split
  · rename_i hc
    rw [List.getD_eq_getElem?_getD, List.getElem?_eq_getElem (by omega)]
    have := h _ (List.getElem_mem (show n.toNat < ys.length by omega))
    unfold I64 at this; simpa using this
  · omega
end Go.Q18
