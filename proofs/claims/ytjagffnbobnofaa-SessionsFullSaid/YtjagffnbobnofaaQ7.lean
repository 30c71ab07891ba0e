/- A place in a row that rises. -/
import Derived.Test.YtjagffnbobnofaaQ5
namespace Go.Q18
open Go.RowKit Go.SL
set_option linter.unusedVariables false
set_option linter.unusedSimpArgs false
structure LowB (zs : List Int) (id : Int) (i : Nat) : Prop where
  le : i ≤ zs.length
  lo : ∀ x ∈ zs.take i, x < id
  hi : ∀ x ∈ zs.drop i, id ≤ x
theorem low_step {zs : List Int} (hs : zs.Pairwise (· < ·)) {h : Nat} {x id : Int} (hx : zs[h]? = some x) (hl : x < id) : ∀ y ∈ zs.take (h + 1), y < id := by
  intro y hy
  obtain ⟨k, hk⟩ := List.getElem?_of_mem hy
  rw [List.getElem?_take] at hk
  split at hk
  · rename_i hlt
    obtain ⟨h1, e1⟩ := List.getElem?_eq_some_iff.1 hx
    obtain ⟨h2, e2⟩ := List.getElem?_eq_some_iff.1 hk
    rcases Nat.lt_or_ge k h with h3 | h3
    · have := List.pairwise_iff_getElem.1 hs k h h2 h1 h3
      rw [e1, e2] at this; omega
    · obtain rfl : k = h := by omega
      rw [e1] at e2; omega
  · cases hk
theorem high_step {zs : List Int} (hs : zs.Pairwise (· < ·)) {h : Nat} {x id : Int} (hx : zs[h]? = some x) (hl : id ≤ x) : ∀ y ∈ zs.drop h, id ≤ y := by
  intro y hy
  obtain ⟨k, hk⟩ := List.getElem?_of_mem hy
  rw [List.getElem?_drop] at hk
  obtain ⟨h1, e1⟩ := List.getElem?_eq_some_iff.1 hx
  obtain ⟨h2, e2⟩ := List.getElem?_eq_some_iff.1 hk
  rcases Nat.eq_zero_or_pos k with h3 | h3
  · subst h3
    simp only [Nat.add_zero] at e2
    rw [e1] at e2; omega
  · have := List.pairwise_iff_getElem.1 hs h (h + k) h1 h2 (by omega)
    rw [e1, e2] at this; omega
theorem low_out {zs : List Int} {id : Int} {i : Nat} (h : LowB zs id i) (hi : zs.length ≤ i) : zs.contains id = false := by
  rw [Bool.eq_false_iff]
  intro hc
  have hm := List.contains_iff_mem.1 hc
  have := h.lo id (by rw [List.take_of_length_le hi]; exact hm)
  omega
theorem low_eq {zs : List Int} {id x : Int} {i : Nat} (hx : zs[i]? = some x) (he : x = id) : zs.contains id = true := by
  rw [List.contains_iff_mem, ← he]; exact List.mem_of_getElem? hx
theorem low_ne {zs : List Int} (hs : zs.Pairwise (· < ·)) {id x : Int} {i : Nat} (h : LowB zs id i) (hx : zs[i]? = some x) (he : x ≠ id) : zs.contains id = false := by
  rw [Bool.eq_false_iff]
  intro hc
  have hm := List.contains_iff_mem.1 hc
  have h1 := h.hi x (List.mem_of_getElem? (l := zs.drop i) (i := 0) (by rw [List.getElem?_drop, Nat.add_zero]; exact hx))
  rw [← List.take_append_drop i zs, List.mem_append] at hm
  rcases hm with h2 | h2
  · have := h.lo id h2; omega
  · have := high_step hs hx (show id + 1 ≤ x by omega) id h2; omega
theorem ok_rises : ∀ {zs : List Int} {last : Int}, okFrom last zs = true → zs.Pairwise (· < ·)
  | [], _, _ => List.Pairwise.nil
  | m :: r, last, h => by
    simp only [okFrom, Bool.and_eq_true, decide_eq_true_eq] at h
    refine List.Pairwise.cons (fun y hy => (okFrom_lt h.2 y hy).1) (ok_rises h.2)
theorem ok_of_rises : ∀ {zs : List Int} {last : Int}, zs.Pairwise (· < ·) → (∀ n ∈ zs, last < n ∧ n ≤ 7) → okFrom last zs = true
  | [], _, _, _ => rfl
  | m :: r, last, hs, hb => by
    simp only [okFrom, Bool.and_eq_true, decide_eq_true_eq]
    have h0 := hb m (by simp)
    refine ⟨⟨h0.1, h0.2⟩, ok_of_rises (List.Pairwise.of_cons hs) fun n hn => ⟨List.rel_of_pairwise_cons hs hn, (hb n (by simp [hn])).2⟩⟩
theorem rises_ext : ∀ {a b : List Int}, a.Pairwise (· < ·) → b.Pairwise (· < ·) → (∀ x, x ∈ a ↔ x ∈ b) → a = b
  | [], [], _, _, _ => rfl
  | [], y :: b, _, _, h => by have := (h y).2 (by simp); cases this
  | x :: a, [], _, _, h => by have := (h x).1 (by simp); cases this
  | x :: a, y :: b, ha, hb, h => by
    have hxy : x = y := by
      rcases List.mem_cons.1 ((h x).1 (by simp)) with h1 | h1
      · exact h1
      · rcases List.mem_cons.1 ((h y).2 (by simp)) with h2 | h2
        · exact h2.symm
        · have := List.rel_of_pairwise_cons hb h1
          have := List.rel_of_pairwise_cons ha h2
          omega
    subst hxy
    congr 1
    refine rises_ext (List.Pairwise.of_cons ha) (List.Pairwise.of_cons hb) fun z => ?_
    constructor
    · intro hz
      rcases List.mem_cons.1 ((h z).1 (by simp [hz])) with h1 | h1
      · have := List.rel_of_pairwise_cons ha hz; omega
      · exact h1
    · intro hz
      rcases List.mem_cons.1 ((h z).2 (by simp [hz])) with h1 | h1
      · have := List.rel_of_pairwise_cons hb hz; omega
      · exact h1
/-- what a change makes of members, as the program does it -/
def putIn (zs : List Int) (id : Int) (i : Nat) : List Int := zs.take i ++ [id] ++ zs.drop i
def putOut (zs : List Int) (i : Nat) : List Int := zs.take i ++ zs.drop (i + 1)
theorem putIn_rises {zs : List Int} (hs : zs.Pairwise (· < ·)) {id : Int} {i : Nat} (h : LowB zs id i) (hn : zs.contains id = false) : (putIn zs id i).Pairwise (· < ·) := by
  have hne : ∀ x ∈ zs, x ≠ id := fun x hx e => by
    subst e; rw [List.contains_iff_mem.2 hx] at hn; cases hn
  have h1 := hs
  rw [← List.take_append_drop i zs, List.pairwise_append] at h1
  obtain ⟨p1, p2, p3⟩ := h1
  unfold putIn
  rw [List.append_assoc, List.pairwise_append]
  refine ⟨p1, List.Pairwise.cons (fun y hy => ?_) p2, fun a ha b hb => ?_⟩
  · have := h.hi y hy
    have := hne y (List.mem_of_mem_drop hy)
    omega
  · rcases List.mem_cons.1 hb with rfl | hb
    · exact h.lo a ha
    · exact p3 a ha b hb
theorem putIn_mem {zs : List Int} {id : Int} {i : Nat} {x : Int} : x ∈ putIn zs id i ↔ x ∈ zs ∨ x = id := by
  unfold putIn
  conv => rhs; rw [← List.take_append_drop i zs]
  simp only [List.mem_append, List.mem_singleton]
  constructor
  · rintro ((h | h) | h)
    · exact .inl (.inl h)
    · exact .inr h
    · exact .inl (.inr h)
  · rintro ((h | h) | h)
    · exact .inl (.inl h)
    · exact .inr h
    · exact .inl (.inr h)
theorem putOut_rises {zs : List Int} (hs : zs.Pairwise (· < ·)) {i : Nat} : (putOut zs i).Pairwise (· < ·) := by
  unfold putOut
  refine hs.sublist ?_
  conv => rhs; rw [← List.take_append_drop i zs]
  refine List.Sublist.append (List.Sublist.refl _) ?_
  rw [← List.drop_drop]
  exact List.drop_sublist _ _
theorem putOut_mem {zs : List Int} (hs : zs.Pairwise (· < ·)) {i : Nat} {id x : Int} (hi : zs[i]? = some id) : x ∈ putOut zs i ↔ x ∈ zs ∧ x ≠ id := by
  obtain ⟨hlt, he⟩ := List.getElem?_eq_some_iff.1 hi
  have hd : zs.drop i = id :: zs.drop (i + 1) := by rw [List.drop_eq_getElem_cons hlt, he]
  have h1 := hs
  rw [← List.take_append_drop i zs, hd, List.pairwise_append] at h1
  obtain ⟨p1, p2, p3⟩ := h1
  unfold putOut
  conv => rhs; rw [← List.take_append_drop i zs, hd]
  simp only [List.mem_append, List.mem_cons]
  constructor
  · rintro (h | h)
    · exact ⟨.inl h, by have := p3 x h id (by simp); omega⟩
    · exact ⟨.inr (.inr h), by have := List.rel_of_pairwise_cons p2 h; omega⟩
  · rintro ⟨h | h | h, hn⟩
    · exact .inl h
    · exact absurd h hn
    · exact .inr h
end Go.Q18
