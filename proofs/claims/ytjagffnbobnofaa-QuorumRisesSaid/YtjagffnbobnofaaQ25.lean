/- Majorities of members that differ by one meet; a majority and the rest. -/
import Derived.Test.YtjagffnbobnofaaQ22
import Derived.Test.YtjagffnbobnofaaQ2
namespace Go.Proofs.Ytjagffnbobnofaa
open Go.RowKit Go.SL Go.Q18
set_option linter.unusedVariables false
set_option linter.unusedSimpArgs false
theorem both_of {p q : Int → Bool} : ∀ {l : List Int}, l.length < (l.filter p).length + (l.filter q).length → ∃ x ∈ l, p x = true ∧ q x = true
  | [], h => by simp at h
  | x :: l, h => by
    by_cases hb : p x = true ∧ q x = true
    · exact ⟨x, by simp, hb⟩
    · have : l.length < (l.filter p).length + (l.filter q).length := by
        cases hp : p x <;> cases hq : q x <;> simp only [List.filter, hp, hq, List.length_cons] at h
        · omega
        · omega
        · omega
        · exact absurd ⟨hp, hq⟩ hb
      obtain ⟨y, hy, h2⟩ := both_of this
      exact ⟨y, by simp [hy], h2⟩
theorem less_filter {m : List Int} {id : Int} (h : chgE m id = 0) (hm : id ∈ m) : chgR m id = m.filter fun x => x != id := by
  obtain ⟨⟨hok, _, hi1, hi2⟩, e⟩ := chg_split h
  obtain ⟨i, hi⟩ := List.getElem?_of_mem hm
  have hs := ok_rises (check_ok hok).1
  rw [e, (chg_out hok hi).1]
  refine rises_ext (putOut_rises hs) (List.Pairwise.filter _ hs) fun x => ?_
  rw [putOut_mem hs hi, List.mem_filter]
  simp
theorem meet_less {m n a b : List Int} {id : Int} (hn : n = m.filter fun x => x != id) (hl : n.length + 1 = m.length) (h1 : 2 * (m.filter fun x => a.contains x).length > m.length) (h2 : 2 * (n.filter fun x => b.contains x).length > n.length) :
    ∃ x ∈ m, a.contains x = true ∧ x ∈ n ∧ b.contains x = true := by
  have e : (n.filter fun x => b.contains x) = m.filter fun x => b.contains x && (x != id) := by rw [hn, List.filter_filter]
  rw [e] at h2
  obtain ⟨x, hx, hp, hq⟩ := both_of (l := m) (p := fun x => a.contains x) (q := fun x => b.contains x && (x != id)) (by omega)
  simp only [Bool.and_eq_true] at hq
  exact ⟨x, hx, hp, by rw [hn, List.mem_filter]; exact ⟨hx, hq.2⟩, hq.1⟩
theorem half {a n : Nat} (h : decide (((a : Nat) : Int) > ((n : Nat) : Int) / 2) = true) : 2 * a > n := by
  have := of_decide_eq_true h; omega
theorem meet {m a b : List Int} {id : Int} (h : chgE m id = 0) (h1 : 2 * cntOf m a > m.length) (h2 : 2 * cntOf (chgR m id) b > (chgR m id).length) :
    ∃ x ∈ a, b.contains x = true ∧ m.contains x = true ∧ (chgR m id).contains x = true := by
  unfold cntOf at h1 h2
  by_cases hm : id ∈ m
  · obtain ⟨x, hx, ha, hn, hb⟩ := meet_less (less_filter h hm) (less_len h hm) h1 h2
    exact ⟨x, List.contains_iff_mem.1 ha, hb, List.contains_iff_mem.2 hx, List.contains_iff_mem.2 hn⟩
  · obtain ⟨k1, k2⟩ := back_list h
    have hn : id ∈ chgR m id := by
      have hh := back_has h
      have hc : m.contains id = false := by
        cases hc : m.contains id with
        | false => rfl
        | true => exact absurd (List.contains_iff_mem.1 hc) hm
      rw [hc] at hh
      exact List.contains_iff_mem.1 (by simpa using hh)
    have e1 := less_filter k1 hn
    have e2 := less_len k1 hn
    rw [k2] at e1 e2
    obtain ⟨x, hx, hb, hm2, ha⟩ := meet_less e1 e2 h2 h1
    exact ⟨x, List.contains_iff_mem.1 ha, hb, List.contains_iff_mem.2 hm2, List.contains_iff_mem.2 hx⟩
theorem cnt_self (m : List Int) : cntOf m m = m.length := by
  unfold cntOf
  rw [List.filter_eq_self.2]
  intro x hx; exact List.contains_iff_mem.2 hx
theorem cnt_nil (m : List Int) : cntOf m [] = 0 := by
  unfold cntOf
  rw [List.length_eq_zero_iff, List.filter_eq_nil_iff]
  intro x hx; simp
theorem cnt_part (m : List Int) (p : Int → Bool) : cntOf m (m.filter p) = (m.filter p).length := by
  unfold cntOf
  congr 1
  refine List.filter_congr fun x hx => ?_
  cases hp : p x with
  | true => exact List.contains_iff_mem.2 (List.mem_filter.2 ⟨hx, hp⟩)
  | false =>
    cases hc : (m.filter p).contains x with
    | false => rfl
    | true => have := (List.mem_filter.1 (List.contains_iff_mem.1 hc)).2; rw [hp] at this; cases this
theorem part_sum (p : Int → Bool) : ∀ m : List Int, (m.filter p).length + (m.filter fun x => !(p x)).length = m.length
  | [] => rfl
  | x :: m => by
    have := part_sum p m
    cases hp : p x <;> simp only [List.filter, hp, Bool.not_true, Bool.not_false, List.length_cons] <;> omega
end Go.Proofs.Ytjagffnbobnofaa
