/- A change of the members and the way back; what two rows of members have in common. -/
import Derived.Test.YtjagffnbobnofaaQ16
namespace Go.Q18
open Go.RowKit Go.SL
set_option linter.unusedVariables false
set_option linter.unusedSimpArgs false
theorem chg_split {m : List Int} {id : Int} (h : chgE m id = 0) : (checkI m = 0 ∧ (upL (chgF m id) 7).length ≠ 0 ∧ 1 ≤ id ∧ id ≤ 7) ∧ chgR m id = upL (chgF m id) 7 := by
  unfold chgE at h
  split at h
  · rename_i hc
    exact ⟨hc, by unfold chgR; rw [if_pos hc]⟩
  · cases h
theorem chg_has {m : List Int} {id x : Int} (h : chgE m id = 0) (hx : 1 ≤ x ∧ x ≤ 7) : (chgR m id).contains x = (m.contains x != (x == id)) := by
  obtain ⟨_, e⟩ := chg_split h
  rw [e]
  cases hc : (m.contains x != (x == id)) with
  | true => exact List.contains_iff_mem.2 (upL_mem.2 ⟨hx.1, by omega, hc⟩)
  | false =>
    cases hd : (upL (chgF m id) 7).contains x with
    | false => rfl
    | true =>
      have := (upL_mem.1 (List.contains_iff_mem.1 hd)).2.2
      unfold chgF at this
      rw [hc] at this; cases this
theorem back_ok {m : List Int} {id : Int} (h : chgE m id = 0) : checkI (chgR m id) = 0 := by
  obtain ⟨⟨_, h1, _⟩, e⟩ := chg_split h
  rw [e]
  exact check_of (ok_of_rises (upL_sorted _ _) fun n hn => by have := upL_mem.1 hn; omega) fun e2 => by rw [e2] at h1; exact h1 rfl
theorem back_up {m : List Int} {id : Int} (h : chgE m id = 0) : upL (chgF (chgR m id) id) 7 = m := by
  obtain ⟨⟨hok, _, _, _⟩, _⟩ := chg_split h
  obtain ⟨h1, h2⟩ := check_ok hok
  have hb := okFrom_lt h1
  refine rises_ext (upL_sorted _ _) (ok_rises h1) fun x => ?_
  rw [upL_mem]
  unfold chgF
  constructor
  · rintro ⟨ha, hb', hc⟩
    rw [chg_has h ⟨ha, by omega⟩] at hc
    refine List.contains_iff_mem.1 ?_
    revert hc
    cases m.contains x <;> cases (x == id) <;> simp
  · intro hx
    have h3 := hb x hx
    refine ⟨by omega, by omega, ?_⟩
    rw [chg_has h ⟨by omega, by omega⟩, List.contains_iff_mem.2 hx]
    cases (x == id) <;> rfl
theorem back_list {m : List Int} {id : Int} (h : chgE m id = 0) : chgE (chgR m id) id = 0 ∧ chgR (chgR m id) id = m := by
  obtain ⟨⟨hok, _, hi1, hi2⟩, _⟩ := chg_split h
  have hu := back_up h
  have hn := (check_ok hok).2
  have hl : (upL (chgF (chgR m id) id) 7).length ≠ 0 := by rw [hu]; exact fun e => hn (List.eq_nil_of_length_eq_zero e)
  have hc : checkI (chgR m id) = 0 ∧ (upL (chgF (chgR m id) id) 7).length ≠ 0 ∧ 1 ≤ id ∧ id ≤ 7 := ⟨back_ok h, hl, hi1, hi2⟩
  constructor
  · show (if checkI (chgR m id) = 0 ∧ (upL (chgF (chgR m id) id) 7).length ≠ 0 ∧ 1 ≤ id ∧ id ≤ 7 then (0 : Int) else 192) = 0
    rw [if_pos hc]
  · show (if checkI (chgR m id) = 0 ∧ (upL (chgF (chgR m id) id) 7).length ≠ 0 ∧ 1 ≤ id ∧ id ≤ 7 then upL (chgF (chgR m id) id) 7 else []) = m
    rw [if_pos hc, hu]
theorem back_has {m : List Int} {id : Int} (h : chgE m id = 0) : ((chgR m id).contains id != m.contains id) = true := by
  obtain ⟨⟨_, _, hi1, hi2⟩, _⟩ := chg_split h
  rw [chg_has h ⟨hi1, hi2⟩, show (id == id) = true by simp]
  cases m.contains id <;> rfl
theorem less_len {m : List Int} {id : Int} (h : chgE m id = 0) (hm : id ∈ m) : (chgR m id).length + 1 = m.length := by
  obtain ⟨⟨hok, _, hi1, hi2⟩, e⟩ := chg_split h
  obtain ⟨i, hi⟩ := List.getElem?_of_mem hm
  have hlt : i < m.length := (List.getElem?_eq_some_iff.1 hi).1
  rw [e, (chg_out hok hi).1, putOut_len hlt]
theorem back_len {m : List Int} {id : Int} (h : chgE m id = 0) : (chgR m id).length + 1 = m.length ∨ (chgR m id).length = m.length + 1 := by
  have hh := back_has h
  by_cases hm : id ∈ m
  · exact .inl (less_len h hm)
  · refine .inr ?_
    obtain ⟨h1, h2⟩ := back_list h
    have hc : m.contains id = false := by
      cases hc : m.contains id with
      | false => rfl
      | true => exact absurd (List.contains_iff_mem.1 hc) hm
    rw [hc] at hh
    have hn : id ∈ chgR m id := List.contains_iff_mem.1 (by simpa using hh)
    have := less_len h1 hn
    rw [h2] at this; omega
theorem back_fail {m : List Int} {id x : Int} (hok : checkI m = 0) (h : chgE m id ≠ 0) (hx : m[0]? = some x) : id < 1 ∨ id > 7 ∨ (m.length = 1 ∧ x = id) := by
  by_cases h1 : 1 ≤ id ∧ id ≤ 7
  · refine .inr (.inr ?_)
    obtain ⟨k1, k2⟩ := check_ok hok
    have hb := okFrom_lt k1
    have hz : (upL (chgF m id) 7).length = 0 := by
      by_cases hz : (upL (chgF m id) 7).length = 0
      · exact hz
      · exfalso; apply h; unfold chgE; rw [if_pos ⟨hok, hz, h1⟩]
    have hno : ∀ y, 1 ≤ y → y ≤ 7 → chgF m id y = false := fun y ha hb => by
      cases hf : chgF m id y with
      | false => rfl
      | true =>
        have := upL_mem.2 ⟨ha, (show y ≤ ((7 : Nat) : Int) by omega), hf⟩
        rw [List.eq_nil_of_length_eq_zero hz] at this; cases this
    have hm : m = [id] := by
      refine rises_ext (ok_rises k1) (by simp) fun y => ?_
      rw [List.mem_singleton]
      constructor
      · intro hy
        have h3 := hb y hy
        have := hno y (by omega) (by omega)
        unfold chgF at this
        rw [List.contains_iff_mem.2 hy] at this
        simpa using this
      · rintro rfl
        have := hno y h1.1 h1.2
        unfold chgF at this
        refine List.contains_iff_mem.1 ?_
        simpa using this
    subst hm
    simp at hx
    exact ⟨rfl, hx.symm⟩
  · omega
end Go.Q18
