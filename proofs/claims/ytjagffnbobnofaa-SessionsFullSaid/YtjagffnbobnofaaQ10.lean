/- A change of members: the program's way is the document's. -/
import Derived.Test.YtjagffnbobnofaaQ7
namespace Go.Q18
open Go.RowKit Go.SL
set_option linter.unusedVariables false
set_option linter.unusedSimpArgs false
theorem check_ok {zs : List Int} (h : checkI zs = 0) : okFrom 0 zs = true ∧ zs ≠ [] := by
  unfold checkI at h
  split at h
  · assumption
  · cases h
theorem check_of {zs : List Int} (h : okFrom 0 zs = true) (hn : zs ≠ []) : checkI zs = 0 := by unfold checkI; rw [if_pos ⟨h, hn⟩]
theorem check_no {zs : List Int} (h : checkI zs ≠ 0) : checkI zs = 192 := by
  unfold checkI at h ⊢
  split
  · rename_i hc; rw [if_pos hc] at h; exact absurd rfl h
  · rfl
theorem chg_out {zs : List Int} {id : Int} {i : Nat} (hok : checkI zs = 0) (hi : zs[i]? = some id) : upL (chgF zs id) 7 = putOut zs i ∧ 1 ≤ id ∧ id ≤ 7 := by
  obtain ⟨h1, h2⟩ := check_ok hok
  have hs := ok_rises h1
  have hb := okFrom_lt h1
  have hid := hb id (List.mem_of_getElem? hi)
  refine ⟨rises_ext (upL_sorted _ _) (putOut_rises hs) fun x => ?_, by omega, by omega⟩
  rw [upL_mem, putOut_mem hs hi]
  unfold chgF
  constructor
  · rintro ⟨ha, hb', hc⟩
    by_cases hx : x = id
    · subst hx
      rw [List.contains_iff_mem.2 (List.mem_of_getElem? hi)] at hc
      simp at hc
    · refine ⟨?_, hx⟩
      have : (x == id) = false := by simpa using hx
      rw [this] at hc
      exact List.contains_iff_mem.1 (by simpa using hc)
  · rintro ⟨ha, hx⟩
    have := hb x ha
    refine ⟨by omega, by omega, ?_⟩
    have h3 : (x == id) = false := by simpa using hx
    rw [h3, List.contains_iff_mem.2 ha]; rfl
theorem chg_in {zs : List Int} {id : Int} {i : Nat} (hok : checkI zs = 0) (hL : LowB zs id i) (hn : zs.contains id = false) (hid : 1 ≤ id ∧ id ≤ 7) : upL (chgF zs id) 7 = putIn zs id i := by
  obtain ⟨h1, h2⟩ := check_ok hok
  have hs := ok_rises h1
  have hb := okFrom_lt h1
  refine rises_ext (upL_sorted _ _) (putIn_rises hs hL hn) fun x => ?_
  rw [upL_mem, putIn_mem]
  unfold chgF
  constructor
  · rintro ⟨ha, hb', hc⟩
    by_cases hx : x = id
    · exact .inr hx
    · have : (x == id) = false := by simpa using hx
      rw [this] at hc
      exact .inl (List.contains_iff_mem.1 (by simpa using hc))
  · rintro (ha | rfl)
    · have := hb x ha
      have hx : x ≠ id := fun e => by subst e; rw [List.contains_iff_mem.2 ha] at hn; cases hn
      have h3 : (x == id) = false := by simpa using hx
      exact ⟨by omega, by omega, by rw [h3, List.contains_iff_mem.2 ha]; rfl⟩
    · refine ⟨by omega, by omega, ?_⟩
      rw [hn]; simp
theorem in_bounds {zs : List Int} {id : Int} {i : Nat} (hok : checkI zs = 0) (hL : LowB zs id i) (hn : zs.contains id = false) : checkI (putIn zs id i) = 0 ↔ 1 ≤ id ∧ id ≤ 7 := by
  obtain ⟨h1, h2⟩ := check_ok hok
  have hs := ok_rises h1
  have hb := okFrom_lt h1
  constructor
  · intro h
    have := okFrom_lt (check_ok h).1 id (putIn_mem.2 (.inr rfl))
    omega
  · intro hid
    refine check_of (ok_of_rises (putIn_rises hs hL hn) fun n hm => ?_) (fun e => ?_)
    · rcases putIn_mem.1 hm with h | rfl
      · exact hb n h
      · omega
    · have := putIn_mem (zs := zs) (id := id) (i := i) (x := id) |>.2 (.inr rfl)
      rw [e] at this; cases this
theorem out_bounds {zs : List Int} {id : Int} {i : Nat} (hok : checkI zs = 0) (hi : zs[i]? = some id) : checkI (putOut zs i) = 0 ↔ (putOut zs i).length ≠ 0 := by
  obtain ⟨h1, h2⟩ := check_ok hok
  have hs := ok_rises h1
  have hb := okFrom_lt h1
  constructor
  · intro h e
    exact (check_ok h).2 (List.eq_nil_of_length_eq_zero e)
  · intro h
    exact check_of (ok_of_rises (putOut_rises hs) fun n hm => hb n ((putOut_mem hs hi).1 hm).1) fun e => by rw [e] at h; exact h rfl
theorem low_at {zs : List Int} {id : Int} {i : Nat} (hs : zs.Pairwise (· < ·)) (hL : LowB zs id i) (hc : zs.contains id = true) : zs[i]? = some id := by
  rcases Nat.lt_or_ge i zs.length with h | h
  · by_cases he : zs[i] = id
    · rw [List.getElem?_eq_getElem h, he]
    · rw [low_ne hs hL (List.getElem?_eq_getElem h) he] at hc; cases hc
  · rw [low_out hL h] at hc; cases hc
theorem putIn_len {zs : List Int} {id : Int} {i : Nat} (h : i ≤ zs.length) : (putIn zs id i).length = zs.length + 1 := by
  unfold putIn; rw [List.length_append, List.length_append, List.length_take, List.length_drop]; simp; omega
theorem putOut_len {zs : List Int} {i : Nat} (h : i < zs.length) : (putOut zs i).length + 1 = zs.length := by
  unfold putOut; rw [List.length_append, List.length_take, List.length_drop]; omega
end Go.Q18
