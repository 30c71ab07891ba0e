/- Seats opened one behind the other, one let go, one opened again: by plain lists. -/
import Derived.Test.YtjagffnbobnofaaS15M
namespace Go.S15
def opd (i : Nat) : Ses := (List.range i).map fun k => (((k : Nat) : Int) + 1, 0, Rp.zero)
theorem opd_len (i : Nat) : (opd i).length = i := by simp [opd]
theorem opd_keys {i : Nat} {k : Int} : k ∈ (opd i).map (·.1) ↔ 1 ≤ k ∧ k ≤ i := by
  simp only [opd, List.mem_map, List.mem_range]
  constructor
  · rintro ⟨x, ⟨j, hj, rfl⟩, rfl⟩
    simp only; omega
  · rintro ⟨h1, h2⟩
    exact ⟨_, ⟨(k - 1).toNat, by omega, rfl⟩, by simp only; omega⟩
theorem lput_new : ∀ {L : Ses} {k : Int} (v : Int × Rp), k ∉ L.map (·.1) → lput L k v = L ++ [(k, v)]
  | [], k, v, _ => rfl
  | x :: L, k, v, h => by
    have h1 : ¬ x.1 = k := fun e => h (by rw [← e]; simp)
    unfold lput
    rw [if_neg h1, lput_new v (fun hm => h (List.mem_cons_of_mem _ hm))]; rfl
theorem opd_more (i : Nat) : opd i ++ [(((i : Nat) : Int) + 1, 0, Rp.zero)] = opd (i + 1) := by simp [opd, List.range_succ]
theorem full_no {L : Ses} {n : Int} (h : L.length < 8) (hn : n < 1099511627776) : openFull L n = false := by
  unfold openFull
  rw [Bool.or_eq_false_iff]
  exact ⟨decide_eq_false (by omega), decide_eq_false (by omega)⟩
theorem full_yes {L : Ses} {n : Int} (h : 8 ≤ L.length) : openFull L n = true := by
  unfold openFull
  rw [Bool.or_eq_true]
  exact .inl (decide_eq_true (by omega))
theorem opd_open {i : Nat} (h : i < 8) : openL (opd i) (((i : Nat) : Int) + 1) = opd (i + 1) ∧ openN (opd i) (((i : Nat) : Int) + 1) = ((i : Nat) : Int) + 1 + 1 ∧ openA (opd i) (((i : Nat) : Int) + 1) = ((i : Nat) : Int) + 1 ∧ openE (opd i) (((i : Nat) : Int) + 1) = 0 := by
  have hf : openFull (opd i) (((i : Nat) : Int) + 1) = false := full_no (by rw [opd_len]; exact h) (by omega)
  have hn : (((i : Nat) : Int) + 1) ∉ (opd i).map (·.1) := fun hm => by have := opd_keys.1 hm; omega
  refine ⟨?_, ?_, ?_, ?_⟩
  · unfold openL; rw [hf, if_neg (by simp), lput_new _ hn, opd_more]
  · unfold openN; rw [hf, if_neg (by simp)]
  · unfold openA; rw [hf, if_neg (by simp)]
  · unfold openE; rw [hf, if_neg (by simp)]
theorem opd_shut {n : Int} : openL (opd 8) n = opd 8 ∧ openN (opd 8) n = n ∧ openA (opd 8) n = 0 ∧ openE (opd 8) n = 134 := by
  have hf : openFull (opd 8) n = true := full_yes (by rw [opd_len]; exact Nat.le_refl _)
  refine ⟨?_, ?_, ?_, ?_⟩
  · unfold openL; rw [hf, if_pos rfl]
  · unfold openN; rw [hf, if_pos rfl]
  · unfold openA; rw [hf, if_pos rfl]
  · unfold openE; rw [hf, if_pos rfl]
theorem lget_in : ∀ {L : Ses} {k : Int}, k ∈ L.map (·.1) → ∃ s, lget L k = some s
  | [], k, h => by cases h
  | x :: L, k, h => by
    unfold lget
    split
    · exact ⟨_, rfl⟩
    · rename_i hx
      rcases List.mem_cons.1 h with e | h2
      · exact absurd e.symm hx
      · exact lget_in h2
theorem ldel_len : ∀ {L : Ses} {k : Int}, k ∈ L.map (·.1) → (ldel L k).length + 1 = L.length
  | [], k, h => by cases h
  | x :: L, k, h => by
    unfold ldel
    split
    · rfl
    · rename_i hx
      rcases List.mem_cons.1 h with e | h2
      · exact absurd e.symm hx
      · rw [List.length_cons, List.length_cons, ldel_len h2]
/-- m seats, one of them let go, one opened: m seats, the next number is m + 2 -/
theorem opd_turn {m : Nat} (hm : 1 ≤ m ∧ m ≤ 8) {id : Int} (hid : 1 ≤ id ∧ id ≤ m) :
    expE (opd m) id = 0 ∧ openE (expL (opd m) id) (((m : Nat) : Int) + 1) = 0 ∧ openA (expL (opd m) id) (((m : Nat) : Int) + 1) = ((m : Nat) : Int) + 1 ∧ openN (expL (opd m) id) (((m : Nat) : Int) + 1) = ((m : Nat) : Int) + 1 + 1 ∧ (openL (expL (opd m) id) (((m : Nat) : Int) + 1)).length = m ∧
    ∀ x ∈ openL (expL (opd m) id) (((m : Nat) : Int) + 1), 1 ≤ x.1 ∧ x.1 ≤ ((m : Nat) : Int) + 1 := by
  have hin : id ∈ (opd m).map (·.1) := opd_keys.2 hid
  obtain ⟨s, hs⟩ := lget_in hin
  have he : expL (opd m) id = ldel (opd m) id := by unfold expL; rw [hs]
  have hlen : (ldel (opd m) id).length + 1 = m := by rw [ldel_len hin, opd_len]
  have hf : openFull (ldel (opd m) id) (((m : Nat) : Int) + 1) = false := full_no (by omega) (by omega)
  have hn : (((m : Nat) : Int) + 1) ∉ (ldel (opd m) id).map (·.1) := fun h => by
    have := opd_keys.1 (keys_del _ _ _ h); omega
  rw [he]
  have hL : openL (ldel (opd m) id) (((m : Nat) : Int) + 1) = ldel (opd m) id ++ [(((m : Nat) : Int) + 1, 0, Rp.zero)] := by unfold openL; rw [hf, if_neg (by simp), lput_new _ hn]
  refine ⟨by unfold expE; rw [hs], by unfold openE; rw [hf, if_neg (by simp)], by unfold openA; rw [hf, if_neg (by simp)], by unfold openN; rw [hf, if_neg (by simp)], ?_, ?_⟩
  · rw [hL, List.length_append]; simp; omega
  · rw [hL]
    intro x hx
    rcases List.mem_append.1 hx with hx | hx
    · have := opd_keys.1 (keys_del _ _ _ (List.mem_map.2 ⟨x, hx, rfl⟩)); omega
    · rw [List.mem_singleton.1 hx]; simp only; omega
end Go.S15
