/- What a log is behind a Join that is ok, in plain lists. -/
import Derived.Test.YtdlcjoonhojpfaaE4
namespace Go.Proofs.Ytdlcjoonhojpfaa
open Go.RowKit Go.SL Go.E17
set_option linter.unusedVariables false
set_option linter.unusedSimpArgs false
theorem term_at {i t k u : Int} {T : List Int} (h1 : i < k) (hu : T[(k - (i + 1)).toNat]? = some u) : termE i T k = 0 ∧ termT i t T k = u := by
  have hlt := (List.getElem?_eq_some_iff.1 hu).1
  unfold termE termT
  rw [if_neg (by omega), if_pos (by omega), if_neg (by omega), if_pos (by omega)]
  exact ⟨rfl, by simp [List.getD, hu]⟩
theorem term_of {i t k u : Int} {T : List Int} (h1 : i < k) (hE : termE i T k = 0) (hT : termT i t T k = u) : k ≤ i + (T.length : Nat) ∧ T[(k - (i + 1)).toNat]? = some u := by
  unfold termE at hE
  rw [if_neg (by omega)] at hE
  split at hE
  · rename_i h
    refine ⟨h.2, ?_⟩
    unfold termT at hT
    rw [if_neg (by omega), if_pos h] at hT
    have hlt : (k - (i + 1)).toNat < T.length := by omega
    rw [List.getElem?_eq_getElem hlt, ← hT]
    simp [List.getD, hlt]
  · omega
theorem stop_no {i t k u : Int} {T : List Int} (h : stopB i t T k u = false) (hk : i < k) : termE i T k = 0 ∧ termT i t T k = u := by
  unfold stopB at h
  rw [Bool.and_eq_false_iff, decide_eq_false_iff_not, Bool.or_eq_false_iff, bne_eq_false_iff_eq, bne_eq_false_iff_eq] at h
  rcases h with h | h
  · omega
  · exact h
theorem findJ_no {i t idx : Int} {T : List Int} : ∀ (U : List Int) (n : Int), 0 ≤ n → ∀ (j : Nat) (u : Int), U[j]? = some u → (findJ i t T idx U n < 0 ∨ n + (j : Int) < findJ i t T idx U n) → stopB i t T (idx + n + (j : Int) + 1) u = false
  | [], n, hn, j, u, hu, _ => by simp at hu
  | v :: U, n, hn, 0, u, hu, hf => by
    simp only [List.getElem?_cons_zero, Option.some.injEq] at hu
    subst hu
    unfold findJ at hf
    rw [show idx + n + ((0 : Nat) : Int) + 1 = idx + n + 1 by omega]
    cases hs : stopB i t T (idx + n + 1) v with
    | false => rfl
    | true => rw [hs, if_pos rfl] at hf; omega
  | v :: U, n, hn, j + 1, u, hu, hf => by
    unfold findJ at hf
    have hu' : U[j]? = some u := by simpa using hu
    cases hs : stopB i t T (idx + n + 1) v with
    | true => rw [hs, if_pos rfl] at hf; omega
    | false =>
      rw [hs, if_neg Bool.false_ne_true] at hf
      have := findJ_no (i := i) (t := t) (idx := idx) (T := T) U (n + 1) (by omega) j u hu' (by omega)
      rw [show idx + n + ((j + 1 : Nat) : Int) + 1 = idx + (n + 1) + (j : Int) + 1 by omega]; exact this
theorem joinL_map {α β : Type} (g : α → β) {i t idx tm : Int} {T U : List Int} {a b : List α} : (joinL i t T idx tm U a b).map g = joinL i t T idx tm U (a.map g) (b.map g) := by
  unfold joinL
  split
  · rfl
  · split
    · rfl
    · split
      · rfl
      · simp
theorem joined_ts {i t idx tm : Int} {es l es2 : List Ent} (hvs : vs es2 = joinL i t (ts es) idx tm (ts l) (vs es) (vs l)) : ts es2 = joinL i t (ts es) idx tm (ts l) (ts es) (ts l) := by
  rw [ts_vs es2, hvs, joinL_map, ← ts_vs, ← ts_vs]
section
variable {i t idx tm : Int} {es l es2 : List Ent} (hvs : vs es2 = joinL i t (ts es) idx tm (ts l) (vs es) (vs l)) (hnf : ¬ idx > i + ((ts es).length : Nat)) (hnc : ¬ clash i t (ts es) idx tm = true)
include hvs hnf hnc
theorem joined_in {j : Nat} {u : Int} (hu : (ts l)[j]? = some u) (hj : i < idx + 1 + (j : Int)) : termE i (ts es2) (idx + 1 + (j : Int)) = 0 ∧ termT i t (ts es2) (idx + 1 + (j : Int)) = u := by
  have hts := joined_ts hvs
  unfold joinL at hts
  rw [if_neg hnf, if_neg hnc] at hts
  have hno := findJ_no (i := i) (t := t) (idx := idx) (T := ts es) (ts l) 0 (by omega) j u hu
  rw [show idx + 0 + (j : Int) + 1 = idx + 1 + (j : Int) by omega] at hno
  by_cases hf : findJ i t (ts es) idx (ts l) 0 < 0
  · rw [if_pos hf] at hts
    rw [hts]; exact stop_no (hno (.inl hf)) hj
  · rw [if_neg hf] at hts
    have hsp := findJ_spec (i := i) (t := t) (idx := idx) (T := ts es) (ts l) 0 (by omega) (by omega) (by omega)
    have hjl := (List.getElem?_eq_some_iff.1 hu).1
    rw [hts]
    apply term_at hj
    by_cases hjf : (j : Int) < findJ i t (ts es) idx (ts l) 0
    · have h0 := stop_no (hno (.inr (by omega))) hj
      have h1 := term_of hj h0.1 h0.2
      rw [List.getElem?_append_left (by rw [List.length_take]; omega), List.getElem?_take, if_pos (by omega)]
      exact h1.2
    · rw [List.getElem?_append_right (by rw [List.length_take]; omega), List.getElem?_drop, List.length_take, ← hu]
      congr 1; omega
theorem joined_kept {k : Int} (h1 : i ≤ k) (h2 : k ≤ idx) (h3 : k ≤ i + ((ts es).length : Nat)) : termE i (ts es2) k = termE i (ts es) k ∧ termT i t (ts es2) k = termT i t (ts es) k := by
  have hts := joined_ts hvs
  unfold joinL at hts
  rw [if_neg hnf, if_neg hnc] at hts
  by_cases hf : findJ i t (ts es) idx (ts l) 0 < 0
  · rw [if_pos hf] at hts
    rw [hts]; exact ⟨rfl, rfl⟩
  · rw [if_neg hf] at hts
    have hsp := findJ_spec (i := i) (t := t) (idx := idx) (T := ts es) (ts l) 0 (by omega) (by omega) (by omega)
    rcases Int.lt_or_le i k with hk | hk
    · have hlt : (k - (i + 1)).toNat < (ts es).length := by omega
      have e1 : (ts es)[(k - (i + 1)).toNat]? = some (ts es)[(k - (i + 1)).toNat] := List.getElem?_eq_getElem hlt
      have a := term_at (t := t) hk e1
      have b := term_at (t := t) (T := ts es2) hk (u := (ts es)[(k - (i + 1)).toNat]) (by
        rw [hts, List.getElem?_append_left (by rw [List.length_take]; omega), List.getElem?_take, if_pos (by omega)]; exact e1)
      exact ⟨b.1.trans a.1.symm, b.2.trans a.2.symm⟩
    · obtain rfl : k = i := by omega
      exact ⟨termE_base.trans termE_base.symm, termT_base.trans termT_base.symm⟩
theorem joined_len (hf : ¬ findJ i t (ts es) idx (ts l) 0 < 0) : i + ((es2.length : Nat) : Int) = idx + ((l.length : Nat) : Int) := by
  have hl := congrArg List.length hvs
  unfold joinL at hl
  rw [if_neg hnf, if_neg hnc, if_neg hf] at hl
  have hsp := findJ_spec (i := i) (t := t) (idx := idx) (T := ts es) (ts l) 0 (by omega) (by omega) (by omega)
  rw [List.length_append, List.length_take, List.length_drop] at hl
  simp only [vs, List.length_map, ts_len] at hl hsp hnf
  omega
theorem joined_len0 (hf : findJ i t (ts es) idx (ts l) 0 < 0) : es2.length = es.length := by
  have hl := congrArg List.length hvs
  unfold joinL at hl
  rw [if_neg hnf, if_neg hnc, if_pos hf] at hl
  simpa [vs] using hl
end
theorem back_le {T : List Int} {u : Int} : ∀ n, back T u n ≤ n
  | 0 => Nat.le_refl _
  | n + 1 => by
    unfold back
    split
    · exact Nat.le_succ_of_le (back_le n)
    · exact Nat.le_refl _
section
variable {p : Pers} {w : World} {R : List Assn} {b : Nat} {i t : Int} {es : List Ent} {A : Assn} {XL : Option Addr} {cl : Nat} {l : List Ent}
theorem ent_Join_far (idx tm : Int) (hidx : -9223372036854775808 ≤ idx ∧ idx ≤ 9223372036854775807) (hl : es.length + l.length ≤ 1000000) (hA : Tells p A 4 (.slice XL l.length cl) l.length (flat l)) (hEL : EsOk p l) (hf : idx > i + ((es.length : Nat) : Int)) (hst : St p w (LogB p b i t es :: A :: R)) :
    Calls Try.prog 29 #[.pointer (some ⟨b, 0, none⟩), .int .i64 idx, .int .i64 tm, .slice XL l.length cl] w fun e w => ∃ q es2, p.le q ∧ e = .returned (.tuple #[.int .i64 (i + ((es.length : Nat) : Int)), .int .i64 0, .bool false]) ∧ es2.length = es.length ∧ St q w (LogB q b i t es2 :: A :: R) :=
  Calls.mono (ent_Join idx tm hidx hl hA hEL hst) (by
    rintro _ w ⟨q, es2, le, rfl, hv, s⟩
    have hf' : idx > i + ((ts es).length : Nat) := by rw [ts_len]; exact hf
    refine ⟨q, es2, le, ?_, ?_, s⟩
    · unfold joinA joinF joinO; rw [if_pos hf', if_pos hf', if_pos hf', ts_len]
    · unfold joinL at hv; rw [if_pos hf'] at hv; exact vs_len hv)
theorem ent_Join_clash (idx tm : Int) (hidx : -9223372036854775808 ≤ idx ∧ idx ≤ 9223372036854775807) (hl : es.length + l.length ≤ 1000000) (hA : Tells p A 4 (.slice XL l.length cl) l.length (flat l)) (hEL : EsOk p l) (hf : ¬ idx > i + ((es.length : Nat) : Int)) (hc : clash i t (ts es) idx tm = true) (hst : St p w (LogB p b i t es :: A :: R)) :
    Calls Try.prog 29 #[.pointer (some ⟨b, 0, none⟩), .int .i64 idx, .int .i64 tm, .slice XL l.length cl] w fun e w => ∃ q es2 B, p.le q ∧ e = .returned (.tuple #[.int .i64 B, .int .i64 0, .bool false]) ∧ es2.length = es.length ∧ (i ≤ B ∧ B ≤ i + ((es.length : Nat) : Int)) ∧ St q w (LogB q b i t es2 :: A :: R) :=
  Calls.mono (ent_Join idx tm hidx hl hA hEL hst) (by
    rintro _ w ⟨q, es2, le, rfl, hv, s⟩
    have hf' : ¬ idx > i + ((ts es).length : Nat) := by rw [ts_len]; exact hf
    refine ⟨q, es2, i + (back (ts es) (termT i t (ts es) idx) (idx - i).toNat : Nat), le, ?_, ?_, ?_, s⟩
    · unfold joinA joinF joinO; rw [if_neg hf', if_neg hf', if_neg hf', if_pos hc, if_pos hc, if_pos hc]
    · unfold joinL at hv; rw [if_neg hf', if_pos hc] at hv; exact vs_len hv
    · have := back_le (T := ts es) (u := termT i t (ts es) idx) (idx - i).toNat
      omega)
theorem ent_Join_none (idx tm : Int) (hidx : -9223372036854775808 ≤ idx ∧ idx ≤ 9223372036854775807) (hl : es.length + l.length ≤ 1000000) (hA : Tells p A 4 (.slice XL l.length cl) l.length (flat l)) (hEL : EsOk p l) (hf : ¬ idx > i + ((es.length : Nat) : Int)) (hc : ¬ clash i t (ts es) idx tm = true) (hj : findJ i t (ts es) idx (ts l) 0 < 0) (hst : St p w (LogB p b i t es :: A :: R)) :
    Calls Try.prog 29 #[.pointer (some ⟨b, 0, none⟩), .int .i64 idx, .int .i64 tm, .slice XL l.length cl] w fun e w => ∃ q es2, p.le q ∧ e = .returned (.tuple #[.int .i64 (idx + ((l.length : Nat) : Int)), .int .i64 0, .bool true]) ∧ vs es2 = joinL i t (ts es) idx tm (ts l) (vs es) (vs l) ∧ es2.length = es.length ∧ St q w (LogB q b i t es2 :: A :: R) :=
  Calls.mono (ent_Join idx tm hidx hl hA hEL hst) (by
    rintro _ w ⟨q, es2, le, rfl, hv, s⟩
    have hf' : ¬ idx > i + ((ts es).length : Nat) := by rw [ts_len]; exact hf
    refine ⟨q, es2, le, ?_, hv, joined_len0 hv hf' hc hj, s⟩
    unfold joinA joinF joinO; rw [if_neg hf', if_neg hf', if_neg hf', if_neg hc, if_neg hc, if_neg hc, if_pos hj, ts_len])
theorem ent_Join_new (idx tm : Int) (hidx : -9223372036854775808 ≤ idx ∧ idx ≤ 9223372036854775807) (hl : es.length + l.length ≤ 1000000) (hA : Tells p A 4 (.slice XL l.length cl) l.length (flat l)) (hEL : EsOk p l) (hf : ¬ idx > i + ((es.length : Nat) : Int)) (hc : ¬ clash i t (ts es) idx tm = true) (hj : ¬ findJ i t (ts es) idx (ts l) 0 < 0) (hst : St p w (LogB p b i t es :: A :: R)) :
    Calls Try.prog 29 #[.pointer (some ⟨b, 0, none⟩), .int .i64 idx, .int .i64 tm, .slice XL l.length cl] w fun e w => ∃ q es2 F, p.le q ∧ e = .returned (.tuple #[.int .i64 (idx + ((l.length : Nat) : Int)), .int .i64 F, .bool true]) ∧ vs es2 = joinL i t (ts es) idx tm (ts l) (vs es) (vs l) ∧ (i < F ∧ idx < F ∧ F ≤ idx + ((l.length : Nat) : Int)) ∧ i + ((es2.length : Nat) : Int) = idx + ((l.length : Nat) : Int) ∧ St q w (LogB q b i t es2 :: A :: R) :=
  Calls.mono (ent_Join idx tm hidx hl hA hEL hst) (by
    rintro _ w ⟨q, es2, le, rfl, hv, s⟩
    have hf' : ¬ idx > i + ((ts es).length : Nat) := by rw [ts_len]; exact hf
    have hsp := findJ_spec (i := i) (t := t) (idx := idx) (T := ts es) (ts l) 0 (by omega) (by omega) (by omega)
    refine ⟨q, es2, idx + findJ i t (ts es) idx (ts l) 0 + 1, le, ?_, hv, by have := ts_len l; have := ts_len es; omega, joined_len hv hf' hc hj, s⟩
    unfold joinA joinF joinO; rw [if_neg hf', if_neg hf', if_neg hf', if_neg hc, if_neg hc, if_neg hc, if_neg hj, ts_len])
end
end Go.Proofs.Ytdlcjoonhojpfaa
