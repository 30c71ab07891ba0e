/- GCM: what is sealed is opened as it was; with another tag it is not. -/
import Derived.Test.YtjpjejldinpcnaaY2
namespace Go.Proofs.Ytjpjejldinpcnaa
open Go.RowKit Go.SL
set_option linter.unusedVariables false
set_option linter.unusedSimpArgs false
theorem Laid.uniq {S : Nat → BitVec 8} {b r r' : By} {n : Nat} (h : Laid S b n r) (h' : Laid S b n r') : r = r' :=
  ext_getD (h.1.trans h'.1.symm) fun j hj => by rw [h.2 j (h.1 ▸ hj), h'.2 j (h.1 ▸ hj)]
theorem Laid.inv {S : Nat → BitVec 8} {b r : By} (h : Laid S b b.length r) : Laid S r r.length b :=
  ⟨h.1.symm, fun j hj => by
    have hj2 : j < b.length := h.1 ▸ hj
    rw [if_pos hj, h.2 j hj2, if_pos hj2, BitVec.xor_assoc, BitVec.xor_self, BitVec.xor_zero]⟩
theorem or0 (a b : BitVec 8) : (a ||| b) = 0#8 ↔ a = 0#8 ∧ b = 0#8 := by
  constructor
  · intro h
    refine ⟨?_, ?_⟩ <;> (ext i hi; have := congrArg (fun z => z.getLsbD i) h; simp at this; rw [← BitVec.getLsbD_eq_getElem]; simp [this])
  · rintro ⟨rfl, rfl⟩; rfl
theorem xor0 (a b : BitVec 8) : (a ^^^ b) = 0#8 ↔ a = b := by
  constructor
  · intro h
    have : a ^^^ b ^^^ b = 0#8 ^^^ b := by rw [h]
    rw [BitVec.xor_assoc, BitVec.xor_self, BitVec.xor_zero, BitVec.zero_xor] at this; exact this
  · rintro rfl; exact BitVec.xor_self
theorem getD_app (s t : By) (i : Nat) : (s ++ t).getD (s.length + i) 0#8 = t.getD i 0#8 := by
  rw [List.getD_eq_getElem?_getD, List.getD_eq_getElem?_getD, List.getElem?_append_right (by omega), Nat.add_sub_cancel_left]
theorem GOpen_eq (k n x s t t' : By) (hs : s.length ≤ 100000) (ht : t.length = 16) (ht' : t'.length = 16) (h : GTag k n x s = some t) :
    GOpen k n x (s ++ t') = if t = t' then (GXor k n (2#32) s).bind fun r => some (r, 0) else some ([], 40) := by
  have hl : (s ++ t').length = s.length + 16 := by rw [List.length_append, ht']
  have hsl : sl 0 s.length (s ++ t') = s := by simp [sl]
  have hn : ((((s ++ t').length : Nat) : Int) - 16).toNat = s.length := by omega
  unfold GOpen
  rw [show decide ((((s ++ t').length : Nat) : Int) - 16 < 0) = false from decide_eq_false (by omega), hn, cond_false, if_pos (by omega), lt_eq, hsl, h, sbind]
  unfold GOpen_j1
  suffices hh : ∀ q i (u : BitVec 8), (u = 0#8 ↔ ∀ j, j < i → t.getD j 0#8 = t'.getD j 0#8) → i ≤ 16 → 16 < q + i → GOpen_l2 k n (s ++ t') t q u i = if t = t' then (GXor k n (2#32) s).bind fun r => some (r, 0) else some ([], 40) from
    hh _ 0 _ (by simp) (by omega) (by omega)
  intro q
  induction q with
  | zero => intro i u _ h1 h2; omega
  | succ q ih =>
    intro i u hu hi hq
    rw [GOpen_l2]
    by_cases h16 : i < 16
    · rw [show decide (((i : Nat) : Int) < 16) = true from decide_eq_true (by omega), cond_true, lt_eq]
      have hz : ((((s ++ t').length : Nat) : Int) - 16 + ((i : Nat) : Int)).toNat = s.length + i := by omega
      rw [hz, if_pos (by omega), lt_eq, getD_app]
      refine ih (i + 1) _ ?_ (by omega) (by omega)
      rw [or0, xor0, hu]
      constructor
      · rintro ⟨h1, h2⟩ j hj
        rcases Nat.lt_succ_iff_lt_or_eq.1 hj with h3 | rfl
        · exact h1 j h3
        · exact h2
      · intro h1
        exact ⟨fun j hj => h1 j (by omega), h1 i (by omega)⟩
    · have hi16 : i = 16 := by omega
      subst hi16
      rw [show decide ((((16 : Nat) : Nat) : Int) < 16) = false from rfl, cond_false]
      have he : (u = 0#8) ↔ t = t' := by
        rw [hu]
        exact ⟨fun h1 => ext_getD (ht.trans ht'.symm) fun j hj => h1 j (by omega), fun h1 j _ => by rw [h1]⟩
      by_cases hu0 : u = 0#8
      · rw [if_pos (he.1 hu0), hu0]
        show (if _ then _ else none) = _
        rw [hn, if_pos (by omega), lt_eq, hsl]
      · rw [if_neg (fun h1 => hu0 (he.2 h1))]
        rw [show (u != 0#8) = true from bne_iff_ne.2 hu0, cond_true]
theorem seal_all (k n : By) (hk : k.length = 32) (hn : n.length = 12) (x text : By) (hx : x.length ≤ 100000) (htx : text.length ≤ 50000) :
    ∃ s t, s.length = text.length ∧ t.length = 16 ∧ GSeal k n x text = some (s ++ t) ∧ GOpen k n x (s ++ t) = some (text, 0) ∧ ∀ t', t'.length = 16 → t ≠ t' → GOpen k n x (s ++ t') = some ([], 40) := by
  obtain ⟨S, hS⟩ := GXor_ok k n (2#32) hk hn
  obtain ⟨s, hs, hls⟩ := hS text (by omega)
  obtain ⟨t, ht, hlt⟩ := GTag_T k n x s hk hn hx (by rw [hls.1]; omega)
  obtain ⟨s2, hs2, hls2⟩ := hS s (by rw [hls.1]; omega)
  have hlt : t.length = 16 := hlt
  have e : s2 = text := hls2.uniq hls.inv
  refine ⟨s, t, hls.1, hlt, ?_, ?_, ?_⟩
  · unfold GSeal
    rw [hs, sbind, ht, sbind, if_pos ⟨by omega, by have := hls.1; omega⟩, lt_eq]
  · rw [GOpen_eq k n x s t t (by rw [hls.1]; omega) hlt hlt ht, if_pos rfl, hs2, sbind, e]
  · intro t' ht' hne
    rw [GOpen_eq k n x s t t' (by rw [hls.1]; omega) hlt ht' ht, if_neg hne]
end Go.Proofs.Ytjpjejldinpcnaa
