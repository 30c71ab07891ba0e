/- The packages bits, pack, and its reference: what they come to. -/
import Derived.Test.YtjpjejldinpcnaaX6
import Derived.Test.YtjpjejldinpcnaaY4
namespace Go.Proofs.Ytjpjejldinpcnaa
open Go.RowKit Go.SL
set_option linter.unusedVariables false
set_option linter.unusedSimpArgs false
set_option maxHeartbeats 1000000
theorem table8 : ∀ y : Fin 256, (str2.getD y.val 0#8).toNat ≤ 8 ∧ y.val < 2 ^ (str2.getD y.val 0#8).toNat ∧ ((str2.getD y.val 0#8).toNat = 0 ∨ 2 ^ ((str2.getD y.val 0#8).toNat - 1) ≤ y.val) := by decide +kernel
theorem Len_ok (x : BitVec 64) : ∃ l : Nat, l ≤ 64 ∧ BLen x.toNat l ∧ Len x = some (l : Int) := by
  suffices h : Tot (Len64 x) fun L => ∃ l : Nat, L = (l : Int) ∧ l ≤ 64 ∧ BLen x.toNat l by
    obtain ⟨_, h1, l, rfl, h2, h3⟩ := h
    exact ⟨l, h2, h3, by unfold Len; rw [h1, sbind]⟩
  have hx := x.isLt
  have d3 : ∀ (j : BitVec 64) (s : Nat), s ≤ 56 → j.toNat = x.toNat / 2 ^ s → (s = 0 ∨ 0 < j.toNat) → j.toNat < 256 → Tot (Len64_j3 j (s : Int)) fun L => ∃ l : Nat, L = (l : Int) ∧ l ≤ 64 ∧ BLen x.toNat l := by
    intro j s hs hj h0 h8
    unfold Len64_j3
    have hw : (j.setWidth 8).toNat = j.toNat := by rw [BitVec.toNat_setWidth]; exact Nat.mod_eq_of_lt h8
    rw [hw]
    obtain ⟨t1, t2, t3⟩ := table8 ⟨j.toNat, h8⟩
    refine Tot.lt fun z hz => Tot.some ⟨s + (str2.getD j.toNat 0#8).toNat, ?_, by dsimp only at t1; omega, ?_⟩
    · rw [hz, w64_id (by omega) (by dsimp only at t1; omega)]; omega
    · refine BLen.up ?_ ?_
      · rw [← hj]; exact ⟨t2, t3⟩
      · rw [← hj]; exact h0
  have d2 : ∀ (j : BitVec 64) (s : Nat), s ≤ 48 → j.toNat = x.toNat / 2 ^ s → (s = 0 ∨ 0 < j.toNat) → j.toNat < 65536 → Tot (Len64_j2 j (s : Int)) fun L => ∃ l : Nat, L = (l : Int) ∧ l ≤ 64 ∧ BLen x.toNat l := by
    intro j s hs hj h0 h8
    unfold Len64_j2
    refine Tot.dif (fun h => ?_) (fun h => ?_)
    · have h : 256 ≤ j.toNat := h
      rw [w64_id (by omega) (by omega)]
      have e : (j >>> 8).toNat = j.toNat / 256 := by rw [BitVec.toNat_ushiftRight, Nat.shiftRight_eq_div_pow]
      refine d3 (j >>> 8) (s + 8) (by omega) ?_ (.inr ?_) ?_
      · rw [e, hj, Nat.div_div_eq_div_mul, Nat.pow_add]
      · rw [e]; omega
      · rw [e]; omega
    · have h : ¬ (256 ≤ j.toNat) := h
      exact d3 j s (by omega) hj h0 (by omega)
  have d1 : ∀ (j : BitVec 64) (s : Nat), s ≤ 32 → j.toNat = x.toNat / 2 ^ s → (s = 0 ∨ 0 < j.toNat) → j.toNat < 4294967296 → Tot (Len64_j1 j (s : Int)) fun L => ∃ l : Nat, L = (l : Int) ∧ l ≤ 64 ∧ BLen x.toNat l := by
    intro j s hs hj h0 h8
    unfold Len64_j1
    refine Tot.dif (fun h => ?_) (fun h => ?_)
    · have h : 65536 ≤ j.toNat := h
      rw [w64_id (by omega) (by omega)]
      have e : (j >>> 16).toNat = j.toNat / 65536 := by rw [BitVec.toNat_ushiftRight, Nat.shiftRight_eq_div_pow]
      refine d2 (j >>> 16) (s + 16) (by omega) ?_ (.inr ?_) ?_
      · rw [e, hj, Nat.div_div_eq_div_mul, Nat.pow_add]
      · rw [e]; omega
      · rw [e]; omega
    · have h : ¬ (65536 ≤ j.toNat) := h
      exact d2 j s (by omega) hj h0 (by omega)
  unfold Len64
  refine Tot.dif (fun h => ?_) (fun h => ?_)
  · have h : 4294967296 ≤ x.toNat := h
    have e : (x >>> 32).toNat = x.toNat / 4294967296 := by rw [BitVec.toNat_ushiftRight, Nat.shiftRight_eq_div_pow]
    refine d1 (x >>> 32) 32 (by omega) ?_ (.inr ?_) ?_
    · rw [e]
    · rw [e]; omega
    · rw [e]; omega
  · have h : ¬ (4294967296 ≤ x.toNat) := h
    exact d1 x 0 (by omega) (by simp) (.inl rfl) (by omega)
theorem size_ok (v : Nat) (hv : v < 18446744073709551616) : ∃ l k : Nat, l ≤ 64 ∧ k ≤ 8 ∧ SzOk v k ∧ Len (BitVec.ofInt 64 (v : Int)) = some (l : Int) ∧ w64 ((w64 ((l : Int) + 7)).tdiv 8) = (k : Int) := by
  have e : (BitVec.ofInt 64 (v : Int)).toNat = v := by rw [BitVec.ofInt_natCast, BitVec.toNat_ofNat]; exact Nat.mod_eq_of_lt hv
  obtain ⟨l, h1, h2, h3⟩ := Len_ok (BitVec.ofInt 64 (v : Int))
  rw [e] at h2
  refine ⟨l, (l + 7) / 8, h1, by omega, h2.sz, h3, ?_⟩
  rw [w64_id (z := (l : Int) + 7) (by omega) (by omega), Int.tdiv_eq_ediv_of_nonneg (by omega), w64_id (by omega) (by omega)]; omega
theorem Put_l1_ok (v : Nat) : ∀ (j q : Nat) (s : List (BitVec 8)), j ≤ 8 → j < q → s.length + j ≤ 1000000 → Put_l1 (v : Int) q s ((j : Int) - 1) = some (s ++ be j v, 0) := by
  intro j
  induction j with
  | zero =>
    intro q s _ h2 h3
    obtain ⟨q, rfl⟩ : ∃ z, q = z + 1 := ⟨q - 1, by omega⟩
    rw [Put_l1, show decide ((((0 : Nat) : Int) - 1) ≥ 0) = false from rfl, cond_false, be, List.append_nil]
  | succ j ih =>
    intro q s h1 h2 h3
    obtain ⟨q, rfl⟩ : ∃ z, q = z + 1 := ⟨q - 1, by omega⟩
    have e1 : (((j + 1 : Nat) : Int) - 1) = (j : Int) := by omega
    have e2 : w64 (8 * (j : Int)) = 8 * (j : Int) := w64_id (by omega) (by omega)
    have e3 : (8 * (j : Int)).toNat = 8 * j := by omega
    rw [Put_l1, e1, show decide ((j : Int) ≥ 0) = true from decide_eq_true (by omega), cond_true, e2, if_pos (by omega), e3, lt_eq, ishr_nat v j (by omega), BitVec.ofInt_natCast, if_pos (by omega), lt_eq, w64_id (by omega) (by omega),
      ih q _ (by omega) (by omega) (by rw [List.length_append]; simp; omega), be, List.append_assoc]; rfl
theorem Put_ok (b : List (BitVec 8)) (v : Nat) (hb : b.length ≤ 900000) (hv : v < 9223372036854775808) : ∃ k, k ≤ 8 ∧ SzOk v k ∧ Put b (v : Int) = some (b ++ BitVec.ofNat 8 k :: be k v, 0) := by
  obtain ⟨l, k, h1, h2, h3, h4, h5⟩ := size_ok v (by omega)
  refine ⟨k, h2, h3, ?_⟩
  unfold Put
  rw [show decide ((v : Int) < 0) = false from decide_eq_false (by omega), cond_false, h4, sbind, if_pos (by omega), lt_eq, h5, BitVec.ofInt_natCast, w64_id (by omega) (by omega),
    Put_l1_ok v k _ _ h2 (by omega) (by rw [List.length_append]; simp; omega), List.append_assoc]; rfl
theorem take_beNat (t : List (BitVec 8)) (i : Nat) (h : i < t.length) : beNat (t.take (i + 1)) = beNat (t.take i) * 256 + (t.getD i 0#8).toNat := by
  rw [List.take_add_one, List.getElem?_eq_getElem h, Option.toList_some, beNat_snoc, List.getD_eq_getElem?_getD, List.getElem?_eq_getElem h]; rfl
theorem sz_not {V c : Nat} (h1 : V < 256 ^ c) : SzOk V c ↔ ¬ (0 < c ∧ V < 256 ^ (c - 1)) := by
  constructor
  · rintro ⟨_, h2⟩ ⟨h3, h4⟩; rcases h2 with h2 | h2 <;> omega
  · intro h
    refine ⟨h1, ?_⟩
    by_cases hc : c = 0
    · exact .inl hc
    · right; exact Nat.le_of_not_lt fun h3 => h ⟨by omega, h3⟩
theorem Number_ok (b : List (BitVec 8)) (hb : b.length ≤ 1000000) : Number b = some (takeN b) := by
  cases b with
  | nil => rfl
  | cons c r =>
    have hg : (c :: r).getD 0 0#8 = c := rfl
    have hl : (c :: r).length = r.length + 1 := rfl
    have hc := c.isLt
    unfold Number
    rw [hg, show ((((c :: r).length : Nat) : Int) == 0) = false from beq_eq_false_iff_ne.2 (by omega), cond_false, if_pos (by omega)]
    unfold takeN
    by_cases h8 : 8 < c.toNat
    · rw [show decide (((c.toNat : Nat) : Int) > 8) = true from decide_eq_true (by omega), cond_true]
      simp only [if_pos h8]
    · rw [show decide (((c.toNat : Nat) : Int) > 8) = false from decide_eq_false (by omega), cond_false]
      simp only [if_neg h8]
      by_cases hr : r.length < c.toNat
      · rw [show decide ((((c :: r).length : Nat) : Int) < (1 + ((c.toNat : Nat) : Int))) = true from decide_eq_true (by omega), cond_true]
        simp only [if_pos hr]
      · rw [show decide ((((c :: r).length : Nat) : Int) < (1 + ((c.toNat : Nat) : Int))) = false from decide_eq_false (by omega), cond_false]
        simp only [if_neg hr]
        have e1 : (1 + ((c.toNat : Nat) : Int)).toNat = 1 + c.toNat := by omega
        rw [e1, if_pos (by omega), lt_eq]
        have e2 : sl 1 (1 + c.toNat - 1) (c :: r) = r.take c.toNat := by rw [show 1 + c.toNat - 1 = c.toNat by omega]; rfl
        rw [e2]
        have htl : (r.take c.toNat).length = c.toNat := by rw [List.length_take]; omega
        have hVl : beNat (r.take c.toNat) < 256 ^ c.toNat := by have := beNat_lt (r.take c.toNat); rwa [htl] at this
        have hV64 := pw8 (k := c.toNat) (by omega)
        have hd : sl (1 + c.toNat) ((c :: r).length - (1 + c.toNat)) (c :: r) = r.drop c.toNat := by
          rw [sl, Nat.add_comm 1, List.drop_succ_cons, List.take_of_length_le (by rw [List.length_drop, hl]; omega)]
        have fin : ∀ q, 0 < q → Number_l1 (c :: r) (r.take c.toNat) q ((BitVec.ofNat 64 (beNat (r.take c.toNat))).toInt) (r.take c.toNat).length =
            some (if 9223372036854775808 ≤ beNat (r.take c.toNat) ∨ (0 < c.toNat ∧ beNat (r.take c.toNat) < 256 ^ (c.toNat - 1)) then (0, [], 80) else (((beNat (r.take c.toNat) : Nat) : Int), r.drop c.toNat, 0)) := by
          intro q hq
          obtain ⟨q, rfl⟩ : ∃ z, q = z + 1 := ⟨q - 1, by omega⟩
          rw [Number_l1, show decide ((((r.take c.toNat).length : Nat) : Int) < (((r.take c.toNat).length : Nat) : Int)) = false from decide_eq_false (by omega), cond_false, ofNat_toInt, Nat.mod_eq_of_lt (by omega)]
          by_cases hV : 9223372036854775808 ≤ beNat (r.take c.toNat)
          · rw [if_neg (by omega), show decide (((beNat (r.take c.toNat) : Nat) : Int) - 18446744073709551616 < 0) = true from decide_eq_true (by omega), cond_true, if_pos (.inl hV)]
            rfl
          · rw [if_pos (by omega), show decide (((beNat (r.take c.toNat) : Nat) : Int) < 0) = false from decide_eq_false (by omega), cond_false]
            obtain ⟨l, k, h1, h2, h3, h4, h5⟩ := size_ok (beNat (r.take c.toNat)) (by omega)
            rw [h4, sbind, h5, hg]
            unfold Number_j2
            by_cases hk : k = c.toNat
            · subst hk
              rw [show (((c.toNat : Nat) : Int) != ((c.toNat : Nat) : Int)) = false from by simp, cond_false, hg, e1, if_pos (by omega), lt_eq, hd, if_neg]
              rintro (h | h)
              · exact hV h
              · exact (sz_not hVl).1 h3 h
            · rw [show (((k : Nat) : Int) != ((c.toNat : Nat) : Int)) = true from bne_iff_ne.2 (by omega), cond_true, if_pos]
              right
              by_cases hh : 0 < c.toNat ∧ beNat (r.take c.toNat) < 256 ^ (c.toNat - 1)
              · exact hh
              · exact absurd (h3.uniq ((sz_not hVl).2 hh)) hk
        have loop : ∀ q i, i ≤ (r.take c.toNat).length → (r.take c.toNat).length < q + i → Number_l1 (c :: r) (r.take c.toNat) q ((BitVec.ofNat 64 (beNat ((r.take c.toNat).take i))).toInt) i =
            some (if 9223372036854775808 ≤ beNat (r.take c.toNat) ∨ (0 < c.toNat ∧ beNat (r.take c.toNat) < 256 ^ (c.toNat - 1)) then (0, [], 80) else (((beNat (r.take c.toNat) : Nat) : Int), r.drop c.toNat, 0)) := by
          intro q
          induction q with
          | zero => intro i h1 h2; omega
          | succ q ih =>
            intro i h1 h2
            by_cases hi : i < (r.take c.toNat).length
            · rw [Number_l1, show decide (((i : Nat) : Int) < (((r.take c.toNat).length : Nat) : Int)) = true from decide_eq_true (by omega), cond_true, if_pos hi, lt_eq, ior_step, ← take_beNat _ _ hi]
              exact ih (i + 1) (by omega) (by omega)
            · have hi2 : i = (r.take c.toNat).length := by omega
              subst hi2
              rw [List.take_of_length_le (Nat.le_refl _)]
              exact fin (q + 1) (by omega)
        have := loop 1099511627776 0 (by omega) (by omega)
        rw [List.take_zero] at this
        exact this
theorem Take_ok (b : List (BitVec 8)) (hb : b.length ≤ 1000000) : Take b = some (takeN b) := by
  unfold Take; rw [Number_ok b hb, sbind]
end Go.Proofs.Ytjpjejldinpcnaa
