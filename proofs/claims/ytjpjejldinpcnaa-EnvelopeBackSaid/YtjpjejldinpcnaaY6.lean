/- The references of pack and envelope; blobs. -/
import Derived.Test.YtjpjejldinpcnaaY5
namespace Go.Proofs.Ytjpjejldinpcnaa
open Go.RowKit Go.SL
set_option linter.unusedVariables false
set_option linter.unusedSimpArgs false
set_option maxHeartbeats 1000000
theorem RNeeds_l1_ok : ∀ (k v s q : Nat), SzOk v k → k < q → s + k ≤ 100 → RNeeds_l1 q (v : Int) (s : Int) = some ((s + k : Nat) : Int) := by
  intro k
  induction k with
  | zero =>
    intro v s q h hq hs
    obtain ⟨q, rfl⟩ : ∃ z, q = z + 1 := ⟨q - 1, by omega⟩
    have : v = 0 := by have := h.1; simp at this; exact this
    subst this
    rw [RNeeds_l1]; rfl
  | succ k ih =>
    intro v s q h hq hs
    obtain ⟨q, rfl⟩ : ∃ z, q = z + 1 := ⟨q - 1, by omega⟩
    have h2 : 256 ^ k ≤ v := by rcases h.2 with h2 | h2; · omega
                                · simpa using h2
    have hp : 0 < 256 ^ k := Nat.pow_pos (by decide)
    have hk : SzOk (v / 256) k := by
      refine ⟨?_, ?_⟩
      · exact (Nat.div_lt_iff_lt_mul (by decide)).2 (by rw [← Nat.pow_succ]; exact h.1)
      · by_cases h0 : k = 0
        · exact .inl h0
        · right
          refine (Nat.le_div_iff_mul_le (by decide)).2 ?_
          rw [← Nat.pow_succ, show (k - 1).succ = k by omega]; exact h2
    rw [RNeeds_l1, show decide ((v : Int) > 0) = true from decide_eq_true (by omega), cond_true, w64_id (by omega) (by omega)]
    have := ih (v / 256) (s + 1) q hk (by omega) (by omega)
    rw [show ((v : Int) / 256) = ((v / 256 : Nat) : Int) by omega, show ((s : Int) + 1) = ((s + 1 : Nat) : Int) by omega, this]
    congr 2; omega
theorem RPut_l1_ok (v : Nat) : ∀ (j q : Nat) (s : List (BitVec 8)), j ≤ 8 → j < q → s.length + j ≤ 1000000 → RPut_l1 (v : Int) q s ((j : Int) - 1) = some (s ++ be j v, 0) := by
  intro j
  induction j with
  | zero =>
    intro q s _ h2 h3
    obtain ⟨q, rfl⟩ : ∃ z, q = z + 1 := ⟨q - 1, by omega⟩
    rw [RPut_l1, show decide ((((0 : Nat) : Int) - 1) ≥ 0) = false from rfl, cond_false, be, List.append_nil]
  | succ j ih =>
    intro q s h1 h2 h3
    obtain ⟨q, rfl⟩ : ∃ z, q = z + 1 := ⟨q - 1, by omega⟩
    have e1 : (((j + 1 : Nat) : Int) - 1) = (j : Int) := by omega
    have e2 : w64 (8 * (j : Int)) = 8 * (j : Int) := w64_id (by omega) (by omega)
    have e3 : (8 * (j : Int)).toNat = 8 * j := by omega
    rw [RPut_l1, e1, show decide ((j : Int) ≥ 0) = true from decide_eq_true (by omega), cond_true, e2, if_pos (by omega), e3, lt_eq, ishr_nat v j (by omega), BitVec.ofInt_natCast, if_pos (by omega), lt_eq, w64_id (by omega) (by omega),
      ih q _ (by omega) (by omega) (by rw [List.length_append]; simp; omega), be, List.append_assoc]; rfl
theorem RPut_ok (b : List (BitVec 8)) (v k : Nat) (hb : b.length ≤ 900000) (hk : SzOk v k) (h8 : k ≤ 8) : RPut b (v : Int) = some (b ++ BitVec.ofNat 8 k :: be k v, 0) := by
  unfold RPut
  have hn : RNeeds (v : Int) = some ((k : Nat) : Int) := by
    have := RNeeds_l1_ok k v 0 1099511627776 hk (by omega) (by omega)
    unfold RNeeds; rw [Nat.zero_add] at this; exact this
  rw [show decide ((v : Int) < 0) = false from decide_eq_false (by omega), cond_false, hn, sbind, if_pos (by omega), lt_eq, List.nil_append, if_pos (by omega), lt_eq, BitVec.ofInt_natCast, w64_id (by omega) (by omega),
    RPut_l1_ok v k _ _ h8 (by omega) (by rw [List.length_append]; simp; omega), List.append_assoc]; rfl
theorem take1_beNat (c : BitVec 8) (r : List (BitVec 8)) (i : Nat) (h : i < r.length) : beNat (r.take (i + 1)) = beNat (r.take i) * 256 + ((c :: r).getD (i + 1) 0#8).toNat := take_beNat r i h
theorem RTake_ok (b : List (BitVec 8)) (hb : b.length ≤ 1000000) : RTake b = some (takeN b) := by
  cases b with
  | nil => rfl
  | cons c r =>
    have hg : (c :: r).getD 0 0#8 = c := rfl
    have hl : (c :: r).length = r.length + 1 := rfl
    have hc := c.isLt
    unfold RTake
    rw [hg, show ((((c :: r).length : Nat) : Int) == 0) = false from beq_eq_false_iff_ne.2 (by omega), cond_false, if_pos (by omega)]
    unfold takeN
    by_cases h8 : 8 < c.toNat
    · rw [show decide (((c.toNat : Nat) : Int) > 8) = true from decide_eq_true (by omega), cond_true]
      simp only [if_pos h8]
    · rw [show decide (((c.toNat : Nat) : Int) > 8) = false from decide_eq_false (by omega), cond_false]
      simp only [if_neg h8]
      by_cases hr : r.length < c.toNat
      · rw [show decide ((((c :: r).length : Nat) : Int) ≤ ((c.toNat : Nat) : Int)) = true from decide_eq_true (by omega), cond_true]
        simp only [if_pos hr]
      · rw [show decide ((((c :: r).length : Nat) : Int) ≤ ((c.toNat : Nat) : Int)) = false from decide_eq_false (by omega), cond_false]
        simp only [if_neg hr]
        have htl : (r.take c.toNat).length = c.toNat := by rw [List.length_take]; omega
        have hVl : beNat (r.take c.toNat) < 256 ^ c.toNat := by have := beNat_lt (r.take c.toNat); rwa [htl] at this
        have hV64 := pw8 (k := c.toNat) (by omega)
        have e1 : (((c.toNat : Nat) : Int) + 1).toNat = c.toNat + 1 := by omega
        have hd : sl (c.toNat + 1) ((c :: r).length - (c.toNat + 1)) (c :: r) = r.drop c.toNat := by
          rw [sl, List.drop_succ_cons, List.take_of_length_le (by rw [List.length_drop, hl]; omega)]
        -- the loop
        have loop : ∀ q i, i ≤ c.toNat → c.toNat < q + i → RTake_l2 (c :: r) q ((BitVec.ofNat 64 (beNat (r.take i))).toInt) (i + 1) = some ((BitVec.ofNat 64 (beNat (r.take c.toNat))).toInt, r.drop c.toNat, 0) := by
          intro q
          induction q with
          | zero => intro i h1 h2; omega
          | succ q ih =>
            intro i h1 h2
            by_cases hi : i < c.toNat
            · rw [RTake_l2, hg, show decide ((((i + 1 : Nat) : Nat) : Int) ≤ ((c.toNat : Nat) : Int)) = true from decide_eq_true (by omega), cond_true, if_pos (by omega), lt_eq, ior_step, ← take1_beNat c r i (by omega)]
              exact ih (i + 1) (by omega) (by omega)
            · have hi2 : i = c.toNat := by omega
              subst hi2
              rw [RTake_l2, hg, show decide ((((c.toNat + 1 : Nat) : Nat) : Int) ≤ ((c.toNat : Nat) : Int)) = false from decide_eq_false (by omega), cond_false, e1, if_pos (by omega), lt_eq, hd, if_pos (by rw [List.length_drop]; omega), lt_eq, List.nil_append]
        have lp0 := loop 1099511627776 0 (by omega) (by omega)
        rw [List.take_zero] at lp0
        have j1f : RTake_j1 (c :: r) false = some ((BitVec.ofNat 64 (beNat (r.take c.toNat))).toInt, r.drop c.toNat, 0) := by
          unfold RTake_j1; rw [cond_false]; exact lp0
        have j1t : RTake_j1 (c :: r) true = some (0, [], 80) := by unfold RTake_j1; rw [cond_true]
        have toV : beNat (r.take c.toNat) < 9223372036854775808 → (BitVec.ofNat 64 (beNat (r.take c.toNat))).toInt = ((beNat (r.take c.toNat) : Nat) : Int) := fun h => by
          rw [ofNat_toInt, Nat.mod_eq_of_lt (by omega), if_pos (by omega)]
        by_cases hc0 : c.toNat = 0
        · rw [show decide (((c.toNat : Nat) : Int) > 0) = false from decide_eq_false (by omega), cond_false, show (((c.toNat : Nat) : Int) == 8) = false from beq_eq_false_iff_ne.2 (by omega), cond_false, j1f]
          have hV : beNat (r.take c.toNat) < 1 := by rw [hc0] at hVl ⊢; exact hVl
          rw [if_neg (by omega), toV (by omega)]
        · obtain ⟨d, r', rfl⟩ : ∃ d r', r = d :: r' := by
            cases r with
            | nil => simp at hr; omega
            | cons d r' => exact ⟨d, r', rfl⟩
          obtain ⟨m, hm⟩ : ∃ m, c.toNat = m + 1 := ⟨c.toNat - 1, by omega⟩
          have hg1 : (c :: d :: r').getD 1 0#8 = d := rfl
          have h1l : 1 < (c :: d :: r').length := by simp
          have hV : beNat ((d :: r').take c.toNat) = d.toNat * 256 ^ m + beNat (r'.take m) := by
            have hrl : m ≤ r'.length := by have h5 : (d :: r').length = r'.length + 1 := rfl
                                           omega
            rw [hm, List.take_succ_cons, beNat_cons, List.length_take, Nat.min_eq_left hrl]
          have hm1 : beNat (r'.take m) < 256 ^ m := by
            have h6 := beNat_lt (r'.take m)
            have hrl : m ≤ r'.length := by have h5 : (d :: r').length = r'.length + 1 := rfl
                                           omega
            rwa [List.length_take, Nat.min_eq_left hrl] at h6
          have hpm : 0 < 256 ^ m := Nat.pow_pos (by decide)
          have hcm : c.toNat - 1 = m := by omega
          rw [show decide (((c.toNat : Nat) : Int) > 0) = true from decide_eq_true (by omega), cond_true, if_pos h1l, hg1]
          by_cases hd0 : d = 0#8
          · rw [show (d == 0#8) = true from beq_iff_eq.2 hd0, cond_true, j1t, if_pos]
            right; refine ⟨by omega, ?_⟩
            rw [hcm, hV, hd0]; simpa using hm1
          · rw [show (d == 0#8) = false from beq_eq_false_iff_ne.2 hd0, cond_false]
            have hdn : 1 ≤ d.toNat := by
              rcases Nat.eq_zero_or_pos d.toNat with h | h
              · exact absurd (BitVec.eq_of_toNat_eq (by rw [h]; rfl)) hd0
              · exact h
            have hge : 256 ^ m ≤ d.toNat * 256 ^ m := Nat.le_mul_of_pos_left _ (by omega)
            by_cases hc8 : c.toNat = 8
            · have hm7 : m = 7 := by omega
              subst hm7
              have e7 : (256 : Nat) ^ 7 = 72057594037927936 := rfl
              rw [e7] at hV hm1 hge hpm
              rw [show (((c.toNat : Nat) : Int) == 8) = true from beq_iff_eq.2 (by omega), cond_true, if_pos h1l]
              by_cases h127 : d.toNat > (127#8).toNat
              · have h127 : 127 < d.toNat := h127
                rw [show decide (d.toNat > (127#8).toNat) = true from decide_eq_true h127, j1t, if_pos]
                left; rw [hV]
                omega
              · have h127' : ¬ 127 < d.toNat := h127
                rw [show decide (d.toNat > (127#8).toNat) = false from decide_eq_false h127, j1f, if_neg, toV (by rw [hV]; omega)]
                rintro (h | ⟨_, h⟩)
                · rw [hV] at h; omega
                · rw [hcm, hV, e7] at h; omega
            · have hm6 : m ≤ 6 := by omega
              have hp7 : 256 ^ (m + 1) ≤ 72057594037927936 := Nat.pow_le_pow_right (n := 256) (by decide) (show m + 1 ≤ 7 by omega)
              rw [hm] at hVl
              rw [show (((c.toNat : Nat) : Int) == 8) = false from beq_eq_false_iff_ne.2 (by omega), cond_false, j1f, if_neg, toV (by rw [hm]; omega)]
              rintro (h | ⟨_, h⟩)
              · rw [hm] at h; omega
              · rw [hcm, hV] at h; omega
theorem Grow0_ok (n : Nat) (hn : n ≤ 1000000) : Grow0 (n : Int) = some [] := by
  unfold Grow0
  rw [show decide ((n : Int) < 0) = false from decide_eq_false (by omega), cond_false, show ((n : Int) - 0) = (n : Int) by omega, w64_id (by omega) (by omega)]
  by_cases h : n = 0
  · subst h; rfl
  · rw [show decide ((n : Int) > 0) = true from decide_eq_true (by omega), cond_true, if_pos (by omega), lt_eq, if_pos (Nat.zero_le _), lt_eq]
    rfl
theorem Concat3 (a b c : List (BitVec 8)) (h : a.length + b.length + c.length ≤ 1000000) : Concat [a, b, c] = some (a ++ b ++ c) := by
  have l2 : ∀ q, Concat_l2 [a, b, c] (q + 1 + 1 + 1 + 1) [] 0 = some (a ++ b ++ c) := by
    intro q
    rw [Concat_l2]
    show (if 0 < 3 then _ else none) = _
    rw [if_pos (by omega), lt_eq]
    show (if a.length ≤ 1000000 then _ else none) = _
    rw [if_pos (by omega), if_pos (by simp; omega), lt_eq, Concat_l2]
    show (if 1 < 3 then _ else none) = _
    rw [if_pos (by omega), lt_eq]
    show (if b.length ≤ 1000000 then _ else none) = _
    rw [if_pos (by omega), if_pos (by simp; omega), lt_eq, Concat_l2]
    show (if 2 < 3 then _ else none) = _
    rw [if_pos (by omega), lt_eq]
    show (if c.length ≤ 1000000 then _ else none) = _
    rw [if_pos (by omega), if_pos (by simp; omega), lt_eq, Concat_l2]
    rfl
  have l1 : ∀ q, Concat_l1 [a, b, c] (q + 1 + 1 + 1 + 1) 0 0 = some (a ++ b ++ c) := by
    intro q
    rw [Concat_l1]
    show (if 0 < 3 then _ else none) = _
    rw [if_pos (by omega), lt_eq]
    show (if a.length ≤ 1000000 then _ else none) = _
    rw [if_pos (by omega)]
    have e1 : w64 (0 + ((a.length : Nat) : Int)) = ((a.length : Nat) : Int) := by rw [w64_id (by omega) (by omega)]; omega
    show (bif decide ((w64 (0 + ((a.length : Nat) : Int))) < 0) then _ else Concat_l1 _ _ (w64 (0 + ((a.length : Nat) : Int))) _) = _
    rw [e1, show decide (((a.length : Nat) : Int) < 0) = false from decide_eq_false (by omega), cond_false, Concat_l1]
    show (if 1 < 3 then _ else none) = _
    rw [if_pos (by omega), lt_eq]
    show (if b.length ≤ 1000000 then _ else none) = _
    rw [if_pos (by omega)]
    have e2 : w64 (((a.length : Nat) : Int) + ((b.length : Nat) : Int)) = ((a.length + b.length : Nat) : Int) := by rw [w64_id (by omega) (by omega)]; omega
    show (bif decide ((w64 (((a.length : Nat) : Int) + ((b.length : Nat) : Int))) < 0) then _ else Concat_l1 _ _ (w64 (((a.length : Nat) : Int) + ((b.length : Nat) : Int))) _) = _
    rw [e2, show decide (((a.length + b.length : Nat) : Int) < 0) = false from decide_eq_false (by omega), cond_false, Concat_l1]
    show (if 2 < 3 then _ else none) = _
    rw [if_pos (by omega), lt_eq]
    show (if c.length ≤ 1000000 then _ else none) = _
    rw [if_pos (by omega)]
    have e3 : w64 (((a.length + b.length : Nat) : Int) + ((c.length : Nat) : Int)) = ((a.length + b.length + c.length : Nat) : Int) := by rw [w64_id (by omega) (by omega)]; omega
    show (bif decide ((w64 (((a.length + b.length : Nat) : Int) + ((c.length : Nat) : Int))) < 0) then _ else Concat_l1 _ _ (w64 (((a.length + b.length : Nat) : Int) + ((c.length : Nat) : Int))) _) = _
    rw [e3, show decide (((a.length + b.length + c.length : Nat) : Int) < 0) = false from decide_eq_false (by omega), cond_false, Concat_l1]
    show ((Grow0 (((a.length + b.length + c.length : Nat) : Nat) : Int)).bind fun r14 => Concat_l2 [a, b, c] 1099511627776 r14 0) = _
    rw [Grow0_ok _ h, sbind]
    exact l2 1099511627772
  exact l1 1099511627772
/-- a blob's bytes -/
def blobN (id v : Nat) (n s : List (BitVec 8)) (j k : Nat) : List (BitVec 8) := BitVec.ofNat 8 j :: (be j id ++ (BitVec.ofNat 8 k :: (be k v ++ (n ++ s))))
theorem Blob_ok (id v : Nat) (n s : List (BitVec 8)) (hid : id < 9223372036854775808) (hv : v < 9223372036854775808) (hn : n.length = 12) (hs : s.length ≤ 100000) :
    ∃ j k, j ≤ 8 ∧ k ≤ 8 ∧ SzOk id j ∧ SzOk v k ∧ Blob (id : Int) (v : Int) n s = some (blobN id v n s j k) ∧ RBlob (id : Int) (v : Int) n s = some (blobN id v n s j k) := by
  obtain ⟨j, hj8, hj, p1⟩ := Put_ok [] id (by simp) hid
  have hl1 : (BitVec.ofNat 8 j :: be j id).length ≤ 9 := by rw [List.length_cons, be_len]; omega
  rw [List.nil_append] at p1
  obtain ⟨k, hk8, hk, p2⟩ := Put_ok (BitVec.ofNat 8 j :: be j id) v (by omega) hv
  have hl2 : (BitVec.ofNat 8 j :: be j id ++ BitVec.ofNat 8 k :: be k v).length ≤ 18 := by rw [List.length_append, List.length_cons, List.length_cons, be_len, be_len]; omega
  have q1 := RPut_ok [] id j (by simp) hj hj8
  rw [List.nil_append] at q1
  have q2 := RPut_ok (BitVec.ofNat 8 j :: be j id) v k (by omega) hk hk8
  refine ⟨j, k, hj8, hk8, hj, hk, ?_, ?_⟩
  · unfold Blob
    rw [p1, sbind, p2, sbind, Concat3 _ _ _ (by rw [hn]; dsimp only; omega), sbind]
    simp [blobN]
  · unfold RBlob
    rw [q1, sbind, q2, sbind, if_pos (by dsimp only; omega), lt_eq, if_pos (by rw [List.length_append]; dsimp only; omega), lt_eq]
    simp [blobN]
end Go.Proofs.Ytjpjejldinpcnaa
