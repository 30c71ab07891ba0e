/- Blobs are read as they were put together. -/
import Derived.Test.YtjpjejldinpcnaaX8
import Derived.Test.YtjpjejldinpcnaaY6
import Derived.Test.YtjpjejldinpcnaaY2
namespace Go.Proofs.Ytjpjejldinpcnaa
open Go.RowKit Go.SL
set_option linter.unusedVariables false
set_option linter.unusedSimpArgs false
set_option maxHeartbeats 1000000
theorem takeN_len (b : List (BitVec 8)) : (takeN b).2.1.length ≤ b.length := by
  unfold takeN
  split
  · simp
  · split
    · simp
    · split
      · simp
      · split
        · simp
        · simp; omega
def readBad (b : List (BitVec 8)) : Prop := (takeN b).2.2 ≠ 0 ∨ (takeN (takeN b).2.1).2.2 ≠ 0 ∨ (takeN b).1 < 1 ∨ (takeN (takeN b).2.1).1 < 1 ∨ (takeN (takeN b).2.1).2.1.length < 28 ∨ 92 < (takeN (takeN b).2.1).2.1.length
instance (b : List (BitVec 8)) : Decidable (readBad b) := by unfold readBad; infer_instance
/-- what Read tells -/
def readN (b : List (BitVec 8)) : Int × Int × List (BitVec 8) × List (BitVec 8) × Int :=
  if readBad b then (0, 0, List.replicate 12 0#8, [], 140) else ((takeN b).1, (takeN (takeN b).2.1).1, (takeN (takeN b).2.1).2.1.take 12, (takeN (takeN b).2.1).2.1.drop 12, 0)
theorem bneI {a b : Int} (h : a ≠ b) : (a != b) = true := bne_iff_ne.2 h
theorem bneI0 (a : Int) : (a != a) = false := by simp
theorem Read_ok (b : List (BitVec 8)) (hb : b.length ≤ 1000000) : Read b = some (readN b) := by
  have h1 := takeN_len b
  have h2 := takeN_len (takeN b).2.1
  unfold Read
  rw [Take_ok b hb, sbind, Take_ok _ (by omega), sbind]
  have bad : readBad b → Read_j1 (takeN b) (takeN (takeN b).2.1) true = some (readN b) := fun h => by
    unfold Read_j1 readN; rw [cond_true, if_pos h]
  by_cases c1 : (takeN b).2.2 = 0
  · rw [show ((takeN b).2.2 != 0) = false from by simp [c1], cond_false]
    by_cases c2 : (takeN (takeN b).2.1).2.2 = 0
    · rw [show ((takeN (takeN b).2.1).2.2 != 0) = false from by simp [c2], cond_false]
      by_cases c3 : (takeN b).1 < 1
      · rw [decide_eq_true (by omega), cond_true]; exact bad (.inr (.inr (.inl c3)))
      · by_cases c4 : (takeN (takeN b).2.1).1 < 1
        · rw [decide_eq_true (by omega), cond_true]; exact bad (.inr (.inr (.inr (.inl c4))))
        · rw [decide_eq_false (by omega), cond_false]
          by_cases c5 : (takeN (takeN b).2.1).2.1.length < 28
          · rw [decide_eq_true (by omega), cond_true]; exact bad (.inr (.inr (.inr (.inr (.inl c5)))))
          · rw [decide_eq_false (by omega), cond_false]
            by_cases c6 : 92 < (takeN (takeN b).2.1).2.1.length
            · rw [decide_eq_true (by omega)]; exact bad (.inr (.inr (.inr (.inr (.inr c6)))))
            · have hg : ¬ readBad b := by
                rintro (h | h | h | h | h | h)
                · exact h c1
                · exact h c2
                · exact c3 h
                · exact c4 h
                · exact c5 h
                · exact c6 h
              rw [decide_eq_false (by omega)]
              unfold Read_j1 readN
              rw [cond_false, lt_eq, if_pos (by omega), lt_eq, if_pos (by omega), if_pos (by omega), if_neg hg]
              have e1 : ov (List.replicate 12 0#8) 0 ((takeN (takeN b).2.1).2.1.take 12) = (takeN (takeN b).2.1).2.1.take 12 := by
                unfold ov
                rw [List.take_zero, List.nil_append, List.length_take, Nat.min_eq_left (by omega), List.drop_of_length_le (by simp), List.append_nil]
              have e2 : sl 12 ((takeN (takeN b).2.1).2.1.length - 12) (takeN (takeN b).2.1).2.1 = (takeN (takeN b).2.1).2.1.drop 12 := by
                unfold sl; rw [List.take_of_length_le (by rw [List.length_drop]; omega)]
              rw [e1, e2]
    · rw [show ((takeN (takeN b).2.1).2.2 != 0) = true from bneI c2, cond_true]; exact bad (.inr (.inl c2))
  · rw [show ((takeN b).2.2 != 0) = true from bneI c1, cond_true]; exact bad (.inl c1)
theorem RRead_l2_ok (r3 r5 : Int × List (BitVec 8) × Int) (h28 : 28 ≤ r5.2.1.length) (hm : r5.2.1.length ≤ 1000000) : RRead_l2 r3 r5 1099511627776 0 (List.replicate 12 0#8) = some (r3.1, r5.1, r5.2.1.take 12, r5.2.1.drop 12, 0) := by
  suffices hh : ∀ q i m, m.length = 12 → (∀ j, j < i → m.getD j 0#8 = r5.2.1.getD j 0#8) → i ≤ 12 → 12 < q + i → RRead_l2 r3 r5 q i m = some (r3.1, r5.1, r5.2.1.take 12, r5.2.1.drop 12, 0) from
    hh _ 0 _ (by simp) (fun j hj => by omega) (by omega) (by omega)
  intro q
  induction q with
  | zero => intro i m _ _ h1 h2; omega
  | succ q ih =>
    intro i m hl hj h1 h2
    rw [RRead_l2]
    by_cases hi : i < 12
    · rw [decide_eq_true (by omega), cond_true, if_pos (by omega), lt_eq]
      refine ih (i + 1) _ (by rw [List.length_set]; exact hl) (fun j hj2 => ?_) (by omega) (by omega)
      rw [getD_set]
      by_cases hji : i = j
      · rw [if_pos ⟨hji, by omega⟩, hji]
      · rw [if_neg (fun h => hji h.1)]; exact hj j (by omega)
    · have hi12 : i = 12 := by omega
      subst hi12
      rw [decide_eq_false (by omega), cond_false, if_pos (by omega), lt_eq]
      have e2 : sl 12 (r5.2.1.length - 12) r5.2.1 = r5.2.1.drop 12 := by
        unfold sl; rw [List.take_of_length_le (by rw [List.length_drop]; omega)]
      have e1 : m = r5.2.1.take 12 := by
        refine ext_getD (by rw [hl, List.length_take]; omega) fun j hj2 => ?_
        rw [hj j (by omega), List.getD_eq_getElem?_getD, List.getD_eq_getElem?_getD, List.getElem?_take, if_pos (by omega)]
      rw [e2, if_pos (by omega), if_pos (by omega), if_pos (by rw [List.length_drop]; omega), lt_eq, List.nil_append, e1]
theorem RRead_ok (b : List (BitVec 8)) (hb : b.length ≤ 1000000) : RRead b = some (readN b) := by
  have h1 := takeN_len b
  have h2 := takeN_len (takeN b).2.1
  unfold RRead
  rw [RTake_ok b hb, sbind, RTake_ok _ (by omega), sbind]
  have bad : readBad b → RRead_j1 (takeN b) (takeN (takeN b).2.1) true = some (readN b) := fun h => by
    unfold RRead_j1 readN; rw [cond_true, if_pos h]
  by_cases c1 : (takeN b).2.2 = 0
  · rw [show ((takeN b).2.2 != 0) = false from by simp [c1], cond_false]
    by_cases c2 : (takeN (takeN b).2.1).2.2 = 0
    · rw [show ((takeN (takeN b).2.1).2.2 != 0) = false from by simp [c2], cond_false]
      by_cases c3 : (takeN b).1 < 1
      · rw [decide_eq_true (by omega), cond_true]; exact bad (.inr (.inr (.inl c3)))
      · rw [decide_eq_false (by omega), cond_false]
        by_cases c4 : (takeN (takeN b).2.1).1 < 1
        · rw [decide_eq_true (by omega), cond_true]; exact bad (.inr (.inr (.inr (.inl c4))))
        · rw [decide_eq_false (by omega), cond_false]
          by_cases c5 : (takeN (takeN b).2.1).2.1.length < 28
          · rw [decide_eq_true (by omega), cond_true]; exact bad (.inr (.inr (.inr (.inr (.inl c5)))))
          · rw [decide_eq_false (by omega), cond_false]
            by_cases c6 : 92 < (takeN (takeN b).2.1).2.1.length
            · rw [decide_eq_true (by omega)]; exact bad (.inr (.inr (.inr (.inr (.inr c6)))))
            · have hg : ¬ readBad b := by
                rintro (h | h | h | h | h | h)
                · exact h c1
                · exact h c2
                · exact c3 h
                · exact c4 h
                · exact c5 h
                · exact c6 h
              rw [decide_eq_false (by omega)]
              unfold RRead_j1 readN
              rw [cond_false, RRead_l2_ok _ _ (by omega) (by omega), if_neg hg]
    · rw [show ((takeN (takeN b).2.1).2.2 != 0) = true from bneI c2, cond_true]; exact bad (.inr (.inl c2))
  · rw [show ((takeN b).2.2 != 0) = true from bneI c1, cond_true]; exact bad (.inl c1)
theorem read_blob (id v : Nat) (n s : List (BitVec 8)) (j k : Nat) (hid : id < 9223372036854775808) (hv : v < 9223372036854775808) (hj : SzOk id j) (hk : SzOk v k) (hj8 : j ≤ 8) (hk8 : k ≤ 8) (hn : n.length = 12) (h1 : 1 ≤ id) (h2 : 1 ≤ v) :
    readN (blobN id v n s j k) = if 16 ≤ s.length ∧ s.length ≤ 80 then ((id : Int), (v : Int), n, s, 0) else (0, 0, List.replicate 12 0#8, [], 140) := by
  have t1 : takeN (blobN id v n s j k) = ((id : Int), BitVec.ofNat 8 k :: (be k v ++ (n ++ s)), 0) := takeN_put id j hid hj hj8 _
  have t2 : takeN (BitVec.ofNat 8 k :: (be k v ++ (n ++ s))) = ((v : Int), n ++ s, 0) := takeN_put v k hv hk hk8 _
  have hl : (n ++ s).length = 12 + s.length := by rw [List.length_append, hn]
  unfold readN readBad
  simp only [t1, t2, hl]
  by_cases h : 16 ≤ s.length ∧ s.length ≤ 80
  · rw [if_neg, if_pos h]
    · rw [List.take_append_of_le_length (by omega), List.take_of_length_le (by omega), List.drop_append_of_le_length (by omega), List.drop_of_length_le (by omega), List.nil_append]
    · rintro (h | h | h | h | h | h) <;> omega
  · rw [if_pos, if_neg h]
    have : s.length < 16 ∨ 80 < s.length := by omega
    rcases this with h | h
    · exact .inr (.inr (.inr (.inr (.inl (by omega)))))
    · exact .inr (.inr (.inr (.inr (.inr (by omega)))))
theorem Few14_ok (b : List (BitVec 8)) : ∃ c, Few14 b = some c ∧ c.length ≤ 200 := by
  unfold Few14
  by_cases h : 200 < b.length
  · rw [decide_eq_true (by omega), cond_true, if_pos (by omega), lt_eq]
    exact ⟨_, rfl, by rw [sl_len rfl (by omega)]; omega⟩
  · rw [decide_eq_false (by omega), cond_false]
    exact ⟨_, rfl, by omega⟩
set_option maxRecDepth 1000000 in
theorem shown14_eq : Shown14 = some true := by decide +kernel
end Go.Proofs.Ytjpjejldinpcnaa
