/- EnvelopeTurned, plainly. -/
import Derived.Test.YtjpjejldinpcnaaXT
import Derived.Test.YtjpjejldinpcnaaY8
namespace Go.Proofs.Ytjpjejldinpcnaa
open Go.RowKit Go.SL Go.K13
set_option linter.unusedVariables false
set_option linter.unusedSimpArgs false
set_option maxHeartbeats 1000000
theorem Kind14_ok (c : Int) (n : Nat) (h : -9223372036854775808 ≤ c ∧ c ≤ 9223372036854775807) (hn : 0 < n) : ∃ x : Nat, x < n ∧ Kind14 c (n : Int) = some (x : Int) := by
  have j : ∀ a : Nat, Kind14_j1 (n : Int) (a : Int) = some ((a % n : Nat) : Int) := fun a => by
    unfold Kind14_j1
    rw [if_pos (by omega), Int.tmod_eq_emod_of_nonneg (by omega)]
    rfl
  unfold Kind14
  by_cases hc : c < 0
  · rw [decide_eq_true hc, cond_true, w64_id (z := c + 1) (by omega) (by omega), w64_id (by omega) (by omega)]
    obtain ⟨a, ha⟩ := Int.eq_ofNat_of_zero_le (show 0 ≤ 0 - (c + 1) by omega)
    rw [ha]
    exact ⟨a % n, Nat.mod_lt _ hn, j a⟩
  · rw [decide_eq_false hc, cond_false]
    obtain ⟨a, ha⟩ := Int.eq_ofNat_of_zero_le (show 0 ≤ c by omega)
    rw [ha]
    exact ⟨a % n, Nat.mod_lt _ hn, j a⟩
theorem bit_ne : ∀ j : Fin 8, (1#8) <<< j.val ≠ 0#8 := by decide
theorem EnvTurned_ok (k o : List (BitVec 8)) (n : Int) (hk : k.length = 32) (hn : -9223372036854775808 ≤ n ∧ n ≤ 9223372036854775807) : EnvTurned k o n = some true := by
  unfold EnvTurned
  rw [shown14_eq, sbind, show (!true) = false from rfl, cond_false]
  unfold EnvTurned_j1
  rw [cond_false]
  by_cases ho : 64 < o.length
  · rw [decide_eq_true (by omega), cond_true]
  · rw [decide_eq_false (by omega), cond_false, lt_eq]
    have hc : bCreate ([] : RKB) k = (1, 0, [(false, [⟨k, 0, false⟩])]) := rfl
    have hu : bUse [(false, [(⟨k, 0, false⟩ : VerB)])] ((1 : Nat) : Int) = (((1 : Nat) : Int), ((0 : Nat) : Int), k, 0, [(false, [⟨k, 1, false⟩])]) := rfl
    rw [hc]
    obtain ⟨b, s, t, e, hbl, hr, hs, ht, e1, e2, e3, e4⟩ := enc_all [(false, [⟨k, 0, false⟩])] [(false, [⟨k, 1, false⟩])] 1 o [] 1 0 k (by omega) (by simp) hu (by omega) hk (by omega) (by omega) (by omega) (by omega)
    have e : Encrypt [(false, [(⟨k, 0, false⟩ : VerB)])] 1 o [] = some (b, 1, 0, [(false, [⟨k, 1, false⟩])]) := e
    have hr : readN b = (1, 1, nonce 0, s ++ t, 0) := hr
    have hl : (s ++ t).length = o.length + 16 := by rw [List.length_append, hs, ht]
    dsimp only
    rw [e, sbind]
    dsimp only
    rw [Read_ok b hbl, sbind, hr]
    dsimp only
    rw [bneI0, cond_false, cond_false, bneI0, cond_false, cond_false, hl, show ((((o.length + 16 : Nat) : Nat) : Int) != (((o.length : Nat) : Int) + 16)) = false from by simp]
    unfold EnvTurned_j2
    rw [cond_false]
    obtain ⟨x, hx, hkd⟩ := Kind14_ok n 128 hn (by omega)
    have hkd : Kind14 n 128 = some (x : Int) := hkd
    rw [hkd, sbind]
    dsimp only
    rw [if_pos (by omega), lt_eq, List.nil_append, hl]
    have hd : ((x : Int).tdiv 8) = ((x / 8 : Nat) : Int) := by rw [Int.tdiv_eq_ediv_of_nonneg (by omega)]; omega
    have hm : ((x : Int).tmod 8) = ((x % 8 : Nat) : Int) := by rw [Int.tmod_eq_emod_of_nonneg (by omega)]; omega
    have hz : w64 (((((o.length + 16 : Nat) : Nat) : Int) - 16) + (w64 ((x : Int).tdiv 8))) = ((s.length + x / 8 : Nat) : Int) := by
      rw [hd, w64_id (z := ((x / 8 : Nat) : Int)) (by omega) (by omega), w64_id (by omega) (by omega)]; omega
    rw [hz, lt_eq, lt_eq, if_pos (by omega), hm, if_pos (by omega), lt_eq, if_pos (by omega), lt_eq]
    have hn1 : ((((s.length + x / 8 : Nat) : Nat) : Int)).toNat = s.length + x / 8 := by omega
    have hn2 : ((((x % 8 : Nat) : Nat) : Int)).toNat = x % 8 := by omega
    rw [hn1, hn2, getD_app]
    have hset : (s ++ t).set (s.length + x / 8) ((t.getD (x / 8) 0#8) ^^^ ((1#8) <<< (x % 8))) = s ++ t.set (x / 8) ((t.getD (x / 8) 0#8) ^^^ ((1#8) <<< (x % 8))) := by
      rw [List.set_append_right _ _ (by omega), Nat.add_sub_cancel_left]
    rw [hset]
    generalize hT : t.set (x / 8) ((t.getD (x / 8) 0#8) ^^^ ((1#8) <<< (x % 8))) = t'
    have htl : t'.length = 16 := by rw [← hT, List.length_set]; exact ht
    have hne : t ≠ t' := by
      intro h
      have h2 : t'.getD (x / 8) 0#8 = t.getD (x / 8) 0#8 := by rw [← h]
      rw [← hT, getD_set, if_pos ⟨rfl, by omega⟩] at h2
      have h3 := bit_ne ⟨x % 8, by omega⟩
      apply h3
      have h4 := congrArg (fun z => t.getD (x / 8) 0#8 ^^^ z) h2
      simp only [← BitVec.xor_assoc, BitVec.xor_self, BitVec.zero_xor] at h4
      exact h4
    obtain ⟨b1, p1, _, l1, r1⟩ := blob_read 1 1 (nonce 0) (s ++ t') (by omega) (by omega) (by omega) (by omega) rfl (by rw [List.length_append]; omega)
    obtain ⟨b2, p2, _, l2, r2⟩ := blob_read 1 2 (nonce 0) (s ++ t) (by omega) (by omega) (by omega) (by omega) rfl (by omega)
    obtain ⟨b3, p3, _, l3, r3⟩ := blob_read 2 1 (nonce 0) (s ++ t) (by omega) (by omega) (by omega) (by omega) rfl (by omega)
    obtain ⟨b4, p4, _, l4, r4⟩ := blob_read 1 1 (nonce 0) (s ++ t) (by omega) (by omega) (by omega) (by omega) rfl (by omega)
    have p1 : Blob 1 1 (nonce 0) (s ++ t') = some b1 := p1
    have p2 : Blob 1 2 (nonce 0) (s ++ t) = some b2 := p2
    have p3 : Blob 2 1 (nonce 0) (s ++ t) = some b3 := p3
    have p4 : Blob 1 1 (nonce 0) (s ++ t) = some b4 := p4
    have d1 : Decrypt [(false, [(⟨k, 1, false⟩ : VerB)])] b1 [] = some ([], 40, [(false, [⟨k, 1, false⟩])]) := by
      rw [Decrypt_ok _ b1 [] _ _ _ _ l1 (by simp) r1]
      show (bif ((0 : Int) != 0) then _ else (GOpen k (nonce 0) [] (s ++ t')).bind _) = _
      rw [bneI0, cond_false, e4 t' htl hne, sbind]
    have d2 : Decrypt [(false, [(⟨k, 1, false⟩ : VerB)])] b2 [] = some ([], 130, [(false, [⟨k, 1, false⟩])]) := by
      rw [Decrypt_ok _ b2 [] _ _ _ _ l2 (by simp) r2]; rfl
    have d3 : Decrypt [(false, [(⟨k, 1, false⟩ : VerB)])] b3 [] = some ([], 130, [(false, [⟨k, 1, false⟩])]) := by
      rw [Decrypt_ok _ b3 [] _ _ _ _ l3 (by simp) r3]; rfl
    have d4 : Decrypt [(false, [(⟨k, 1, false⟩ : VerB)])] b4 [] = some (o, 0, [(false, [⟨k, 1, false⟩])]) := by
      rw [Decrypt_ok _ b4 [] _ _ _ _ l4 (by simp) r4]
      show (bif ((0 : Int) != 0) then _ else (GOpen k (nonce 0) [] (s ++ t)).bind _) = _
      rw [bneI0, cond_false, e3, sbind]
    rw [p1, sbind, d1, sbind, p2, sbind]
    dsimp only
    rw [d2, sbind, p3, sbind]
    dsimp only
    rw [d3, sbind, p4, sbind]
    dsimp only
    rw [d4, sbind]
    dsimp only
    rw [beq_self_eq_true, cond_true, beq_self_eq_true, cond_true, cond_true, beq_self_eq_true, cond_true]
    unfold EnvTurned_j3
    rw [beq_self_eq_true]
end Go.Proofs.Ytjpjejldinpcnaa
