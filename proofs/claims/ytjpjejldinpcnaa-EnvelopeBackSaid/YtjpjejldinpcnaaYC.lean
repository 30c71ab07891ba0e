/- EnvelopeBack, plainly. -/
import Derived.Test.YtjpjejldinpcnaaXK
import Derived.Test.YtjpjejldinpcnaaY8
namespace Go.Proofs.Ytjpjejldinpcnaa
open Go.RowKit Go.SL Go.K13
set_option linter.unusedVariables false
set_option linter.unusedSimpArgs false
set_option maxHeartbeats 1000000
theorem bring1 (vs : List VerB) : bring [(false, vs)] 1 = some (false, vs) := rfl
theorem rot_more (vs : List VerB) (m : Bytes) (h : vs.length < 4) : bRotate [(false, vs)] 1 m = (((vs.length + 1 : Nat) : Int), 0, [(false, vs ++ [⟨m, 0, false⟩])]) := by
  unfold bRotate
  rw [bring1]
  dsimp only
  unfold brRotate
  rw [if_neg (by omega)]
  rfl
theorem use_last (vs : List VerB) (m : Bytes) : bUse [(false, vs ++ [(⟨m, 0, false⟩ : VerB)])] 1 = (((vs.length + 1 : Nat) : Int), 0, m, 0, [(false, vs ++ [⟨m, 1, false⟩])]) := by
  have hl : (vs ++ [(⟨m, 0, false⟩ : VerB)]).length = vs.length + 1 := by rw [List.length_append]; rfl
  unfold bUse
  rw [bring1]
  dsimp only
  rw [hl, Nat.add_sub_cancel, List.getElem?_append_right (Nat.le_refl _), Nat.sub_self]
  show brUse [(false, vs ++ [(⟨m, 0, false⟩ : VerB)])] 1 false (vs ++ [⟨m, 0, false⟩]) ⟨m, 0, false⟩ = _
  unfold brUse
  rw [if_neg (by simp), if_neg (by simp), if_neg (by simp), hl, Nat.add_sub_cancel, List.set_append_right _ _ (Nat.le_refl _), Nat.sub_self]
  rfl
theorem mat_first (k : Bytes) (u : Int) (tl : List VerB) : bMat [(false, (⟨k, u, false⟩ : VerB) :: tl)] 1 1 = (k, 0) := rfl
theorem mat_last (vs : List VerB) (m : Bytes) (u : Int) : bMat [(false, vs ++ [(⟨m, u, false⟩ : VerB)])] 1 ((vs.length + 1 : Nat) : Int) = (m, 0) := by
  unfold bMat
  rw [bring1]
  dsimp only
  unfold bver
  rw [if_pos (by omega), show ((((vs.length + 1 : Nat) : Nat) : Int) - 1).toNat = vs.length by omega, List.getElem?_append_right (Nat.le_refl _), Nat.sub_self]
  rfl
theorem EnvBack_ok (n : Nat) (t o d : List (BitVec 8)) (ht : t.length = n * 32) : EnvBack n t o d = some true := by
  unfold EnvBack
  rw [shown14_eq, sbind, show (!true) = false from rfl, cond_false]
  unfold EnvBack_j1
  rw [cond_false]
  have yes : EnvBack_j2 n t o d true = some true := by unfold EnvBack_j2; rw [cond_true]
  by_cases h0 : n = 0
  · rw [show (((n : Nat) : Int) == 0) = true from beq_iff_eq.2 (by omega), cond_true]; exact yes
  · rw [show (((n : Nat) : Int) == 0) = false from beq_eq_false_iff_ne.2 (by omega), cond_false]
    by_cases ho : 64 < o.length
    · rw [decide_eq_true (by omega), cond_true]; exact yes
    · rw [decide_eq_false (by omega), cond_false]
      by_cases hd : 32 < d.length
      · rw [decide_eq_true (by omega)]; exact yes
      · rw [decide_eq_false (by omega)]
        unfold EnvBack_j2
        have l0 : (sl 0 32 t).length = 32 := sl_len rfl (by omega)
        have lk : ∀ i, i < n → (sl (i * 32) 32 t).length = 32 := fun i hi => sl_len rfl (by omega)
        generalize ha : sl 0 32 t = k0 at l0 ⊢
        have hc : bCreate ([] : RKB) k0 = (1, 0, [(false, [⟨k0, 0, false⟩])]) := rfl
        have hu : bUse [(false, [(⟨k0, 0, false⟩ : VerB)])] ((1 : Nat) : Int) = (((1 : Nat) : Int), ((0 : Nat) : Int), k0, 0, [(false, [⟨k0, 1, false⟩])]) := rfl
        obtain ⟨a, s, tg, e, hbl, hr, hs, htg, e1, eR, e3, e4⟩ := enc_all _ _ 1 o d 1 0 k0 (by omega) (by omega) hu (by omega) l0 (by omega) (by omega) (by omega) (by omega)
        have e : Encrypt [(false, [(⟨k0, 0, false⟩ : VerB)])] 1 o d = some (a, 1, 0, [(false, [⟨k0, 1, false⟩])]) := e
        have hr : readN a = (1, 1, nonce 0, s ++ tg, 0) := hr
        have eR : RBlob 1 1 (nonce 0) (s ++ tg) = some a := eR
        have hn0 : List.replicate 12 0#8 = nonce 0 := rfl
        rw [cond_false, if_pos (by omega), lt_eq, lt_eq, if_pos (by omega), if_pos (by omega), hc]
        dsimp only
        rw [e, sbind, if_pos (by omega), lt_eq, if_pos (by omega), if_pos (by omega), hn0, e1, sbind, eR, sbind]
        dsimp only
        simp only [bneI0, cond_false, show (a != a) = false from bne_self_eq_false _]
        unfold EnvBack_j3
        rw [cond_false]
        dsimp only
        -- what was encrypted first is decrypted, whatever versions there are
        have dA : ∀ tl : List VerB, Decrypt [(false, (⟨k0, 1, false⟩ : VerB) :: tl)] a d = some (o, 0, [(false, (⟨k0, 1, false⟩ : VerB) :: tl)]) := fun tl => by
          rw [Decrypt_ok _ a d _ _ _ _ hbl (by omega) hr, mat_first]
          dsimp only
          rw [bneI0, cond_false, e3, sbind]
        have fin : ∀ (q : Bool → Int → RKB → Option Bool) (i : Int) (tl : List VerB) (b1 b2 : Bool), EnvBack_j5 n t o d (1, 0, [(false, [(⟨k0, 0, false⟩ : VerB)])]) (a, 1, 0, [(false, [(⟨k0, 1, false⟩ : VerB)])]) false i [(false, (⟨k0, 1, false⟩ : VerB) :: tl)] q b1 b2 false = some true := by
          intro q i tl b1 b2
          unfold EnvBack_j5
          rw [cond_false, if_pos (by omega)]
          dsimp only
          rw [dA tl, sbind]
          dsimp only
          rw [beq_self_eq_true, cond_true, beq_self_eq_true]
          rfl
        suffices hh : ∀ q i (tl : List VerB), tl.length + 1 = i → i ≤ 4 → i ≤ n → 4 < q + i → EnvBack_l4 n t o d (1, 0, [(false, [(⟨k0, 0, false⟩ : VerB)])]) (a, 1, 0, [(false, [(⟨k0, 1, false⟩ : VerB)])]) q false (i : Int) [(false, (⟨k0, 1, false⟩ : VerB) :: tl)] = some true from
          hh _ 1 [] rfl (by omega) (by omega) (by omega)
        intro q
        induction q with
        | zero => intro i tl _ _ _ _; omega
        | succ q ih =>
          intro i tl htl hi hin hq
          rw [EnvBack_l4]
          by_cases hlt : i < n
          · rw [decide_eq_true (by omega), cond_true]
            by_cases h4 : i < 4
            · rw [decide_eq_true (by omega)]
              unfold EnvBack_j5
              have hti : ((i : Nat) : Int).toNat = i := by omega
              have lki := lk i hlt
              rw [cond_true, if_pos (by omega), lt_eq, hti]
              generalize hm : sl (i * 32) 32 t = m at lki ⊢
              have hvl : ((⟨k0, 1, false⟩ : VerB) :: tl).length = i := by rw [List.length_cons]; exact htl
              have hrot := rot_more ((⟨k0, 1, false⟩ : VerB) :: tl) m (by omega)
              rw [lt_eq]
              dsimp only
              rw [hrot, if_pos (by omega)]
              dsimp only
              have hcons : (⟨k0, 1, false⟩ : VerB) :: tl ++ [⟨m, 0, false⟩] = ⟨k0, 1, false⟩ :: (tl ++ [⟨m, 0, false⟩]) := rfl
              have hcons1 : (⟨k0, 1, false⟩ : VerB) :: tl ++ [⟨m, 1, false⟩] = ⟨k0, 1, false⟩ :: (tl ++ [⟨m, 1, false⟩]) := rfl
              have hul := use_last ((⟨k0, 1, false⟩ : VerB) :: tl) m
              rw [hvl] at hul
              obtain ⟨b, s', tg', e', hbl', hr', hs', htg', _, _, e3', _⟩ := enc_all [(false, (⟨k0, 1, false⟩ : VerB) :: tl ++ [⟨m, 0, false⟩])] [(false, (⟨k0, 1, false⟩ : VerB) :: tl ++ [⟨m, 1, false⟩])] 1 o d (i + 1) 0 m (by omega) (by omega) hul (by omega) lki (by omega) (by omega) (by omega) (by omega)
              have e' : Encrypt [(false, (⟨k0, 1, false⟩ : VerB) :: tl ++ [⟨m, 0, false⟩])] 1 o d = some (b, ((i + 1 : Nat) : Int), 0, [(false, (⟨k0, 1, false⟩ : VerB) :: tl ++ [⟨m, 1, false⟩])]) := e'
              have hr' : readN b = (1, ((i + 1 : Nat) : Int), nonce 0, s' ++ tg', 0) := hr'
              have hw : Rewrap [(false, (⟨k0, 1, false⟩ : VerB) :: tl ++ [⟨m, 0, false⟩])] a d = some (b, ((i + 1 : Nat) : Int), 0, [(false, (⟨k0, 1, false⟩ : VerB) :: tl ++ [⟨m, 1, false⟩])]) := by
                unfold Rewrap
                rw [hcons, dA, sbind]
                dsimp only
                rw [bneI0, cond_false, Read_ok a hbl, sbind, hr]
                dsimp only
                rw [← hcons, e', sbind]
              have db : Decrypt [(false, (⟨k0, 1, false⟩ : VerB) :: tl ++ [⟨m, 1, false⟩])] b d = some (o, 0, [(false, (⟨k0, 1, false⟩ : VerB) :: tl ++ [⟨m, 1, false⟩])]) := by
                have hml := mat_last ((⟨k0, 1, false⟩ : VerB) :: tl) m 1
                rw [hvl] at hml
                rw [Decrypt_ok _ b d _ _ _ _ hbl' (by omega) hr', hml]
                dsimp only
                rw [bneI0, cond_false, e3', sbind]
              rw [hw, sbind, if_pos (by omega)]
              dsimp only
              rw [db, sbind, if_pos (by omega)]
              dsimp only
              rw [hcons1, dA, sbind]
              dsimp only
              have hwi : w64 ((i : Int) + 1) = ((i + 1 : Nat) : Int) := by rw [w64_id (by omega) (by omega)]; omega
              simp only [bneI0, cond_false, hwi, show (o != o) = false from bne_self_eq_false _]
              unfold EnvBack_j6
              rw [cond_false]
              try rw [hwi]
              dsimp only
              exact ih (i + 1) (tl ++ [⟨m, 1, false⟩]) (by rw [List.length_append, List.length_singleton]; omega) (by omega) (by omega) (by omega)
            · rw [decide_eq_false (by omega)]; exact fin _ _ _ _ _
          · rw [decide_eq_false (by omega), cond_false]; exact fin _ _ _ _ _
end Go.Proofs.Ytjpjejldinpcnaa
