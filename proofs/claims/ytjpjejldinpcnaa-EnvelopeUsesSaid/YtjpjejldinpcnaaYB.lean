/- EnvelopeUses, plainly. -/
import Derived.Test.YtjpjejldinpcnaaXU
import Derived.Test.YtjpjejldinpcnaaY8
namespace Go.Proofs.Ytjpjejldinpcnaa
open Go.RowKit Go.SL Go.K13
set_option linter.unusedVariables false
set_option linter.unusedSimpArgs false
set_option maxHeartbeats 1000000
theorem use1 (m : Bytes) (i : Nat) (h : i < 16) : bUse [(false, [(⟨m, (i : Int), false⟩ : VerB)])] 1 = (1, (i : Int), m, 0, [(false, [⟨m, ((i + 1 : Nat) : Int), false⟩])]) := by
  show brUse [(false, [(⟨m, (i : Int), false⟩ : VerB)])] 1 false [⟨m, (i : Int), false⟩] ⟨m, (i : Int), false⟩ = _
  unfold brUse
  rw [if_neg (by simp), if_neg (by simp), if_neg (by dsimp only; omega)]
  rfl
theorem use16 (m : Bytes) : bUse [(false, [(⟨m, ((16 : Nat) : Int), false⟩ : VerB)])] 1 = (0, 0, zB, 133, [(false, [⟨m, ((16 : Nat) : Int), false⟩])]) := rfl
theorem Encrypt_no (ks ks' : RKB) (id : Int) (text beside : List (BitVec 8)) (e : Int) (m : Bytes) (he : e ≠ 0) (ht : text.length ≤ 64) (hb : beside.length ≤ 32) (hu : bUse ks id = (0, 0, m, e, ks')) : Encrypt ks id text beside = some ([], 0, e, ks') := by
  unfold Encrypt
  rw [decide_eq_false (by omega), cond_false, decide_eq_false (by omega)]
  unfold Encrypt_j1
  rw [cond_false, lt_eq, hu]
  dsimp only
  rw [bneI he, cond_true]
theorem EnvUses_ok (t o : List (BitVec 8)) (hk : t.length = 64) : EnvUses t o = some true := by
  unfold EnvUses
  rw [shown14_eq, sbind, show (!true) = false from rfl, cond_false]
  unfold EnvUses_j1
  rw [cond_false]
  by_cases ho : 64 < o.length
  · rw [decide_eq_true (by omega), cond_true]
  · rw [decide_eq_false (by omega), cond_false, lt_eq, lt_eq]
    have h0 : (sl 0 32 t).length = 32 := sl_len hk (by omega)
    have h1 : (sl 32 32 t).length = 32 := sl_len hk (by omega)
    generalize ha : sl 0 32 t = m0 at h0 ⊢
    have hc : bCreate ([] : RKB) m0 = (1, 0, [(false, [⟨m0, 0, false⟩])]) := rfl
    rw [hc]
    dsimp only
    suffices hh : ∀ q i, i ≤ 16 → 16 < q + i → EnvUses_l2 t o (1, 0, [(false, [(⟨m0, 0, false⟩ : VerB)])]) q false i [(false, [⟨m0, (i : Int), false⟩])] = some true from hh _ 0 (by omega) (by omega)
    intro q
    induction q with
    | zero => intro i _ _; omega
    | succ q ih =>
      intro i hi hq
      rw [EnvUses_l2]
      by_cases h16 : i < 16
      · rw [decide_eq_true (by omega), cond_true]
        obtain ⟨b, s, tg, e, hbl, hr, hs, ht, e1, e2, e3, e4⟩ := enc_all [(false, [⟨m0, (i : Int), false⟩])] [(false, [⟨m0, ((i + 1 : Nat) : Int), false⟩])] 1 o [] 1 i m0 (by omega) (by simp) (use1 m0 i h16) (by omega) h0 (by omega) (by omega) (by omega) (by omega)
        have e : Encrypt [(false, [(⟨m0, (i : Int), false⟩ : VerB)])] 1 o [] = some (b, 1, 0, [(false, [⟨m0, ((i + 1 : Nat) : Int), false⟩])]) := e
        have hr : readN b = (1, 1, nonce i, s ++ tg, 0) := hr
        dsimp only
        rw [e, sbind]
        dsimp only
        rw [Read_ok b hbl, sbind, hr]
        dsimp only
        have hn : (nonce i != ([0#8, 0#8, 0#8, 0#8, 0#8, 0#8, 0#8, 0#8, 0#8, 0#8, 0#8, BitVec.ofInt 8 ((i : Nat) : Int)] : List (BitVec 8))) = false := by
          rw [BitVec.ofInt_natCast]; exact bne_self_eq_false _
        rw [bneI0, cond_false, bneI0, cond_false, cond_false, hn]
        unfold EnvUses_j3
        rw [cond_false]
        exact ih (i + 1) (by omega) (by omega)
      · have hi16 : i = 16 := by omega
        subst hi16
        rw [decide_eq_false (by omega), cond_false]
        dsimp only
        rw [Encrypt_no _ _ 1 o [] 133 zB (by decide) (by omega) (by simp) (use16 m0), sbind, lt_eq, lt_eq]
        dsimp only
        generalize hb : sl 32 32 t = m1 at h1 ⊢
        have hrot : bRotate [(false, [(⟨m0, ((16 : Nat) : Int), false⟩ : VerB)])] 1 m1 = (2, 0, [(false, [⟨m0, ((16 : Nat) : Int), false⟩, ⟨m1, 0, false⟩])]) := rfl
        rw [hrot]
        dsimp only
        have hu : bUse [(false, [(⟨m0, ((16 : Nat) : Int), false⟩ : VerB), ⟨m1, 0, false⟩])] ((1 : Nat) : Int) = (((2 : Nat) : Int), ((0 : Nat) : Int), m1, 0, [(false, [⟨m0, ((16 : Nat) : Int), false⟩, ⟨m1, 1, false⟩])]) := rfl
        obtain ⟨b, s, tg, e, _⟩ := enc_all _ _ 1 o [] 2 0 m1 (by omega) (by simp) hu (by omega) h1 (by omega) (by omega) (by omega) (by omega)
        have e : Encrypt [(false, [(⟨m0, ((16 : Nat) : Int), false⟩ : VerB), ⟨m1, 0, false⟩])] 1 o [] = some (b, 2, 0, [(false, [⟨m0, ((16 : Nat) : Int), false⟩, ⟨m1, 1, false⟩])]) := e
        rw [e, sbind]
        rfl
end Go.Proofs.Ytjpjejldinpcnaa
