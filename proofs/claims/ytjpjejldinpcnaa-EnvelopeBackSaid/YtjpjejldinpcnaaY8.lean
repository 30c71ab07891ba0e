/- Encrypt and Decrypt, plainly; EnvelopeTurned. -/
import Derived.Test.YtjpjejldinpcnaaX8
import Derived.Test.YtjpjejldinpcnaaY3
import Derived.Test.YtjpjejldinpcnaaY6b
namespace Go.Proofs.Ytjpjejldinpcnaa
open Go.RowKit Go.SL Go.K13
set_option linter.unusedVariables false
set_option linter.unusedSimpArgs false
set_option maxHeartbeats 1000000
/-- the nonce of a count -/
def nonce (c : Nat) : List (BitVec 8) := [0#8, 0#8, 0#8, 0#8, 0#8, 0#8, 0#8, 0#8, 0#8, 0#8, 0#8, BitVec.ofNat 8 c]
theorem nonce_len (c : Nat) : (nonce c).length = 12 := rfl
theorem Encrypt_l2_ok (id : Int) (text beside : List (BitVec 8)) (r4 : Int × Int × Bytes × Int × RKB) (c : Nat) (hc : r4.2.1 = (c : Int)) (h16 : c < 256) :
    Encrypt_l2 id text beside r4 1099511627776 0 (List.replicate 12 0#8) = (GSeal r4.2.2.1 (nonce c) beside text).bind fun r17 => (Blob id r4.1 (nonce c) r17).bind fun r19 => some (r19, r4.1, 0, r4.2.2.2.2) := by
  have e0 : ∀ i : Nat, i ≤ 8 → ishr64 (c : Int) ((8 * ((i : Nat) : Int)).toNat) = ((c / 256 ^ i : Nat) : Int) := fun i hi => by
    rw [show (8 * ((i : Nat) : Int)).toNat = 8 * i by omega, ishr_nat c i hi]
  have hz : ∀ i : Nat, 1 ≤ i → c / 256 ^ i = 0 := fun i hi => by
    refine Nat.div_eq_of_lt (Nat.lt_of_lt_of_le h16 ?_)
    exact Nat.le_trans (show 256 ≤ 256 ^ 1 by decide) (Nat.pow_le_pow_right (by decide) hi)
  have fin : ∀ q i, 1 ≤ i → i ≤ 8 → 8 < q + i → Encrypt_l2 id text beside r4 q i (nonce c) = (GSeal r4.2.2.1 (nonce c) beside text).bind fun r17 => (Blob id r4.1 (nonce c) r17).bind fun r19 => some (r19, r4.1, 0, r4.2.2.2.2) := by
    intro q
    induction q with
    | zero => intro i h1 h2 h3; omega
    | succ q ih =>
      intro i h1 h2 h3
      rw [Encrypt_l2]
      by_cases hi : i < 8
      · rw [decide_eq_true (by omega), cond_true, lt_eq, hc, e0 i h2, hz i h1, lt_eq]
        have hs : (nonce c).set ((11 - ((i : Nat) : Int)).toNat) (BitVec.ofInt 8 (((0 : Nat) : Nat) : Int)) = nonce c := by
          rcases (show i = 1 ∨ i = 2 ∨ i = 3 ∨ i = 4 ∨ i = 5 ∨ i = 6 ∨ i = 7 by omega) with rfl | rfl | rfl | rfl | rfl | rfl | rfl <;> rfl
        rw [hs]
        exact ih (i + 1) (by omega) (by omega) (by omega)
      · rw [decide_eq_false (by omega), cond_false]
  rw [show (1099511627776 : Nat) = 1099511627775 + 1 from rfl, Encrypt_l2, decide_eq_true (by decide), cond_true, lt_eq, hc, e0 0 (by omega), lt_eq]
  have hs : (List.replicate 12 0#8).set ((11 - (((0 : Nat) : Nat) : Int)).toNat) (BitVec.ofInt 8 ((c / 256 ^ 0 : Nat) : Int)) = nonce c := by
    rw [Nat.pow_zero, Nat.div_one, BitVec.ofInt_natCast]; rfl
  rw [hs]
  exact fin _ 1 (by omega) (by omega) (by omega)
theorem Encrypt_ok (ks ks' : RKB) (id : Nat) (text beside : List (BitVec 8)) (v c : Nat) (m : Bytes) (ht : text.length ≤ 64) (hb : beside.length ≤ 32) (hu : bUse ks (id : Int) = ((v : Int), (c : Int), m, 0, ks')) (hc : c < 256) :
    Encrypt ks (id : Int) text beside = (GSeal m (nonce c) beside text).bind fun s => (Blob (id : Int) (v : Int) (nonce c) s).bind fun b => some (b, (v : Int), 0, ks') := by
  unfold Encrypt
  rw [decide_eq_false (by omega), cond_false, decide_eq_false (by omega)]
  unfold Encrypt_j1
  rw [cond_false, lt_eq, hu]
  dsimp only
  rw [show ((0 : Int) != 0) = false from rfl, cond_false]
  exact Encrypt_l2_ok (id : Int) text beside ((v : Int), (c : Int), m, 0, ks') c rfl hc
theorem Decrypt_ok (ks : RKB) (b beside : List (BitVec 8)) (id v : Int) (n s : List (BitVec 8)) (hbl : b.length ≤ 1000000) (hb : beside.length ≤ 32) (hr : readN b = (id, v, n, s, 0)) :
    Decrypt ks b beside = bif (bMat ks id v).2 != 0 then some ([], (bMat ks id v).2, ks) else (GOpen (bMat ks id v).1 n beside s).bind fun r => some (r.1, r.2, ks) := by
  unfold Decrypt
  rw [decide_eq_false (by omega), cond_false, Read_ok b hbl, sbind, hr]
  dsimp only
  rw [show ((0 : Int) != 0) = false from rfl, cond_false, lt_eq]
/-- a blob, and what is read of it -/
theorem blob_read (id v : Nat) (n s : List (BitVec 8)) (h1 : 1 ≤ id) (h2 : 1 ≤ v) (hid : id ≤ 1000) (hv : v ≤ 1000) (hn : n.length = 12) (hs : 16 ≤ s.length ∧ s.length ≤ 80) :
    ∃ b, Blob (id : Int) (v : Int) n s = some b ∧ RBlob (id : Int) (v : Int) n s = some b ∧ b.length ≤ 1000000 ∧ readN b = ((id : Int), (v : Int), n, s, 0) := by
  obtain ⟨j, k, hj8, hk8, hj, hk, p, q⟩ := Blob_ok id v n s (by omega) (by omega) hn (by omega)
  refine ⟨_, p, q, ?_, ?_⟩
  · simp [blobN, be_len, hn]; omega
  · rw [read_blob id v n s j k (by omega) (by omega) hj hk hj8 hk8 hn h1 h2, if_pos hs]
/-- a version encrypts: the blob, and what it says -/
theorem enc_all (ks ks' : RKB) (id : Nat) (text beside : List (BitVec 8)) (v c : Nat) (m : Bytes) (ht : text.length ≤ 64) (hb : beside.length ≤ 32) (hu : bUse ks (id : Int) = ((v : Int), (c : Int), m, 0, ks')) (hc : c < 256) (hm : m.length = 32)
    (h1 : 1 ≤ id) (h2 : 1 ≤ v) (hid : id ≤ 1000) (hv : v ≤ 1000) :
    ∃ b s t, Encrypt ks (id : Int) text beside = some (b, (v : Int), 0, ks') ∧ b.length ≤ 1000000 ∧ readN b = ((id : Int), (v : Int), nonce c, s ++ t, 0) ∧ s.length = text.length ∧ t.length = 16 ∧
      GSeal m (nonce c) beside text = some (s ++ t) ∧ RBlob (id : Int) (v : Int) (nonce c) (s ++ t) = some b ∧ GOpen m (nonce c) beside (s ++ t) = some (text, 0) ∧ ∀ t', t'.length = 16 → t ≠ t' → GOpen m (nonce c) beside (s ++ t') = some ([], 40) := by
  obtain ⟨s, t, hs, htl, e1, e2, e3⟩ := seal_all m (nonce c) hm rfl beside text (by omega) (by omega)
  obtain ⟨b, p, q, hbl, hr⟩ := blob_read id v (nonce c) (s ++ t) h1 h2 hid hv rfl (by rw [List.length_append]; omega)
  refine ⟨b, s, t, ?_, hbl, hr, hs, htl, e1, q, e2, e3⟩
  rw [Encrypt_ok ks ks' id text beside v c m ht hb hu hc, e1, sbind, p, sbind]
end Go.Proofs.Ytjpjejldinpcnaa
