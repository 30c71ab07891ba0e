/- GCM: the stream that is laid over a text does not know the text; so what is sealed is opened. -/
import Derived.Test.YtjpjejldinpcnaaY1
namespace Go.Proofs.Ytjpjejldinpcnaa
open Go.RowKit Go.SL
set_option linter.unusedVariables false
set_option linter.unusedSimpArgs false
set_option maxHeartbeats 2000000
abbrev By := List (BitVec 8)
theorem getD_set (l : By) (i j : Nat) (v d : BitVec 8) : (l.set i v).getD j d = if i = j ∧ j < l.length then v else l.getD j d := by
  simp only [List.getD_eq_getElem?_getD, List.getElem?_set]
  by_cases h1 : i = j
  · subst h1
    by_cases h2 : i < l.length <;> simp [h2]
  · simp [h1]
theorem ext_getD {a b : By} (hl : a.length = b.length) (h : ∀ j, j < a.length → a.getD j 0#8 = b.getD j 0#8) : a = b := by
  refine List.ext_getElem hl fun j h1 h2 => ?_
  have := h j h1
  rw [List.getD_eq_getElem?_getD, List.getD_eq_getElem?_getD, List.getElem?_eq_getElem h1, List.getElem?_eq_getElem h2] at this
  exact this
def nx (b : By) : By := (Next b).getD []
def cn (c : By) : Nat → By
  | 0 => c
  | j + 1 => nx (cn c j)
def enc (r3 c : By) : By := ((Encr r3 c).getD ([], [])).1
/-- the stream -/
def strm (r3 c : By) (i : Nat) : BitVec 8 := (enc r3 (cn c (i / 16))).getD (i % 16) 0#8
theorem nx_eq {b : By} (h : b.length = 16) : Next b = some (nx b) ∧ (nx b).length = 16 := by
  obtain ⟨r, hr, hl⟩ := Next_T b h
  unfold nx; rw [hr]; exact ⟨rfl, hl⟩
theorem cn_len {c : By} (h : c.length = 16) : ∀ j, (cn c j).length = 16
  | 0 => h
  | j + 1 => (nx_eq (cn_len h j)).2
theorem enc_eq {r3 c : By} (h : c.length = 16) : Encr r3 c = some (enc r3 c, r3) ∧ (enc r3 c).length = 16 := by
  obtain ⟨r, hr, hl, h2⟩ := Encr_T r3 c h
  unfold enc; rw [hr]
  exact ⟨by rw [← h2]; rfl, hl⟩
/-- the first n bytes of b have the stream laid over them -/
def Laid (S : Nat → BitVec 8) (b : By) (n : Nat) (m : By) : Prop := m.length = b.length ∧ ∀ j, j < b.length → m.getD j 0#8 = if j < n then b.getD j 0#8 ^^^ S j else b.getD j 0#8
theorem Laid.zero (S : Nat → BitVec 8) (b : By) : Laid S b 0 b := ⟨rfl, fun j _ => by simp⟩
theorem Laid.step {S : Nat → BitVec 8} {b m : By} {n : Nat} {u : BitVec 8} (h : Laid S b n m) (hn : n < b.length) (hu : u = S n) : Laid S b (n + 1) (m.set n ((m.getD n 0#8) ^^^ u)) := by
  refine ⟨by rw [List.length_set]; exact h.1, fun j hj => ?_⟩
  rw [getD_set, h.1]
  by_cases hjn : n = j
  · subst hjn
    rw [if_pos ⟨rfl, hn⟩, if_pos (by omega), h.2 n hn, if_neg (by omega), hu]
  · rw [if_neg (fun h => hjn h.1), h.2 j hj]
    by_cases h3 : j < n
    · rw [if_pos h3, if_pos (by omega)]
    · rw [if_neg h3, if_neg (by omega)]
theorem Laid.cast {S : Nat → BitVec 8} {b m : By} {n n' : Nat} (h : Laid S b n m) (he : ∀ j, j < b.length → (j < n ↔ j < n')) : Laid S b n' m :=
  ⟨h.1, fun j hj => by rw [h.2 j hj]; by_cases h1 : j < n <;> simp [h1, (he j hj).1, ← he j hj]⟩
/-- what GXor comes to -/
theorem GXor_ok (k n : By) (c : BitVec 32) (hk : k.length = 32) (hn : n.length = 12) : ∃ S : Nat → BitVec 8, ∀ b : By, b.length ≤ 1000000 → Tot (GXor k n c b) fun r => Laid S b b.length r := by
  obtain ⟨r3, hr3, _⟩ := Expand_T k hk
  obtain ⟨r8, hr8, hl8⟩ := Counter_T n c hn
  refine ⟨strm r3 r8, fun b hb => ?_⟩
  unfold GXor
  rw [hr3, hr8]
  show Tot (GXor_l1 b 1099511627776 0 r8 b r3) _
  suffices hh : ∀ q i m, Laid (strm r3 r8) b (16 * ((i + 15) / 16)) m → i ≤ b.length → b.length < q + i → Tot (GXor_l1 b q i (cn r8 ((i + 15) / 16 - 1)) m r3) fun r => Laid (strm r3 r8) b b.length r from
    hh _ 0 b (Laid.zero _ _) (by omega) (by omega)
  intro q
  induction q with
  | zero => intro i m _ h1 h2; omega
  | succ q ih =>
    intro i m hm hi hq
    rw [GXor_l1]
    refine Tot.dif (fun h => ?_) (fun h => Tot.some (hm.cast fun j hj => by constructor <;> intro _ <;> omega))
    have h : i < b.length := by omega
    refine Tot.bif (fun h16 => ?_) (fun h16 => ?_)
    · have h16 : i % 16 = 0 := by
        have := eq_of_beq h16; omega
      have key : ∀ cc j1 j2 j3, cc = cn r8 (i / 16) → Tot (GXor_j3 b i m r3 (fun (i12_ : Nat) (m13_ : List (BitVec 8)) (m14_ : List (BitVec 8)) (m15_ : List (BitVec 8)) => GXor_l1 b q i12_ m13_ m14_ m15_) cc j1 j2 j3) fun r => Laid (strm r3 r8) b b.length r := by
        intro cc j1 j2 j3 hcc
        unfold GXor_j3
        refine Tot.bif (fun _ => ?_) (fun h0 => absurd h0 (by simp; omega))
        obtain ⟨he, hel⟩ := enc_eq (r3 := r3) (c := cc) (by rw [hcc]; exact cn_len hl8 _)
        rw [he]
        show Tot (if _ then _ else _) _
        have hmin : (min ((i : Nat) + 16 : Int) ((b.length : Nat) : Int)).toNat = min (i + 16) b.length := by omega
        simp only [hmin]
        refine Tot.ite (by omega) ?_
        refine Tot.lt fun t ht => ?_
        have htl : t.length = min (i + 16) b.length - i := by rw [ht]; exact sl_len hm.1 (by omega)
        refine Tot.ite (by omega) ?_
        refine Tot.ite (by omega) ?_
        refine Tot.count (L := fun q3 i3 m3 => GXor_l5 b i cc j3 (enc r3 cc, r3) t (fun (i12_ : Nat) (m13_ : List (BitVec 8)) (m14_ : List (BitVec 8)) (m15_ : List (BitVec 8)) => GXor_l1 b q i12_ m13_ m14_ m15_) q3 i3 m3) (I := fun i3 m3 => Laid (strm r3 r8) b (i + i3) m3) (min (i + 16) b.length - i) (fun q3 i3 m3 hm3 hi3 ih3 => ?_) _ 0 m (hm.cast fun j hj => by constructor <;> intro _ <;> omega) (by omega) (by omega)
        show Tot (GXor_l5 b i cc j3 (enc r3 cc, r3) t _ (q3+1) i3 m3) _
        rw [GXor_l5]
        refine Tot.dif (fun h3 => ?_) (fun h3 => ?_)
        · have h3 : i3 < t.length := by omega
          refine Tot.ite h3 ?_
          refine Tot.ite (by omega) ?_
          refine Tot.lt fun u hu => ?_
          refine Tot.ite h3 ?_
          refine Tot.lt fun m' hm' => ?_
          refine ih3 (by omega) m' ?_
          have hS : (enc r3 cc).getD i3 0#8 = strm r3 r8 (i + i3) := by
            have e1 : (i + i3) / 16 = i / 16 := by omega
            have e2 : (i + i3) % 16 = i3 := by omega
            simp only [strm, hcc, e1, e2]
          have hl := hm3.step (u := (enc r3 cc).getD i3 0#8) (by omega) hS
          have e3 : i + (i3 + 1) = i + i3 + 1 := rfl
          have hg : Laid (strm r3 r8) b (i + i3 + 1) m' := by rw [hm', hu]; exact hl
          exact e3 ▸ hg
        · unfold GXor_j2
          have e : cc = cn r8 ((i + 1 + 15) / 16 - 1) := by
            have e0 : (i + 1 + 15) / 16 - 1 = i / 16 := by omega
            rw [e0]; exact hcc
          show Tot (GXor_l1 b q (i + 1) cc m3 r3) _
          rw [e]
          exact ih (i + 1) m3 (hm3.cast fun j hj => by constructor <;> intro _ <;> omega) (by omega) (by omega)
      unfold GXor_j4
      refine Tot.dif (fun h0 => ?_) (fun h0 => ?_)
      · obtain ⟨hne, hnl⟩ := nx_eq (cn_len hl8 ((i + 15) / 16 - 1))
        refine Tot.bind (Q := fun a => a = nx (cn r8 ((i + 15) / 16 - 1))) ⟨_, hne, rfl⟩ fun a ha => ?_
        refine key _ _ _ _ ?_
        have e0 : i / 16 = (i + 15) / 16 - 1 + 1 := by omega
        rw [e0, ha]; rfl
      · refine key _ _ _ _ ?_
        have e0 : (i + 15) / 16 - 1 = i / 16 := by omega
        rw [e0]
    · have h16 : i % 16 ≠ 0 := by
        intro h0
        have := beq_eq_false_iff_ne.1 h16; omega
      unfold GXor_j4
      refine Tot.bif (fun h0 => absurd h0 (by simp)) (fun _ => ?_)
      unfold GXor_j3
      refine Tot.bif (fun h0 => absurd h0 (by simp; omega)) (fun _ => ?_)
      unfold GXor_j2
      rw [show (i + 15) / 16 = (i + 1 + 15) / 16 by omega] at hm ⊢
      exact ih (i + 1) m hm (by omega) (by omega)
end Go.Proofs.Ytjpjejldinpcnaa
