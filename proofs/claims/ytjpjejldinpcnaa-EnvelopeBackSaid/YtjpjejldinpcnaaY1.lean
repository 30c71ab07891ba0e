/- The plain functions of AES and GCM always tell something. -/
import Derived.Test.YtjpjejldinpcnaaX3
import Derived.Test.YtjpjejldinpcnaaYT
namespace Go.Proofs.Ytjpjejldinpcnaa
open Go.RowKit Go.SL
set_option linter.unusedVariables false
set_option linter.unusedSimpArgs false
abbrev L16 (r : List (BitVec 8)) : Prop := r.length = 16
theorem BXor_T (a b : List (BitVec 8)) (ha : a.length = 16) : Tot (BXor a b) L16 := by
  unfold BXor
  refine Tot.count (L := fun k i m => BXor_l1 b k i m) (I := fun _ m => m.length = 16) 16 (fun k i m hm hi ih => ?_) _ _ _ ha (by omega) (by omega)
  show Tot (BXor_l1 b (k+1) i m) _
  rw [BXor_l1]
  refine Tot.dif (fun h => ?_) (fun h => Tot.some hm)
  refine Tot.lt fun m' hm' => ?_
  exact ih (by omega) m' (by rw [hm', List.length_set]; exact hm)
theorem Mixed_T (a : List (BitVec 8)) : Tot (Mixed a) fun r => r.length = 4 := by
  unfold Mixed
  refine Tot.lt fun u _ => ?_
  refine Tot.count (L := fun k i m => Mixed_l1 a u k i m) (I := fun _ m => m.length = 4) 4 (fun k i m hm hi ih => ?_) _ _ _ (by simp) (by omega) (by omega)
  show Tot (Mixed_l1 a u (k+1) i m) _
  rw [Mixed_l1]
  refine Tot.dif (fun h => ?_) (fun h => Tot.some hm)
  refine Tot.lt fun u1 _ => ?_
  refine Tot.bind (Q := fun _ => True) (Tot.some trivial) fun r12 _ => ?_
  refine Tot.lt fun u2 _ => ?_
  refine Tot.lt fun m' hm' => ?_
  exact ih (by omega) m' (by rw [hm', List.length_set]; exact hm)
theorem Boxed_T (a : List (BitVec 8)) : Tot (Boxed a) fun r => r.length = 4 := ⟨_, rfl, rfl⟩
theorem Round_T (s k : List (BitVec 8)) (last : Bool) : Tot (Round s k last) L16 := by
  unfold Round
  refine Tot.count (L := fun q i m => Round_l1 s k last q i m) (I := fun _ m => m.length = 16) 4 (fun q i m hm hi ih => ?_) _ _ _ (by simp) (by omega) (by omega)
  show Tot (Round_l1 s k last (q+1) i m) _
  rw [Round_l1]
  refine Tot.dif (fun h => ?_) (fun h => Tot.some hm)
  refine Tot.count (L := fun q2 i2 m2 => Round_l2 s k last i m (fun (i6_ : Nat) (m7_ : List (BitVec 8)) => Round_l1 s k last q i6_ m7_) q2 i2 m2) (I := fun _ m => m.length = 4) 4 (fun q2 i2 m2 hm2 hi2 ih2 => ?_) _ _ _ (by simp) (by omega) (by omega)
  show Tot (Round_l2 s k last i m _ (q2+1) i2 m2) _
  rw [Round_l2]
  have fin : ∀ j b, Tot (Round_j3 s k last i m (fun (i6_ : Nat) (m7_ : List (BitVec 8)) => Round_l1 s k last q i6_ m7_) j b) L16 := by
    intro j b
    unfold Round_j3
    refine Tot.count (L := fun q3 i3 m3 => Round_l4 s k last i j (fun (i6_ : Nat) (m7_ : List (BitVec 8)) => Round_l1 s k last q i6_ m7_) q3 i3 m3) (I := fun _ m => m.length = 16) 4 (fun q3 i3 m3 hm3 hi3 ih3 => ?_) _ _ _ hm (by omega) (by omega)
    show Tot (Round_l4 s k last i j _ (q3+1) i3 m3) _
    rw [Round_l4]
    refine Tot.dif (fun h3 => ?_) (fun h3 => ih (by omega) _ hm3)
    refine Tot.lt fun u _ => ?_
    refine Tot.lt fun m' hm' => ?_
    exact ih3 (by omega) m' (by rw [hm', List.length_set]; exact hm3)
  refine Tot.dif (fun h2 => ?_) (fun h2 => ?_)
  · refine Tot.lt fun u _ => ?_
    refine Tot.bind (Q := fun _ => True) (Tot.some trivial) fun r12 _ => ?_
    refine Tot.lt fun m' hm' => ?_
    exact ih2 (by omega) m' (by rw [hm', List.length_set]; exact hm2)
  · refine Tot.bif (fun _ => ?_) (fun _ => fin _ _)
    exact Tot.bind (Mixed_T m2) fun r _ => fin _ _
theorem Halves_T (a : List (BitVec 8)) : Tot (Halves a) fun _ => True := by
  unfold Halves
  refine Tot.count (σ := BitVec 64 × BitVec 64) (L := fun k i s => Halves_l1 a k s.1 s.2 i) (I := fun _ _ => True) 8 (fun k i s _ hi ih => ?_) _ 0 (0#64, 0#64) trivial (by omega) (by omega)
  show Tot (Halves_l1 a (k+1) s.1 s.2 i) _
  rw [Halves_l1]
  refine Tot.dif (fun h => ?_) (fun h => Tot.some trivial)
  refine Tot.lt fun u _ => ?_
  exact ih (by omega) (_, _) trivial
theorem Whole_T (a b : BitVec 64) : Tot (Whole a b) L16 := by
  unfold Whole
  refine Tot.count (L := fun k i m => Whole_l1 a b k i m) (I := fun _ m => m.length = 16) 8 (fun k i m hm hi ih => ?_) _ _ _ (by simp) (by omega) (by omega)
  show Tot (Whole_l1 a b (k+1) i m) _
  rw [Whole_l1]
  refine Tot.dif (fun h => ?_) (fun h => Tot.some hm)
  refine Tot.lt fun u1 _ => ?_
  refine Tot.lt fun u2 _ => ?_
  refine Tot.lt fun m1 hm1 => ?_
  refine Tot.lt fun m2 hm2 => ?_
  exact ih (by omega) _ (by rw [hm2, List.length_set, hm1, List.length_set]; exact hm)
theorem BMul_T (a b : List (BitVec 8)) : Tot (BMul a b) L16 := by
  unfold BMul
  refine Tot.bind (Halves_T a) fun r4 _ => ?_
  refine Tot.bind (Halves_T b) fun r6 _ => ?_
  refine Tot.count (σ := BitVec 64 × BitVec 64 × BitVec 64 × BitVec 64) (L := fun k i s => BMul_l1 r4 k s.1 s.2.1 s.2.2.1 s.2.2.2 i) (I := fun _ _ => True) 128 (fun k i s _ hi ih => ?_) _ 0 (r6.1, r6.2, 0#64, 0#64) trivial (by omega) (by omega)
  show Tot (BMul_l1 r4 (k+1) s.1 s.2.1 s.2.2.1 s.2.2.2 i) _
  rw [BMul_l1]
  have go : i < 128 → ∀ j b, Tot (BMul_j2 r4 s.1 s.2.1 s.2.2.1 s.2.2.2 i (fun (s8_ : BitVec 64) (s9_ : BitVec 64) (s10_ : BitVec 64) (s11_ : BitVec 64) (i12_ : Nat) => BMul_l1 r4 k s8_ s9_ s10_ s11_ i12_) j b) L16 := by
    intro hi j b
    unfold BMul_j2
    refine Tot.lt fun u1 _ => ?_
    refine Tot.lt fun u2 _ => ?_
    exact ih hi (_, _, _, _) trivial
  refine Tot.dif (fun h => ?_) (fun h => ?_)
  · refine Tot.dif (fun h2 => ?_) (fun h2 => ?_) <;> exact go (by omega) _ _
  · refine Tot.bind (Whole_T _ _) fun r hr => Tot.some hr
theorem Next_T (b : List (BitVec 8)) (h : b.length = 16) : Tot (Next b) L16 := by
  refine ⟨_, rfl, ?_⟩
  simp only [L16, List.length_set]; exact h
theorem Counter_T (n : List (BitVec 8)) (c : BitVec 32) (h : n.length = 12) : Tot (Counter n c) L16 := by
  refine ⟨_, rfl, ?_⟩
  simp only [L16, List.length_set, ov, List.length_append, List.length_take, List.length_drop, List.length_replicate, h]; omega
theorem Expand_T (t : List (BitVec 8)) (ht : t.length = 32) : Tot (Expand t) fun r => r.length = 240 := by
  unfold Expand
  refine Tot.count (σ := BitVec 8 × List (BitVec 8)) (L := fun k i s => Expand_l1 t k s.1 i s.2) (I := fun _ s => s.2.length = 240) 60 (fun k i s hm hi ih => ?_) _ 0 (1#8, List.replicate 240 0#8) List.length_replicate (by omega) (by omega)
  show Tot (Expand_l1 t (k+1) s.1 i s.2) _
  rw [Expand_l1]
  have o4 : i < 60 → ∀ a : List (BitVec 8), a.length = 4 → (ov s.2 (i * 4) a).length = 240 := fun hi a ha => ov_len hm (by omega)
  have fin : i < 60 → ∀ j u b, j.length = 4 → Tot (Expand_j3 t i s.2 (fun (s6_ : BitVec 8) (i7_ : Nat) (m8_ : List (BitVec 8)) => Expand_l1 t k s6_ i7_ m8_) j u b) fun r => r.length = 240 := by
    intro hi j u b hj
    unfold Expand_j3
    refine Tot.count (L := fun q3 i3 m3 => Expand_l4 t i s.2 u (fun (s6_ : BitVec 8) (i7_ : Nat) (m8_ : List (BitVec 8)) => Expand_l1 t k s6_ i7_ m8_) q3 i3 m3) (I := fun _ m => m.length = 4) 4 (fun q3 i3 m3 hm3 hi3 ih3 => ?_) _ _ _ hj (by omega) (by omega)
    show Tot (Expand_l4 t i s.2 u _ (q3+1) i3 m3) _
    rw [Expand_l4]
    refine Tot.dif (fun h3 => ?_) (fun h3 => ?_)
    · refine Tot.lt fun u _ => ?_
      refine Tot.lt fun m' hm' => ?_
      exact ih3 (by omega) m' (by rw [hm', List.length_set]; exact hm3)
    · refine Tot.lt fun m' hm' => ?_
      unfold Expand_j2
      exact ih hi (u, m') (by show m'.length = 240; rw [hm']; exact o4 hi _ hm3)
  refine Tot.dif (fun h => ?_) (fun h => ?_)
  · refine Tot.dif (fun h2 => ?_) (fun h2 => ?_)
    · refine Tot.ite (by omega) ?_
      refine Tot.ite (by omega) ?_
      refine Tot.lt fun a ha => ?_
      refine Tot.lt fun m' hm' => ?_
      unfold Expand_j2
      exact ih (by omega) (s.1, m') (by show m'.length = 240; rw [hm']; exact o4 (by omega) _ (by rw [ha]; exact sl_len ht (by omega)))
    · refine Tot.lt fun a ha => ?_
      have hl : a.length = 4 := by rw [ha]; exact sl_len hm (by omega)
      refine Tot.bif (fun _ => ?_) (fun _ => ?_)
      · refine Tot.bind (Boxed_T _) fun r hr => ?_
        refine Tot.lt fun m' hm' => ?_
        refine Tot.bind (Q := fun _ => True) (Tot.some trivial) fun r12 _ => ?_
        exact fin (by omega) _ _ _ (by rw [hm', List.length_set]; exact hr)
      · refine Tot.bif (fun _ => ?_) (fun _ => ?_)
        · refine Tot.bind (Boxed_T _) fun r hr => ?_
          exact fin (by omega) _ _ _ hr
        · exact fin (by omega) _ _ _ hl
  · refine Tot.count (L := fun q3 i3 m3 => Expand_l5 s.2 q3 i3 m3) (I := fun _ m => m.length = 240) 60 (fun q3 i3 m3 hm3 hi3 ih3 => ?_) _ _ _ List.length_replicate (by omega) (by omega)
    show Tot (Expand_l5 s.2 (q3+1) i3 m3) _
    rw [Expand_l5]
    refine Tot.dif (fun h3 => ?_) (fun h3 => Tot.some hm3)
    refine Tot.lt fun a ha => ?_
    refine Tot.ite (by omega) ?_
    refine Tot.lt fun m' hm' => ?_
    have hl : a.length = 4 := by rw [ha]; exact sl_len hm (by omega)
    refine ih3 (by omega) m' (by rw [hm']; exact ov_len hm3 (by rw [List.length_take]; omega))
theorem Hash_T (h b : List (BitVec 8)) (hb : b.length ≤ 1000000) : Tot (Hash h b) L16 := by
  unfold Hash
  suffices hh : ∀ k s m, m.length = 16 → s.length < k → Tot (Hash_l1 h k s m) L16 from hh _ _ _ (by simp) (by omega)
  intro k
  induction k with
  | zero => intro s m _ h2; omega
  | succ k ih =>
    intro s m hm hk
    rw [Hash_l1]
    refine Tot.dif (fun h => ?_) (fun h => Tot.some hm)
    refine Tot.lt fun m1 _ => ?_
    refine Tot.ite (by omega) ?_
    refine Tot.lt fun t ht => ?_
    refine Tot.bind (BXor_T _ _ hm) fun r hr => ?_
    refine Tot.bind (BMul_T _ _) fun r2 hr2 => ?_
    refine ih t r2 hr2 ?_
    rw [ht, sl_len rfl (by omega)]; omega
theorem Encr_T (k b : List (BitVec 8)) (hb : b.length = 16) : Tot (Encr k b) fun r => r.1.length = 16 ∧ r.2 = k := by
  unfold Encr
  refine Tot.lt fun a _ => ?_
  refine Tot.bind (BXor_T _ _ hb) fun r hr => ?_
  refine Tot.count (L := fun q i m => Encr_l1 k q i m) (I := fun _ m => m.length = 16) 15 (fun q i m hm hi ih => ?_) _ _ _ hr (by omega) (by omega)
  show Tot (Encr_l1 k (q+1) i m) _
  rw [Encr_l1]
  refine Tot.dif (fun h => ?_) (fun h => Tot.some ⟨hm, rfl⟩)
  refine Tot.lt fun a _ => ?_
  refine Tot.bind (Round_T _ _ _) fun r hr => ?_
  exact ih (by omega) _ hr
theorem Pad_T (b : List (BitVec 8)) (hb : b.length ≤ 900000) : Tot (Pad b) fun r => r.length ≤ b.length + 16 := by
  unfold Pad
  refine Tot.ite (by omega) ?_
  refine Tot.lt fun s hs => Tot.some ?_
  rw [hs, List.length_append, List.length_replicate]; omega
theorem GTag_T (k n x s : List (BitVec 8)) (hk : k.length = 32) (hn : n.length = 12) (hx : x.length ≤ 100000) (hs : s.length ≤ 100000) : Tot (GTag k n x s) L16 := by
  unfold GTag
  refine Tot.bind (Expand_T k hk) fun r4 _ => ?_
  refine Tot.bind (Pad_T x (by omega)) fun r9 h9 => ?_
  refine Tot.ite (by omega) ?_
  refine Tot.lt fun s12 h12 => ?_
  have hl : s12.length ≤ 200100 := by rw [h12, List.length_append]; omega
  refine Tot.bind (Pad_T s12 (by omega)) fun r15 h15 => ?_
  refine Tot.count (L := fun q i m => GTag_l1 n x s r4 q m i) (I := fun i m => m.length ≤ 200200 + 8 * i) 2 (fun q i m hm hi ih => ?_) _ _ _ (by omega) (by omega) (by omega)
  show Tot (GTag_l1 n x s r4 (q+1) m i) _
  rw [GTag_l1]
  refine Tot.dif (fun h => ?_) (fun h => ?_)
  · refine Tot.lt fun z hz => ?_
    have hzr : z = (x.length : Int) ∨ z = (s.length : Int) := by
      rw [hz]
      rcases (show i = 0 ∨ i = 1 by omega) with rfl | rfl
      · exact .inl rfl
      · exact .inr rfl
    refine Tot.ite (by omega) ?_
    refine Tot.count (L := fun q2 i2 m2 => GTag_l2 n x s r4 i z (fun (s18_ : List (BitVec 8)) (i21_ : Nat) => GTag_l1 n x s r4 q s18_ i21_) q2 m2 i2) (I := fun i2 m2 => m2.length ≤ 200200 + 8 * i + i2) 8 (fun q2 i2 m2 hm2 hi2 ih2 => ?_) _ _ _ (by omega) (by omega) (by omega)
    show Tot (GTag_l2 n x s r4 i z _ (q2+1) m2 i2) _
    rw [GTag_l2]
    refine Tot.dif (fun h2 => ?_) (fun h2 => ?_)
    · refine Tot.lt fun z2 _ => ?_
      refine Tot.ite (by omega) ?_
      refine Tot.lt fun s37 h37 => ?_
      exact ih2 (by omega) _ (by rw [h37, List.length_append, List.length_singleton]; omega)
    · exact ih (by omega) _ (by omega)
  · refine Tot.bind (Encr_T _ _ (by simp)) fun r40 h40 => ?_
    refine Tot.bind (Hash_T _ _ (by omega)) fun r42 h42 => ?_
    refine Tot.bind (Counter_T _ _ hn) fun r44 h44 => ?_
    refine Tot.bind (Encr_T _ _ h44) fun r46 h46 => ?_
    exact Tot.bind (BXor_T _ _ h42) fun r48 h48 => Tot.some h48
end Go.Proofs.Ytjpjejldinpcnaa
