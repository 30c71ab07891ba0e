/- The keyring and the envelope, plainly: that they tell, and stay what they are. -/
import Derived.Test.YtifokhheojnipaaGreatDoorT1
set_option linter.unusedVariables false
set_option linter.unusedSimpArgs false
set_option linter.unnecessarySimpa false
namespace Go.GX
open Go.RowKit Go.SL
set_option linter.unusedVariables false
set_option linter.unusedSimpArgs false
set_option maxRecDepth 4000
def VOk (v : VerT) : Prop := v.1.length = 32
def ROk (r : RngT) : Prop := 1 ≤ r.2.1.length ∧ r.2.1.length ≤ 4 ∧ ∀ v ∈ r.2.1, VOk v
def KOk (k : KeyT) : Prop := k.1.length ≤ 8 ∧ ∀ r ∈ k.1, ROk r
def Cg (e : Int) : Prop := e ≠ 1 ∧ e ≠ 150 ∧ e ≠ 151
theorem Cg.mk {e : Int} (h : e = 0 ∨ e = 2 ∨ e = 3 ∨ e = 40 ∨ e = 70 ∨ (130 ≤ e ∧ e ≤ 140)) : Cg e := by unfold Cg; omega
theorem KOk.set {l : List RngT} (h : KOk (l, ())) (i : Nat) {r : RngT} (hr : ROk r) : KOk (List.set l i r, ()) := by
  refine ⟨?_, all_set h.2 i r hr⟩
  show (List.set l i r).length ≤ 8
  rw [List.length_set]; exact h.1
theorem W123 (l : List RngT) (m : By) (h : KOk (l, ())) (hm : m.length = 32) : Tot (F123 ((l, ()), (m, ())) ()) (fun r => KOk r.2.1 ∧ Cg r.1.2.1) := by
  have h8 : l.length ≤ 8 := h.1
  rw [U123 l m (by omega)]
  refine Tot.s ?_
  split
  · exact ⟨h, Cg.mk (by simp)⟩
  · refine ⟨⟨?_, ?_⟩, Cg.mk (by simp)⟩
    · show (l ++ [_]).length ≤ 8
      rw [List.length_append]; simp only [List.length_cons, List.length_nil]; omega
    · intro r hr
      rcases List.mem_append.mp hr with hr | hr
      · exact h.2 r hr
      · rw [List.mem_singleton] at hr; subst hr
        refine ⟨by simp, by simp, ?_⟩
        intro v hv
        have : v = (m, (0, (false, ()))) := List.mem_singleton.mp hv
        subst this; exact hm
theorem W125 (l : List RngT) (id : Int) (m : By) (h : KOk (l, ())) (hm : m.length = 32) : Tot (F125 ((l, ()), (id, (m, ()))) ()) (fun r => KOk r.2.1 ∧ Cg r.1.2.1) := by
  have h8 : l.length ≤ 8 := h.1
  unfold F125
  dsimp only
  refine Tot.brd (fun _ => Tot.s ⟨h, Cg.mk (by simp)⟩) (fun h1 => ?_)
  refine Tot.br (fun _ => Tot.s ⟨h, Cg.mk (by simp)⟩) (fun h2 => ?_)
  have h2' : ¬ id > (Nat.cast l.length : Int) := by simpa using h2
  have e1 : Int.toNat (Go.SL.w64 (id - 1)) = id.toNat - 1 := by rw [w64_id (by omega) (by omega)]; omega
  refine Tot.gd (by rw [w64_id (by omega) (by omega)]; omega) ?_
  rw [e1]
  refine Tot.gd (by omega) (Tot.idxP (P := ROk) (by omega) h.2 fun r hr => ?_)
  obtain ⟨g1, g2, g3⟩ := hr
  refine Tot.brd (fun _ => Tot.s ⟨h.set _ ⟨g1, g2, g3⟩, Cg.mk (by simp)⟩) (fun h4 => ?_)
  refine Tot.gd rfl (Tot.gd (by unfold few; simp only [List.length_cons, List.length_nil]; omega) (Tot.gd rfl (Tot.gd rfl (Tot.s ⟨h.set _ ⟨?_, ?_, ?_⟩, Cg.mk (by simp)⟩))))
  · dsimp only; rw [List.length_append]; omega
  · dsimp only; rw [List.length_append]; simp only [List.length_cons, List.length_nil]; omega
  · intro v hv
    rcases List.mem_append.mp hv with hv | hv
    · exact g3 v hv
    · rw [List.mem_singleton] at hv; subst hv; exact hm
theorem W126 (l : List RngT) (id : Int) (o : Bool) (h : KOk (l, ())) : Tot (F126 ((l, ()), (id, (o, ()))) ()) (fun r => KOk r.2.1 ∧ Cg r.1.1) := by
  have h8 : l.length ≤ 8 := h.1
  unfold F126
  dsimp only
  refine Tot.brd (fun _ => Tot.s ⟨h, Cg.mk (by simp)⟩) (fun h1 => ?_)
  refine Tot.br (fun _ => Tot.s ⟨h, Cg.mk (by simp)⟩) (fun h2 => ?_)
  have h2' : ¬ id > (Nat.cast l.length : Int) := by simpa using h2
  have e1 : Int.toNat (Go.SL.w64 (id - 1)) = id.toNat - 1 := by rw [w64_id (by omega) (by omega)]; omega
  refine Tot.gd (by rw [w64_id (by omega) (by omega)]; omega) ?_
  rw [e1]
  refine Tot.gd (by omega) (Tot.idxP (P := ROk) (by omega) h.2 fun r hr => ?_)
  obtain ⟨g1, g2, g3⟩ := hr
  exact Tot.s ⟨h.set _ ⟨g1, g2, g3⟩, Cg.mk (by simp)⟩
theorem W127 (l : List RngT) (id v : Int) (h : KOk (l, ())) : Tot (F127 ((l, ()), (id, (v, ()))) ()) (fun r => KOk r.2.1 ∧ Cg r.1.1) := by
  have h8 : l.length ≤ 8 := h.1
  unfold F127
  dsimp only
  refine Tot.brd (fun _ => Tot.s ⟨h, Cg.mk (by simp)⟩) (fun h1 => ?_)
  refine Tot.br (fun _ => Tot.s ⟨h, Cg.mk (by simp)⟩) (fun h2 => ?_)
  have h2' : ¬ id > (Nat.cast l.length : Int) := by simpa using h2
  have e1 : Int.toNat (Go.SL.w64 (id - 1)) = id.toNat - 1 := by rw [w64_id (by omega) (by omega)]; omega
  refine Tot.gd (by rw [w64_id (by omega) (by omega)]; omega) ?_
  rw [e1]
  refine Tot.gd (by omega) (Tot.br (fun _ => Tot.s ⟨h, Cg.mk (by simp)⟩) (fun h3 => ?_))
  have h3' : ¬ v < 1 := by simpa using h3
  refine Tot.idxP (P := ROk) (by omega) h.2 fun r hr => ?_
  obtain ⟨g1, g2, g3⟩ := hr
  refine Tot.br (fun _ => Tot.s ⟨h.set _ ⟨g1, g2, g3⟩, Cg.mk (by simp)⟩) (fun h4 => ?_)
  have h4' : ¬ v > (Nat.cast r.2.1.length : Int) := by simpa using h4
  have e2 : Int.toNat (Go.SL.w64 (v - 1)) = v.toNat - 1 := by rw [w64_id (by omega) (by omega)]; omega
  refine Tot.gd rfl (Tot.gd (by rw [w64_id (by omega) (by omega)]; omega) ?_)
  rw [e2]
  refine Tot.gd (by omega) (Tot.idxP (P := VOk) (by omega) g3 fun a ha => ?_)
  refine Tot.br (fun _ => Tot.s ⟨h.set _ ⟨g1, g2, g3⟩, Cg.mk (by simp)⟩) (fun _ => ?_)
  refine Tot.idxP (P := VOk) (by omega) g3 fun a ha => ?_
  have hs := all_set (P := VOk) g3 (v.toNat - 1) (a.1, (a.2.1, (true, a.2.2.2))) ha
  refine Tot.idxP (P := VOk) (by rw [List.length_set]; omega) hs fun b hb => Tot.s ⟨h.set _ ⟨?_, ?_, ?_⟩, Cg.mk (by simp)⟩
  · dsimp only; rw [List.length_set, List.length_set]; exact g1
  · dsimp only; rw [List.length_set, List.length_set]; exact g2
  · exact all_set hs _ _ (by show (List.replicate 32 0#8).length = 32; simp)
theorem W175 (l : List RngT) (id : Int) (h : KOk (l, ())) : Tot (F175 ((l, ()), (id, ())) ()) (fun r => KOk r.2.1 ∧ Cg r.1.2.2.2.1 ∧ r.1.2.2.1.length = 32) := by
  have h8 : l.length ≤ 8 := h.1
  unfold F175
  dsimp only
  refine Tot.brd (fun _ => Tot.s ⟨h, Cg.mk (by simp), by simp⟩) (fun h1 => ?_)
  refine Tot.br (fun _ => Tot.s ⟨h, Cg.mk (by simp), by simp⟩) (fun h2 => ?_)
  have h2' : ¬ id > (Nat.cast l.length : Int) := by simpa using h2
  have e1 : Int.toNat (Go.SL.w64 (id - 1)) = id.toNat - 1 := by rw [w64_id (by omega) (by omega)]; omega
  refine Tot.gd (by rw [w64_id (by omega) (by omega)]; omega) ?_
  rw [e1]
  refine Tot.gd (by omega) (Tot.idxP (P := ROk) (by omega) h.2 fun r hr => ?_)
  obtain ⟨g1, g2, g3⟩ := hr
  have e2 : Int.toNat (Go.SL.w64 ((Nat.cast (List.length r.2.1) : Int) - 1)) = r.2.1.length - 1 := by rw [w64_id (by omega) (by omega)]; omega
  refine Tot.gd rfl (Tot.gd (by rw [w64_id (by omega) (by omega)]; omega) ?_)
  rw [e2]
  refine Tot.gd (by omega) (Tot.gd rfl ?_)
  have hst := h.set (id.toNat - 1) ⟨g1, g2, g3⟩
  refine Tot.br (fun _ => Tot.s ⟨hst, Cg.mk (by simp), by simp⟩) (fun _ => ?_)
  refine Tot.idxP (P := VOk) (by omega) g3 fun a ha => ?_
  refine Tot.br (fun _ => Tot.s ⟨hst, Cg.mk (by simp), by simp⟩) (fun _ => ?_)
  refine Tot.idxP (P := VOk) (by omega) g3 fun a ha => ?_
  refine Tot.br (fun _ => Tot.s ⟨hst, Cg.mk (by simp), by simp⟩) (fun _ => ?_)
  refine Tot.idxP (P := VOk) (by omega) g3 fun a ha => ?_
  refine Tot.idxP (P := VOk) (by omega) g3 fun b hb => Tot.gd rfl ?_
  have hs := all_set (P := VOk) g3 (r.2.1.length - 1) (b.1, (Go.SL.w64 (a.2.1 + 1), b.2.2)) hb
  refine Tot.idxP (P := VOk) (by rw [List.length_set]; omega) hs fun c hc => ?_
  refine Tot.idxP (P := VOk) (by rw [List.length_set]; omega) hs fun d hd => Tot.s ⟨h.set _ ⟨?_, ?_, hs⟩, Cg.mk (by simp), hd⟩
  · dsimp only; rw [List.length_set]; exact g1
  · dsimp only; rw [List.length_set]; exact g2
theorem W179 (l : List RngT) (id v : Int) (h : KOk (l, ())) : Tot (F179 ((l, ()), (id, (v, ()))) ()) (fun r => KOk r.2.1 ∧ Cg r.1.2.1 ∧ r.1.1.length = 32) := by
  have h8 : l.length ≤ 8 := h.1
  unfold F179
  dsimp only
  refine Tot.brd (fun _ => Tot.s ⟨h, Cg.mk (by simp), by simp⟩) (fun h1 => ?_)
  refine Tot.br (fun _ => Tot.s ⟨h, Cg.mk (by simp), by simp⟩) (fun h2 => ?_)
  have h2' : ¬ id > (Nat.cast l.length : Int) := by simpa using h2
  have e1 : Int.toNat (Go.SL.w64 (id - 1)) = id.toNat - 1 := by rw [w64_id (by omega) (by omega)]; omega
  have e0 : 0 ≤ Go.SL.w64 (id - 1) := by rw [w64_id (by omega) (by omega)]; omega
  refine Tot.gd e0 ?_
  rw [e1]
  refine Tot.gd (by omega) (Tot.br (fun _ => Tot.s ⟨h, Cg.mk (by simp), by simp⟩) (fun h3 => ?_))
  have h3' : ¬ v < 1 := by simpa using h3
  refine Tot.idxP (P := ROk) (by omega) h.2 fun r hr => ?_
  obtain ⟨g1, g2, g3⟩ := hr
  have hst := h.set (id.toNat - 1) ⟨g1, g2, g3⟩
  refine Tot.br (fun _ => Tot.s ⟨hst, Cg.mk (by simp), by simp⟩) (fun h4 => ?_)
  have h4' : ¬ v > (Nat.cast r.2.1.length : Int) := by simpa using h4
  have e2 : Int.toNat (Go.SL.w64 (v - 1)) = v.toNat - 1 := by rw [w64_id (by omega) (by omega)]; omega
  refine Tot.gd rfl (Tot.gd (by rw [w64_id (by omega) (by omega)]; omega) ?_)
  rw [e2]
  refine Tot.gd (by omega) (Tot.brd (fun h => absurd h h1) fun _ => Tot.br (fun h => absurd h (by rw [h2]; decide)) fun _ => ?_)
  refine Tot.gd e0 (Tot.gd (by omega) (Tot.gd rfl ?_))
  refine Tot.br (fun _ => Tot.s ⟨hst, Cg.mk (by simp), by simp⟩) (fun _ => ?_)
  refine Tot.idxP (P := VOk) (by omega) g3 fun a ha => ?_
  refine Tot.br (fun _ => Tot.s ⟨hst, Cg.mk (by simp), by simp⟩) (fun _ => ?_)
  exact Tot.idxP (P := VOk) (by omega) g3 fun b hb => Tot.s ⟨hst, Cg.mk (by simp), hb⟩
theorem W128 (l : List RngT) (id : Int) (x a : By) (h : KOk (l, ())) : Tot (F128 ((l, ()), (id, ())) (x, (a, ()))) (fun r => KOk r.2.1 ∧ Cg r.1.2.2.1 ∧ r.1.1.length ≤ 200) := by
  unfold F128
  dsimp only
  refine Tot.brd (fun _ => Tot.s ⟨h, Cg.mk (by simp), by simp⟩) (fun h1 => ?_)
  refine Tot.br (fun _ => Tot.s ⟨h, Cg.mk (by simp), by simp⟩) (fun h2 => ?_)
  have h2' : ¬ (Nat.cast a.length : Int) > 32 := by simpa using h2
  refine Tot.bnd (W175 l id h) fun r hr => ?_
  obtain ⟨g1, g2, g3⟩ := hr
  refine Tot.br (fun _ => Tot.s ⟨g1, g2, by simp⟩) (fun _ => ?_)
  refine Tot.count 8 (fun i v => v.1.1 = (i : Int) ∧ v.2.1.length = 12) ⟨rfl, by simp⟩ (by decide) ?_
  rintro i ⟨⟨t, ⟨⟩⟩, n, ⟨⟩⟩ hi ⟨ht, hn⟩ rec hrec
  dsimp only at ht hn ⊢
  subst ht
  refine Tot.brd (fun hlt => ?_) (fun hge => ?_)
  · repeat' (first | refine Tot.gdE ?_ | refine Tot.gd (by (first | decide | omega | (simp (disch := omega) only [w64_id, few, few9, List.length_set, List.length_append, List.length_take, List.length_drop, List.length_replicate, List.length_cons, List.length_nil, Int.toNat_natCast]; done) | (simp (disch := omega) only [w64_id, few, few9, List.length_set, List.length_append, List.length_take, List.length_drop, List.length_replicate, List.length_cons, List.length_nil, Int.toNat_natCast]; omega) | (simp [few, few9] <;> omega))) ?_ | refine Tot.idx (by (first | decide | omega | (simp (disch := omega) only [w64_id, few, few9, List.length_set, List.length_append, List.length_take, List.length_drop, List.length_replicate, List.length_cons, List.length_nil, Int.toNat_natCast]; done) | (simp (disch := omega) only [w64_id, few, few9, List.length_set, List.length_append, List.length_take, List.length_drop, List.length_replicate, List.length_cons, List.length_nil, Int.toNat_natCast]; omega) | (simp [few, few9] <;> omega))) (fun _ _ => ?_))
    refine hrec (by omega) _ ⟨?_, ?_⟩
    · dsimp only; (first | decide | omega | (simp (disch := omega) only [w64_id, few, few9, List.length_set, List.length_append, List.length_take, List.length_drop, List.length_replicate, List.length_cons, List.length_nil, Int.toNat_natCast]; done) | (simp (disch := omega) only [w64_id, few, few9, List.length_set, List.length_append, List.length_take, List.length_drop, List.length_replicate, List.length_cons, List.length_nil, Int.toNat_natCast]; omega) | (simp [few, few9] <;> omega))
    · dsimp only; (first | decide | omega | (simp (disch := omega) only [w64_id, few, few9, List.length_set, List.length_append, List.length_take, List.length_drop, List.length_replicate, List.length_cons, List.length_nil, Int.toNat_natCast]; done) | (simp (disch := omega) only [w64_id, few, few9, List.length_set, List.length_append, List.length_take, List.length_drop, List.length_replicate, List.length_cons, List.length_nil, Int.toNat_natCast]; omega) | (simp [few, few9] <;> omega))
  · refine Tot.bnd (W177 _ n a x g3 hn (by omega) (by omega)) fun r5 hr5 => Tot.bnd (W176 id r.1.1 n _ hn (by omega)) fun r6 hr6 => Tot.s ⟨g1, Cg.mk (by simp), ?_⟩
    dsimp only; omega
theorem W129 (l : List RngT) (x a : By) (h : KOk (l, ())) (hx : x.length ≤ 1000000) : Tot (F129 ((l, ()), ()) (x, (a, ()))) (fun r => KOk r.2.1 ∧ Cg r.1.2.1 ∧ r.1.1.length ≤ 80) := by
  unfold F129
  dsimp only
  refine Tot.brd (fun _ => Tot.s ⟨h, Cg.mk (by simp), by simp⟩) (fun h2 => ?_)
  refine Tot.bnd (W178 x hx) fun r hr => ?_
  obtain ⟨g1, g2, g3⟩ := hr
  refine Tot.br (fun _ => Tot.s ⟨h, Cg.mk (by dsimp only; omega), by simp⟩) (fun _ => ?_)
  refine Tot.bnd (W179 l _ _ h) fun r3 hr3 => ?_
  obtain ⟨k1, k2, k3⟩ := hr3
  refine Tot.br (fun _ => Tot.s ⟨k1, k2, by simp⟩) (fun _ => ?_)
  refine Tot.bnd (W180 _ _ a _ k3 g1 (by omega) (by omega)) fun r4 hr4 => Tot.s ⟨k1, Cg.mk (by dsimp only; omega), by dsimp only; omega⟩
theorem W130 (l : List RngT) (x a : By) (h : KOk (l, ())) (hx : x.length ≤ 1000000) : Tot (F130 ((l, ()), ()) (x, (a, ()))) (fun r => KOk r.2.1 ∧ Cg r.1.2.2.1 ∧ r.1.1.length ≤ 200) := by
  unfold F130
  dsimp only
  refine Tot.bnd (W129 l x a h hx) fun r hr => ?_
  obtain ⟨g1, g2, g3⟩ := hr
  refine Tot.br (fun _ => Tot.s ⟨g1, g2, by simp⟩) (fun _ => ?_)
  refine Tot.bnd (W178 x hx) fun r3 hr3 => Tot.bnd (W128 r.2.1.1 _ _ a g1) fun r4 hr4 => Tot.s hr4
/-- the source stays within its bounds -/
def SOk (s : SrcT) : Prop := SrcOk s ∧ 0 ≤ s.2.2.1 ∧ s.2.2.1 ≤ 1048577
theorem W172 (s : SrcT) (h : SOk s) : Tot (F172 (s, (32, ())) ([], ())) (fun r => SOk r.2.1 ∧ Cg r.1.2.1 ∧ (r.1.2.1 = 0 → r.1.1.length = 32)) := by
  by_cases hc : s.2.2.1 ≤ 1048576
  · refine (V172 s h.1 ⟨h.2.1, hc⟩).mono fun r hr => ?_
    have := h.2.1
    exact ⟨⟨hr.2.2.1, by omega, by omega⟩, Cg.mk (Or.inl hr.2.1), fun _ => hr.1⟩
  · unfold F172
    dsimp only
    refine Tot.jnP (fun p => p.1.1 = false) ?_ ?_
    · rintro ⟨⟨b, ⟨⟩⟩, ⟨⟩⟩ hb
      dsimp only at hb ⊢
      subst hb
      rw [br_f]
      refine Tot.brd (fun _ => Tot.s ⟨h, Cg.mk (by simp), fun e => absurd e (by simp)⟩) (fun hn => absurd (by omega) hn)
    · intro j hj
      exact Tot.brd (fun h => absurd h (by decide)) (fun _ => Tot.gdE (hj _ (by simp)))
/-- what a command does -/
theorem W52 (s : SrcT) (k : KeyT) (t : TabT) (c : CmdT) (hs : SOk s) (hk : KOk k) (h1 : c.2.2.2.2.2.1.length ≤ 1000000) :
    Tot (F52 ((s, (k, (t, ()))), ()) (c, ())) (fun r => SOk r.2.1.1 ∧ KOk r.2.1.2.1 ∧ r.2.1.2.2.1 = t ∧ Cg r.1.2.1 ∧ r.1.1.1 = 0 ∧ r.1.1.2.2.2.1.length ≤ 200) := by
  obtain ⟨kl, ⟨⟩⟩ := k
  unfold F52
  dsimp only
  refine Tot.br (fun _ => ?_) (fun _ => ?_)
  · refine Tot.bnd (W172 s hs) fun r hr => Tot.br (fun _ => Tot.s ⟨hr.1, hk, rfl, hr.2.1, rfl, by simp⟩) (fun h0 => ?_)
    have h0' : r.1.2.1 = 0 := by simpa using h0
    have hl := hr.2.2 h0'
    refine Tot.gd (by omega) (Tot.bnd (W123 kl _ hk (by rw [List.length_take]; omega)) fun r3 hr3 => Tot.s ⟨hr.1, hr3.1, rfl, hr3.2, rfl, by simp⟩)
  refine Tot.br (fun _ => ?_) (fun _ => ?_)
  · refine Tot.bnd (W172 s hs) fun r hr => Tot.br (fun _ => Tot.s ⟨hr.1, hk, rfl, hr.2.1, rfl, by simp⟩) (fun h0 => ?_)
    have h0' : r.1.2.1 = 0 := by simpa using h0
    have hl := hr.2.2 h0'
    refine Tot.gd (by omega) (Tot.bnd (W125 kl _ _ hk (by rw [List.length_take]; omega)) fun r3 hr3 => Tot.s ⟨hr.1, hr3.1, rfl, hr3.2, rfl, by simp⟩)
  refine Tot.br (fun _ => ?_) (fun _ => ?_)
  · exact Tot.bnd (W126 kl _ _ hk) fun r hr => Tot.s ⟨hs, hr.1, rfl, hr.2, rfl, by simp⟩
  refine Tot.br (fun _ => ?_) (fun _ => ?_)
  · exact Tot.bnd (W127 kl _ _ hk) fun r hr => Tot.s ⟨hs, hr.1, rfl, hr.2, rfl, by simp⟩
  refine Tot.br (fun _ => ?_) (fun _ => ?_)
  · exact Tot.bnd (W128 kl _ _ _ hk) fun r hr => Tot.s ⟨hs, hr.1, rfl, hr.2.1, rfl, hr.2.2⟩
  refine Tot.br (fun _ => ?_) (fun _ => ?_)
  · exact Tot.bnd (W129 kl _ _ hk h1) fun r hr => Tot.s ⟨hs, hr.1, rfl, hr.2.1, rfl, by dsimp only; omega⟩
  refine Tot.br (fun _ => ?_) (fun _ => ?_)
  · exact Tot.bnd (W130 kl _ _ hk h1) fun r hr => Tot.s ⟨hs, hr.1, rfl, hr.2.1, rfl, hr.2.2⟩
  refine Tot.br (fun _ => ?_) (fun _ => ?_)
  · exact Tot.bnd (V106 s hs.1 _ h1) fun r hr => Tot.s ⟨⟨hr.1, by rw [hr.2]; decide, by rw [hr.2]; decide⟩, hk, rfl, Cg.mk (by simp), rfl, by simp⟩
  · exact Tot.s ⟨hs, hk, rfl, Cg.mk (by simp), rfl, by simp⟩
end Go.GX
namespace Go.GX
open Go.RowKit Go.SL
set_option linter.unusedVariables false
set_option linter.unusedSimpArgs false
set_option maxRecDepth 4000
theorem mget_mem {α : Type} {k : Int} {v : α} : ∀ {l : List (Int × α)}, mget l k = some v → (k, v) ∈ l := by
  intro l
  induction l with
  | nil => intro h; exact absurd h (by unfold mget; simp)
  | cons x l ih =>
    obtain ⟨q, y⟩ := x
    intro h
    unfold mget at h
    by_cases e : q = k
    · rw [decide_eq_true e] at h
      cases h; subst e; exact List.mem_cons_self
    · rw [decide_eq_false e] at h
      exact List.mem_cons_of_mem _ (ih h)
theorem mput_mem {α : Type} {k : Int} {v : α} {x : Int × α} : ∀ {l : List (Int × α)}, x ∈ mput l k v → x ∈ l ∨ x = (k, v) := by
  intro l
  induction l with
  | nil => intro h; unfold mput at h; exact .inr (List.mem_singleton.mp h)
  | cons y l ih =>
    obtain ⟨q, y⟩ := y
    intro h
    unfold mput at h
    by_cases e : q = k
    · rw [decide_eq_true e] at h
      rcases List.mem_cons.mp h with h | h
      · exact .inr h
      · exact .inl (List.mem_cons_of_mem _ h)
    · rw [decide_eq_false e] at h
      rcases List.mem_cons.mp h with h | h
      · exact .inl (h ▸ List.mem_cons_self)
      · rcases ih h with h | h
        · exact .inl (List.mem_cons_of_mem _ h)
        · exact .inr h
theorem mput_len {α : Type} {k : Int} {v : α} : ∀ {l : List (Int × α)}, (mput l k v).length ≤ l.length + 1 ∧ (∀ w, mget l k = some w → (mput l k v).length = l.length) := by
  intro l
  induction l with
  | nil => exact ⟨by unfold mput; simp, fun w h => absurd h (by unfold mget; simp)⟩
  | cons y l ih =>
    obtain ⟨q, y⟩ := y
    unfold mput mget
    by_cases e : q = k
    · rw [decide_eq_true e]; exact ⟨by simp [cond], fun _ _ => by simp [cond]⟩
    · rw [decide_eq_false e]
      exact ⟨by simpa [cond] using ih.1, fun w h => by simpa [cond] using ih.2 w h⟩
theorem mget_mput {α : Type} {k : Int} {v : α} : ∀ {l : List (Int × α)}, mget (mput l k v) k = some v := by
  intro l
  induction l with
  | nil => unfold mput mget; rw [decide_eq_true rfl]; rfl
  | cons y l ih =>
    obtain ⟨q, y⟩ := y
    unfold mput
    by_cases e : q = k
    · rw [decide_eq_true e]; show mget ((k, v) :: l) k = _; unfold mget; rw [decide_eq_true rfl]; rfl
    · rw [decide_eq_false e]; show mget ((q, y) :: mput l k v) k = _; unfold mget; rw [decide_eq_false e]; exact ih
theorem mdel_sub {α : Type} {k : Int} : ∀ {l : List (Int × α)}, (mdel l k).length ≤ l.length ∧ ∀ x ∈ mdel l k, x ∈ l := by
  intro l
  induction l with
  | nil => exact ⟨Nat.le_refl _, fun x h => h⟩
  | cons y l ih =>
    obtain ⟨q, y⟩ := y
    unfold mdel
    by_cases e : q = k
    · rw [decide_eq_true e]; exact ⟨by simp [cond], fun x h => List.mem_cons_of_mem _ h⟩
    · rw [decide_eq_false e]
      refine ⟨by simpa [cond] using ih.1, fun x h => ?_⟩
      rcases List.mem_cons.mp h with h | h
      · exact h ▸ List.mem_cons_self
      · exact List.mem_cons_of_mem _ (ih.2 x h)
def ReOk (r : RepT) : Prop := Cg r.1 ∧ r.2.2.2.1.length ≤ 200
def TkOk (t : TabT) : Prop := t.1.length ≤ 8 ∧ (∀ x ∈ t.1, (-9223372036854775808 ≤ x.1 ∧ x.1 ≤ 9223372036854775807) ∧ ReOk x.2.2.2.1) ∧ 1 ≤ t.2.1 ∧ t.2.1 ≤ 1099511627776
def StOk (s : StoT) : Prop := SOk s.1 ∧ KOk s.2.1 ∧ TkOk s.2.2.1
def Ref (e : Int) : Prop := e = 1 ∨ e = 150 ∨ e = 151
theorem ReOk.rep0 : ReOk rep0 := ⟨Cg.mk (by simp [Go.GX.rep0]), by simp [Go.GX.rep0]⟩
/-- what any command comes to -/
def Done (st : StoT) (c : CmdT) (r : (RepT × Unit) × StoT × Unit) : Prop :=
  StOk r.2.1 ∧ r.1.1.2.2.2.1.length ≤ 200 ∧ (Ref r.1.1.1 → r.2.1 = st ∧ r.1.1.2.1 = 0 ∧ r.1.1.2.2.1 = 0 ∧ r.1.1.2.2.2.1 = []) ∧
  (c.1 ≠ 1 → c.1 ≠ 2 → F18 (r.2.1, ()) (c, ()) = some ((r.1.1, ()), (r.2.1, ())))
theorem W18 (st : StoT) (c : CmdT) (h : StOk st) (hc : c.2.2.2.2.2.1.length ≤ 1000000) : Tot (F18 (st, ()) (c, ())) (Done st c) := by
  obtain ⟨⟨⟨e, ⟨⟩⟩, ⟨⟩⟩, h47, -⟩ := W47 c
  by_cases he : e = 0
  · subst he
    obtain ⟨s, k, ⟨l, n, ⟨⟩⟩, ⟨⟩⟩ := st
    obtain ⟨hs, hk, ht⟩ := h
    dsimp only at hs hk ht
    obtain ⟨t1, t2, t3, t4⟩ := ht
    dsimp only at t1 t2 t3 t4
    by_cases c1 : c.1 = 1
    · obtain ⟨k0, sid, seq, id, m, da, be, ⟨⟩⟩ := c
      dsimp only at c1; subst c1
      unfold F18
      dsimp only
      rw [h47, bnd_s]
      dsimp only
      rw [show ((0 : Int) != 0) = false from rfl, br_f, show ((1 : Int) == 1) = true from rfl, br_t, U49, bnd_s]
      split
      · dsimp only
        rw [U48, bnd_s, if_neg (by decide)]
        refine Tot.s ⟨⟨hs, hk, t1, t2, t3, t4⟩, by simp [repC], fun hr => ?_, fun hh => absurd rfl hh⟩
        exact absurd hr (by simp [repC, Ref])
      · rename_i h8
        dsimp only
        rw [U48, bnd_s, if_pos rfl]
        refine Tot.s ⟨⟨hs, hk, ?_, ?_, ?_, ?_⟩, by simp, fun hr => absurd hr (by simp [Ref]), fun hh => absurd rfl hh⟩
        · have := (mput_len (k := n) (v := ((n, (0, (rep0, ()))) : SeaT)) (l := l)).1
          show (mput l n _).length ≤ 8
          omega
        · intro x hx
          rcases mput_mem hx with hx | hx
          · exact t2 x hx
          · subst hx; exact ⟨by dsimp only; omega, ReOk.rep0⟩
        · show 1 ≤ Go.SL.w64 (n + 1)
          rw [w64_id (by omega) (by omega)]; omega
        · show Go.SL.w64 (n + 1) ≤ _
          rw [w64_id (by omega) (by omega)]; omega
    by_cases c2 : c.1 = 2
    · obtain ⟨k0, sid, seq, id, m, da, be, ⟨⟩⟩ := c
      dsimp only at c2; subst c2
      unfold F18
      dsimp only
      rw [h47, bnd_s]
      dsimp only
      rw [show ((0 : Int) != 0) = false from rfl, br_f, show ((2 : Int) == 1) = false from rfl, br_f, show ((2 : Int) == 2) = true from rfl, br_t, U50, bnd_s]
      cases mget l id with
      | none =>
        dsimp only
        rw [U48, bnd_s, if_neg (by decide)]
        refine Tot.s ⟨⟨hs, hk, t1, t2, t3, t4⟩, by simp [repC], fun hr => ⟨rfl, rfl, rfl, rfl⟩, fun _ hh => absurd rfl hh⟩
      | some y =>
        dsimp only
        rw [U48, bnd_s, if_pos rfl]
        refine Tot.s ⟨⟨hs, hk, ?_, ?_, t3, t4⟩, by simp, fun hr => absurd hr (by simp [Ref]), fun _ hh => absurd rfl hh⟩
        · exact Nat.le_trans mdel_sub.1 t1
        · exact fun x hx => t2 x (mdel_sub.2 x hx)
    have hb : ∀ y, mget l c.2.1 = some y → y.2.2.1.2.2.2.1.length ≤ 4294967296 := fun y hy => by
      have := (t2 _ (mget_mem hy)).2.2
      dsimp only at this; omega
    have hu := U18s s k l n c h47 c1 c2 hb
    by_cases ha : (askT l c.2.1 c.2.2.1).2.2.1 = 0
    · rw [if_neg (by simpa using ha)] at hu
      cases hg : mget l c.2.1 with
      | none => exact absurd ha (by unfold askT; rw [hg]; simp)
      | some y =>
        have hy := (t2 _ (mget_mem hg)).2
        dsimp only at hy
        have hask : askT l c.2.1 c.2.2.1 = if c.2.2.1 < imax 1 y.2.1 then (rep0, (false, (151, ()))) else if c.2.2.1 = y.2.1 then (y.2.2.1, (true, (0, ()))) else (rep0, (false, (0, ()))) := by
          unfold askT; rw [hg]
        by_cases q1 : c.2.2.1 < imax 1 y.2.1
        · rw [if_pos q1] at hask; rw [hask] at ha; exact absurd ha (by simp)
        rw [if_neg q1] at hask
        by_cases q2 : c.2.2.1 = y.2.1
        · rw [if_pos q2] at hask
          rw [hask, if_pos rfl] at hu
          refine ⟨_, hu, ⟨hs, hk, t1, t2, t3, t4⟩, hy.2, fun hr => absurd hr ?_, fun _ _ => hu⟩
          obtain ⟨r1, r2, r3⟩ := hy.1
          intro hr
          rcases hr with hr | hr | hr
          · exact r1 hr
          · exact r2 hr
          · exact r3 hr
        · rw [if_neg q2] at hask
          rw [hask, if_neg (by simp)] at hu
          rw [hu]
          have hlt : ¬ c.2.2.1 ≤ y.2.1 ∧ 1 ≤ c.2.2.1 := by
            unfold imax at q1
            split at q1 <;> omega
          refine Tot.bnd (W52 s k (l, (n, ())) c hs hk hc) fun a hA => ?_
          obtain ⟨a1, a2, a3, a4, a5, a6⟩ := hA
          rw [U48, bnd_s]
          dsimp only
          generalize hrep : (if a.1.2.1 = 0 then a.1.1 else repC a.1.2.1) = rep
          have hre : ReOk rep := by
            subst hrep
            split
            · exact ⟨by rw [a5]; exact Cg.mk (by simp), a6⟩
            · exact ⟨a4, by simp [repC]⟩
          rw [a3, U53 _ _ _ _ _ (by have := hre.2; omega), hg, bnd_s]
          dsimp only
          rw [if_neg hlt.1]
          refine Tot.s ⟨⟨a1, a2, ?_, ?_, t3, t4⟩, hre.2, fun hr => absurd hr ?_, fun _ _ => ?_⟩
          · show (mput l _ _).length ≤ 8
            rw [(mput_len).2 y hg]; exact t1
          · intro x hx
            rcases mput_mem hx with hx | hx
            · exact t2 x hx
            · subst hx; exact ⟨(t2 _ (mget_mem hg)).1, hre⟩
          · obtain ⟨r1, r2, r3⟩ := hre.1
            intro hr
            rcases hr with hr | hr | hr
            · exact r1 hr
            · exact r2 hr
            · exact r3 hr
          · dsimp only
            have hg2 : mget (mput l c.2.1 ((c.2.1, (c.2.2.1, (rep, ()))) : SeaT)) c.2.1 = some (c.2.1, (c.2.2.1, (rep, ()))) := mget_mput
            have hu2 := U18s a.2.1.1 a.2.1.2.1 (mput l c.2.1 ((c.2.1, (c.2.2.1, (rep, ()))) : SeaT)) n c h47 c1 c2 (fun z hz => by
              rw [hg2] at hz; cases hz; have := hre.2; dsimp only; omega)
            have hask2 : askT (mput l c.2.1 ((c.2.1, (c.2.2.1, (rep, ()))) : SeaT)) c.2.1 c.2.2.1 = (rep, (true, (0, ()))) := by
              unfold askT
              rw [hg2]
              dsimp only
              rw [if_neg (by unfold imax; split <;> omega), if_pos rfl]
            rw [hask2, if_neg (by simp), if_pos rfl] at hu2
            exact hu2
    · rw [if_pos (by simpa using ha)] at hu
      refine ⟨_, hu, ⟨hs, hk, t1, t2, t3, t4⟩, by simp [repC], fun hr => ⟨rfl, rfl, rfl, rfl⟩, fun _ _ => hu⟩
  · have hF : F18 (st, ()) (c, ()) = some ((repC e, ()), (st, ())) := by
      obtain ⟨k0, sid, seq, id, m, da, be, ⟨⟩⟩ := c
      unfold F18
      dsimp only
      rw [h47, bnd_s]
      dsimp only
      rw [show (e != 0) = true from by simpa using he, br_t, U48, bnd_s, if_neg he]
    exact ⟨_, hF, h, by simp [repC], fun _ => ⟨rfl, rfl, rfl, rfl⟩, fun _ _ => hF⟩
end Go.GX
namespace Go.GX
open Go.RowKit Go.SL
set_option linter.unusedVariables false
set_option linter.unusedSimpArgs false
set_option maxRecDepth 4000
theorem W79 (b t : By) (hb : b.length ≤ 100000000) : Tot (F79 ((b, ()), ()) (t, ())) (fun r => r.2.1.1.length ≤ b.length + 9 + t.length) := by
  unfold F79
  exact Tot.bnd (W148 b t hb) fun r hr => Tot.s hr
theorem W80 (b : By) (x : Int) (hb : b.length ≤ 100000000) : Tot (F80 ((b, ()), (x, ())) ()) (fun r => r.2.1.1.length ≤ b.length + 9) := by
  unfold F80
  exact Tot.bnd (W149 x b hb) fun r hr => Tot.s hr
theorem W81 (b : By) (x : Bool) (hb : b.length ≤ 100000000) : Tot (F81 ((b, ()), (x, ())) ()) (fun r => r.2.1.1.length ≤ b.length + 9) := by
  unfold F81
  exact Tot.br (fun _ => Tot.bnd (W80 b 1 hb) fun r hr => Tot.s hr) (fun _ => Tot.bnd (W80 b 0 hb) fun r hr => Tot.s hr)
theorem W83 (r : RepT) (h : r.2.2.2.1.length ≤ 200) : Tot (F83 () (r, ())) (fun a => a.1.1.length ≤ 300) := by
  unfold F83
  dsimp only
  refine Tot.br (fun _ => Tot.s (by simp)) (fun _ => Tot.br (fun _ => Tot.s (by simp)) (fun _ => Tot.br (fun _ => Tot.s (by simp)) (fun _ => ?_)))
  refine Tot.bnd (W151 _ (by simp)) fun a ha => ?_
  simp only [List.length_cons, List.length_nil] at ha
  refine Tot.bnd (W148 _ _ (by omega)) fun b hb => Tot.s ?_
  dsimp only; omega
theorem mem_mget {α : Type} {k : Int} {v : α} : ∀ {l : List (Int × α)}, (k, v) ∈ l → ∃ w, mget l k = some w := by
  intro l
  induction l with
  | nil => intro h; exact absurd h (by simp)
  | cons y l ih =>
    obtain ⟨q, y⟩ := y
    intro h
    unfold mget
    by_cases e : q = k
    · rw [decide_eq_true e]; exact ⟨y, rfl⟩
    · rw [decide_eq_false e]
      rcases List.mem_cons.mp h with h | h
      · cases h; exact absurd rfl e
      · exact ih h
theorem W150 (t : TabT) (h : TkOk t) : Tot (F150 (t, ()) ()) (fun r => r.2.1 = t ∧ r.1.1.length ≤ 12 ∧ ∀ x ∈ r.1.1, ReOk x.2.2.1) := by
  obtain ⟨l, n, ⟨⟩⟩ := t
  obtain ⟨t1, t2, t3, t4⟩ := h
  dsimp only at t1 t2
  unfold F150
  dsimp only
  refine Tot.gd (by omega) (Tot.gd ?_ ?_)
  · unfold i64L
    rw [List.all_eq_true]
    intro x hx
    have := (t2 x hx).1
    simp [this.1, this.2]
  have hlen : (sortZ (List.map (fun y : Int × SeaT => y.1) l)).length = l.length := by rw [(sortZ_perm _).length_eq, List.length_map]
  refine Tot.count l.length (fun i v => v.1.1 = (i : Int) ∧ v.1.2.1.length = i ∧ ∀ x ∈ v.1.2.1, ReOk x.2.2.1) ⟨rfl, rfl, by simp⟩ (by omega) ?_
  rintro i ⟨⟨t, o, ⟨⟩⟩, ⟨⟩⟩ hi ⟨ht, ho, hr⟩ rec hrec
  dsimp only at ht ho hr ⊢
  subst ht
  refine Tot.brd (fun hlt => ?_) (fun hge => Tot.s ⟨rfl, by dsimp only; omega, hr⟩)
  have hlt2 : (i : Int) < ((sortZ (List.map (fun y : Int × SeaT => y.1) l)).length : Int) := hlt
  rw [hlen] at hlt2
  refine Tot.gd (by omega) (Tot.gd ?_ (Tot.idx ?_ fun a ha => ?_))
  · show Int.toNat (i : Int) < (sortZ (List.map (fun y : Int × SeaT => y.1) l)).length
    rw [hlen]; omega
  · show Int.toNat (i : Int) < (sortZ (List.map (fun y : Int × SeaT => y.1) l)).length
    rw [hlen]; omega
  have hm : a ∈ List.map (fun y : Int × SeaT => y.1) l := (sortZ_perm _).mem_iff.mp (List.mem_of_getElem? ha)
  obtain ⟨⟨q, y⟩, hx, hq⟩ := List.mem_map.mp hm
  dsimp only at hq
  subst hq
  obtain ⟨w, hw⟩ := mem_mget hx
  have hre := (t2 _ (mget_mem hw)).2
  dsimp only at hre
  rw [hw, bnd_s, U120 _ (by have := hre.2; omega), bnd_s]
  dsimp only
  refine Tot.gd (by unfold few; simp only [List.length_cons, List.length_nil]; omega) (Tot.gdE (Tot.gdE (Tot.gdE (hrec (by omega) _ ⟨?_, ?_, ?_⟩))))
  · dsimp only; (first | decide | omega | (simp (disch := omega) only [w64_id, few, few9, List.length_set, List.length_append, List.length_take, List.length_drop, List.length_replicate, List.length_cons, List.length_nil, Int.toNat_natCast]; done) | (simp (disch := omega) only [w64_id, few, few9, List.length_set, List.length_append, List.length_take, List.length_drop, List.length_replicate, List.length_cons, List.length_nil, Int.toNat_natCast]; omega) | (simp [few, few9] <;> omega))
  · dsimp only; rw [List.length_append]; simp only [List.length_cons, List.length_nil]; omega
  · intro x hx
    rcases List.mem_append.mp hx with hx | hx
    · exact hr x hx
    · rw [List.mem_singleton] at hx; subst hx; exact hre
theorem W82 (st : StoT) (h : StOk st) : Tot (F82 (st, ()) ()) (fun r => r.2.1 = st ∧ r.1.1.length ≤ 12 ∧ ∀ x ∈ r.1.1, ReOk x.2.2.1) := by
  obtain ⟨s, k, t, ⟨⟩⟩ := st
  unfold F82
  dsimp only
  refine Tot.bnd (W150 t h.2.2) fun r hr => Tot.s ⟨?_, hr.2.1, hr.2.2⟩
  dsimp only; rw [hr.1]
theorem W21 (st : StoT) (h : StOk st) : Tot (F21 (st, ()) ()) (fun r => r.2.1 = st ∧ r.1.1 = st.2.1.1) := by
  obtain ⟨s, ⟨k, ⟨⟩⟩, t, ⟨⟩⟩ := st
  have hk : KOk (k, ()) := h.2.1
  unfold F21
  dsimp only
  refine Tot.bnd (V55 k (by have := hk.1; dsimp only at this; omega) (fun x hx => by have := (hk.2 x hx).2.1; omega)) fun r hr => Tot.s ⟨?_, hr.1⟩
  dsimp only; rw [hr.2]
theorem set_same {α : Type} {b : List α} {i : Nat} {a : α} (ha : b[i]? = some a) : List.set b i a = b := by
  apply List.ext_getElem?
  intro j
  rw [List.getElem?_set]
  split
  · rename_i e; subst e
    rw [ha]
    first | rfl | (split <;> first | rfl | skip)
    all_goals (rename_i hlt; exact absurd ((List.getElem?_eq_some_iff.mp ha).1) hlt)
  · rfl
theorem W36 (st : StoT) (h : StOk st) : Tot (F36 (st, ()) ()) (fun r => r.2.1 = st) := by
  have h0 := h
  obtain ⟨⟨sk, sv, sc, ⟨⟩⟩, ⟨k, ⟨⟩⟩, t, ⟨⟩⟩ := st
  have hk : KOk (k, ()) := h.2.1
  have hk8 : k.length ≤ 8 := hk.1
  have hsk : sk.length = 32 := h.1.1.1
  have hsv : sv.length = 32 := h.1.1.2
  unfold F36
  dsimp only
  unfold F78
  rw [bnd_s]
  dsimp only
  refine Tot.gd (by decide) (Tot.gd (by decide) (Tot.gd (by omega) ?_))
  refine Tot.bnd (W79 [] _ (by simp)) fun r3 hr3 => ?_
  rw [List.length_take, List.length_drop] at hr3
  simp only [List.length_nil] at hr3
  refine Tot.gd (by decide) (Tot.gd (by decide) (Tot.gd (by omega) ?_))
  refine Tot.bnd (W79 r3.2.1.1 _ (by omega)) fun r4 hr4 => ?_
  rw [List.length_take, List.length_drop] at hr4
  refine Tot.bnd (W80 r4.2.1.1 _ (by omega)) fun r5 hr5 => ?_
  refine Tot.bnd (W21 _ h0) fun r6 hr6 => ?_
  obtain ⟨g1, g2⟩ := hr6
  dsimp only at g2
  refine Tot.bnd (W80 r5.2.1.1 _ (by omega)) fun r7 hr7 => ?_
  rw [g1, g2]
  refine Tot.count k.length (fun i v => v.1.1 = (i : Int) ∧ v.2.1.1.length ≤ 1000 + 1000 * i ∧ v.2.2.1 = k) ⟨rfl, by dsimp only; omega, rfl⟩ (by omega) ?_
  rintro i ⟨⟨t', ⟨⟩⟩, ⟨b, ⟨⟩⟩, k', ⟨⟩⟩ hi ⟨ht, hb, hk'⟩ rec hrec
  dsimp only at ht hb hk' ⊢
  subst ht
  subst hk'
  refine Tot.brd (fun hlt => ?_) (fun hge => ?_)
  · have hi' : i < k'.length := by omega
    refine Tot.gd (by omega) (Tot.gd (by omega) (Tot.idx (by omega) fun a ha => ?_))
    rw [Int.toNat_natCast] at ha
    obtain ⟨q1, q2, q3⟩ := hk.2 a (List.mem_of_getElem? ha)
    refine Tot.bnd (W81 b _ (by omega)) fun r11 hr11 => Tot.bnd (W80 r11.2.1.1 _ (by omega)) fun r12 hr12 => ?_
    refine Tot.count a.2.1.length (fun j v => v.1.1 = (j : Int) ∧ v.2.1.1.length ≤ 1000 + 1000 * i + 18 + 59 * j) ⟨rfl, by dsimp only; omega⟩ (by omega) ?_
    rintro j ⟨⟨t', ⟨⟩⟩, ⟨b2, ⟨⟩⟩, ⟨⟩⟩ hj ⟨ht, hb2⟩ rec2 hrec2
    dsimp only at ht hb2 ⊢
    subst ht
    refine Tot.brd (fun hlt2 => ?_) (fun hge2 => ?_)
    · refine Tot.gd (by omega) (Tot.gd (by omega) (Tot.idxP (P := VOk) (by omega) q3 fun v hv => ?_))
      have hv' : v.1.length = 32 := hv
      refine Tot.gd (by decide) (Tot.gd (by decide) (Tot.gd (by omega) ?_))
      refine Tot.bnd (W79 b2 _ (by omega)) fun r16 hr16 => ?_
      rw [List.length_take, List.length_drop] at hr16
      refine Tot.bnd (W80 r16.2.1.1 _ (by omega)) fun r17 hr17 => Tot.bnd (W81 r17.2.1.1 _ (by omega)) fun r18 hr18 => ?_
      repeat' (first | refine Tot.gdE ?_)
      refine hrec2 (by omega) _ ⟨?_, ?_⟩
      · dsimp only; (first | decide | omega | (simp (disch := omega) only [w64_id, few, few9, List.length_set, List.length_append, List.length_take, List.length_drop, List.length_replicate, List.length_cons, List.length_nil, Int.toNat_natCast]; done) | (simp (disch := omega) only [w64_id, few, few9, List.length_set, List.length_append, List.length_take, List.length_drop, List.length_replicate, List.length_cons, List.length_nil, Int.toNat_natCast]; omega) | (simp [few, few9] <;> omega))
      · dsimp only; omega
    · repeat' (first | refine Tot.gdE ?_)
      refine hrec hi' _ ⟨?_, ?_, ?_⟩
      · dsimp only; (first | decide | omega | (simp (disch := omega) only [w64_id, few, few9, List.length_set, List.length_append, List.length_take, List.length_drop, List.length_replicate, List.length_cons, List.length_nil, Int.toNat_natCast]; done) | (simp (disch := omega) only [w64_id, few, few9, List.length_set, List.length_append, List.length_take, List.length_drop, List.length_replicate, List.length_cons, List.length_nil, Int.toNat_natCast]; omega) | (simp [few, few9] <;> omega))
      · dsimp only; omega
      · dsimp only; rw [Int.toNat_natCast]; exact set_same ha
  · refine Tot.bnd (W82 _ h0) fun r19 hr19 => ?_
    obtain ⟨e1, e2, e3⟩ := hr19
    refine Tot.bnd (W80 b _ (by omega)) fun r20 hr20 => Tot.bnd (W80 r20.2.1.1 _ (by omega)) fun r21 hr21 => ?_
    rw [e1]
    refine Tot.count r19.1.1.length (fun j v => v.1.1 = (j : Int) ∧ v.2.1.1.length ≤ 20000 + 400 * j) ⟨rfl, by dsimp only; omega⟩ (by omega) ?_
    rintro j ⟨⟨t', ⟨⟩⟩, ⟨b2, ⟨⟩⟩, ⟨⟩⟩ hj ⟨ht, hb2⟩ rec2 hrec2
    dsimp only at ht hb2 ⊢
    subst ht
    refine Tot.brd (fun hlt2 => ?_) (fun hge2 => Tot.s rfl)
    refine Tot.gd (by omega) (Tot.idxP (P := fun x => ReOk x.2.2.1) (by omega) e3 fun x hx => ?_)
    refine Tot.bnd (W80 b2 _ (by omega)) fun r25 hr25 => Tot.bnd (W80 r25.2.1.1 _ (by omega)) fun r26 hr26 => Tot.bnd (W83 _ hx.2) fun r27 hr27 => ?_
    refine Tot.gd (by unfold few; omega) ?_
    repeat' (first | refine Tot.gdE ?_)
    refine hrec2 (by omega) _ ⟨?_, ?_⟩
    · dsimp only; (first | decide | omega | (simp (disch := omega) only [w64_id, few, few9, List.length_set, List.length_append, List.length_take, List.length_drop, List.length_replicate, List.length_cons, List.length_nil, Int.toNat_natCast]; done) | (simp (disch := omega) only [w64_id, few, few9, List.length_set, List.length_append, List.length_take, List.length_drop, List.length_replicate, List.length_cons, List.length_nil, Int.toNat_natCast]; omega) | (simp [few, few9] <;> omega))
    · dsimp only; rw [List.length_append]; omega
theorem W37 (c : CmdT) : Tot (F37 () (c, ())) (fun r => r.1.1.2.2.2.2.2.1.length ≤ 200) := by
  unfold F37
  dsimp only
  refine Tot.jnP (fun v => v.2.1.2.2.2.2.2.1.length ≤ 200) ?_ ?_
  · rintro ⟨⟨⟩, c2, ⟨⟩⟩ h2
    dsimp only at h2 ⊢
    refine Tot.jnP (fun v => v.2.1.2.2.2.2.2.1.length ≤ 200 ∧ v.2.1.2.2.2.2.2.2.1.length ≤ 200) ?_ ?_
    · rintro ⟨⟨⟩, c3, ⟨⟩⟩ ⟨h3, h4⟩
      dsimp only at h3 h4 ⊢
      exact Tot.gd (by unfold few; omega) (Tot.gd (by unfold few; omega) (Tot.s (by simpa using h3)))
    · intro j hj
      refine Tot.brd (fun hgt => ?_) (fun hle => ?_)
      · refine Tot.gd (by decide) (Tot.gd (by decide) (Tot.gd (by omega) ?_))
        repeat' (first | refine Tot.gdE ?_)
        exact hj _ ⟨h2, by dsimp only; rw [List.length_drop, List.length_take]; omega⟩
      · repeat' (first | refine Tot.gdE ?_)
        exact hj _ ⟨h2, by dsimp only; omega⟩
  · intro j hj
    refine Tot.brd (fun hgt => ?_) (fun hle => ?_)
    · refine Tot.gd (by decide) (Tot.gd (by decide) (Tot.gd (by omega) ?_))
      repeat' (first | refine Tot.gdE ?_)
      exact hj _ (by dsimp only; rw [List.length_drop, List.length_take]; omega)
    · repeat' (first | refine Tot.gdE ?_)
      exact hj _ (by dsimp only; omega)
theorem W35 (c : CmdT) (b : By) (hb : b.length ≤ 200) : Tot (F35 () (c, (b, ()))) (fun r => r.1.1.2.2.2.2.2.1.length ≤ 200) := by
  unfold F35
  dsimp only
  refine Tot.bnd (W37 _) fun r hr => ?_
  refine Tot.jnP (fun _ => True) ?_ ?_
  · rintro ⟨⟨o, ⟨⟩⟩, ⟨⟩⟩ -
    dsimp only
    exact Tot.br (fun _ => Tot.gd (by unfold few; omega) (Tot.s (by simpa using hb))) (fun _ => Tot.s hr)
  · intro j hj
    refine Tot.br (fun _ => ?_) (fun _ => Tot.br (fun _ => ?_) (fun _ => ?_)) <;>
    · repeat' (first | refine Tot.gdE ?_)
      exact hj _ trivial
end Go.GX
namespace Go.GX
open Go.RowKit Go.SL
set_option linter.unusedVariables false
set_option linter.unusedSimpArgs false
set_option maxRecDepth 4000
theorem stNew (s : SrcT) (hs : SrcOk s) (hc : s.2.2.1 = 1) : StOk (s, (([], ()), (([], (1, ())), ()))) :=
  ⟨⟨hs, by rw [hc]; decide, by rw [hc]; decide⟩, ⟨by simp, by simp⟩, by simp, by simp, by simp, by simp⟩
theorem law10 (hsh : F14 () () = some ((true, ()), ())) (b : By) (l : List CmdT) (c : CmdT) : F10 (b, (l, (c, ()))) () = some ((true, ()), ()) := by
  refine Tot.get ?_
  unfold F10
  dsimp only
  rw [hsh, bnd_s]
  refine Tot.bnd (V16 b) fun r0 hr0 => ?_
  refine Tot.bnd (V15 r0.1.1 (by omega)) fun r1 hr1 => ?_
  obtain ⟨s, hs, hc, he⟩ := hr1
  rw [he]
  dsimp only
  rw [show (!true) = false from rfl, br_f, br_f]
  refine Tot.count 15 (fun i v => v.1.1 = (i : Int) ∧ StOk v.2.1) ⟨rfl, stNew s hs hc⟩ (by decide) ?_
  rintro i ⟨⟨t, ⟨⟩⟩, st, ⟨⟩⟩ hi ⟨ht, hst⟩ rec hrec
  dsimp only at ht hst ⊢
  subst ht
  refine Tot.brd (fun hlt => ?_) (fun hge => ?_)
  · refine Tot.br (fun h15 => ?_) (fun h15 => ?_)
    · have h15' : (i : Int) < 15 := by simpa using h15
      refine Tot.gd (by omega) (Tot.idx (by omega) fun a _ => ?_)
      refine Tot.bnd (W35 a [] (by simp)) fun r8 hr8 => ?_
      refine Tot.bnd (W18 st r8.1.1 hst (by omega)) fun r9 hr9 => Tot.gdE (hrec (by omega) _ ⟨?_, hr9.1⟩)
      dsimp only; (first | decide | omega | (simp (disch := omega) only [w64_id, few, few9, List.length_set, List.length_append, List.length_take, List.length_drop, List.length_replicate, List.length_cons, List.length_nil, Int.toNat_natCast]; done) | (simp (disch := omega) only [w64_id, few, few9, List.length_set, List.length_append, List.length_take, List.length_drop, List.length_replicate, List.length_cons, List.length_nil, Int.toNat_natCast]; omega) | (simp [few, few9] <;> omega))
    · obtain ⟨e0, hE, hS⟩ := W36 st hst
      rw [hE, bnd_s, hS]
      refine Tot.bnd (W37 c) fun r11 hr11 => ?_
      refine Tot.bnd (W18 st r11.1.1 hst (by omega)) fun r12 hr12 => ?_
      obtain ⟨d1, d2, d3, d4⟩ := hr12
      refine Tot.jnP (fun v => v.1.1 = true → Ref r12.1.1.1) ?_ ?_
      · rintro ⟨⟨v, ⟨⟩⟩, ⟨⟩⟩ hv
        dsimp only at hv ⊢
        cases v with
        | false => rw [show (!false) = true from rfl, br_t]; exact Tot.s rfl
        | true =>
          obtain ⟨g1, g2, g3, g4⟩ := d3 (hv rfl)
          rw [show (!true) = false from rfl, br_f, g1, hE, bnd_s, g2, g3, g4, show (e0.1.1 == e0.1.1) = true from by simp, br_t, show (cond true ((0 : Int) == 0) false) = true from rfl, br_t, br_t]
          exact Tot.s rfl
      · intro j hj
        refine Tot.br (fun h => ?_) (fun _ => Tot.br (fun h => ?_) (fun _ => ?_))
        · repeat' (first | refine Tot.gdE ?_)
          exact hj _ (fun _ => .inl (by simpa using h))
        · repeat' (first | refine Tot.gdE ?_)
          exact hj _ (fun _ => .inr (.inr (by simpa using h)))
        · repeat' (first | refine Tot.gdE ?_)
          exact hj _ (fun h => .inr (.inl (by simpa using h)))
  · obtain ⟨e0, hE, hS⟩ := W36 st hst
    rw [hE, bnd_s, hS]
    refine Tot.bnd (W37 c) fun r11 hr11 => ?_
    refine Tot.bnd (W18 st r11.1.1 hst (by omega)) fun r12 hr12 => ?_
    obtain ⟨d1, d2, d3, d4⟩ := hr12
    refine Tot.jnP (fun v => v.1.1 = true → Ref r12.1.1.1) ?_ ?_
    · rintro ⟨⟨v, ⟨⟩⟩, ⟨⟩⟩ hv
      dsimp only at hv ⊢
      cases v with
      | false => rw [show (!false) = true from rfl, br_t]; exact Tot.s rfl
      | true =>
        obtain ⟨g1, g2, g3, g4⟩ := d3 (hv rfl)
        rw [show (!true) = false from rfl, br_f, g1, hE, bnd_s, g2, g3, g4, show (e0.1.1 == e0.1.1) = true from by simp, br_t, show (cond true ((0 : Int) == 0) false) = true from rfl, br_t, br_t]
        exact Tot.s rfl
    · intro j hj
      refine Tot.br (fun h => ?_) (fun _ => Tot.br (fun h => ?_) (fun _ => ?_))
      · repeat' (first | refine Tot.gdE ?_)
        exact hj _ (fun _ => .inl (by simpa using h))
      · repeat' (first | refine Tot.gdE ?_)
        exact hj _ (fun _ => .inr (.inr (by simpa using h)))
      · repeat' (first | refine Tot.gdE ?_)
        exact hj _ (fun h => .inr (.inl (by simpa using h)))
end Go.GX
