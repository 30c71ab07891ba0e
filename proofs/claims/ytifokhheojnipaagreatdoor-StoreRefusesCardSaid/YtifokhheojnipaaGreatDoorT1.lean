/- AES and GCM, plainly: that they tell something, and of what length. -/
import Derived.Test.YtifokhheojnipaaGreatDoorZ2
set_option linter.unusedVariables false
set_option linter.unusedSimpArgs false
set_option linter.unnecessarySimpa false
namespace Go.GX
open Go.RowKit Go.SL
set_option linter.unusedVariables false
set_option linter.unusedSimpArgs false
set_option maxRecDepth 20000 in
theorem W255 (x : BitVec 8) : Tot (F255 (x, ()) ()) (fun _ => True) := by
  unfold F255
  exact Tot.idx (Nat.lt_of_lt_of_le x.isLt (by decide)) fun a _ => Tot.s trivial
theorem W237 (x : BitVec 8) : Tot (F237 (x, ()) ()) (fun _ => True) := Tot.s trivial
theorem W236 (w : By) (h : w.length = 4) : Tot (F236 (w, ()) ()) (fun r => r.1.1.length = 4) := by
  unfold F236
  dsimp only
  repeat' (first | refine Tot.gd (by decide) ?_ | refine Tot.idx (by omega) (fun _ _ => ?_) | refine Tot.bnd (W255 _) (fun _ _ => ?_))
  exact Tot.s (by simp)
theorem W218 (n : By) (c : BitVec 32) (h : n.length = 12) : Tot (F218 (n, (c, ())) ()) (fun r => r.1.1.length = 16) := by
  have hov : (ovl (List.replicate 16 0#8) 0 (List.take 16 (List.take 12 (List.drop 0 n)))).length = 16 := by rw [ovl_len] <;> simp <;> omega
  unfold F218
  dsimp only
  repeat' (first | refine Tot.gd (by first | decide | omega | (simp only [List.length_set]; omega)) ?_)
  exact Tot.s (by simp only [List.length_set]; exact hov)
theorem W219 (b : By) (h : b.length = 16) : Tot (F219 (b, ()) ()) (fun r => r.1.1.length = 16) := by
  unfold F219
  dsimp only
  repeat' (first | refine Tot.gd (by first | decide | omega | (simp only [List.length_set]; omega)) ?_ | refine Tot.idx (by omega) (fun _ _ => ?_))
  exact Tot.s (by simp only [List.length_set]; exact h)
theorem W222 (a b : By) (ha : a.length = 16) (hb : b.length = 16) : Tot (F222 (a, (b, ())) ()) (fun r => r.1.1.length = 16) := by
  unfold F222
  dsimp only
  refine Tot.count 16 (fun i v => v.1.1 = (i : Int) ∧ v.2.1.length = 16) ⟨rfl, ha⟩ (by decide) ?_
  rintro i ⟨⟨t, ⟨⟩⟩, w, ⟨⟩⟩ hi ⟨ht, hw⟩ k hk
  dsimp only at ht hw ⊢
  subst ht
  refine Tot.brd (fun hlt => ?_) (fun hge => Tot.s hw)
  repeat' (first | refine Tot.gdE ?_ | refine Tot.gd (by (first | decide | omega | (simp (disch := omega) only [w64_id, few, few9, List.length_set, List.length_append, List.length_take, List.length_drop, List.length_replicate, List.length_cons, List.length_nil, Int.toNat_natCast]; done) | (simp (disch := omega) only [w64_id, few, few9, List.length_set, List.length_append, List.length_take, List.length_drop, List.length_replicate, List.length_cons, List.length_nil, Int.toNat_natCast]; omega) | (simp [few, few9] <;> omega))) ?_ | refine Tot.idx (by (first | decide | omega | (simp (disch := omega) only [w64_id, few, few9, List.length_set, List.length_append, List.length_take, List.length_drop, List.length_replicate, List.length_cons, List.length_nil, Int.toNat_natCast]; done) | (simp (disch := omega) only [w64_id, few, few9, List.length_set, List.length_append, List.length_take, List.length_drop, List.length_replicate, List.length_cons, List.length_nil, Int.toNat_natCast]; omega) | (simp [few, few9] <;> omega))) (fun _ _ => ?_))
  refine hk (by omega) _ ⟨?_, ?_⟩
  · dsimp only; (first | decide | omega | (simp (disch := omega) only [w64_id, few, few9, List.length_set, List.length_append, List.length_take, List.length_drop, List.length_replicate, List.length_cons, List.length_nil, Int.toNat_natCast]; done) | (simp (disch := omega) only [w64_id, few, few9, List.length_set, List.length_append, List.length_take, List.length_drop, List.length_replicate, List.length_cons, List.length_nil, Int.toNat_natCast]; omega) | (simp [few, few9] <;> omega))
  · dsimp only; (first | decide | omega | (simp (disch := omega) only [w64_id, few, few9, List.length_set, List.length_append, List.length_take, List.length_drop, List.length_replicate, List.length_cons, List.length_nil, Int.toNat_natCast]; done) | (simp (disch := omega) only [w64_id, few, few9, List.length_set, List.length_append, List.length_take, List.length_drop, List.length_replicate, List.length_cons, List.length_nil, Int.toNat_natCast]; omega) | (simp [few, few9] <;> omega))
theorem W256 (a : By) (ha : a.length = 4) : Tot (F256 (a, ()) ()) (fun r => r.1.1.length = 4) := by
  unfold F256
  dsimp only
  repeat' (first | refine Tot.gd (by decide) ?_ | refine Tot.idx (by omega) (fun _ _ => ?_))
  refine Tot.count 4 (fun i v => v.1.1 = (i : Int) ∧ v.2.1.length = 4) ⟨rfl, by simp⟩ (by decide) ?_
  rintro i ⟨⟨t, ⟨⟩⟩, w, ⟨⟩⟩ hi ⟨ht, hw⟩ k hk
  dsimp only at ht hw ⊢
  subst ht
  refine Tot.brd (fun hlt => ?_) (fun hge => Tot.s hw)
  have e1 : Go.SL.w64 ((i : Int) + 1) = ((i + 1 : Nat) : Int) := by rw [w64_id (by omega) (by omega)]; push_cast; rfl
  rw [e1, tm4]
  have hm := Nat.mod_lt (i + 1) (show 4 > 0 by decide)
  repeat' (first | refine Tot.gdE ?_ | refine Tot.gd (by (first | decide | omega | (simp (disch := omega) only [w64_id, few, few9, List.length_set, List.length_append, List.length_take, List.length_drop, List.length_replicate, List.length_cons, List.length_nil, Int.toNat_natCast]; done) | (simp (disch := omega) only [w64_id, few, few9, List.length_set, List.length_append, List.length_take, List.length_drop, List.length_replicate, List.length_cons, List.length_nil, Int.toNat_natCast]; omega) | (simp [few, few9] <;> omega))) ?_ | refine Tot.idx (by (first | decide | omega | (simp (disch := omega) only [w64_id, few, few9, List.length_set, List.length_append, List.length_take, List.length_drop, List.length_replicate, List.length_cons, List.length_nil, Int.toNat_natCast]; done) | (simp (disch := omega) only [w64_id, few, few9, List.length_set, List.length_append, List.length_take, List.length_drop, List.length_replicate, List.length_cons, List.length_nil, Int.toNat_natCast]; omega) | (simp [few, few9] <;> omega))) (fun _ _ => ?_) | refine Tot.bnd (W237 _) (fun _ _ => ?_))
  refine hk (by omega) _ ⟨?_, ?_⟩
  · rfl
  · dsimp only; (first | decide | omega | (simp (disch := omega) only [w64_id, few, few9, List.length_set, List.length_append, List.length_take, List.length_drop, List.length_replicate, List.length_cons, List.length_nil, Int.toNat_natCast]; done) | (simp (disch := omega) only [w64_id, few, few9, List.length_set, List.length_append, List.length_take, List.length_drop, List.length_replicate, List.length_cons, List.length_nil, Int.toNat_natCast]; omega) | (simp [few, few9] <;> omega))
theorem tm16 (j : Nat) : Int.tmod (j : Int) 16 = ((j % 16 : Nat) : Int) := rfl
theorem W238 (s k : By) (l : Bool) (hs : s.length = 16) (hk : k.length = 16) : Tot (F238 (s, (k, (l, ()))) ()) (fun r => r.1.1.length = 16) := by
  unfold F238
  dsimp only
  refine Tot.count 4 (fun i v => v.1.1 = (i : Int) ∧ v.2.1.length = 16) ⟨rfl, by simp⟩ (by decide) ?_
  rintro c ⟨⟨t, ⟨⟩⟩, o, ⟨⟩⟩ hc ⟨ht, ho⟩ rec hrec
  dsimp only at ht ho ⊢
  subst ht
  refine Tot.brd (fun hlt => ?_) (fun hge => Tot.s ho)
  refine Tot.count 4 (fun i v => v.1.1 = (i : Int) ∧ v.2.1.length = 4) ⟨rfl, by simp⟩ (by decide) ?_
  rintro i ⟨⟨t, ⟨⟩⟩, a, ⟨⟩⟩ hi ⟨ht, ha⟩ rec2 hrec2
  dsimp only at ht ha ⊢
  subst ht
  refine Tot.brd (fun hlt2 => ?_) (fun hge2 => ?_)
  · have e1 : Go.SL.w64 (Go.SL.w64 (4 * Go.SL.w64 ((c : Int) + i)) + i) = ((4 * (c + i) + i : Nat) : Int) := by
      rw [w64_id (z := (c : Int) + i) (by omega) (by omega), w64_id (z := 4 * ((c : Int) + i)) (by omega) (by omega), w64_id (by omega) (by omega)]; push_cast; rfl
    rw [e1, tm16]
    have hm := Nat.mod_lt (4 * (c + i) + i) (show 16 > 0 by decide)
    repeat' (first | refine Tot.gdE ?_ | refine Tot.gd (by (first | decide | omega | (simp (disch := omega) only [w64_id, few, few9, List.length_set, List.length_append, List.length_take, List.length_drop, List.length_replicate, List.length_cons, List.length_nil, Int.toNat_natCast]; done) | (simp (disch := omega) only [w64_id, few, few9, List.length_set, List.length_append, List.length_take, List.length_drop, List.length_replicate, List.length_cons, List.length_nil, Int.toNat_natCast]; omega) | (simp [few, few9] <;> omega))) ?_ | refine Tot.idx (by (first | decide | omega | (simp (disch := omega) only [w64_id, few, few9, List.length_set, List.length_append, List.length_take, List.length_drop, List.length_replicate, List.length_cons, List.length_nil, Int.toNat_natCast]; done) | (simp (disch := omega) only [w64_id, few, few9, List.length_set, List.length_append, List.length_take, List.length_drop, List.length_replicate, List.length_cons, List.length_nil, Int.toNat_natCast]; omega) | (simp [few, few9] <;> omega))) (fun _ _ => ?_) | refine Tot.bnd (W255 _) (fun _ _ => ?_))
    refine hrec2 (by omega) _ ⟨?_, ?_⟩
    · dsimp only; (first | decide | omega | (simp (disch := omega) only [w64_id, few, few9, List.length_set, List.length_append, List.length_take, List.length_drop, List.length_replicate, List.length_cons, List.length_nil, Int.toNat_natCast]; done) | (simp (disch := omega) only [w64_id, few, few9, List.length_set, List.length_append, List.length_take, List.length_drop, List.length_replicate, List.length_cons, List.length_nil, Int.toNat_natCast]; omega) | (simp [few, few9] <;> omega))
    · dsimp only; (first | decide | omega | (simp (disch := omega) only [w64_id, few, few9, List.length_set, List.length_append, List.length_take, List.length_drop, List.length_replicate, List.length_cons, List.length_nil, Int.toNat_natCast]; done) | (simp (disch := omega) only [w64_id, few, few9, List.length_set, List.length_append, List.length_take, List.length_drop, List.length_replicate, List.length_cons, List.length_nil, Int.toNat_natCast]; omega) | (simp [few, few9] <;> omega))
  · have fin : ∀ a : By, a.length = 4 → Tot (iter (fun (v9 : ((Int) × Unit) × (List (BitVec 8)) × Unit) => fun r10 => br (decide (v9.1.1 < 4))
 (gd (0 ≤ v9.1.1) <| gd (Int.toNat v9.1.1 < 4) <| bnd (a[Int.toNat v9.1.1]?) fun a11 => gd (0 ≤ Go.SL.w64 (Go.SL.w64 (4 * (c : Int)) + v9.1.1)) <| gd (Int.toNat (Go.SL.w64 (Go.SL.w64 (4 * (c : Int)) + v9.1.1)) < 16) <| bnd (k[Int.toNat (Go.SL.w64 (Go.SL.w64 (4 * (c : Int)) + v9.1.1))]?) fun a12 => gd (0 ≤ Go.SL.w64 (Go.SL.w64 (4 * (c : Int)) + v9.1.1)) <| gd (Int.toNat (Go.SL.w64 (Go.SL.w64 (4 * (c : Int)) + v9.1.1)) < 16) <| gd (Int.toNat (Go.SL.w64 (Go.SL.w64 (4 * (c : Int)) + v9.1.1)) < (List.length v9.2.1)) <| gdE (a = a) <| gdE ((List.replicate 16 0#8 : List (BitVec 8)) = List.replicate 16 0#8) <| gdE (k = k) <| gdE (s = s) <| r10 ((Go.SL.w64 (v9.1.1 + 1), ()), (List.set v9.2.1 (Int.toNat (Go.SL.w64 (Go.SL.w64 (4 * (c : Int)) + v9.1.1))) (a11 ^^^ a12), ())))
 (gdE ((List.replicate 16 0#8 : List (BitVec 8)) = List.replicate 16 0#8) <| gdE (k = k) <| gdE (s = s) <| rec ((Go.SL.w64 ((c : Int) + 1), ()), (v9.2.1, ())))) ((0, ()), (o, ()))) (fun r => r.1.1.length = 16) := by
      intro a ha
      refine Tot.count 4 (fun i v => v.1.1 = (i : Int) ∧ v.2.1.length = 16) ⟨rfl, ho⟩ (by decide) ?_
      rintro i ⟨⟨t, ⟨⟩⟩, p, ⟨⟩⟩ hi ⟨ht, hp⟩ rec3 hrec3
      dsimp only at ht hp ⊢
      subst ht
      refine Tot.brd (fun hlt3 => ?_) (fun hge3 => ?_)
      · have e2 : Go.SL.w64 (Go.SL.w64 (4 * (c : Int)) + i) = ((4 * c + i : Nat) : Int) := by
          rw [w64_id (z := 4 * (c : Int)) (by omega) (by omega), w64_id (by omega) (by omega)]; push_cast; rfl
        rw [e2]
        repeat' (first | refine Tot.gdE ?_ | refine Tot.gd (by (first | decide | omega | (simp (disch := omega) only [w64_id, few, few9, List.length_set, List.length_append, List.length_take, List.length_drop, List.length_replicate, List.length_cons, List.length_nil, Int.toNat_natCast]; done) | (simp (disch := omega) only [w64_id, few, few9, List.length_set, List.length_append, List.length_take, List.length_drop, List.length_replicate, List.length_cons, List.length_nil, Int.toNat_natCast]; omega) | (simp [few, few9] <;> omega))) ?_ | refine Tot.idx (by (first | decide | omega | (simp (disch := omega) only [w64_id, few, few9, List.length_set, List.length_append, List.length_take, List.length_drop, List.length_replicate, List.length_cons, List.length_nil, Int.toNat_natCast]; done) | (simp (disch := omega) only [w64_id, few, few9, List.length_set, List.length_append, List.length_take, List.length_drop, List.length_replicate, List.length_cons, List.length_nil, Int.toNat_natCast]; omega) | (simp [few, few9] <;> omega))) (fun _ _ => ?_))
        refine hrec3 (by omega) _ ⟨?_, ?_⟩
        · dsimp only; (first | decide | omega | (simp (disch := omega) only [w64_id, few, few9, List.length_set, List.length_append, List.length_take, List.length_drop, List.length_replicate, List.length_cons, List.length_nil, Int.toNat_natCast]; done) | (simp (disch := omega) only [w64_id, few, few9, List.length_set, List.length_append, List.length_take, List.length_drop, List.length_replicate, List.length_cons, List.length_nil, Int.toNat_natCast]; omega) | (simp [few, few9] <;> omega))
        · dsimp only; (first | decide | omega | (simp (disch := omega) only [w64_id, few, few9, List.length_set, List.length_append, List.length_take, List.length_drop, List.length_replicate, List.length_cons, List.length_nil, Int.toNat_natCast]; done) | (simp (disch := omega) only [w64_id, few, few9, List.length_set, List.length_append, List.length_take, List.length_drop, List.length_replicate, List.length_cons, List.length_nil, Int.toNat_natCast]; omega) | (simp [few, few9] <;> omega))
      · refine Tot.gdE (Tot.gdE (Tot.gdE (hrec (by omega) _ ⟨?_, hp⟩)))
        dsimp only; (first | decide | omega | (simp (disch := omega) only [w64_id, few, few9, List.length_set, List.length_append, List.length_take, List.length_drop, List.length_replicate, List.length_cons, List.length_nil, Int.toNat_natCast]; done) | (simp (disch := omega) only [w64_id, few, few9, List.length_set, List.length_append, List.length_take, List.length_drop, List.length_replicate, List.length_cons, List.length_nil, Int.toNat_natCast]; omega) | (simp [few, few9] <;> omega))
    refine Tot.jn ?_
    refine Tot.br (fun _ => ?_) (fun _ => ?_)
    · refine Tot.bnd (W256 a ha) fun r hr => ?_
      exact Tot.gdE (Tot.gdE (Tot.gdE (Tot.gdE (fin _ hr))))
    · exact Tot.gdE (Tot.gdE (Tot.gdE (Tot.gdE (fin _ ha))))
end Go.GX
namespace Go.GX
open Go.RowKit Go.SL
set_option linter.unusedVariables false
set_option linter.unusedSimpArgs false
set_option maxRecDepth 4000
variable {α β : Type}
theorem Tot.idxP {l : List α} {k : Nat} {P : α → Prop} {f : α → Option β} {R : β → Prop} (h : k < l.length) (hp : ∀ a ∈ l, P a) (g : ∀ a, P a → Tot (f a) R) : Tot (GX.bnd (l[k]?) f) R :=
  Tot.idx h fun a ha => g a (hp a (List.mem_of_getElem? ha))
theorem Tot.jnP {j : α → Option β} {f : (α → Option β) → Option β} {R : β → Prop} (P : α → Prop) (hj : ∀ a, P a → Tot (j a) R) (h : ∀ k : α → Option β, (∀ a, P a → Tot (k a) R) → Tot (f k) R) : Tot (GX.jn j f) R := Tot.jn (h j hj)
theorem Tot.bth {x y : Option α} {R : α → Prop} (h : Tot x R) (g : x = y) : Tot (GX.bth x y) R := by rw [← g, bth_self]; exact h
theorem all_set {l : List α} {P : α → Prop} (h : ∀ a ∈ l, P a) (i : Nat) (x : α) (hx : P x) : ∀ a ∈ l.set i x, P a := fun a ha => (List.mem_or_eq_of_mem_set ha).elim (h a) (fun e => e ▸ hx)
theorem Tot.gdT {x : Option α} {R : α → Prop} (h : Tot x R) : Tot (GX.gdE True x) R := by rw [gdE_T']; exact h
def Sch (l : List By) : Prop := l.length = 15 ∧ ∀ a ∈ l, a.length = 16
theorem W217 (k : By) (hk : k.length = 32) : Tot (F217 () (k, ())) (fun r => Sch r.1.1) := by
  unfold F217
  dsimp only
  refine Tot.count 60 (fun i v => v.1.1 = (i : Int) ∧ v.2.1.length = 60 ∧ ∀ a ∈ v.2.1, a.length = 4) ⟨rfl, by simp, ?_⟩ (by decide) ?_
  · intro a ha
    have : a = [0#8, 0#8, 0#8, 0#8] := List.eq_of_mem_replicate ha
    subst this; rfl
  rintro i ⟨⟨t, rc, ⟨⟩⟩, w, ⟨⟩⟩ hi ⟨ht, hw, h4⟩ rec hrec
  dsimp only at ht hw h4 ⊢
  subst ht
  refine Tot.brd (fun hlt => ?_) (fun hge => ?_)
  · refine Tot.brd (fun h8 => ?_) (fun h8 => ?_)
    · have e1 : Go.SL.w64 (4 * (i : Int)) = ((4 * i : Nat) : Int) := by rw [w64_id (by omega) (by omega)]; push_cast; rfl
      have e2 : Go.SL.w64 (((4 * i : Nat) : Int) + 4) = ((4 * i + 4 : Nat) : Int) := by rw [w64_id (by omega) (by omega)]; push_cast; rfl
      rw [e1, e2]
      simp only [Int.toNat_natCast]
      have hl : (List.drop (4 * i) (List.take (4 * i + 4) k)).length = 4 := by rw [List.length_drop, List.length_take]; omega
      repeat' (first | refine Tot.gdE ?_ | refine Tot.gd (by (first | decide | omega | (simp (disch := omega) only [w64_id, few, few9, List.length_set, List.length_append, List.length_take, List.length_drop, List.length_replicate, List.length_cons, List.length_nil, Int.toNat_natCast]; done) | (simp (disch := omega) only [w64_id, few, few9, List.length_set, List.length_append, List.length_take, List.length_drop, List.length_replicate, List.length_cons, List.length_nil, Int.toNat_natCast]; omega) | (simp [few, few9] <;> omega))) ?_ | refine Tot.idx (by (first | decide | omega | (simp (disch := omega) only [w64_id, few, few9, List.length_set, List.length_append, List.length_take, List.length_drop, List.length_replicate, List.length_cons, List.length_nil, Int.toNat_natCast]; done) | (simp (disch := omega) only [w64_id, few, few9, List.length_set, List.length_append, List.length_take, List.length_drop, List.length_replicate, List.length_cons, List.length_nil, Int.toNat_natCast]; omega) | (simp [few, few9] <;> omega))) (fun _ _ => ?_))
      refine Tot.gdT (hrec (by omega) _ ⟨?_, ?_, ?_⟩)
      · dsimp only; (first | decide | omega | (simp (disch := omega) only [w64_id, few, few9, List.length_set, List.length_append, List.length_take, List.length_drop, List.length_replicate, List.length_cons, List.length_nil, Int.toNat_natCast]; done) | (simp (disch := omega) only [w64_id, few, few9, List.length_set, List.length_append, List.length_take, List.length_drop, List.length_replicate, List.length_cons, List.length_nil, Int.toNat_natCast]; omega) | (simp [few, few9] <;> omega))
      · dsimp only; (first | decide | omega | (simp (disch := omega) only [w64_id, few, few9, List.length_set, List.length_append, List.length_take, List.length_drop, List.length_replicate, List.length_cons, List.length_nil, Int.toNat_natCast]; done) | (simp (disch := omega) only [w64_id, few, few9, List.length_set, List.length_append, List.length_take, List.length_drop, List.length_replicate, List.length_cons, List.length_nil, Int.toNat_natCast]; omega) | (simp [few, few9] <;> omega))
      · exact all_set h4 _ _ (by rw [List.length_take, hl]; rfl)
    · refine Tot.gd (by (first | decide | omega | (simp (disch := omega) only [w64_id, few, few9, List.length_set, List.length_append, List.length_take, List.length_drop, List.length_replicate, List.length_cons, List.length_nil, Int.toNat_natCast]; done) | (simp (disch := omega) only [w64_id, few, few9, List.length_set, List.length_append, List.length_take, List.length_drop, List.length_replicate, List.length_cons, List.length_nil, Int.toNat_natCast]; omega) | (simp [few, few9] <;> omega))) (Tot.gd (by (first | decide | omega | (simp (disch := omega) only [w64_id, few, few9, List.length_set, List.length_append, List.length_take, List.length_drop, List.length_replicate, List.length_cons, List.length_nil, Int.toNat_natCast]; done) | (simp (disch := omega) only [w64_id, few, few9, List.length_set, List.length_append, List.length_take, List.length_drop, List.length_replicate, List.length_cons, List.length_nil, Int.toNat_natCast]; omega) | (simp [few, few9] <;> omega))) (Tot.idxP (P := fun a => a.length = 4) (by (first | decide | omega | (simp (disch := omega) only [w64_id, few, few9, List.length_set, List.length_append, List.length_take, List.length_drop, List.length_replicate, List.length_cons, List.length_nil, Int.toNat_natCast]; done) | (simp (disch := omega) only [w64_id, few, few9, List.length_set, List.length_append, List.length_take, List.length_drop, List.length_replicate, List.length_cons, List.length_nil, Int.toNat_natCast]; omega) | (simp [few, few9] <;> omega))) h4 fun a ha => ?_))
      refine Tot.jnP (fun p => p.2.1.length = 4) ?_ ?_
      · rintro ⟨⟨rc2, ⟨⟩⟩, b, ⟨⟩⟩ hb
        dsimp only at hb ⊢
        refine Tot.count 4 (fun i v => v.1.1 = (i : Int) ∧ v.2.1.length = 4) ⟨rfl, hb⟩ (by decide) ?_
        rintro j ⟨⟨t, ⟨⟩⟩, c, ⟨⟩⟩ hj ⟨ht, hc⟩ rec2 hrec2
        dsimp only at ht hc ⊢
        subst ht
        refine Tot.brd (fun hlt2 => ?_) (fun hge2 => ?_)
        · refine Tot.gd (by (first | decide | omega | (simp (disch := omega) only [w64_id, few, few9, List.length_set, List.length_append, List.length_take, List.length_drop, List.length_replicate, List.length_cons, List.length_nil, Int.toNat_natCast]; done) | (simp (disch := omega) only [w64_id, few, few9, List.length_set, List.length_append, List.length_take, List.length_drop, List.length_replicate, List.length_cons, List.length_nil, Int.toNat_natCast]; omega) | (simp [few, few9] <;> omega))) (Tot.gd (by (first | decide | omega | (simp (disch := omega) only [w64_id, few, few9, List.length_set, List.length_append, List.length_take, List.length_drop, List.length_replicate, List.length_cons, List.length_nil, Int.toNat_natCast]; done) | (simp (disch := omega) only [w64_id, few, few9, List.length_set, List.length_append, List.length_take, List.length_drop, List.length_replicate, List.length_cons, List.length_nil, Int.toNat_natCast]; omega) | (simp [few, few9] <;> omega))) (Tot.idx (by (first | decide | omega | (simp (disch := omega) only [w64_id, few, few9, List.length_set, List.length_append, List.length_take, List.length_drop, List.length_replicate, List.length_cons, List.length_nil, Int.toNat_natCast]; done) | (simp (disch := omega) only [w64_id, few, few9, List.length_set, List.length_append, List.length_take, List.length_drop, List.length_replicate, List.length_cons, List.length_nil, Int.toNat_natCast]; omega) | (simp [few, few9] <;> omega))) fun _ _ => Tot.gd (by (first | decide | omega | (simp (disch := omega) only [w64_id, few, few9, List.length_set, List.length_append, List.length_take, List.length_drop, List.length_replicate, List.length_cons, List.length_nil, Int.toNat_natCast]; done) | (simp (disch := omega) only [w64_id, few, few9, List.length_set, List.length_append, List.length_take, List.length_drop, List.length_replicate, List.length_cons, List.length_nil, Int.toNat_natCast]; omega) | (simp [few, few9] <;> omega))) (Tot.gd (by (first | decide | omega | (simp (disch := omega) only [w64_id, few, few9, List.length_set, List.length_append, List.length_take, List.length_drop, List.length_replicate, List.length_cons, List.length_nil, Int.toNat_natCast]; done) | (simp (disch := omega) only [w64_id, few, few9, List.length_set, List.length_append, List.length_take, List.length_drop, List.length_replicate, List.length_cons, List.length_nil, Int.toNat_natCast]; omega) | (simp [few, few9] <;> omega))) (Tot.gd (by (first | decide | omega | (simp (disch := omega) only [w64_id, few, few9, List.length_set, List.length_append, List.length_take, List.length_drop, List.length_replicate, List.length_cons, List.length_nil, Int.toNat_natCast]; done) | (simp (disch := omega) only [w64_id, few, few9, List.length_set, List.length_append, List.length_take, List.length_drop, List.length_replicate, List.length_cons, List.length_nil, Int.toNat_natCast]; omega) | (simp [few, few9] <;> omega))) (Tot.gd (by (first | decide | omega | (simp (disch := omega) only [w64_id, few, few9, List.length_set, List.length_append, List.length_take, List.length_drop, List.length_replicate, List.length_cons, List.length_nil, Int.toNat_natCast]; done) | (simp (disch := omega) only [w64_id, few, few9, List.length_set, List.length_append, List.length_take, List.length_drop, List.length_replicate, List.length_cons, List.length_nil, Int.toNat_natCast]; omega) | (simp [few, few9] <;> omega))) (Tot.idxP (P := fun a => a.length = 4) (by (first | decide | omega | (simp (disch := omega) only [w64_id, few, few9, List.length_set, List.length_append, List.length_take, List.length_drop, List.length_replicate, List.length_cons, List.length_nil, Int.toNat_natCast]; done) | (simp (disch := omega) only [w64_id, few, few9, List.length_set, List.length_append, List.length_take, List.length_drop, List.length_replicate, List.length_cons, List.length_nil, Int.toNat_natCast]; omega) | (simp [few, few9] <;> omega))) h4 fun d hd => ?_))))))
          repeat' (first | refine Tot.gdE ?_ | refine Tot.gd (by (first | decide | omega | (simp (disch := omega) only [w64_id, few, few9, List.length_set, List.length_append, List.length_take, List.length_drop, List.length_replicate, List.length_cons, List.length_nil, Int.toNat_natCast]; done) | (simp (disch := omega) only [w64_id, few, few9, List.length_set, List.length_append, List.length_take, List.length_drop, List.length_replicate, List.length_cons, List.length_nil, Int.toNat_natCast]; omega) | (simp [few, few9] <;> omega))) ?_ | refine Tot.idx (by (first | decide | omega | (simp (disch := omega) only [w64_id, few, few9, List.length_set, List.length_append, List.length_take, List.length_drop, List.length_replicate, List.length_cons, List.length_nil, Int.toNat_natCast]; done) | (simp (disch := omega) only [w64_id, few, few9, List.length_set, List.length_append, List.length_take, List.length_drop, List.length_replicate, List.length_cons, List.length_nil, Int.toNat_natCast]; omega) | (simp [few, few9] <;> omega))) (fun _ _ => ?_))
          refine hrec2 (by omega) _ ⟨?_, ?_⟩
          · dsimp only; (first | decide | omega | (simp (disch := omega) only [w64_id, few, few9, List.length_set, List.length_append, List.length_take, List.length_drop, List.length_replicate, List.length_cons, List.length_nil, Int.toNat_natCast]; done) | (simp (disch := omega) only [w64_id, few, few9, List.length_set, List.length_append, List.length_take, List.length_drop, List.length_replicate, List.length_cons, List.length_nil, Int.toNat_natCast]; omega) | (simp [few, few9] <;> omega))
          · dsimp only; (first | decide | omega | (simp (disch := omega) only [w64_id, few, few9, List.length_set, List.length_append, List.length_take, List.length_drop, List.length_replicate, List.length_cons, List.length_nil, Int.toNat_natCast]; done) | (simp (disch := omega) only [w64_id, few, few9, List.length_set, List.length_append, List.length_take, List.length_drop, List.length_replicate, List.length_cons, List.length_nil, Int.toNat_natCast]; omega) | (simp [few, few9] <;> omega))
        · repeat' (first | refine Tot.gdE ?_ | refine Tot.gd (by (first | decide | omega | (simp (disch := omega) only [w64_id, few, few9, List.length_set, List.length_append, List.length_take, List.length_drop, List.length_replicate, List.length_cons, List.length_nil, Int.toNat_natCast]; done) | (simp (disch := omega) only [w64_id, few, few9, List.length_set, List.length_append, List.length_take, List.length_drop, List.length_replicate, List.length_cons, List.length_nil, Int.toNat_natCast]; omega) | (simp [few, few9] <;> omega))) ?_ | refine Tot.idx (by (first | decide | omega | (simp (disch := omega) only [w64_id, few, few9, List.length_set, List.length_append, List.length_take, List.length_drop, List.length_replicate, List.length_cons, List.length_nil, Int.toNat_natCast]; done) | (simp (disch := omega) only [w64_id, few, few9, List.length_set, List.length_append, List.length_take, List.length_drop, List.length_replicate, List.length_cons, List.length_nil, Int.toNat_natCast]; omega) | (simp [few, few9] <;> omega))) (fun _ _ => ?_))
          refine hrec (by omega) _ ⟨?_, ?_, ?_⟩
          · dsimp only; (first | decide | omega | (simp (disch := omega) only [w64_id, few, few9, List.length_set, List.length_append, List.length_take, List.length_drop, List.length_replicate, List.length_cons, List.length_nil, Int.toNat_natCast]; done) | (simp (disch := omega) only [w64_id, few, few9, List.length_set, List.length_append, List.length_take, List.length_drop, List.length_replicate, List.length_cons, List.length_nil, Int.toNat_natCast]; omega) | (simp [few, few9] <;> omega))
          · dsimp only; (first | decide | omega | (simp (disch := omega) only [w64_id, few, few9, List.length_set, List.length_append, List.length_take, List.length_drop, List.length_replicate, List.length_cons, List.length_nil, Int.toNat_natCast]; done) | (simp (disch := omega) only [w64_id, few, few9, List.length_set, List.length_append, List.length_take, List.length_drop, List.length_replicate, List.length_cons, List.length_nil, Int.toNat_natCast]; omega) | (simp [few, few9] <;> omega))
          · exact all_set h4 _ _ hc
      · intro j hj
        refine Tot.gd (by decide) (Tot.br (fun _ => ?_) (fun _ => Tot.br (fun _ => ?_) (fun _ => ?_)))
        · repeat' (first | refine Tot.gdE ?_ | refine Tot.gd (by (first | decide | omega | (simp (disch := omega) only [w64_id, few, few9, List.length_set, List.length_append, List.length_take, List.length_drop, List.length_replicate, List.length_cons, List.length_nil, Int.toNat_natCast]; done) | (simp (disch := omega) only [w64_id, few, few9, List.length_set, List.length_append, List.length_take, List.length_drop, List.length_replicate, List.length_cons, List.length_nil, Int.toNat_natCast]; omega) | (simp [few, few9] <;> omega))) ?_ | refine Tot.idx (by (first | decide | omega | (simp (disch := omega) only [w64_id, few, few9, List.length_set, List.length_append, List.length_take, List.length_drop, List.length_replicate, List.length_cons, List.length_nil, Int.toNat_natCast]; done) | (simp (disch := omega) only [w64_id, few, few9, List.length_set, List.length_append, List.length_take, List.length_drop, List.length_replicate, List.length_cons, List.length_nil, Int.toNat_natCast]; omega) | (simp [few, few9] <;> omega))) (fun _ _ => ?_))
          refine Tot.bnd (W236 _ (by simp)) fun r hr => ?_
          refine Tot.gd (by (first | decide | omega | (simp (disch := omega) only [w64_id, few, few9, List.length_set, List.length_append, List.length_take, List.length_drop, List.length_replicate, List.length_cons, List.length_nil, Int.toNat_natCast]; done) | (simp (disch := omega) only [w64_id, few, few9, List.length_set, List.length_append, List.length_take, List.length_drop, List.length_replicate, List.length_cons, List.length_nil, Int.toNat_natCast]; omega) | (simp [few, few9] <;> omega))) (Tot.gd (by (first | decide | omega | (simp (disch := omega) only [w64_id, few, few9, List.length_set, List.length_append, List.length_take, List.length_drop, List.length_replicate, List.length_cons, List.length_nil, Int.toNat_natCast]; done) | (simp (disch := omega) only [w64_id, few, few9, List.length_set, List.length_append, List.length_take, List.length_drop, List.length_replicate, List.length_cons, List.length_nil, Int.toNat_natCast]; omega) | (simp [few, few9] <;> omega))) (Tot.idx (by (first | decide | omega | (simp (disch := omega) only [w64_id, few, few9, List.length_set, List.length_append, List.length_take, List.length_drop, List.length_replicate, List.length_cons, List.length_nil, Int.toNat_natCast]; done) | (simp (disch := omega) only [w64_id, few, few9, List.length_set, List.length_append, List.length_take, List.length_drop, List.length_replicate, List.length_cons, List.length_nil, Int.toNat_natCast]; omega) | (simp [few, few9] <;> omega))) fun _ _ => Tot.gd (by (first | decide | omega | (simp (disch := omega) only [w64_id, few, few9, List.length_set, List.length_append, List.length_take, List.length_drop, List.length_replicate, List.length_cons, List.length_nil, Int.toNat_natCast]; done) | (simp (disch := omega) only [w64_id, few, few9, List.length_set, List.length_append, List.length_take, List.length_drop, List.length_replicate, List.length_cons, List.length_nil, Int.toNat_natCast]; omega) | (simp [few, few9] <;> omega))) (Tot.gd (by (first | decide | omega | (simp (disch := omega) only [w64_id, few, few9, List.length_set, List.length_append, List.length_take, List.length_drop, List.length_replicate, List.length_cons, List.length_nil, Int.toNat_natCast]; done) | (simp (disch := omega) only [w64_id, few, few9, List.length_set, List.length_append, List.length_take, List.length_drop, List.length_replicate, List.length_cons, List.length_nil, Int.toNat_natCast]; omega) | (simp [few, few9] <;> omega))) (Tot.gd (by (first | decide | omega | (simp (disch := omega) only [w64_id, few, few9, List.length_set, List.length_append, List.length_take, List.length_drop, List.length_replicate, List.length_cons, List.length_nil, Int.toNat_natCast]; done) | (simp (disch := omega) only [w64_id, few, few9, List.length_set, List.length_append, List.length_take, List.length_drop, List.length_replicate, List.length_cons, List.length_nil, Int.toNat_natCast]; omega) | (simp [few, few9] <;> omega))) (Tot.bnd (W237 _) fun _ _ => Tot.gdE (Tot.gdE (hj _ ?_)))))))
          dsimp only; rw [List.length_set]; exact hr
        · exact Tot.bnd (W236 a ha) fun r hr => Tot.gdE (Tot.gdE (hj _ hr))
        · exact Tot.gdE (Tot.gdE (hj _ ha))
  · refine Tot.count 60 (fun i v => v.1.1 = (i : Int) ∧ Sch v.2.1) ⟨rfl, ?_⟩ (by decide) ?_
    · refine ⟨by simp, ?_⟩
      intro a ha
      have : a = 0#8 :: List.replicate 15 0#8 := List.eq_of_mem_replicate ha
      subst this; simp
    rintro j ⟨⟨t, ⟨⟩⟩, c, ⟨⟩⟩ hj ⟨ht, hc, h16⟩ rec2 hrec2
    dsimp only at ht hc h16 ⊢
    subst ht
    refine Tot.brd (fun hlt2 => ?_) (fun hge2 => Tot.s ⟨hc, h16⟩)
    have e1 : Go.SL.w64 (Int.tdiv (j : Int) 4) = ((j / 4 : Nat) : Int) := by
      have : Int.tdiv (j : Int) 4 = ((j / 4 : Nat) : Int) := rfl
      rw [this, w64_id (by omega) (by omega)]
    have e2 : Go.SL.w64 (4 * Int.tmod (j : Int) 4) = ((4 * (j % 4) : Nat) : Int) := by
      rw [tm4, w64_id (by omega) (by omega)]; push_cast; rfl
    rw [e1, e2]
    simp only [Int.toNat_natCast]
    have hm := Nat.mod_lt j (show 4 > 0 by decide)
    refine Tot.gd (by (first | decide | omega | (simp (disch := omega) only [w64_id, few, few9, List.length_set, List.length_append, List.length_take, List.length_drop, List.length_replicate, List.length_cons, List.length_nil, Int.toNat_natCast]; done) | (simp (disch := omega) only [w64_id, few, few9, List.length_set, List.length_append, List.length_take, List.length_drop, List.length_replicate, List.length_cons, List.length_nil, Int.toNat_natCast]; omega) | (simp [few, few9] <;> omega))) (Tot.idxP (P := fun a => a.length = 4) (by (first | decide | omega | (simp (disch := omega) only [w64_id, few, few9, List.length_set, List.length_append, List.length_take, List.length_drop, List.length_replicate, List.length_cons, List.length_nil, Int.toNat_natCast]; done) | (simp (disch := omega) only [w64_id, few, few9, List.length_set, List.length_append, List.length_take, List.length_drop, List.length_replicate, List.length_cons, List.length_nil, Int.toNat_natCast]; omega) | (simp [few, few9] <;> omega))) h4 fun d hd => ?_)
    repeat' (first | refine Tot.gd (by first | decide | omega) ?_)
    refine Tot.idxP (P := fun a => a.length = 16) (by omega) h16 fun f hf => ?_
    repeat' (first | refine Tot.gdT ?_ | refine Tot.gdE ?_ | refine Tot.gd (by first | decide | omega) ?_)
    refine hrec2 (by omega) _ ⟨?_, ?_, ?_⟩
    · dsimp only; (first | decide | omega | (simp (disch := omega) only [w64_id, few, few9, List.length_set, List.length_append, List.length_take, List.length_drop, List.length_replicate, List.length_cons, List.length_nil, Int.toNat_natCast]; done) | (simp (disch := omega) only [w64_id, few, few9, List.length_set, List.length_append, List.length_take, List.length_drop, List.length_replicate, List.length_cons, List.length_nil, Int.toNat_natCast]; omega) | (simp [few, few9] <;> omega))
    · dsimp only; (first | decide | omega | (simp (disch := omega) only [w64_id, few, few9, List.length_set, List.length_append, List.length_take, List.length_drop, List.length_replicate, List.length_cons, List.length_nil, Int.toNat_natCast]; done) | (simp (disch := omega) only [w64_id, few, few9, List.length_set, List.length_append, List.length_take, List.length_drop, List.length_replicate, List.length_cons, List.length_nil, Int.toNat_natCast]; omega) | (simp [few, few9] <;> omega))
    · refine all_set h16 _ _ ?_
      rw [ovl_len]
      · exact hf
      · simp [hd]; omega
theorem W220 (l : List By) (b : By) (hl : Sch l) (hb : b.length = 16) : Tot (F220 (l, (b, ())) ()) (fun r => r.1.1.length = 16 ∧ r.2.1 = l) := by
  obtain ⟨h15, h16⟩ := hl
  unfold F220
  dsimp only
  refine Tot.gd (by decide) (Tot.gd (by decide) (Tot.idxP (P := fun a => a.length = 16) (by omega) h16 fun a ha => ?_))
  refine Tot.bnd (W222 b a hb ha) fun r hr => ?_
  refine Tot.iter (fun n v => v.1.1 = ((15 - n : Nat) : Int) ∧ n ≤ 14 ∧ v.2.1.length = 16) 14 ⟨rfl, by decide, hr⟩ (by decide) ?_
  rintro n ⟨⟨t, ⟨⟩⟩, c, ⟨⟩⟩ ⟨ht, hn, hc⟩ rec hrec
  dsimp only at ht hc ⊢
  subst ht
  refine Tot.brd (fun hlt => ?_) (fun hge => Tot.s ⟨hc, rfl⟩)
  refine Tot.gd (by (first | decide | omega | (simp (disch := omega) only [w64_id, few, few9, List.length_set, List.length_append, List.length_take, List.length_drop, List.length_replicate, List.length_cons, List.length_nil, Int.toNat_natCast]; done) | (simp (disch := omega) only [w64_id, few, few9, List.length_set, List.length_append, List.length_take, List.length_drop, List.length_replicate, List.length_cons, List.length_nil, Int.toNat_natCast]; omega) | (simp [few, few9] <;> omega))) (Tot.gd (by (first | decide | omega | (simp (disch := omega) only [w64_id, few, few9, List.length_set, List.length_append, List.length_take, List.length_drop, List.length_replicate, List.length_cons, List.length_nil, Int.toNat_natCast]; done) | (simp (disch := omega) only [w64_id, few, few9, List.length_set, List.length_append, List.length_take, List.length_drop, List.length_replicate, List.length_cons, List.length_nil, Int.toNat_natCast]; omega) | (simp [few, few9] <;> omega))) (Tot.idxP (P := fun a => a.length = 16) (by (first | decide | omega | (simp (disch := omega) only [w64_id, few, few9, List.length_set, List.length_append, List.length_take, List.length_drop, List.length_replicate, List.length_cons, List.length_nil, Int.toNat_natCast]; done) | (simp (disch := omega) only [w64_id, few, few9, List.length_set, List.length_append, List.length_take, List.length_drop, List.length_replicate, List.length_cons, List.length_nil, Int.toNat_natCast]; omega) | (simp [few, few9] <;> omega))) h16 fun d hd => ?_))
  refine Tot.bnd (W238 c d _ hc hd) fun r2 hr2 => Tot.gdE (Tot.gdE (hrec (n - 1) _ (by omega) ⟨?_, by omega, hr2⟩))
  dsimp only
  rw [w64_id (by omega) (by omega)]; omega
theorem W221 (b : By) (h : b.length ≤ 1000000) : Tot (F221 (b, ()) ()) (fun r => r.1.1.length ≤ b.length + 15 ∧ r.1.1.length % 16 = 0) := by
  unfold F221
  dsimp only
  have hm := Nat.mod_lt b.length (show 16 > 0 by decide)
  have e0 : (Nat.cast b.length : Int) = (b.length : Int) := rfl
  rw [tm16]
  have e1 : Go.SL.w64 (16 - ((b.length % 16 : Nat) : Int)) = ((16 - b.length % 16 : Nat) : Int) := by rw [w64_id (by omega) (by omega)]; omega
  rw [e1, tm16]
  have hm2 := Nat.mod_lt (16 - b.length % 16) (show 16 > 0 by decide)
  refine Tot.gd (by decide) (Tot.gd (by decide) (Tot.gd (by omega) (Tot.gd ?_ (Tot.s ⟨?_, ?_⟩))))
  · rw [Int.toNat_natCast]; unfold few9; omega
  · dsimp only; rw [List.length_append, List.length_replicate]; omega
  · dsimp only; rw [List.length_append, List.length_replicate]; omega
theorem W257 (b : By) (h : b.length = 16) : Tot (F257 (b, ()) ()) (fun _ => True) := by
  unfold F257
  dsimp only
  refine Tot.count 8 (fun i v => v.1.1 = (i : Int)) rfl (by decide) ?_
  rintro i ⟨⟨t, x, y, ⟨⟩⟩, ⟨⟩⟩ hi ht rec hrec
  dsimp only at ht ⊢
  subst ht
  refine Tot.brd (fun hlt => ?_) (fun hge => Tot.s trivial)
  repeat' (first | refine Tot.gdE ?_ | refine Tot.gd (by (first | decide | omega | (simp (disch := omega) only [w64_id, few, few9, List.length_set, List.length_append, List.length_take, List.length_drop, List.length_replicate, List.length_cons, List.length_nil, Int.toNat_natCast]; done) | (simp (disch := omega) only [w64_id, few, few9, List.length_set, List.length_append, List.length_take, List.length_drop, List.length_replicate, List.length_cons, List.length_nil, Int.toNat_natCast]; omega) | (simp [few, few9] <;> omega))) ?_ | refine Tot.idx (by (first | decide | omega | (simp (disch := omega) only [w64_id, few, few9, List.length_set, List.length_append, List.length_take, List.length_drop, List.length_replicate, List.length_cons, List.length_nil, Int.toNat_natCast]; done) | (simp (disch := omega) only [w64_id, few, few9, List.length_set, List.length_append, List.length_take, List.length_drop, List.length_replicate, List.length_cons, List.length_nil, Int.toNat_natCast]; omega) | (simp [few, few9] <;> omega))) (fun _ _ => ?_))
  refine hrec (by omega) _ ?_
  dsimp only; (first | decide | omega | (simp (disch := omega) only [w64_id, few, few9, List.length_set, List.length_append, List.length_take, List.length_drop, List.length_replicate, List.length_cons, List.length_nil, Int.toNat_natCast]; done) | (simp (disch := omega) only [w64_id, few, few9, List.length_set, List.length_append, List.length_take, List.length_drop, List.length_replicate, List.length_cons, List.length_nil, Int.toNat_natCast]; omega) | (simp [few, few9] <;> omega))
theorem W258 (x y : BitVec 64) : Tot (F258 (x, (y, ())) ()) (fun r => r.1.1.length = 16) := by
  unfold F258
  dsimp only
  refine Tot.count 8 (fun i v => v.1.1 = (i : Int) ∧ v.2.1.length = 16) ⟨rfl, by simp⟩ (by decide) ?_
  rintro i ⟨⟨t, ⟨⟩⟩, c, ⟨⟩⟩ hi ⟨ht, hc⟩ rec hrec
  dsimp only at ht hc ⊢
  subst ht
  refine Tot.brd (fun hlt => ?_) (fun hge => Tot.s hc)
  repeat' (first | refine Tot.gdE ?_ | refine Tot.gd (by (first | decide | omega | (simp (disch := omega) only [w64_id, few, few9, List.length_set, List.length_append, List.length_take, List.length_drop, List.length_replicate, List.length_cons, List.length_nil, Int.toNat_natCast]; done) | (simp (disch := omega) only [w64_id, few, few9, List.length_set, List.length_append, List.length_take, List.length_drop, List.length_replicate, List.length_cons, List.length_nil, Int.toNat_natCast]; omega) | (simp [few, few9] <;> omega))) ?_ | refine Tot.idx (by (first | decide | omega | (simp (disch := omega) only [w64_id, few, few9, List.length_set, List.length_append, List.length_take, List.length_drop, List.length_replicate, List.length_cons, List.length_nil, Int.toNat_natCast]; done) | (simp (disch := omega) only [w64_id, few, few9, List.length_set, List.length_append, List.length_take, List.length_drop, List.length_replicate, List.length_cons, List.length_nil, Int.toNat_natCast]; omega) | (simp [few, few9] <;> omega))) (fun _ _ => ?_))
  refine hrec (by omega) _ ⟨?_, ?_⟩
  · dsimp only; (first | decide | omega | (simp (disch := omega) only [w64_id, few, few9, List.length_set, List.length_append, List.length_take, List.length_drop, List.length_replicate, List.length_cons, List.length_nil, Int.toNat_natCast]; done) | (simp (disch := omega) only [w64_id, few, few9, List.length_set, List.length_append, List.length_take, List.length_drop, List.length_replicate, List.length_cons, List.length_nil, Int.toNat_natCast]; omega) | (simp [few, few9] <;> omega))
  · dsimp only; (first | decide | omega | (simp (disch := omega) only [w64_id, few, few9, List.length_set, List.length_append, List.length_take, List.length_drop, List.length_replicate, List.length_cons, List.length_nil, Int.toNat_natCast]; done) | (simp (disch := omega) only [w64_id, few, few9, List.length_set, List.length_append, List.length_take, List.length_drop, List.length_replicate, List.length_cons, List.length_nil, Int.toNat_natCast]; omega) | (simp [few, few9] <;> omega))
theorem W239 (a b : By) (ha : a.length = 16) (hb : b.length = 16) : Tot (F239 (a, (b, ())) ()) (fun r => r.1.1.length = 16) := by
  unfold F239
  dsimp only
  refine Tot.bnd (W257 a ha) fun p _ => Tot.bnd (W257 b hb) fun q _ => ?_
  refine Tot.count 128 (fun i v => v.1.1 = (i : Int)) rfl (by decide) ?_
  rintro i ⟨⟨t, c0, c1, c2, c3, ⟨⟩⟩, ⟨⟩⟩ hi ht rec hrec
  dsimp only at ht ⊢
  subst ht
  refine Tot.brd (fun hlt => ?_) (fun hge => Tot.bnd (W258 _ _) fun r hr => Tot.s hr)
  refine Tot.jnP (fun _ => True) ?_ ?_
  · rintro ⟨⟨x, ⟨⟩⟩, ⟨⟩⟩ -
    have hm := Nat.mod_lt i (show 64 > 0 by decide)
    have e : Int.tmod (i : Int) 64 = ((i % 64 : Nat) : Int) := rfl
    dsimp only
    rw [e]
    refine Tot.gd (by decide) (Tot.gd (by rw [w64_id (by omega) (by omega)]; omega) (Tot.gdE (Tot.gdE (Tot.gdE (hrec (by omega) _ ?_)))))
    dsimp only; (first | decide | omega | (simp (disch := omega) only [w64_id, few, few9, List.length_set, List.length_append, List.length_take, List.length_drop, List.length_replicate, List.length_cons, List.length_nil, Int.toNat_natCast]; done) | (simp (disch := omega) only [w64_id, few, few9, List.length_set, List.length_append, List.length_take, List.length_drop, List.length_replicate, List.length_cons, List.length_nil, Int.toNat_natCast]; omega) | (simp [few, few9] <;> omega))
  · intro j hj
    exact Tot.br (fun _ => Tot.gdE (Tot.gdE (Tot.gdE (hj _ trivial)))) (fun _ => Tot.gdE (Tot.gdE (Tot.gdE (hj _ trivial))))
theorem W223 (h : By) (hh : h.length = 16) (b : By) (hb : b.length ≤ 10000000) : Tot (F223 (h, ()) (b, ())) (fun r => r.1.1.length = 16) := by
  unfold F223
  dsimp only
  refine Tot.iter (fun n v => v.1.1.length = n ∧ v.2.1.length = 16) b.length ⟨rfl, by simp⟩ (by omega) ?_
  rintro n ⟨⟨t, ⟨⟩⟩, c, ⟨⟩⟩ ⟨ht, hc⟩ rec hrec
  dsimp only at ht hc ⊢
  refine Tot.brd (fun hlt => ?_) (fun hge => Tot.s hc)
  simp only [Int.toNat_natCast]
  repeat' (first | refine Tot.gd (by first | decide | omega) ?_)
  refine Tot.bnd (W222 _ _ hc (by rw [ovl_len] <;> simp <;> omega)) fun r hr => ?_
  refine Tot.bnd (W239 _ _ hr hh) fun r2 hr2 => Tot.gdT (Tot.gdT (hrec (n - min n 16) _ (by omega) ⟨?_, hr2⟩))
  dsimp only
  rw [List.length_drop, List.length_take]; omega
end Go.GX
namespace Go.GX
open Go.RowKit Go.SL
set_option linter.unusedVariables false
set_option linter.unusedSimpArgs false
set_option maxRecDepth 4000
theorem W202 (k n txt : By) (c : BitVec 32) (hk : k.length = 32) (hn : n.length = 12) (hx : txt.length ≤ 100000) : Tot (F202 (k, (n, (c, ()))) (txt, ())) (fun r => r.1.1.length = txt.length) := by
  unfold F202
  dsimp only
  refine Tot.bnd (W217 k hk) fun w hw => ?_
  rw [U171 txt (by omega), bnd_s]
  dsimp only
  refine Tot.bnd (W218 n c hn) fun b0 hb0 => ?_
  refine Tot.count txt.length (fun i v => v.1.1 = (i : Int) ∧ v.2.1.length = 16 ∧ v.2.2.1.length = txt.length ∧ Sch v.2.2.2.1) ⟨rfl, hb0, rfl, hw⟩ (by omega) ?_
  rintro i ⟨⟨t, ⟨⟩⟩, b, t2, sch, ⟨⟩⟩ hi ⟨ht, hb, ht2, hsch⟩ rec hrec
  dsimp only at ht hb ht2 hsch ⊢
  subst ht
  refine Tot.brd (fun hlt => ?_) (fun hge => Tot.s ht2)
  have hi' : i < txt.length := by omega
  have hmin : imin (Go.SL.w64 ((i : Int) + 16)) (Nat.cast t2.length : Int) = ((min (i + 16) txt.length : Nat) : Int) := by
    rw [w64_id (by omega) (by omega), ht2]; unfold imin; split <;> omega
  refine Tot.gd (by decide) (Tot.br (fun _ => ?_) (fun _ => ?_))
  · refine Tot.br (fun _ => ?_) (fun _ => ?_)
    · refine Tot.bnd (W219 b hb) fun r7 hr7 => ?_
      refine Tot.gd (by decide) (Tot.br (fun _ => ?_) (fun _ => ?_))
      · refine Tot.bnd (W220 _ _ hsch hr7) fun r8 hr8 => ?_
        obtain ⟨h8, h8b⟩ := hr8
        refine Tot.gd (by omega) (Tot.gd (by rw [hmin]; omega) (Tot.gd (by rw [hmin]; omega) (Tot.gd (by rw [hmin]; omega) ?_)))
        rw [hmin]
        simp only [Int.toNat_natCast]
        refine Tot.count (min (i + 16) txt.length - i) (fun j v => v.1.1 = (j : Int) ∧ v.2.1.length = txt.length) ⟨rfl, ht2⟩ (by omega) ?_
        rintro j ⟨⟨t, ⟨⟩⟩, c, ⟨⟩⟩ hj ⟨ht, hc⟩ rec2 hrec2
        dsimp only at ht hc ⊢
        subst ht
        refine Tot.brd (fun hlt2 => ?_) (fun hge2 => ?_)
        · have hj' : j < min (i + 16) txt.length - i := by omega
          simp only [Int.toNat_natCast]
          repeat' (first | refine Tot.gdT ?_ | refine Tot.gdE ?_ | refine Tot.gd (by omega) ?_ | refine Tot.idx (by omega) (fun _ _ => ?_))
          refine hrec2 hj' _ ⟨?_, ?_⟩
          · dsimp only; (first | decide | omega | (simp (disch := omega) only [w64_id, few, few9, List.length_set, List.length_append, List.length_take, List.length_drop, List.length_replicate, List.length_cons, List.length_nil, Int.toNat_natCast]; done) | (simp (disch := omega) only [w64_id, few, few9, List.length_set, List.length_append, List.length_take, List.length_drop, List.length_replicate, List.length_cons, List.length_nil, Int.toNat_natCast]; omega) | (simp [few, few9] <;> omega))
          · dsimp only; rw [List.length_set]; exact hc
        · first | refine Tot.gdT (Tot.gdT (hrec hi' _ ⟨?_, ?_, ?_, ?_⟩)) | refine Tot.gdE (Tot.gdE (hrec hi' _ ⟨?_, ?_, ?_, ?_⟩))
          · dsimp only; (first | decide | omega | (simp (disch := omega) only [w64_id, few, few9, List.length_set, List.length_append, List.length_take, List.length_drop, List.length_replicate, List.length_cons, List.length_nil, Int.toNat_natCast]; done) | (simp (disch := omega) only [w64_id, few, few9, List.length_set, List.length_append, List.length_take, List.length_drop, List.length_replicate, List.length_cons, List.length_nil, Int.toNat_natCast]; omega) | (simp [few, few9] <;> omega))
          · first | exact hb | exact hr7
          · exact hc
          · rw [h8b]; exact hsch
      · first | refine Tot.gdT (Tot.gdT (hrec hi' _ ⟨?_, hr7, ht2, hsch⟩)) | refine Tot.gdE (Tot.gdE (hrec hi' _ ⟨?_, hr7, ht2, hsch⟩))
        dsimp only; (first | decide | omega | (simp (disch := omega) only [w64_id, few, few9, List.length_set, List.length_append, List.length_take, List.length_drop, List.length_replicate, List.length_cons, List.length_nil, Int.toNat_natCast]; done) | (simp (disch := omega) only [w64_id, few, few9, List.length_set, List.length_append, List.length_take, List.length_drop, List.length_replicate, List.length_cons, List.length_nil, Int.toNat_natCast]; omega) | (simp [few, few9] <;> omega))
    · refine Tot.gd (by decide) (Tot.br (fun _ => ?_) (fun _ => ?_))
      · refine Tot.bnd (W220 _ _ hsch hb) fun r8 hr8 => ?_
        obtain ⟨h8, h8b⟩ := hr8
        refine Tot.gd (by omega) (Tot.gd (by rw [hmin]; omega) (Tot.gd (by rw [hmin]; omega) (Tot.gd (by rw [hmin]; omega) ?_)))
        rw [hmin]
        simp only [Int.toNat_natCast]
        refine Tot.count (min (i + 16) txt.length - i) (fun j v => v.1.1 = (j : Int) ∧ v.2.1.length = txt.length) ⟨rfl, ht2⟩ (by omega) ?_
        rintro j ⟨⟨t, ⟨⟩⟩, c, ⟨⟩⟩ hj ⟨ht, hc⟩ rec2 hrec2
        dsimp only at ht hc ⊢
        subst ht
        refine Tot.brd (fun hlt2 => ?_) (fun hge2 => ?_)
        · have hj' : j < min (i + 16) txt.length - i := by omega
          simp only [Int.toNat_natCast]
          repeat' (first | refine Tot.gdT ?_ | refine Tot.gdE ?_ | refine Tot.gd (by omega) ?_ | refine Tot.idx (by omega) (fun _ _ => ?_))
          refine hrec2 hj' _ ⟨?_, ?_⟩
          · dsimp only; (first | decide | omega | (simp (disch := omega) only [w64_id, few, few9, List.length_set, List.length_append, List.length_take, List.length_drop, List.length_replicate, List.length_cons, List.length_nil, Int.toNat_natCast]; done) | (simp (disch := omega) only [w64_id, few, few9, List.length_set, List.length_append, List.length_take, List.length_drop, List.length_replicate, List.length_cons, List.length_nil, Int.toNat_natCast]; omega) | (simp [few, few9] <;> omega))
          · dsimp only; rw [List.length_set]; exact hc
        · first | refine Tot.gdT (Tot.gdT (hrec hi' _ ⟨?_, ?_, ?_, ?_⟩)) | refine Tot.gdE (Tot.gdE (hrec hi' _ ⟨?_, ?_, ?_, ?_⟩))
          · dsimp only; (first | decide | omega | (simp (disch := omega) only [w64_id, few, few9, List.length_set, List.length_append, List.length_take, List.length_drop, List.length_replicate, List.length_cons, List.length_nil, Int.toNat_natCast]; done) | (simp (disch := omega) only [w64_id, few, few9, List.length_set, List.length_append, List.length_take, List.length_drop, List.length_replicate, List.length_cons, List.length_nil, Int.toNat_natCast]; omega) | (simp [few, few9] <;> omega))
          · first | exact hb | exact hr7
          · exact hc
          · rw [h8b]; exact hsch
      · first | refine Tot.gdT (Tot.gdT (hrec hi' _ ⟨?_, hb, ht2, hsch⟩)) | refine Tot.gdE (Tot.gdE (hrec hi' _ ⟨?_, hb, ht2, hsch⟩))
        dsimp only; (first | decide | omega | (simp (disch := omega) only [w64_id, few, few9, List.length_set, List.length_append, List.length_take, List.length_drop, List.length_replicate, List.length_cons, List.length_nil, Int.toNat_natCast]; done) | (simp (disch := omega) only [w64_id, few, few9, List.length_set, List.length_append, List.length_take, List.length_drop, List.length_replicate, List.length_cons, List.length_nil, Int.toNat_natCast]; omega) | (simp [few, few9] <;> omega))
  · refine Tot.gd (by decide) ?_
    refine Tot.br (fun _ => ?_) (fun _ => ?_)
    · refine Tot.bnd (W220 _ _ hsch hb) fun r8 hr8 => ?_
      obtain ⟨h8, h8b⟩ := hr8
      refine Tot.gd (by omega) (Tot.gd (by rw [hmin]; omega) (Tot.gd (by rw [hmin]; omega) (Tot.gd (by rw [hmin]; omega) ?_)))
      rw [hmin]
      simp only [Int.toNat_natCast]
      refine Tot.count (min (i + 16) txt.length - i) (fun j v => v.1.1 = (j : Int) ∧ v.2.1.length = txt.length) ⟨rfl, ht2⟩ (by omega) ?_
      rintro j ⟨⟨t, ⟨⟩⟩, c, ⟨⟩⟩ hj ⟨ht, hc⟩ rec2 hrec2
      dsimp only at ht hc ⊢
      subst ht
      refine Tot.brd (fun hlt2 => ?_) (fun hge2 => ?_)
      · have hj' : j < min (i + 16) txt.length - i := by omega
        simp only [Int.toNat_natCast]
        repeat' (first | refine Tot.gdT ?_ | refine Tot.gdE ?_ | refine Tot.gd (by omega) ?_ | refine Tot.idx (by omega) (fun _ _ => ?_))
        refine hrec2 hj' _ ⟨?_, ?_⟩
        · dsimp only; (first | decide | omega | (simp (disch := omega) only [w64_id, few, few9, List.length_set, List.length_append, List.length_take, List.length_drop, List.length_replicate, List.length_cons, List.length_nil, Int.toNat_natCast]; done) | (simp (disch := omega) only [w64_id, few, few9, List.length_set, List.length_append, List.length_take, List.length_drop, List.length_replicate, List.length_cons, List.length_nil, Int.toNat_natCast]; omega) | (simp [few, few9] <;> omega))
        · dsimp only; rw [List.length_set]; exact hc
      · first | refine Tot.gdT (Tot.gdT (hrec hi' _ ⟨?_, ?_, ?_, ?_⟩)) | refine Tot.gdE (Tot.gdE (hrec hi' _ ⟨?_, ?_, ?_, ?_⟩))
        · dsimp only; (first | decide | omega | (simp (disch := omega) only [w64_id, few, few9, List.length_set, List.length_append, List.length_take, List.length_drop, List.length_replicate, List.length_cons, List.length_nil, Int.toNat_natCast]; done) | (simp (disch := omega) only [w64_id, few, few9, List.length_set, List.length_append, List.length_take, List.length_drop, List.length_replicate, List.length_cons, List.length_nil, Int.toNat_natCast]; omega) | (simp [few, few9] <;> omega))
        · first | exact hb | exact hr7
        · exact hc
        · rw [h8b]; exact hsch
    · first | refine Tot.gdT (Tot.gdT (hrec hi' _ ⟨?_, hb, ht2, hsch⟩)) | refine Tot.gdE (Tot.gdE (hrec hi' _ ⟨?_, hb, ht2, hsch⟩))
      dsimp only; (first | decide | omega | (simp (disch := omega) only [w64_id, few, few9, List.length_set, List.length_append, List.length_take, List.length_drop, List.length_replicate, List.length_cons, List.length_nil, Int.toNat_natCast]; done) | (simp (disch := omega) only [w64_id, few, few9, List.length_set, List.length_append, List.length_take, List.length_drop, List.length_replicate, List.length_cons, List.length_nil, Int.toNat_natCast]; omega) | (simp [few, few9] <;> omega))
theorem W203 (k n a x : By) (hk : k.length = 32) (hn : n.length = 12) (ha : a.length ≤ 100000) (hx : x.length ≤ 100000) : Tot (F203 (k, (n, ())) (a, (x, ()))) (fun r => r.1.1.length = 16) := by
  unfold F203
  dsimp only
  refine Tot.bnd (W217 k hk) fun w hw => ?_
  rw [U171 a (by omega), bnd_s]
  dsimp only
  refine Tot.bnd (W221 a (by omega)) fun r4 hr4 => Tot.gd (by unfold few; omega) ?_
  refine Tot.bnd (W221 _ (by rw [List.length_append]; omega)) fun r5 hr5 => ?_
  rw [List.length_append] at hr5
  refine Tot.count 2 (fun i v => v.1.1 = (i : Int) ∧ v.1.2.1.length = r5.1.1.length + 8 * i) ⟨rfl, by dsimp only; omega⟩ (by decide) ?_
  rintro i ⟨⟨t, c, ⟨⟩⟩, ⟨⟩⟩ hi ⟨ht, hc⟩ rec hrec
  dsimp only at ht hc ⊢
  subst ht
  refine Tot.brd (fun hlt => ?_) (fun hge => ?_)
  · have hi' : i < 2 := by simp only [List.length_cons, List.length_nil] at hlt; omega
    refine Tot.gd (by omega) (Tot.gd (by simp only [List.length_cons, List.length_nil]; omega) (Tot.idx (by simp only [List.length_cons, List.length_nil]; omega) fun z _ => ?_))
    refine Tot.count 8 (fun j v => v.1.1 = (j : Int) ∧ v.1.2.1.length = r5.1.1.length + 8 * i + j) ⟨rfl, by dsimp only; omega⟩ (by decide) ?_
    rintro j ⟨⟨t, d, ⟨⟩⟩, ⟨⟩⟩ hj ⟨ht, hd⟩ rec2 hrec2
    dsimp only at ht hd ⊢
    subst ht
    refine Tot.brd (fun hlt2 => ?_) (fun hge2 => ?_)
    · refine Tot.gd (by (first | decide | omega | (simp (disch := omega) only [w64_id, few, few9, List.length_set, List.length_append, List.length_take, List.length_drop, List.length_replicate, List.length_cons, List.length_nil, Int.toNat_natCast]; done) | (simp (disch := omega) only [w64_id, few, few9, List.length_set, List.length_append, List.length_take, List.length_drop, List.length_replicate, List.length_cons, List.length_nil, Int.toNat_natCast]; omega) | (simp [few, few9] <;> omega))) (Tot.gd (by unfold few; simp only [List.length_cons, List.length_nil]; omega) ?_)
      repeat' (first | refine Tot.gdE ?_)
      refine hrec2 (by omega) _ ⟨?_, ?_⟩
      · dsimp only; (first | decide | omega | (simp (disch := omega) only [w64_id, few, few9, List.length_set, List.length_append, List.length_take, List.length_drop, List.length_replicate, List.length_cons, List.length_nil, Int.toNat_natCast]; done) | (simp (disch := omega) only [w64_id, few, few9, List.length_set, List.length_append, List.length_take, List.length_drop, List.length_replicate, List.length_cons, List.length_nil, Int.toNat_natCast]; omega) | (simp [few, few9] <;> omega))
      · dsimp only; rw [List.length_append]; simp only [List.length_cons, List.length_nil]; omega
    · repeat' (first | refine Tot.gdE ?_)
      refine hrec (by omega) _ ⟨?_, ?_⟩
      · dsimp only; (first | decide | omega | (simp (disch := omega) only [w64_id, few, few9, List.length_set, List.length_append, List.length_take, List.length_drop, List.length_replicate, List.length_cons, List.length_nil, Int.toNat_natCast]; done) | (simp (disch := omega) only [w64_id, few, few9, List.length_set, List.length_append, List.length_take, List.length_drop, List.length_replicate, List.length_cons, List.length_nil, Int.toNat_natCast]; omega) | (simp [few, few9] <;> omega))
      · dsimp only; omega
  · refine Tot.bnd (W220 _ _ hw (by simp)) fun r11 hr11 => ?_
    refine Tot.bnd (W223 _ hr11.1 c (by omega)) fun r12 hr12 => ?_
    refine Tot.bnd (W218 n _ hn) fun r13 hr13 => ?_
    refine Tot.bnd (W220 _ _ (by rw [hr11.2]; exact hw) hr13) fun r14 hr14 => ?_
    exact Tot.bnd (W222 _ _ hr12 hr14.1) fun r15 hr15 => Tot.s hr15
theorem W177 (k n a x : By) (hk : k.length = 32) (hn : n.length = 12) (ha : a.length ≤ 100000) (hx : x.length ≤ 100000) : Tot (F177 (k, (n, ())) (a, (x, ()))) (fun r => r.1.1.length = x.length + 16) := by
  unfold F177
  dsimp only
  refine Tot.bnd (W202 k n x _ hk hn hx) fun r2 hr2 => ?_
  refine Tot.bnd (W203 k n a _ hk hn ha (by omega)) fun r3 hr3 => ?_
  repeat' (first | refine Tot.gd (by first | decide | omega | (unfold few; simp only [List.length_take, List.length_drop]; omega)) ?_)
  refine Tot.s ?_
  dsimp only; rw [List.length_append, List.length_take, List.length_drop]; omega
theorem W180 (k n a x : By) (hk : k.length = 32) (hn : n.length = 12) (ha : a.length ≤ 100000) (hx : x.length ≤ 100000) : Tot (F180 (k, (n, ())) (a, (x, ()))) (fun r => r.1.1.length ≤ x.length ∧ (r.1.2.1 = 0 ∨ r.1.2.1 = 3 ∨ r.1.2.1 = 40) ∧ (r.1.2.1 ≠ 0 → r.1.1 = [])) := by
  unfold F180
  dsimp only
  refine Tot.brd (fun _ => Tot.s (by simp)) (fun hge => ?_)
  rw [w64_id (by omega) (by omega)] at hge
  have e1 : Go.SL.w64 ((Nat.cast x.length : Int) - 16) = ((x.length - 16 : Nat) : Int) := by rw [w64_id (by omega) (by omega)]; omega
  rw [e1]
  simp only [Int.toNat_natCast]
  repeat' (first | refine Tot.gd (by first | decide | omega) ?_)
  refine Tot.bth ?_ rfl
  refine Tot.bnd (W203 k n a _ hk hn ha (by rw [List.length_drop, List.length_take]; omega)) fun r2 hr2 => ?_
  refine Tot.count 16 (fun i v => v.1.1 = (i : Int)) rfl (by decide) ?_
  rintro i ⟨⟨t, c, ⟨⟩⟩, ⟨⟩⟩ hi ht rec hrec
  dsimp only at ht ⊢
  subst ht
  refine Tot.brd (fun hlt => ?_) (fun hge2 => ?_)
  · have e2 : Go.SL.w64 (((x.length - 16 : Nat) : Int) + i) = ((x.length - 16 + i : Nat) : Int) := by rw [w64_id (by omega) (by omega)]; omega
    rw [e2]
    simp only [Int.toNat_natCast]
    repeat' (first | refine Tot.gdT ?_ | refine Tot.gdE ?_ | refine Tot.gd (by omega) ?_ | refine Tot.idx (by omega) (fun _ _ => ?_))
    refine hrec (by omega) _ ?_
    dsimp only; (first | decide | omega | (simp (disch := omega) only [w64_id, few, few9, List.length_set, List.length_append, List.length_take, List.length_drop, List.length_replicate, List.length_cons, List.length_nil, Int.toNat_natCast]; done) | (simp (disch := omega) only [w64_id, few, few9, List.length_set, List.length_append, List.length_take, List.length_drop, List.length_replicate, List.length_cons, List.length_nil, Int.toNat_natCast]; omega) | (simp [few, few9] <;> omega))
  · refine Tot.br (fun _ => Tot.s (by simp)) (fun _ => ?_)
    repeat' (first | refine Tot.gd (by first | decide | omega) ?_)
    refine Tot.bnd (W202 k n _ _ hk hn (by rw [List.length_drop, List.length_take]; omega)) fun r7 hr7 => Tot.s ⟨?_, Or.inl rfl, fun h => absurd rfl h⟩
    rw [List.length_drop, List.length_take] at hr7
    dsimp only; omega
end Go.GX
namespace Go.GX
open Go.RowKit Go.SL
set_option linter.unusedVariables false
set_option linter.unusedSimpArgs false
set_option maxRecDepth 20000
variable {α β : Type}
theorem Tot.jnT {j : α → Option β} {f : (α → Option β) → Option β} {R : β → Prop} (hj : ∀ a, Tot (j a) R) (h : ∀ k : α → Option β, (∀ a, Tot (k a) R) → Tot (f k) R) : Tot (GX.jn j f) R := Tot.jn (h j hj)
theorem Tot.b111 {a b c : Int} {f : ((Bool) × Unit) × Unit → Option β} {R : β → Prop} (h : ∀ r, Tot (f r) R) : Tot (GX.bnd (F111 (a, (b, (c, ()))) ()) f) R := by
  rw [U111, bnd_s]; exact h _
theorem W47 (c : CmdT) : Tot (F47 () (c, ())) (fun _ => True) := by
  unfold F47
  repeat' (first | exact Tot.s trivial | (intro h; exact h _) | refine Tot.gdE ?_ | refine Tot.br (fun _ => ?_) (fun _ => ?_) | refine Tot.b111 (fun _ => ?_) | solve_by_elim | refine Tot.jnT (fun a => ?_) (fun j hj => ?_))
theorem W208 (x : BitVec 64) : Tot (F208 (x, ()) ()) (fun r => 0 ≤ r.1.1 ∧ r.1.1 ≤ 64) := by
  unfold F208
  have last : ∀ v : BitVec 8, v.toNat < 256 := fun v => v.isLt
  refine Tot.jnP (fun p => 0 ≤ p.1.1 ∧ p.1.1 ≤ 32) ?_ ?_
  · rintro ⟨⟨a, y, ⟨⟩⟩, ⟨⟩⟩ ⟨h1, h2⟩
    dsimp only at h1 h2 ⊢
    refine Tot.jnP (fun p => 0 ≤ p.1.1 ∧ p.1.1 ≤ 48) ?_ ?_
    · rintro ⟨⟨a, y, ⟨⟩⟩, ⟨⟩⟩ ⟨h1, h2⟩
      dsimp only at h1 h2 ⊢
      refine Tot.br (fun _ => ?_) (fun _ => ?_)
      · refine Tot.idxP (P := fun b : BitVec 8 => b.toNat ≤ 8) ?_ ?_ fun b hb => Tot.s ⟨?_, ?_⟩
        · exact Nat.lt_of_lt_of_le (last _) (by decide)
        · exact fun b hb => of_decide_eq_true (List.all_eq_true.mp (show (List.all _ (fun b : BitVec 8 => decide (b.toNat ≤ 8))) = true from by decide) b hb)
        · dsimp only; rw [w64_id (z := a + 8) (by omega) (by omega), w64_id (by omega) (by omega)]; omega
        · dsimp only; rw [w64_id (z := a + 8) (by omega) (by omega), w64_id (by omega) (by omega)]; omega
      · refine Tot.idxP (P := fun b : BitVec 8 => b.toNat ≤ 8) ?_ ?_ fun b hb => Tot.s ⟨?_, ?_⟩
        · exact Nat.lt_of_lt_of_le (last _) (by decide)
        · exact fun b hb => of_decide_eq_true (List.all_eq_true.mp (show (List.all _ (fun b : BitVec 8 => decide (b.toNat ≤ 8))) = true from by decide) b hb)
        · dsimp only; rw [w64_id (by omega) (by omega)]; omega
        · dsimp only; rw [w64_id (by omega) (by omega)]; omega
    · intro j hj
      refine Tot.br (fun _ => hj _ ⟨?_, ?_⟩) (fun _ => hj _ ⟨h1, by dsimp only; omega⟩)
      · dsimp only; rw [w64_id (by omega) (by omega)]; omega
      · dsimp only; rw [w64_id (by omega) (by omega)]; omega
  · intro j hj
    exact Tot.br (fun _ => hj _ ⟨by dsimp only; omega, by dsimp only; omega⟩) (fun _ => hj _ ⟨by dsimp only; omega, by dsimp only; omega⟩)
theorem W190 (x : BitVec 64) : Tot (F190 (x, ()) ()) (fun r => 0 ≤ r.1.1 ∧ r.1.1 ≤ 64) := by
  unfold F190
  exact Tot.bnd (W208 x) fun r hr => Tot.s hr
theorem W149 (x : Int) (b : By) (hb : b.length ≤ 100000000) : Tot (F149 (x, ()) (b, ())) (fun r => r.1.1.length ≤ b.length + 9) := by
  unfold F149
  dsimp only
  refine Tot.br (fun _ => Tot.s (by simp)) (fun _ => ?_)
  refine Tot.bnd (W190 _) fun r hr => Tot.gd (by decide) ?_
  rw [U171 b (by omega), bnd_s]
  dsimp only
  refine Tot.gd (by unfold few; simp only [List.length_cons, List.length_nil]; omega) ?_
  have hd := Int.ediv_le_ediv (show (0 : Int) < 8 by decide) (show r.1.1 + 7 ≤ 71 by omega)
  have hn : Go.SL.w64 (Int.tdiv (Go.SL.w64 (r.1.1 + 7)) 8) = (((r.1.1 + 7).toNat / 8 : Nat) : Int) := by
    rw [w64_id (z := r.1.1 + 7) (by omega) (by omega)]
    have : r.1.1 + 7 = (((r.1.1 + 7).toNat : Nat) : Int) := by omega
    rw [this]
    have e : Int.tdiv (((r.1.1 + 7).toNat : Nat) : Int) 8 = (((r.1.1 + 7).toNat / 8 : Nat) : Int) := rfl
    rw [e, w64_id (by omega) (by omega)]
    rfl
  rw [hn]
  have h8 : (r.1.1 + 7).toNat / 8 ≤ 8 := by omega
  generalize (r.1.1 + 7).toNat / 8 = m at h8
  rw [w64_id (by omega) (by omega)]
  refine Tot.iter (fun n v => v.1.1 = (n : Int) - 1 ∧ n ≤ m ∧ v.1.2.1.length + n ≤ b.length + 1 + m) m ⟨rfl, Nat.le_refl _, by dsimp only; rw [List.length_append]; simp⟩ (by omega) ?_
  rintro n ⟨⟨t, c, ⟨⟩⟩, ⟨⟩⟩ ⟨ht, hn, hc⟩ rec hrec
  dsimp only at ht hc ⊢
  subst ht
  refine Tot.brd (fun hlt => ?_) (fun hge => Tot.s (by dsimp only; omega))
  refine Tot.gd (by rw [w64_id (by omega) (by omega)]; omega) (Tot.gd (by unfold few; simp only [List.length_cons, List.length_nil]; omega) (Tot.gdE (hrec (n - 1) _ (by omega) ⟨?_, by omega, ?_⟩)))
  · dsimp only; rw [w64_id (by omega) (by omega)]; omega
  · dsimp only; rw [List.length_append]; simp only [List.length_cons, List.length_nil]; omega
theorem W148 (b t : By) (hb : b.length ≤ 100000000) : Tot (F148 () (b, (t, ()))) (fun r => r.1.1.length ≤ b.length + 9 + t.length) := by
  unfold F148
  dsimp only
  refine Tot.brd (fun _ => Tot.s (by simp)) (fun h => ?_)
  refine Tot.bnd (W149 _ b hb) fun r hr => Tot.gd (by unfold few; omega) (Tot.s ?_)
  dsimp only; rw [List.length_append]; omega
theorem W151 (l : List Int) (hl : l.length ≤ 1000) : Tot (F151 () (l, ())) (fun r => r.1.1.length ≤ 9 * l.length) := by
  unfold F151
  dsimp only
  refine Tot.count l.length (fun i v => v.1.1 = (i : Int) ∧ v.1.2.1.length ≤ 9 * i) ⟨rfl, by simp⟩ (by omega) ?_
  rintro i ⟨⟨t, c, ⟨⟩⟩, ⟨⟩⟩ hi ⟨ht, hc⟩ rec hrec
  dsimp only at ht hc ⊢
  subst ht
  refine Tot.brd (fun hlt => ?_) (fun hge => Tot.s (by dsimp only; omega))
  refine Tot.gd (by omega) (Tot.idx (by omega) fun z _ => Tot.bnd (W149 z c (by omega)) fun r hr => hrec (by omega) _ ⟨?_, ?_⟩)
  · dsimp only; (first | decide | omega | (simp (disch := omega) only [w64_id, few, few9, List.length_set, List.length_append, List.length_take, List.length_drop, List.length_replicate, List.length_cons, List.length_nil, Int.toNat_natCast]; done) | (simp (disch := omega) only [w64_id, few, few9, List.length_set, List.length_append, List.length_take, List.length_drop, List.length_replicate, List.length_cons, List.length_nil, Int.toNat_natCast]; omega) | (simp [few, few9] <;> omega))
  · dsimp only; omega
theorem W158 (b : By) (hb : b.length ≤ 1000000) : Tot (F158 () (b, ())) (fun r => r.1.2.1.length ≤ b.length) := by
  have e0 : F171 () (([] : By), ()) = some (([], ()), ()) := U171 [] (by simp)
  unfold F158
  dsimp only
  refine Tot.br (fun _ => ?_) (fun h0 => ?_)
  · rw [e0, bnd_s]; exact Tot.s (by simp)
  have h1 : 0 < b.length := by
    rcases Nat.eq_zero_or_pos b.length with h | h
    · rw [h] at h0; simp at h0
    · exact h
  refine Tot.gd (by decide) (Tot.idx h1 fun v _ => ?_)
  refine Tot.brd (fun _ => ?_) (fun h8 => ?_)
  · rw [e0, bnd_s]; exact Tot.s (by simp)
  have ew : Go.SL.w64 (1 + (Nat.cast (BitVec.toNat v) : Int)) = ((1 + v.toNat : Nat) : Int) := by rw [w64_id (by omega) (by omega)]; omega
  rw [ew]
  refine Tot.brd (fun _ => ?_) (fun hl => ?_)
  · rw [e0, bnd_s]; exact Tot.s (by simp)
  simp only [Int.toNat_natCast]
  have hl' : 1 + v.toNat ≤ b.length := by omega
  have hdl : (List.drop 1 (List.take (1 + v.toNat) b)).length = v.toNat := by rw [List.length_drop, List.length_take]; omega
  refine Tot.gd (by decide) (Tot.gd (by omega) (Tot.gd (by omega) (Tot.gd (by omega) ?_)))
  refine Tot.count v.toNat (fun i v => v.1.1 = (i : Int)) rfl (by omega) ?_
  rintro i ⟨⟨t, z, ⟨⟩⟩, ⟨⟩⟩ hi ht rec hrec
  dsimp only at ht ⊢
  subst ht
  refine Tot.brd (fun hlt => ?_) (fun hge => ?_)
  · have hlt2 : (i : Int) < (Nat.cast (List.drop 1 (List.take (1 + v.toNat) b)).length : Int) := hlt
    rw [hdl] at hlt2
    refine Tot.gd (by omega) (Tot.idx (by rw [hdl]; omega) fun _ _ => hrec (by omega) _ ?_)
    dsimp only; (first | decide | omega | (simp (disch := omega) only [w64_id, few, few9, List.length_set, List.length_append, List.length_take, List.length_drop, List.length_replicate, List.length_cons, List.length_nil, Int.toNat_natCast]; done) | (simp (disch := omega) only [w64_id, few, few9, List.length_set, List.length_append, List.length_take, List.length_drop, List.length_replicate, List.length_cons, List.length_nil, Int.toNat_natCast]; omega) | (simp [few, few9] <;> omega))
  · refine Tot.br (fun _ => ?_) (fun _ => ?_)
    · rw [e0, bnd_s]; exact Tot.s (by simp)
    · refine Tot.bnd (W190 _) fun r hr => Tot.gd (by decide) (Tot.br (fun _ => ?_) (fun _ => ?_))
      · rw [e0, bnd_s]; exact Tot.s (by simp)
      · refine Tot.gd (by omega) (Tot.gd (by omega) (Tot.gd (by omega) ?_))
        rw [U171 _ (by rw [List.length_drop, List.length_take]; omega), bnd_s]
        refine Tot.s ?_
        dsimp only
        rw [List.length_drop, List.length_take]; omega
theorem W176 (x y : Int) (n b : By) (hn : n.length = 12) (hb : b.length ≤ 100000) : Tot (F176 (x, (y, (n, ()))) (b, ())) (fun r => r.1.1.length ≤ b.length + 30) := by
  unfold F176
  dsimp only
  refine Tot.bnd (W149 x [] (by simp)) fun r2 hr2 => Tot.bnd (W149 y _ (by simp at hr2; omega)) fun r3 hr3 => ?_
  refine Tot.gd (by decide) (Tot.gd (by decide) (Tot.gd (by omega) ?_))
  simp only [List.length_nil] at hr2
  refine Tot.bnd (T201 _ (by simp) (by simp; omega)) fun r4 hr4 => Tot.s ?_
  dsimp only
  rw [hr4]
  simp only [List.flatten_cons, List.flatten_nil, List.length_append, List.length_take, List.length_drop, List.length_nil]
  omega
theorem W178 (b : By) (hb : b.length ≤ 1000000) : Tot (F178 () (b, ())) (fun r => r.1.2.2.1.length = 12 ∧ r.1.2.2.2.1.length ≤ 80 ∧ (r.1.2.2.2.2.1 = 0 ∨ r.1.2.2.2.2.1 = 140)) := by
  unfold F178
  dsimp only
  refine Tot.bnd (W158 b hb) fun r2 hr2 => Tot.bnd (W158 _ (by omega)) fun r3 hr3 => ?_
  refine Tot.br (fun _ => Tot.s (by simp)) (fun _ => Tot.br (fun _ => Tot.s (by simp)) (fun _ => Tot.br (fun _ => Tot.s (by simp)) (fun _ => ?_)))
  refine Tot.br (fun _ => Tot.s (by simp)) (fun h28 => Tot.br (fun _ => Tot.s (by simp)) (fun h92 => ?_))
  have a1 : ¬ (Nat.cast (List.length r3.1.2.1) : Int) < 28 := by simpa using h28
  have a2 : ¬ (Nat.cast (List.length r3.1.2.1) : Int) > 92 := by simpa using h92
  repeat' (first | refine Tot.gd (by first | decide | omega) ?_)
  refine Tot.s ⟨?_, ?_, Or.inl rfl⟩
  · dsimp only; rw [ovl_len] <;> simp <;> omega
  · dsimp only; rw [List.length_drop, List.length_take]; omega
end Go.GX
