/- Rows of elements of one cell each, in blocks and behind slices: loads, stores, parts of slices; and how plain functions in Option are taken apart. -/
import Derived.Test.YtjpjejldinpcnaaAU
namespace Go.SL
open Go.RowKit
set_option linter.unusedVariables false
set_option linter.unusedSimpArgs false

@[reducible] def bu8 (x : BitVec 8) : Value := .int .u8 (x.toNat : Int)
@[reducible] def bu16 (x : BitVec 16) : Value := .int .u16 (x.toNat : Int)
@[reducible] def bu32 (x : BitVec 32) : Value := .int .u32 (x.toNat : Int)
@[reducible] def bu64 (x : BitVec 64) : Value := .int .u64 (x.toNat : Int)
@[reducible] def bi64 (x : Int) : Value := .int .i64 x
/-! plain functions: none where Go would panic -/
def lt_ {α β : Type} (e : α) (f : α → β) : β := f e
section
variable {α β : Type}
theorem pl {C : Prop} [Decidable C] {X : Option α} {r : α} (h : (if C then X else none) = some r) : C ∧ X = some r := by
  split at h
  · exact ⟨‹_›, h⟩
  · cases h
theorem bd {x : Option α} {f : α → Option β} {r : β} (h : x.bind f = some r) : ∃ a, x = some a ∧ f a = some r := by
  cases x with
  | none => cases h
  | some a => exact ⟨a, rfl, h⟩
theorem lp {e : α} {f : α → Option β} {r : β} (h : lt_ e f = some r) : ∃ a, a = e ∧ f a = some r := ⟨e, rfl, h⟩
theorem ct {c : Bool} {A B : Option α} {r : α} (hc : c = true) (h : (bif c then A else B) = some r) : A = some r := by rw [hc] at h; exact h
theorem cf {c : Bool} {A B : Option α} {r : α} (hc : c = false) (h : (bif c then A else B) = some r) : B = some r := by rw [hc] at h; exact h
theorem somE {a r : α} (h : some a = some r) : r = a := by cases h; rfl
end
/-! rows -/
section
variable {α : Type} {f : α → Value} {l new : List α} {d x : α} {L L1 L2 L1' L2' ys xs : List Value} {r o n1 m i j : Nat} {v : Value}
def sl (o m : Nat) (l : List α) : List α := (l.drop o).take m
def ov (l : List α) (o : Nat) (new : List α) : List α := l.take o ++ new ++ l.drop (o + new.length)
theorem sl_len {N : Nat} (h : l.length = N) (ho : o + m ≤ N) : (sl o m l).length = m := by
  simp only [sl, List.length_take, List.length_drop]; omega
theorem ov_len {N : Nat} (h : l.length = N) (ho : o + new.length ≤ N) : (ov l o new).length = N := by
  simp only [ov, List.length_append, List.length_take, List.length_drop]; omega
theorem getF (h : r < l.length) : (l.map f)[r]? = some (f (l.getD r d)) := by simp [h]
theorem subF : ∀ j v, ((sl r m l).map f)[j]? = some v → (l.map f)[r + j]? = some v := by
  intro j v h
  simp only [sl, List.getElem?_map, List.getElem?_take, List.getElem?_drop] at h ⊢
  split at h
  · exact h
  · cases h
theorem allF : ∀ j v, L[j]? = some v → L[0 + j]? = some v := by intro j v h; rw [Nat.zero_add]; exact h
theorem getL (h1 : L1.length = n1) (ho : o = n1 + r) (h : L2[r]? = some v) : (L1 ++ L2)[o]? = some v := by
  subst ho; subst h1; rw [List.getElem?_append_right (by omega), Nat.add_sub_cancel_left]; exact h
theorem getR (h : L1[r]? = some v) : (L1 ++ L2)[r]? = some v := by
  rw [List.getElem?_append_left (List.getElem?_eq_some_iff.1 h).1]; exact h
theorem subL (h1 : L1.length = n1) (ho : o = n1 + r) (h : ∀ j v, ys[j]? = some v → L2[r + j]? = some v) : ∀ j v, ys[j]? = some v → (L1 ++ L2)[o + j]? = some v := fun j v hv =>
  getL h1 (by rw [ho, Nat.add_assoc]) (h j v hv)
theorem subR (h : ∀ j v, ys[j]? = some v → L1[r + j]? = some v) : ∀ j v, ys[j]? = some v → (L1 ++ L2)[r + j]? = some v := fun j v hv => getR (h j v hv)
/-- ys laid over L from o on -/
structure Put (L : List Value) (o : Nat) (ys L' : List Value) : Prop where
  le : o + ys.length ≤ L.length
  eq : L' = L.take o ++ ys ++ L.drop (o + ys.length)
theorem putF (h : r < l.length) : Put (l.map f) r [f x] ((l.set r x).map f) := by
  refine ⟨by simp; omega, ?_⟩
  rw [← List.map_take, List.length_singleton, ← List.map_drop, List.set_eq_take_append_cons_drop, if_pos h]
  simp
theorem putA (h : r + new.length ≤ l.length) : Put (l.map f) r (new.map f) ((ov l r new).map f) := by
  refine ⟨by simpa using h, ?_⟩
  simp [ov]
theorem putW (h : ys.length = L.length) : Put L 0 ys ys := ⟨by omega, by rw [Nat.zero_add, h, List.drop_length]; simp⟩
theorem putL (h1 : L1.length = n1) (ho : o = n1 + r) (h : Put L2 r ys L2') : Put (L1 ++ L2) o ys (L1 ++ L2') := by
  subst ho; subst h1
  refine ⟨by rw [List.length_append]; have := h.le; omega, ?_⟩
  rw [h.eq, List.take_append, List.take_of_length_le (show L1.length ≤ L1.length + r by omega), Nat.add_sub_cancel_left, List.drop_append, List.drop_of_length_le (show L1.length ≤ L1.length + r + ys.length by omega), show L1.length + r + ys.length - L1.length = r + ys.length by omega]
  simp [List.append_assoc]
theorem putR (h : Put L1 r ys L1') : Put (L1 ++ L2) r ys (L1' ++ L2) := by
  refine ⟨by rw [List.length_append]; have := h.le; omega, ?_⟩
  rw [h.eq, List.take_append_of_le_length (by have := h.le; omega), List.drop_append_of_le_length h.le]
  simp [List.append_assoc]
theorem put_len (h : Put L o ys L1) : L1.length = L.length := by
  have := h.le
  rw [h.eq]; simp only [List.length_append, List.length_take, List.length_drop]; omega
theorem ones_map (hf : ∀ a, (f a).oneCell' = true) : ∀ u ∈ l.map f, u.oneCell' = true := fun u hu => by
  obtain ⟨a, _, rfl⟩ := List.mem_map.1 hu; exact hf a
theorem ones1 (h : v.oneCell' = true) : ∀ u ∈ [v], u.oneCell' = true := fun u hu => by rw [List.mem_singleton.1 hu]; exact h
theorem ones_app (h1 : ∀ u ∈ L1, u.oneCell' = true) (h2 : ∀ u ∈ L2, u.oneCell' = true) : ∀ u ∈ L1 ++ L2, u.oneCell' = true := fun u hu => by
  rcases List.mem_append.1 hu with h | h
  · exact h1 u h
  · exact h2 u h
end
section
variable {P : Program} {n : Nat} {τ : Fr} {ρ : Operand → Value} {w : World} {dst : Option Tmp} {ty : TypeId} {pos : String} {af : Array Edge} {gd : Option (Nat × Bool)} {K : Value → World → Prop} {p : Pers} {H HH H' : List Assn}
theorem E.v {o : Oper} {a b : Value} (h : Ev P ρ o w a) (e : a = b) : Ev P ρ o w b := e ▸ h
theorem St.cellL {b o : Nat} {L : List Value} {v : Value} {e : TypeId} {fr : Nat × Nat} (s : St p w H) (d : Del (pt b (.cells L.toArray e fr)) H H') (h : L[o]? = some v) : w.cell? ⟨b, o, none⟩ = some v :=
  s.cell d (by rw [List.getElem?_toArray]; exact h)
theorem H.storeL {t e : TypeId} {x y : Operand} {b o m : Nat} {v : Value} {L L' ys : List Value} (hx : (Act.eval (AF n τ)) x = .pointer (some ⟨b, o, none⟩)) (hy : (Act.eval (AF n τ)) y = v)
    (s : St p w HH) (hr : Rep (pt b (.cells L.toArray e)) (pt b (.cells L'.toArray e)) HH H') (hz : (P.info? t).map (·.size) = some m) (hv : v.cells = ys.toArray) (hm : ys.length = m)
    (h1 : ∀ u ∈ ys, u.oneCell' = true) (hp : Put L o ys L') (h : ∀ w', St p w' H' → K undef w') : Hd P n ⟨dst, .store t x y, ty, pos, af, gd⟩ τ w K := by
  have hs : v.cells.size = m := by rw [hv, List.size_toArray]; exact hm
  have hl2 : v.cells.toList = ys := by rw [hv]
  refine H.store (v := v) hx hy s hr (by rw [hs]; exact hz) (by rw [hs, List.size_toArray, ← hm]; exact hp.le) (by rw [hl2]; exact h1) ?_ h
  simp only [over, hl2]; rw [hp.eq]
theorem H.storeOwnL {t e : TypeId} {x y : Operand} {b o k c m : Nat} {v : Value} {L L' ys : List Value} (hx : (Act.eval (AF n τ)) x = .pointer (some ⟨b, o, none⟩)) (hy : (Act.eval (AF n τ)) y = v)
    (s : St p w HH) (hd : Del (Own e 1 (.slice (some ⟨b, 0, none⟩) k c) k L) HH H') (hk : 0 < k) (hz : (P.info? t).map (·.size) = some m) (hv : v.cells = ys.toArray) (hm : ys.length = m)
    (h1 : ∀ u ∈ ys, u.oneCell' = true) (hp : Put L o ys L') (h : ∀ w', St p w' (Own e 1 (.slice (some ⟨b, 0, none⟩) k c) k L' :: H') → K undef w') : Hd P n ⟨dst, .store t x y, ty, pos, af, gd⟩ τ w K := by
  have s1 := s.take hd
  obtain ⟨hl, ⟨A, he, hk0, _⟩ | ⟨g, cap, cur, he, s2, hkc, hcm, hcs, hxx⟩⟩ := s1.ownOpen
  · omega
  · cases he
    have hs : v.cells.size = m := by rw [hv, List.size_toArray]; exact hm
    have hl2 : v.cells.toList = ys := by rw [hv]
    have hle := hp.le
    rw [hl, Nat.mul_one] at hle
    rw [Nat.mul_one] at hcs hxx
    refine H.store (v := v) (c := cur) hx hy s2 .here (by rw [hs]; exact hz) (by rw [hs]; omega) (by rw [hl2]; exact h1) rfl fun w' s3 => ?_
    refine h w' (s3.ownNew hkc hcm ?_ ?_)
    · simp only [over, hl2, List.size_toArray, List.length_append, List.length_take, List.length_drop, Array.length_toList]; omega
    · rw [Nat.mul_one]
      show (cur.toList.take o ++ v.cells.toList ++ cur.toList.drop (o + v.cells.toList.length)).take k = L'
      have hcl : cur.toList.length = c := by rw [Array.length_toList, hcs]
      rw [hl2, hp.eq, ← hxx, List.take_append, List.take_of_length_le (by rw [List.length_append, List.length_take]; omega), List.length_append, List.length_take, List.take_take, Nat.min_eq_left (show o ≤ k by omega), Nat.min_eq_left (show o ≤ cur.toList.length by omega), List.take_drop, show o + ys.length + (k - (o + ys.length)) = k by omega]
/-- what is behind a part of a slice -/
def sbA (X : Option Addr) (c i sz : Nat) : Option Addr := if c = i then X else X.map (·.add (i * sz))
theorem Src.sub {w : World} {X : Option Addr} {m c i j : Nat} {xs : List Value} (h : Src w 1 (.slice X m c) m xs) (hij : i ≤ j) (hj : j ≤ m) : Src w 1 (.slice (sbA X c i 1) (j - i) (c - i)) (j - i) (sl i (j - i) xs) := by
  obtain ⟨hl, X', c', he, hc, hh⟩ := h
  cases he
  refine ⟨by rw [Nat.mul_one, sl_len (N := m) (by rw [hl, Nat.mul_one]) (by omega)], _, _, rfl, by omega, ?_⟩
  rcases hh with rfl | ⟨b, o, rfl, hcell⟩
  · exact .inl (by omega)
  · rcases Nat.eq_zero_or_pos (j - i) with h0 | h0
    · exact .inl h0
    · refine .inr ⟨b, o + i, ?_, fun q u hu => ?_⟩
      · unfold sbA
        rw [if_neg (by omega), Nat.mul_one, Option.map_some, add_lit]
      · have : xs[i + q]? = some u := by
          simp only [sl, List.getElem?_take, List.getElem?_drop] at hu
          split at hu
          · exact hu
          · cases hu
        rw [Nat.add_assoc]; exact hcell _ _ this
theorem run_slice {lo hi mx : Option Operand} {t e : TypeId} {X : Option Addr} {m c sz i j k : Nat} (ht : P.underlying t = some (.slice e)) (hz : (P.info? e).map (·.size) = some sz) (x : Operand)
    (hx : ρ x = .slice X m c) (hlo : (match lo with | none => i = 0 | some y => ρ y = .int .i64 i)) (hhi : (match hi with | none => j = m ∧ mx = none | some y => ρ y = .int .i64 j)) (hmx : (match mx with | none => k = c | some y => ρ y = .int .i64 k)) (hij : i ≤ j) (hjk : j ≤ k) (hkc : k ≤ c) :
    Ev P ρ ⟨dst, .slice t x lo hi mx, ty, pos, af, gd⟩ w (.slice (sbA X k i sz) (j - i) (k - i)) := by
  cases hq : P.info? e with
  | none => simp [hq] at hz
  | some q =>
    have hsz : q.size = sz := by simpa [hq] using hz
    have b1 : ∀ (z y : Nat) (cd : BoundsCode), z ≤ y → (Instr.sliceBound (.int .i64 (z : Int)) y cd).run P w = .ok z w := by
      intro z y cd h
      have h2 : (0 : Int) ≤ (z : Int) ∧ (z : Int) ≤ (y : Int) := ⟨by omega, by omega⟩
      simp [Instr.sliceBound, asIntOf, h2]
    have h1 := b1 i j .sliceB hij
    have h2 := b1 i j .slice3C hij
    have h3 := b1 j k .sliceAcap hjk
    have h4 := b1 j k .slice3B hjk
    have h5 := b1 k c .slice3Acap hkc
    cases lo <;> cases hi <;> cases mx <;> simp only at hlo hhi hmx
    · obtain ⟨rfl, -⟩ := hhi; subst hlo; subst hmx; simp [Ev, execOp, Instr.sliceAt, run_underlying ht, Instr.slice, Instr.sliceBounds, hx, sizeOf, typeInfo, hq, hsz, sbA]
    · exact absurd hhi.2 (by simp)
    · subst hlo; subst hmx; simp [Ev, execOp, Instr.sliceAt, run_underlying ht, Instr.slice, Instr.sliceBounds, hx, hhi, h3, sizeOf, typeInfo, hq, hsz, sbA]
    · subst hlo; simp [Ev, execOp, Instr.sliceAt, run_underlying ht, Instr.slice, Instr.sliceBounds, hx, hhi, hmx, h4, h5, sizeOf, typeInfo, hq, hsz, sbA]
    · obtain ⟨rfl, -⟩ := hhi; subst hmx; simp [Ev, execOp, Instr.sliceAt, run_underlying ht, Instr.slice, Instr.sliceBounds, hx, hlo, h1, sizeOf, typeInfo, hq, hsz, sbA]
    · exact absurd hhi.2 (by simp)
    · subst hmx; simp [Ev, execOp, Instr.sliceAt, run_underlying ht, Instr.slice, Instr.sliceBounds, hx, hlo, hhi, h1, h3, sizeOf, typeInfo, hq, hsz, sbA]
    · simp [Ev, execOp, Instr.sliceAt, run_underlying ht, Instr.slice, Instr.sliceBounds, hx, hlo, hhi, hmx, h2, h4, h5, sizeOf, typeInfo, hq, hsz, sbA]
theorem run_sliceArr {lo hi : Option Operand} {t e : TypeId} {b o N sz i j : Nat} (ht : P.underlying t = some (.array N e)) (hz : (P.info? e).map (·.size) = some sz) (x : Operand)
    (hx : ρ x = .pointer (some ⟨b, o, none⟩)) (hlo : (match lo with | none => i = 0 | some y => ρ y = .int .i64 i)) (hhi : (match hi with | none => j = N | some y => ρ y = .int .i64 j)) (hij : i ≤ j) (hjk : j ≤ N) :
    Ev P ρ ⟨dst, .slice t x lo hi none, ty, pos, af, gd⟩ w (.slice (some ⟨b, if N = i then o else o + i * sz, none⟩) (j - i) (N - i)) := by
  cases hq : P.info? e with
  | none => simp [hq] at hz
  | some q =>
    have hsz : q.size = sz := by simpa [hq] using hz
    have b1 : ∀ (z y : Nat) (cd : BoundsCode), z ≤ y → (Instr.sliceBound (.int .i64 (z : Int)) y cd).run P w = .ok z w := by
      intro z y cd h
      have h2 : (0 : Int) ≤ (z : Int) ∧ (z : Int) ≤ (y : Int) := ⟨by omega, by omega⟩
      simp [Instr.sliceBound, asIntOf, h2]
    have h1 := b1 i j .sliceB hij
    have h3 := b1 j N .sliceAlen hjk
    have hr : (if N = i then (⟨b, o, none⟩ : Addr) else (⟨b, o, none⟩ : Addr).add (i * sz)) = ⟨b, if N = i then o else o + i * sz, none⟩ := by split <;> simp [add_lit]
    cases lo <;> cases hi <;> simp only at hlo hhi
    · subst hlo; subst hhi; simp [Ev, execOp, Instr.sliceAt, Instr.sureAddr, run_underlying ht, Instr.sliceBounds, hx, sizeOf, typeInfo, hq, hsz]
      simpa using hr
    · subst hlo; simp [Ev, execOp, Instr.sliceAt, Instr.sureAddr, run_underlying ht, Instr.sliceBounds, hx, hhi, h3, sizeOf, typeInfo, hq, hsz]
      simpa using hr
    · subst hhi; simp [Ev, execOp, Instr.sliceAt, Instr.sureAddr, run_underlying ht, Instr.sliceBounds, hx, hlo, h1, sizeOf, typeInfo, hq, hsz]
      exact hr
    · simp [Ev, execOp, Instr.sliceAt, Instr.sureAddr, run_underlying ht, Instr.sliceBounds, hx, hlo, hhi, h1, h3, sizeOf, typeInfo, hq, hsz]
      exact hr
end
end Go.SL
