/- Texts of bytes, slices that are made, arrays compared. -/
import Derived.Test.YtjpjejldinpcnaaAW
import Derived.Lib.SlBytesConst
import Derived.ChangeKeysEq
import Derived.Laws.MakeOwn
namespace Go.SL
open Go.RowKit
set_option linter.unusedVariables false
set_option linter.unusedSimpArgs false
/-- bytes as a text -/
def sb (l : List (BitVec 8)) : ByteArray := ⟨(l.map UInt8.ofBitVec).toArray⟩
theorem tmod_rng2 {a : Int} (b : Int) (h : -9223372036854775808 ≤ a ∧ a ≤ 9223372036854775807) : -9223372036854775808 ≤ a.tmod b ∧ a.tmod b ≤ 9223372036854775807 := by
  rcases Int.le_total 0 a with h0 | h0
  · have h1 := Int.tmod_nonneg b h0
    have h2 : (a.tmod b).natAbs ≤ a.natAbs := by rw [Int.natAbs_tmod]; exact Nat.mod_le _ _
    omega
  · have h1 : 0 ≤ (-a).tmod b := Int.tmod_nonneg b (by omega)
    rw [Int.neg_tmod] at h1
    have h2 : (a.tmod b).natAbs ≤ a.natAbs := by rw [Int.natAbs_tmod]; exact Nat.mod_le _ _
    omega
theorem sb_inj {a b : List (BitVec 8)} (h : (sb a).toList = (sb b).toList) : a = b := by
  have hd : (sb a).data = (sb b).data := by
    rw [ByteArray.toList_eq, ByteArray.toList_eq] at h
    exact Array.toList_inj.1 h
  have h2 : (a.map UInt8.ofBitVec) = b.map UInt8.ofBitVec := by
    have := congrArg Array.toList hd
    simpa [sb] using this
  have h3 := congrArg (fun l => l.map UInt8.toBitVec) h2
  simpa [List.map_map, Function.comp_def] using h3
theorem sb_beq (a b : List (BitVec 8)) : ((sb a).toList == (sb b).toList) = (a == b) := by
  rw [Bool.eq_iff_iff, beq_iff_eq, beq_iff_eq]
  exact ⟨sb_inj, fun h => by rw [h]⟩
section
variable {P : Program} {ρ : Operand → Value} {w : World} {dst : Option Tmp} {ty : TypeId} {pos : String} {af : Array Edge} {gd : Option (Nat × Bool)}
theorem bstr_sb (l : List (BitVec 8)) : bstr (l.map fun x => (x.toNat : Int)) = sb l := by
  suffices h : ∀ (l : List (BitVec 8)) (acc : ByteArray), (l.map fun x => (x.toNat : Int)).foldl (fun a n => a.push (UInt8.ofNat n.toNat)) acc = ⟨acc.data ++ (l.map UInt8.ofBitVec).toArray⟩ by
    have := h l ByteArray.empty
    unfold bstr sb
    rw [this]; simp [ByteArray.empty, ByteArray.emptyWithCapacity]; try rfl
  intro l
  induction l with
  | nil => intro acc; simp
  | cons x l ih =>
    intro acc
    have hx : UInt8.ofNat ((x.toNat : Int)).toNat = UInt8.ofBitVec x := by
      apply UInt8.toBitVec_inj.1
      simp
    simp only [List.map_cons, List.foldl_cons, ih]
    rw [hx]
    simp [ByteArray.push]
theorem E.strB {x : Operand} {src dt e : TypeId} {v : Value} {m : Nat} {l : List (BitVec 8)} (hs : P.underlying src = some (.slice e)) (he : P.underlying e = some (.int .u8)) (hd : P.underlying dt = some .string)
    (hx : ρ x = v) (hsrc : Src w 1 v m (l.map bu8)) : Ev P ρ ⟨dst, .convert src dt x, ty, pos, af, gd⟩ w (.string (sb l)) := by
  rw [← bstr_sb]
  refine E.bytesStr hs he hd hx (m := m) ?_
  have : bv (l.map fun x => (x.toNat : Int)) = l.map bu8 := by simp [bv]
  rw [this]; exact hsrc
theorem E.eqlSB {x y : Operand} {t t' : TypeId} {a b : List (BitVec 8)} (hx : ρ x = .string (sb a)) (hy : ρ y = .string (sb b)) : Ev P ρ ⟨dst, .binOp .eql t x y t', ty, pos, af, gd⟩ w (.bool (a == b)) :=
  E.b (E.eqlStr hx hy) (sb_beq a b)
theorem E.neqSB {x y : Operand} {t t' : TypeId} {a b : List (BitVec 8)} (hx : ρ x = .string (sb a)) (hy : ρ y = .string (sb b)) : Ev P ρ ⟨dst, .binOp .neq t x y t', ty, pos, af, gd⟩ w (.bool (a != b)) :=
  E.b (E.neqStr hx hy) (by rw [bne, sb_beq])
theorem eqItems8 {e : TypeId} (he : P.underlying e = some (.int .u8)) (hc : P.cellsOf e = 1) (hp : P.plainKey e = true) (d : Nat) (a b : List (BitVec 8)) (w : World) : ∀ is : List Nat, (∀ i ∈ is, i < a.length ∧ i < b.length) → (Op.eqItems (d + 1) e (P.cellsOf e) (a.map bu8).toArray (b.map bu8).toArray is).run P w = .ok (is.all fun i => a[i]? == b[i]?) w
  | [], _ => by simp [Op.eqItems]
  | i :: is, h => by
    obtain ⟨ha, hb⟩ := h i (by simp)
    have ih := eqItems8 he hc hp d a b w is (fun j hj => h j (by simp [hj]))
    have p1 := run_part_plain (P := P) w hp (xs := (a.map bu8).toArray) (off := i) (v := bu8 a[i]) (by simp [ha])
    have p2 := run_part_plain (P := P) w hp (xs := (b.map bu8).toArray) (off := i) (v := bu8 b[i]) (by simp [hb])
    have p3 := run_equalIn_int (P := P) w d e .u8 .u8 a[i].toNat b[i].toNat he
    rw [hc] at ih ⊢
    simp only [Op.eqItems, Sem.run_bind, Nat.mul_one, p1, p2, p3, Result.andThen_ok, List.all_cons]
    rw [List.getElem?_eq_getElem ha, List.getElem?_eq_getElem hb]
    have hq : (((a[i].toNat : Int)) == (b[i].toNat : Int)) = (some a[i] == some b[i]) := by rw [toNat_beq]; simp
    rw [← hq]
    cases hq2 : (((a[i].toNat : Int)) == (b[i].toNat : Int)) <;> simp [ih, hq2]
theorem equalArr8 {t e : TypeId} {N : Nat} (ht : P.underlying t = some (.array N e)) (he : P.underlying e = some (.int .u8)) (hi : (P.info? e).isSome = true) (hc : P.cellsOf e = 1) (hp : P.plainKey e = true) {a b : List (BitVec 8)} (ha : a.length = N) (hb : b.length = N) (w : World) :
    (Op.equal t (.agg (a.map bu8).toArray) (.agg (b.map bu8).toArray)).run P w = .ok (a == b) w := by
  obtain ⟨i, hi⟩ := Option.isSome_iff_exists.1 hi
  unfold Op.equal Op.maxDepth
  rw [show (10000 : Nat) = 9998 + 1 + 1 from rfl, run_equalIn_array (P := P) (i := i) w (9998 + 1) _ _ ht hi, eqItems8 he hc hp 9998 a b w (List.range N) (fun j hj => by rw [ha, hb]; exact ⟨List.mem_range.1 hj, List.mem_range.1 hj⟩)]
  refine congrArg (fun x => Result.ok x w) ?_
  rw [Bool.eq_iff_iff, beq_iff_eq, List.all_eq_true]
  constructor
  · intro h
    refine List.ext_getElem? fun j => ?_
    by_cases hj : j < N
    · exact eq_of_beq (h j (List.mem_range.2 hj))
    · rw [List.getElem?_eq_none (by rw [ha]; omega), List.getElem?_eq_none (by rw [hb]; omega)]
  · rintro rfl j _; exact beq_self_eq_true _
theorem E.eqlA8 {x y : Operand} {t e t' : TypeId} {N : Nat} (ht : P.underlying t = some (.array N e)) (he : P.underlying e = some (.int .u8)) (hi : (P.info? e).isSome = true) (hc : P.cellsOf e = 1) (hp : P.plainKey e = true) (hg : Program.eqGuardType P P.depth t = false)
    {a b : List (BitVec 8)} (ha : a.length = N) (hb : b.length = N) (hx : ρ x = .agg (a.map bu8).toArray) (hy : ρ y = .agg (b.map bu8).toArray) : Ev P ρ ⟨dst, .binOp .eql t x y t', ty, pos, af, gd⟩ w (.bool (a == b)) := by
  simp [Ev, execOp, eqGuard, binOp, hx, hy, equalArr8 ht he hi hc hp ha hb, hg]
theorem E.neqA8 {x y : Operand} {t e t' : TypeId} {N : Nat} (ht : P.underlying t = some (.array N e)) (he : P.underlying e = some (.int .u8)) (hi : (P.info? e).isSome = true) (hc : P.cellsOf e = 1) (hp : P.plainKey e = true) (hg : Program.eqGuardType P P.depth t = false)
    {a b : List (BitVec 8)} (ha : a.length = N) (hb : b.length = N) (hx : ρ x = .agg (a.map bu8).toArray) (hy : ρ y = .agg (b.map bu8).toArray) : Ev P ρ ⟨dst, .binOp .neq t x y t', ty, pos, af, gd⟩ w (.bool (a != b)) := by
  simp [Ev, execOp, eqGuard, binOp, hx, hy, equalArr8 ht he hi hc hp ha hb, hg, bne]
end
section
variable {P : Program} {n : Nat} {τ : Fr} {w : World} {dst : Option Tmp} {ty : TypeId} {pos : String} {af : Array Edge} {gd : Option (Nat × Bool)} {K : Value → World → Prop} {p : Pers} {H H' HH : List Assn}
/-- a literal's bytes, marked as a text's -/
theorem H.convS {x : Operand} {t e te : TypeId} {b m c : Nat} {C : Array Value} (ht : P.underlying t = some (.slice e)) (he : P.underlying e = some (.int .u8)) (hx : (Act.eval (AF n τ)) x = .slice (some ⟨b, 0, none⟩) m c)
    (s : St p w HH) (hr : Rep (pt b (.cells C te)) (pt b (.cells C te (C.size, C.size + 1))) HH H') (h : ∀ w', St p w' H' → K (.slice (some ⟨b, 0, none⟩) m c) w') : Hd P n ⟨dst, .convert t t x, ty, pos, af, gd⟩ τ w K := by
  obtain ⟨k, d1, d2⟩ := hr.dels
  have s1 := s.take d1
  have hb := s1.block
  have hsh : w.shape? b = some (te, C.size) := by unfold World.shape?; rw [hb]
  have hlt : b < w.heap.size := (Array.getElem?_eq_some_iff.1 hb).1
  have hv : w.heap[b] = .cells C te := (Array.getElem?_eq_some_iff.1 hb).2
  have hr1 : (convert t t (.slice (some ⟨b, 0, none⟩) m c)).run P w = .ok (.slice (some ⟨b, 0, none⟩) m c) (w.freeze ⟨b, C.size, none⟩ 1) := by
    simp [convert, run_underlying ht, run_underlying he, markStringish, hsh]
  have hf : (w.freeze ⟨b, C.size, none⟩ 1).heap[b]? = some (.cells C te (C.size, C.size + 1)) := by
    unfold World.freeze
    rw [if_neg (by decide)]
    simp [Array.getElem?_modify, hlt, Array.getElem_modify, hv]
  have ho : ∀ q, q ≠ b → (w.freeze ⟨b, C.size, none⟩ 1).heap[q]? = w.heap[q]? := fun q hq => by
    unfold World.freeze
    rw [if_neg (by decide)]
    simp [Array.getElem?_modify, Ne.symm hq]
  have h5 : (w.freeze ⟨b, C.size, none⟩ 1).os = w.os ∧ (w.freeze ⟨b, C.size, none⟩ 1).tape = w.tape ∧ (w.freeze ⟨b, C.size, none⟩ 1).output = w.output := by
    unfold World.freeze
    rw [if_neg (by decide)]; exact ⟨rfl, rfl, rfl⟩
  refine Hd.value (v := .slice (some ⟨b, 0, none⟩) m c) (w' := w.freeze ⟨b, C.size, none⟩ 1) ?_ (h _ ((s1.turn hf ho h5.1 h5.2.1 h5.2.2).give d2))
  simp [execOp, hx, hr1]
theorem Src.cellAtZ {w : World} {sz b o m c j : Nat} {xs : List Value} {v : Value} (h : Src w sz (.slice (some ⟨b, o, none⟩) m c) m xs) (hv : xs[j]? = some v) : w.cell? ⟨b, o + j, none⟩ = some v := by
  obtain ⟨hl, X, c', he, hc, h0 | ⟨b', o', hX, hcell⟩⟩ := h
  · subst h0; have : xs = [] := List.eq_nil_of_length_eq_zero (by simpa using hl)
    subst this; simp at hv
  · cases he; cases hX; exact hcell j v hv
theorem Src.cellsFromZ {w : World} {sz b o m c r : Nat} {xs ys : List Value} (h : Src w sz (.slice (some ⟨b, o, none⟩) m c) m xs) (hv : ∀ j v, ys[j]? = some v → xs[r + j]? = some v) : ∀ j v, ys[j]? = some v → w.cell? ⟨b, o + r + j, none⟩ = some v := fun j v h2 => by
  rw [Nat.add_assoc]; exact h.cellAtZ (hv j v h2)
theorem rep_bu8 (k : Nat) : List.replicate k (Value.int .u8 0) = (List.replicate k 0#8).map bu8 := by
  rw [List.map_replicate]; congr 1
theorem H.make {t e : TypeId} {z : Value} {bytes k : Nat} {kl kc : IntKind} {x y : Operand} {a b : Int} (ht : P.underlying t = some (.slice e)) (hi : (P.info? e).map (fun i => (i.zero, i.size, i.bytes)) = some (some z, 1, bytes)) (hz1 : z.cells = #[z])
    (hx : (Act.eval (AF n τ)) x = .int kl a) (hy : (Act.eval (AF n τ)) y = .int kc b) (ha : a = (k : Int)) (hb : b = (k : Int)) (hfit : bytes * k ≤ 281474976710656) (h63 : k ≤ 1000000) (s : St p w H)
    (h : ∀ g w', St p w' (Own e 1 (.slice (some ⟨g, 0, none⟩) k k) k (List.replicate k z) :: H) → K (.slice (some ⟨g, 0, none⟩) k k) w') : Hd P n ⟨dst, .makeSlice t x y, ty, pos, af, gd⟩ τ w K := by
  subst ha; subst hb
  obtain ⟨i, hq, hz0, hs1, hby⟩ := info_parts hi
  have hbb : (i.bytes : Int) * (k : Int) ≤ 281474976710656 := by
    rw [hby, ← Int.natCast_mul]; exact Int.ofNat_le.2 hfit
  have hr := run_make (P := P) w t e i z ht hq hz0 kl kc (k : Int) (k : Int) (by omega) (by omega) hbb (by omega)
  simp only [Int.toNat_natCast, hs1, Nat.mul_one] at hr
  have hm : (madeCells z.cells k).toList = List.replicate k z := by
    rw [hz1]; simp [madeCells, Nat.mod_one, List.map_const']
  have hsz : (madeCells z.cells k).size = k := by rw [← Array.length_toList, hm, List.length_replicate]
  refine Hd.value (v := .slice (some ⟨w.heap.size, 0, none⟩) k k) (w' := w.alloc (.cells (madeCells z.cells k) e)) ?_ (h _ _ ((s.alloc _).ownNew (Nat.le_refl _) (by simp [maxLen]; omega) (by rw [hsz, Nat.mul_one]) (by rw [Nat.mul_one, hm, List.take_of_length_le (by simp)])))
  simp [execOp, hx, hy, hr]
theorem H.makeN {t e : TypeId} {z : Value} {bytes k : Nat} {kl kc : IntKind} {x y : Operand} {a b : Int} {nn : Nat} {xs : List Value} (hn : nn = k) (hxs : xs = List.replicate k z) (ht : P.underlying t = some (.slice e)) (hi : (P.info? e).map (fun i => (i.zero, i.size, i.bytes)) = some (some z, 1, bytes)) (hz1 : z.cells = #[z])
    (hx : (Act.eval (AF n τ)) x = .int kl a) (hy : (Act.eval (AF n τ)) y = .int kc b) (ha : a = (k : Int)) (hb : b = (k : Int)) (hfit : bytes * k ≤ 281474976710656) (h63 : k ≤ 1000000) (s : St p w H)
    (h : ∀ g w', St p w' (Own e 1 (.slice (some ⟨g, 0, none⟩) nn nn) nn xs :: H) → K (.slice (some ⟨g, 0, none⟩) nn nn) w') : Hd P n ⟨dst, .makeSlice t x y, ty, pos, af, gd⟩ τ w K := by
  subst hn; subst hxs
  exact Go.SL.H.make ht hi hz1 hx hy ha hb hfit h63 s h
end
end Go.SL
