/- More of what operations yield: parts of strings and arrays, copies, appends; and code that is joined. -/
import Derived.Test.YtjpjejldinpcnaaAV
import Derived.Lib.AppendZerosOnto
import Derived.Laws.CopyRow
import Derived.Laws.IdiomCopy
import Derived.Deep.RegionHeld3
namespace Go.SL
open Go.RowKit
set_option linter.unusedVariables false
set_option linter.unusedSimpArgs false
theorem w64_rng (z : Int) : -9223372036854775808 ≤ w64 z ∧ w64 z ≤ 9223372036854775807 := by
  have hz : w64 z = if z % 18446744073709551616 ≥ 9223372036854775808 then z % 18446744073709551616 - 18446744073709551616 else z % 18446744073709551616 := by simp [w64, IntKind.wrap, IntKind.bits, IntKind.signed]
  rw [hz]; split <;> omega
theorem tmod_rng (a : Int) {b : Int} (h : 0 < b) : -b < a.tmod b ∧ a.tmod b < b := by
  rcases Int.lt_or_le a 0 with ha | ha
  · have h1 : a.tmod b = -((-a).tmod b) := by rw [← Int.neg_tmod, Int.neg_neg]
    rw [h1, Int.tmod_eq_emod_of_nonneg (by omega)]
    have h2 := Int.emod_nonneg (-a) (show b ≠ 0 by omega)
    have h3 := Int.emod_lt_of_pos (-a) h
    omega
  · rw [Int.tmod_eq_emod_of_nonneg ha]
    have h2 := Int.emod_nonneg a (show b ≠ 0 by omega)
    have h3 := Int.emod_lt_of_pos a h
    omega
theorem toInt_rng (x : BitVec 64) : -9223372036854775808 ≤ x.toInt ∧ x.toInt ≤ 9223372036854775807 := by
  rw [← i64_wrap]; exact w64_rng _
theorem ior64_rng (a b : Int) : -9223372036854775808 ≤ ior64 a b ∧ ior64 a b ≤ 9223372036854775807 := toInt_rng _
theorem iand64_rng (a b : Int) : -9223372036854775808 ≤ iand64 a b ∧ iand64 a b ≤ 9223372036854775807 := toInt_rng _
theorem ixor64_rng (a b : Int) : -9223372036854775808 ≤ ixor64 a b ∧ ixor64 a b ≤ 9223372036854775807 := toInt_rng _
theorem ishl64_rng (a : Int) (j : Nat) : -9223372036854775808 ≤ ishl64 a j ∧ ishl64 a j ≤ 9223372036854775807 := w64_rng _
theorem ishr64_rng {a : Int} (j : Nat) (h : -9223372036854775808 ≤ a ∧ a ≤ 9223372036854775807) : -9223372036854775808 ≤ ishr64 a j ∧ ishr64 a j ≤ 9223372036854775807 := by
  have hp : (0 : Int) < 2 ^ min j 64 := by have := Nat.two_pow_pos (min j 64); exact_mod_cast this
  have e : ishr64 a j = a / 2 ^ min j 64 := Int.fdiv_eq_ediv_of_nonneg _ (Int.le_of_lt hp)
  rw [e]
  constructor
  · rw [Int.le_ediv_iff_mul_le hp]
    have : (-9223372036854775808 : Int) * 2 ^ min j 64 ≤ -9223372036854775808 * 1 := Int.mul_le_mul_of_nonpos_left (by omega) (by omega)
    omega
  · have h1 : a / 2 ^ min j 64 ≤ max a 0 := by
      rcases Int.lt_or_le a 0 with hn | hn
      · have := Int.ediv_neg_of_neg_of_pos hn hp; omega
      · have := Int.ediv_le_self (b := 2 ^ min j 64) hn; omega
    omega
section
variable {P : Program} {n : Nat} {Q : Exit → Fr → World → Prop} {τ : Fr} {w : World}
theorem CW.seqJ {x y : Code} (R : Fr → World → Prop) (h1 : CW P n x (Th R Q) τ w) (h2 : ∀ τ w, R τ w → CW P n y Q τ w) : CW P n (.seq x y) Q τ w :=
  CW.seq (CW.mono h1 fun e σ w' h => by cases e <;> first | exact h | exact h2 _ _ h)
end
section
variable {P : Program} {ρ : Operand → Value} {w : World} {dst : Option Tmp} {ty : TypeId} {pos : String} {af : Array Edge} {gd : Option (Nat × Bool)} {p : Pers} {H H' HH : List Assn}
theorem slcN {v : Value} {X : Option Addr} {a b c : Nat} (h : v = .slice X a c) (e : a = b) : v = .slice X b c := e ▸ h
theorem Own.relen {e : TypeId} {X : Option Addr} {a b c : Nat} {L : List Value} (s : St p w (Own e 1 (.slice X a c) a L :: H)) (h : a = b) : St p w (Own e 1 (.slice X b c) b L :: H) := h ▸ s
theorem Own.rec {e : TypeId} {v : Value} {k : Nat} {L L' : List Value} (s : St p w (Own e 1 v k L :: H)) (h : L = L') : St p w (Own e 1 v k L' :: H) := h ▸ s
theorem Src.cellAt {b o m c j : Nat} {xs : List Value} {v : Value} (h : Src w 1 (.slice (some ⟨b, o, none⟩) m c) m xs) (hv : xs[j]? = some v) : w.cell? ⟨b, o + j, none⟩ = some v := by
  obtain ⟨hl, X, c', he, hc, h0 | ⟨b', o', hX, hcell⟩⟩ := h
  · subst h0; have : xs = [] := List.eq_nil_of_length_eq_zero (by simpa using hl)
    subst this; simp at hv
  · cases he; cases hX; exact hcell j v hv
theorem Src.cellsFrom {b o m c r : Nat} {xs ys : List Value} (h : Src w 1 (.slice (some ⟨b, o, none⟩) m c) m xs) (hv : ∀ j v, ys[j]? = some v → xs[r + j]? = some v) : ∀ j v, ys[j]? = some v → w.cell? ⟨b, o + r + j, none⟩ = some v := fun j v h2 => by
  rw [Nat.add_assoc]; exact h.cellAt (hv j v h2)
theorem St.ownAt {e : TypeId} {X : Option Addr} {m c : Nat} {L : List Value} (s : St p w (Own e 1 (.slice X m c) m L :: H)) (h : 0 < m) : ∃ b, X = some ⟨b, 0, none⟩ := by
  obtain ⟨X', c', he, _, _, _, hb⟩ := s.shape
  cases he; exact hb h
theorem slcN2 {v : Value} {X : Option Addr} {a c : Nat} (h : v = .slice X a c) (e : c = a) : v = .slice X a a := e ▸ h
theorem Src.subK {X : Option Addr} {m c i j k : Nat} {xs : List Value} (h : Src w 1 (.slice X m c) m xs) (hij : i ≤ j) (hj : j ≤ m) (hjk : j ≤ k) (hk : k ≤ c) : Src w 1 (.slice (sbA X k i 1) (j - i) (k - i)) (j - i) (sl i (j - i) xs) := by
  obtain ⟨hl, X', c', he, hc, hh⟩ := h
  cases he
  refine ⟨by rw [Nat.mul_one, sl_len (N := m) (by rw [hl, Nat.mul_one]) (by omega)], _, _, rfl, by omega, ?_⟩
  rcases hh with rfl | ⟨b, o, rfl, hcell⟩
  · exact .inl (by omega)
  · rcases Nat.eq_zero_or_pos (j - i) with h0 | h0
    · exact .inl h0
    · refine .inr ⟨b, o + i, ?_, fun q u hu => ?_⟩
      · unfold sbA
        rw [if_neg (by omega), Nat.mul_one, Option.map_some, add_lit]
      · have : xs[i + q]? = some u := by
          simp only [sl, List.getElem?_take, List.getElem?_drop] at hu
          split at hu
          · exact hu
          · cases hu
        rw [Nat.add_assoc]; exact hcell _ _ this
theorem Src.nil {c : Nat} : Src w 1 (.slice none 0 c) 0 [] := ⟨rfl, none, c, rfl, Nat.zero_le _, .inl rfl⟩
theorem Src.cast {X : Option Addr} {m m' c c' : Nat} {xs ys : List Value} (h : Src w 1 (.slice X m c) m xs) (hm : m = m') (hc : c = c') (hx : xs = ys) : Src w 1 (.slice X m' c') m' ys := by subst hm; subst hc; subst hx; exact h
/-- a part of a block of cells, as a slice -/
theorem Src.ofL {b o m c : Nat} {L ys : List Value} {e : TypeId} {fr : Nat × Nat} (s : St p w (pt b (.cells L.toArray e fr) :: H)) (hy : ys.length = m) (hc : m ≤ c) (h : ∀ j v, ys[j]? = some v → L[o + j]? = some v) : Src w 1 (.slice (some ⟨b, o, none⟩) m c) m ys :=
  ⟨by rw [hy, Nat.mul_one], _, c, rfl, hc, .inr ⟨b, o, rfl, fun j u hu => s.cellL .here (h j u hu)⟩⟩
theorem Src.part {b o0 o m n c c2 : Nat} {xs ys : List Value} (h : Src w 1 (.slice (some ⟨b, o0, none⟩) m c) m xs) (ho : o + n ≤ m) (hc2 : n ≤ c2) (hy : ys = sl o n xs) : Src w 1 (.slice (some ⟨b, o0 + o, none⟩) n c2) n ys := by
  subst hy
  obtain ⟨hl, X', c', he, hc, hh⟩ := h
  cases he
  refine ⟨by rw [Nat.mul_one, sl_len (N := m) (by rw [hl, Nat.mul_one]) ho], _, _, rfl, hc2, ?_⟩
  rcases hh with rfl | ⟨b', o', hX, hcell⟩
  · exact .inl (by omega)
  · cases hX
    refine .inr ⟨b, o0 + o, rfl, fun q u hu => ?_⟩
    have : xs[o + q]? = some u := by
      simp only [sl, List.getElem?_take, List.getElem?_drop] at hu
      split at hu
      · exact hu
      · cases hu
    rw [Nat.add_assoc]; exact hcell _ _ this
theorem map_sl {α : Type} {f : α → Value} {l : List α} {i m : Nat} : (sl i m l).map f = sl i m (l.map f) := by simp [sl, List.map_take, List.map_drop]
theorem map_nat {α : Type} {f : α → Value} {l : List α} : (l.map f).length = l.length * 1 := by simp
theorem sbA_some {b o c i sz : Nat} (h : c ≠ i) : sbA (some ⟨b, o, none⟩) c i sz = some ⟨b, o + i * sz, none⟩ := by simp [sbA, h, add_lit]
theorem E.sliceArr1 {x : Operand} {t e : TypeId} {X : Option Addr} {m c N : Nat} (ht : P.underlying t = some (.array N e)) (hx : ρ x = .slice X m c) (hN : N ≤ m) : Ev P ρ ⟨dst, .sliceToArrayPointer t x, ty, pos, af, gd⟩ w (.pointer X) := by
  have h : ¬ m < N := by omega
  simp [Ev, execOp, Instr.arrayAt, run_underlying ht, hx, h]
theorem Own.shrink {e : TypeId} {X : Option Addr} {m c j : Nat} {L : List Value} (s : St p w (Own e 1 (.slice X m c) m L :: H)) (h : j ≤ m) : St p w (Own e 1 (.slice X j c) j (L.take j) :: H) := by
  obtain ⟨hl, ⟨A, he, hk0, s2⟩ | ⟨g, cap, cur, he, s2, hkc, hcm, hcs, hxx⟩⟩ := s.ownOpen
  · cases he
    have hj : j = 0 := by omega
    subst hj
    rw [List.take_zero]; exact s2.ownNil X
  · cases he
    rw [Nat.mul_one] at hcs hxx
    exact s2.ownNew (by omega) hcm (by omega) (by rw [Nat.mul_one, ← hxx, List.take_take, Nat.min_eq_left h])
theorem sbA_zero {X : Option Addr} {c sz : Nat} : sbA X c 0 sz = X := by
  unfold sbA
  split
  · rfl
  · cases X <;> simp [Addr.add]
theorem E.capS {x : Operand} {t e : TypeId} {p : Option Addr} {l c : Nat} (ht : P.underlying t = some (.slice e)) (hx : ρ x = .slice p l c) : Ev P ρ ⟨dst, .call ⟨.builtin .cap, #[x], #[t]⟩, ty, pos, af, gd⟩ w (.int .i64 c) := by
  simp [Ev, execOp, resolve, invoke, builtin, Builtin.cap_, run_underlying ht, hx, goInt]
/-- a string's byte -/
theorem E.indexStr {x y : Operand} {t : TypeId} {s : ByteArray} {l : List (BitVec 8)} {k : IntKind} {i : Int} {j : Nat} (ht : P.underlying t = some .string) (hx : ρ x = .string s) (hl : s.data.toList.map UInt8.toBitVec = l) (hy : ρ y = .int k i) (hi : i = (j : Int)) (h : j < l.length) :
    Ev P ρ ⟨dst, .index t x y, ty, pos, af, gd⟩ w (.int .u8 (l.getD j 0#8).toNat) := by
  subst hi
  have hlen : l.length = s.size := by rw [← hl, List.length_map, Array.length_toList]; rfl
  have h' : j < s.size := by omega
  obtain ⟨b, hg, hv⟩ : ∃ b : UInt8, s[j]? = some b ∧ (b.toNat : Int) = ((l.getD j 0#8).toNat : Int) := by
    refine ⟨s[j], getElem?_pos s j h', ?_⟩
    have hj : j < s.data.toList.length := by rw [Array.length_toList]; exact h'
    have e : l.getD j 0#8 = s[j].toBitVec := by
      rw [← hl, List.getD_eq_getElem?_getD, List.getElem?_map, List.getElem?_eq_getElem hj]; rfl
    rw [e]; rfl
  have hr : (Instr.index t (.string s) (.int k (j : Int))).run P w = .ok (.int .u8 ((l.getD j 0#8).toNat : Int)) w := by
    rw [← hv]
    have h0 : (0 : Int) ≤ (j : Int) := by omega
    simp only [Instr.index, asIntOf, Sem.run_bind, Sem.run_pure, Result.andThen_ok, run_underlying ht, if_pos h0, Int.toNat_natCast, hg]
  simp only [Ev, execOp, hx, hy]
  simp [hr]
/-- an element of an array that is a value -/
theorem E.indexV {x y : Operand} {t e : TypeId} {N : Nat} {k : IntKind} {i : Int} {j : Nat} {L : List Value} {v : Value} {d : TypeDesc} (ht : P.underlying t = some (.array N e)) (he : P.underlying e = some d) (hd : (match d with | .struct _ | .array _ _ => true | _ => false) = false) (hz : (P.info? e).map (·.size) = some 1)
    (hx : ρ x = .agg L.toArray) (hy : ρ y = .int k i) (hi : i = (j : Int)) (hj : j < N) (hv : L[j]? = some v) : Ev P ρ ⟨dst, .index t x y, ty, pos, af, gd⟩ w v :=
  E.index ht hx hy (by omega) (by omega) hz he hd (by subst hi; simpa using hv)
theorem E.indexA {x y : Operand} {t e : TypeId} {N sz : Nat} {k : IntKind} {i : Int} {j : Nat} {L ys : List Value} {d : TypeDesc} (ht : P.underlying t = some (.array N e)) (he : P.underlying e = some d) (hd : (match d with | .struct _ | .array _ _ => true | _ => false) = true) (hz : (P.info? e).map (·.size) = some sz)
    (hx : ρ x = .agg L.toArray) (hy : ρ y = .int k i) (hi : i = (j : Int)) (hj : j < N) (hys : ys = sl (j * sz) sz L) : Ev P ρ ⟨dst, .index t x y, ty, pos, af, gd⟩ w (.agg ys.toArray) := by
  subst hi; subst hys
  cases hq : P.info? e with
  | none => simp [hq] at hz
  | some q =>
    have hsz : q.size = sz := by simpa [hq] using hz
    have hagg : (isAgg e).run P w = .ok true w := by
      unfold isAgg
      rw [Sem.run_bind, run_underlying he w]
      cases d <;> simp_all
    have h1 : ((j : Nat) : Int) < N := by omega
    have hex : L.toArray.extract (j * sz) (j * sz + sz) = (sl (j * sz) sz L).toArray := by
      simp [sl, List.extract_toArray, List.extract_eq_take_drop]
    simp [Ev, execOp, Instr.index, asIntOf, run_underlying ht, hx, hy, h1, sizeOf, typeInfo, hq, hsz, part, hagg, hex, hj, sl]
end
section
variable {P : Program} {n : Nat} {τ : Fr} {w : World} {dst : Option Tmp} {ty : TypeId} {pos : String} {af : Array Edge} {gd : Option (Nat × Bool)} {K : Value → World → Prop} {p : Pers} {H H' HH : List Assn}
theorem H.copyL {x y : Operand} {dT sT e te : TypeId} {b o dLen dCap m : Nat} {yv : Value} {L L' src : List Value} (hu : P.underlying dT = some (.slice e)) (hz : (P.info? e).map (·.size) = some 1) (hx : (Act.eval (AF n τ)) x = .slice (some ⟨b, o, none⟩) dLen dCap) (hy : (Act.eval (AF n τ)) y = yv)
    (s : St p w HH) (hr : Rep (pt b (.cells L.toArray te)) (pt b (.cells L'.toArray te)) HH H') (hsrc : Src w 1 yv m src) (h1 : ∀ u ∈ src, u.oneCell' = true) (hfit : o + dLen ≤ L.length) (hp : Put L o (src.take dLen) L') (h : ∀ w', St p w' H' → K (.int .i64 ((min m dLen : Nat) : Int)) w') :
    Hd P n ⟨dst, .call ⟨.builtin .copy, #[x, y], #[dT, sT]⟩, ty, pos, af, gd⟩ τ w K := by
  obtain ⟨k, d1, d2⟩ := hr.dels
  have s1 := s.take d1
  have go : ∀ v w', (Builtin.copy_ #[dT, sT] ty #[.slice (some ⟨b, o, none⟩) dLen dCap, yv]).run P w = .ok v w' → K v w' → Hd P n ⟨dst, .call ⟨.builtin .copy, #[x, y], #[dT, sT]⟩, ty, pos, af, gd⟩ τ w K := by
    intro v w' hr hk
    refine Hd.value (v := v) (w' := w') ?_ hk
    simp [execOp, resolve, invoke, builtin, hx, hy, hr]
  obtain ⟨hl, X, c, rfl, hc, hh⟩ := hsrc
  rw [Nat.mul_one] at hl
  have hlen : (src.take dLen).length = min m dLen := by rw [List.length_take, hl, Nat.min_comm]
  by_cases h0 : min m dLen = 0
  · have hr := run_copy_none (P := P) w dT sT ty e (some ⟨b, o, none⟩) X dLen dCap m c hu hz h0
    have hnil : src.take dLen = [] := List.eq_nil_of_length_eq_zero (by omega)
    have hL : L' = L := by rw [hp.eq, hnil]; simp
    refine go _ _ hr ?_
    rw [hL] at d2
    have := h w (s1.give d2)
    rw [h0] at this; exact this
  · rcases hh with rfl | ⟨g, q, rfl, hcell⟩
    · exact absurd (Nat.zero_min dLen) h0
    · have hr := run_copy_row (P := P) w dT sT ty e b o dLen dCap ⟨g, q, none⟩ m c L.toArray te (src.take dLen) hu hz s1.block hlen (fun j v hv => by
        rw [add_lit]; refine hcell j v ?_
        rw [List.getElem?_take] at hv; split at hv
        · exact hv
        · cases hv) (by rw [hlen, List.size_toArray]; have := Nat.min_le_right m dLen; omega) (fun v hv => h1 v (List.mem_of_mem_take hv))
      refine go _ _ hr ?_
      have h3 := h _ (((s1.over o (src.take dLen)).weaken (B := pt b (.cells L'.toArray te)) (fun x hx => by
        have : SL.over L.toArray o (src.take dLen) = L'.toArray := by rw [hp.eq]; rfl
        rw [this] at hx; exact hx)).give d2)
      rw [← hlen] at h3; exact h3
theorem H.copyOwn {x y : Operand} {dT sT e : TypeId} {b o k c dLen dCap m : Nat} {yv : Value} {L L' src : List Value} (hu : P.underlying dT = some (.slice e)) (hz : (P.info? e).map (·.size) = some 1) (hx : (Act.eval (AF n τ)) x = .slice (some ⟨b, o, none⟩) dLen dCap) (hy : (Act.eval (AF n τ)) y = yv)
    (s : St p w HH) (hd : Del (Own e 1 (.slice (some ⟨b, 0, none⟩) k c) k L) HH H') (hk : 0 < k) (hsrc : Src w 1 yv m src) (h1 : ∀ u ∈ src, u.oneCell' = true) (hfit : o + dLen ≤ k) (hp : Put L o (src.take dLen) L') (h : ∀ w', St p w' (Own e 1 (.slice (some ⟨b, 0, none⟩) k c) k L' :: H') → K (.int .i64 ((min m dLen : Nat) : Int)) w') :
    Hd P n ⟨dst, .call ⟨.builtin .copy, #[x, y], #[dT, sT]⟩, ty, pos, af, gd⟩ τ w K := by
  obtain ⟨hl, ⟨A, he, hk0, _⟩ | ⟨g, cap, cur, he, s2, hkc, hcm, hcs, hxx⟩⟩ := (s.take hd).ownOpen
  · omega
  · cases he
    rw [Nat.mul_one] at hcs hxx
    have hcl : cur.toList.length = c := by rw [Array.length_toList, hcs]
    have hov : Put cur.toList o (src.take dLen) ((SL.over cur o (src.take dLen)).toList) := ⟨by rw [hcl, List.length_take]; omega, rfl⟩
    refine H.copyL (L := cur.toList) (L' := (SL.over cur o (src.take dLen)).toList) hu hz hx hy s2 .here hsrc h1 (by rw [hcl]; omega) hov fun w' s3 => h w' (s3.ownNew hkc hcm ?_ ?_)
    · rw [List.size_toArray, put_len hov, hcl, Nat.mul_one]
    · rw [Nat.mul_one]
      have hle := hp.le
      rw [hl, Nat.mul_one] at hle
      rw [show ((SL.over cur o (src.take dLen)).toList.toArray).toList = (SL.over cur o (src.take dLen)).toList by simp]
      show (cur.toList.take o ++ src.take dLen ++ cur.toList.drop (o + (src.take dLen).length)).take k = L'
      generalize src.take dLen = ys at *
      rw [hp.eq, ← hxx, List.take_append, List.take_of_length_le (by rw [List.length_append, List.length_take]; omega), List.length_append, List.length_take, List.take_take, Nat.min_eq_left (show o ≤ k by omega), Nat.min_eq_left (show o ≤ cur.toList.length by omega), List.take_drop, show o + ys.length + (k - (o + ys.length)) = k by omega]
/-- noughts put behind a row -/
theorem H.appendZ {x y : Operand} {t tn e : TypeId} {z : Value} {bytes : Nat} {kn kq : IntKind} {s0 : Value} {k m : Nat} {q : Int} {xs : List Value} (ht : P.underlying t = some (.slice e)) (htn : P.underlying tn = some (.int kn))
    (hi : (P.info? e).map (fun i => (i.zero, i.size, i.bytes)) = some (some z, 1, bytes)) (hz1 : z.cells = #[z]) (ho1 : z.oneCell' = true) (hx : (Act.eval (AF n τ)) x = s0) (hy : (Act.eval (AF n τ)) y = .int kq q) (hq : q = (m : Int))
    (s : St p w H) (hd : Del (Own e 1 s0 k xs) H H') (hfit : (k + m) * bytes ≤ 140737488355328) (hm48 : m * bytes ≤ 140737488355328) (h63 : k + m ≤ 1000000000)
    (h : ∀ v w', St p w' (Own e 1 v (k + m) (xs ++ List.replicate m z) :: H') → K v w') : Hd P n ⟨dst, .call ⟨.builtin .append, #[x, y], #[t, tn]⟩, ty, pos, af, gd⟩ τ w K := by
  subst hq
  obtain ⟨i, hq, hz0, hs1, hb⟩ := info_parts hi
  have go : ∀ v w', (Builtin.append_ #[t, tn] ty #[s0, .int kq (m : Int)]).run P w = .ok v w' → K v w' → Hd P n ⟨dst, .call ⟨.builtin .append, #[x, y], #[t, tn]⟩, ty, pos, af, gd⟩ τ w K := by
    intro v w' hr hk
    refine Hd.value (v := v) (w' := w') ?_ hk
    simp [execOp, resolve, invoke, builtin, hx, hy, hr]
  have hwr : IntKind.i64.wrap (m : Int) = (m : Int) := i64_small (by omega) (by omega)
  have hzl : ∀ j, (Builtin.zeroCells z.cells j).toList = List.replicate j z := by
    intro j
    rw [hz1]
    simp [Builtin.zeroCells, Nat.mod_one, List.map_const']
  have s1 := s.take hd
  obtain ⟨hl, hX⟩ := s1.ownOpen
  rw [Nat.mul_one] at hl
  have hml : k + m ≤ maxLen := by simp only [maxLen]; omega
  have grown : ∀ (s2 : St p w H') (old : Nat), old < k + m → St p (w.drew.alloc (.cells (xs.toArray ++ Builtin.zeroCells z.cells m ++ Builtin.zeroCells z.cells (grownCap w (k + m) old e - (k + m))) e))
      (Own e 1 (.slice (some ⟨w.heap.size, 0, none⟩) (k + m) (grownCap w (k + m) old e)) (k + m) (xs ++ List.replicate m z) :: H') := by
    intro s2 old hold
    have hge := grownCap_ge w (k + m) old e
    have hcm : grownCap w (k + m) old e ≤ maxLen := grownCap_le_maxLen w (k + m) old e hml
    refine ((s2.drew).alloc _).ownNew hge hcm ?_ ?_
    · simp only [Array.size_append, List.size_toArray, size_zeroCells, hl, hz1, List.size_toArray, List.length_singleton, Nat.mul_one]; omega
    · simp only [Array.toList_append, hzl, Nat.mul_one, List.append_assoc]
      rw [← List.append_assoc, List.take_append_of_le_length (by simp [hl]), List.take_of_length_le (by simp [hl])]
  rcases hX with ⟨A, rfl, rfl, s2⟩ | ⟨g, cap, cur, rfl, s2, hnc, hcm, hcs, htake⟩
  · have hxs : xs = [] := List.eq_nil_of_length_eq_zero (by simpa using hl)
    subst hxs
    by_cases hm : m = 0
    · subst hm
      refine go (.slice A 0 0) w ?_ (h _ _ (by simpa using s2.ownNil A))
      cases A <;> simp [Builtin.append_, run_underlying ht, run_underlying htn, sizeOf, typeInfo, hq, asInt, asIntOf, hwr, i64_small, storeCells]
    · have hr := Go.Lib.run_append_grow_zeros (P := P) w t tn ty e i z kq kn ht htn hq hz0 A 0 0 [] (by
        cases A with
        | none => rfl
        | some a => simp [Builtin.firstCells, loadCells, loadCellsFrom]) m (by omega) (by omega) (by omega) (by omega) (by rw [hb]; omega) (growslice_fits (by omega) (by rw [hb]; simpa using hfit))
      have hg := grown s2 0 (by omega)
      simp only [Nat.zero_add] at hg hr ⊢
      exact go _ _ hr (h _ _ (by simpa using hg))
  · rw [Nat.mul_one] at hcs htake
    by_cases hroom : k + m ≤ cap
    · by_cases hm : m = 0
      · subst hm
        refine go (.slice (some ⟨g, 0, none⟩) k cap) w ?_ (h _ _ (by simpa using s1))
        have : k ≤ cap := hnc
        simp [Builtin.append_, run_underlying ht, run_underlying htn, sizeOf, typeInfo, hq, asInt, asIntOf, i64_small, storeCells, this, IntKind.wrap, IntKind.bits, IntKind.signed]
      · have hst := run_storeCells_at P g k e (List.replicate m z) 0 cur w s2.block (by simp; omega) (fun u hu => by rw [List.eq_of_mem_replicate hu]; exact ho1)
        simp only [Nat.add_zero] at hst
        refine go (.slice (some ⟨g, 0, none⟩) (k + m) cap) (w.setRow g (over cur k (List.replicate m z))) ?_ (h _ _ ((s2.over k (List.replicate m z)).ownNew hroom hcm ?_ ?_))
        · have hn : ¬ m * i.size = 0 := by rw [hs1]; omega
          have hbm : ¬ (281474976710656 < (m : Int) * i.bytes) := by
            rw [hb]
            have h9 : (m : Int) * bytes = ((m * bytes : Nat) : Int) := by simp
            rw [h9]; omega
          have hn0 : ¬ ((m : Int) < 0) := by omega
          simp [Builtin.append_, run_underlying ht, run_underlying htn, sizeOf, typeInfo, hq, asInt, asIntOf, hwr, hn, hn0, hbm, zeroValue, hz0, hroom, hzl, hs1, add_lit, hst, over]
          intro h0; exact absurd h0 hm
        · simp only [SL.over, List.size_toArray, List.length_append, List.length_take, List.length_drop, Array.length_toList, List.length_replicate]; omega
        · have hlen : (xs ++ List.replicate m z).length = k + m := by rw [List.length_append, hl, List.length_replicate]
          simp only [SL.over, Nat.mul_one]
          rw [htake, ← hlen]
          exact List.take_left
    · have hr := Go.Lib.run_append_grow_zeros (P := P) w t tn ty e i z kq kn ht htn hq hz0 (some ⟨g, 0, none⟩) k cap xs (by
        have hc : ∀ j u, xs[j]? = some u → w.drew.cell? ((⟨g, 0, none⟩ : Addr).add j) = some u := fun j u hu => by
          rw [add_lit, Nat.zero_add]
          show w.cell? _ = _
          rw [cell_of_row w g j cur e (0, 0) s2.block]
          rw [← htake, List.getElem?_take] at hu
          split at hu
          · simpa using hu
          · cases hu
        have := run_loadCells_list (P := P) w.drew ⟨g, 0, none⟩ xs hc
        simp only [Builtin.firstCells, hs1, Nat.mul_one]
        rw [← hl]; exact this) m (by omega) (by omega) (by omega) (by omega) (by rw [hb]; omega) (growslice_fits (by omega) (by rw [hb]; exact hfit))
      exact go _ _ hr (h _ _ (grown s2.drop cap (by omega)))
/-- what is put behind a slice that has no room: a new row -/
theorem H.appendGrow {x y : Operand} {t e : TypeId} {z : Value} {bytes : Nat} {x0 : Value} {X : Option Addr} {k m : Nat} {xs news : List Value} (ht : P.underlying t = some (.slice e))
    (hi : (P.info? e).map (fun i => (i.zero, i.size, i.bytes)) = some (some z, 1, bytes)) (hzs : z.cells.size = 1) (hx : (Act.eval (AF n τ)) x = .slice X k k) (hy : (Act.eval (AF n τ)) y = x0)
    (s : St p w H) (hold : Src w 1 (.slice X k k) k xs) (hsrc : Src w 1 x0 m news) (hm : 0 < m) (hfit : (k + m) * bytes ≤ 140737488355328) (h63 : k + m ≤ 1000000000)
    (h : ∀ v w', St p w' (Own e 1 v (k + m) (xs ++ news) :: H) → K v w') : Hd P n ⟨dst, .call ⟨.builtin .append, #[x, y], #[t, t]⟩, ty, pos, af, gd⟩ τ w K := by
  obtain ⟨i, hq, hz0, hs1, hb⟩ := info_parts hi
  subst hb
  obtain ⟨hln, Y, c, rfl, hmc, hS⟩ := hsrc
  obtain ⟨b, o, rfl, hcell⟩ := hS.resolve_left (by omega)
  obtain ⟨hlx, X', c', he, hc', hX⟩ := hold
  cases he
  rw [Nat.mul_one] at hln hlx
  have go : ∀ v w', (Builtin.append_ #[t, t] ty #[.slice X k k, .slice (some ⟨b, o, none⟩) m c]).run P w = .ok v w' → K v w' → Hd P n ⟨dst, .call ⟨.builtin .append, #[x, y], #[t, t]⟩, ty, pos, af, gd⟩ τ w K := by
    intro v w' hr hk
    refine Hd.value (v := v) (w' := w') ?_ hk
    simp [execOp, resolve, invoke, builtin, hx, hy, hr]
  have hml : k + m ≤ maxLen := by simp only [maxLen]; omega
  have hge := grownCap_ge w (k + m) k e
  have hcm : grownCap w (k + m) k e ≤ maxLen := grownCap_le_maxLen w (k + m) k e hml
  have hg : St p (w.drew.alloc (.cells (xs.toArray ++ news.toArray ++ Builtin.zeroCells z.cells (grownCap w (k + m) k e - (k + m))) e)) (Own e 1 (.slice (some ⟨w.heap.size, 0, none⟩) (k + m) (grownCap w (k + m) k e)) (k + m) (xs ++ news) :: H) := by
    refine ((s.drew).alloc _).ownNew hge hcm ?_ ?_
    · simp only [Array.size_append, List.size_toArray, size_zeroCells, hzs, hlx, hln, Nat.mul_one]; omega
    · simp only [Array.toList_append, Nat.mul_one, List.append_assoc]
      rw [← List.append_assoc, List.take_append_of_le_length (by simp [hlx, hln]), List.take_of_length_le (by simp [hlx, hln])]
  have hcell' : ∀ j v, news[j]? = some v → w.cell? ((⟨b, o, none⟩ : Addr).add j) = some v := fun j v hv => by rw [add_lit]; exact hcell j v hv
  rcases hX with h0 | ⟨b2, o2, hX2, hc2⟩
  · subst h0
    have hxs : xs = [] := List.eq_nil_of_length_eq_zero hlx
    subst hxs
    have hr := run_append_grow0 (P := P) (w := w) (ty := ty) ht hq hz0 X ⟨b, o, none⟩ m c news (by rw [hln, hs1, Nat.mul_one]) hcell' hm (by omega) (by simpa using hfit)
    simp only [Nat.zero_add, List.nil_append, Array.empty_append] at hg ⊢
    exact go _ _ hr (h _ _ (by simpa using hg))
  · subst hX2
    have hr := run_append_grow (P := P) w t ty e i z ht hq hz0 ⟨b2, o2, none⟩ k k xs (by rw [hlx, hs1, Nat.mul_one]) (fun j v hv => by rw [add_lit]; exact hc2 j v hv) ⟨b, o, none⟩ m c news (by rw [hln, hs1, Nat.mul_one]) hcell' (by omega) (by omega) (growslice_fits (by omega) hfit)
    exact go _ _ hr (h _ _ hg)
end
/-! ### regions that leave their order open: what the loads want is kept till the last one that may come up -/
def wpD (P : Program) (ops : Array Oper) (lds : List Nat) (S : World → Prop) (Q : Exit → Act → World → Prop) : Nat → Array Bool → Act → World → Prop
  | 0, listed, a, w => Region.ready .any ops listed = [] ∧ Q .normal a w
  | f + 1, listed, a, w => (Region.ready .any ops listed = [] → Q .normal a w) ∧
      ∀ i ∈ Region.ready .any ops listed, wpOp P ops Q i (fun a' w' => (needs ops lds i = true → S w → S w') ∧ wpD P ops lds S Q f (listed.setIfInBounds i true) a' w') a w
section
variable {P : Program} {ops : Array Oper} {lds : List Nat} {S : World → Prop} {Q : Exit → Act → World → Prop}
theorem wpD_any : ∀ (f : Nat) (listed : Array Bool) (a : Act) (w : World), wpD P ops lds S Q f listed a w → wpAny P .any ops Q f listed a w
  | 0, _, _, _, h => h
  | f + 1, _, _, _, h => ⟨h.1, fun i hi => wpOp_mono (fun a w k => wpD_any f _ a w k.2) (h.2 i hi)⟩
theorem wpD_first {i : Nat} {oi : Oper} {v : Value} (hi : ops[i]? = some oi) (hso : i ∈ lds) (hsel : Region.noSelect ops = true) (hQ : ∀ c a w, Q (.panic c) (a.put oi.dst v) w → Q (.panic c) a w) :
    ∀ (f : Nat) (listed : Array Bool) (a : Act) (w : World), (∀ j oj, ops[j]? = some oj → j ≠ i → listed.getD j true = false → (∀ e ∈ oj.after, Region.binds .any e = true → e.on ≠ i) → oi.apart ops oj = true) →
      i ∈ Region.ready .any ops listed → YieldsIf P ops S oi v a → S w → wpD P ops lds S Q f (listed.setIfInBounds i true) (a.put oi.dst v) w → wpD P ops lds S Q (f + 1) listed a w := by
  have sel := fun j o cs b (ho : ops[j]? = some o) => Region.noSelect_spec hsel j o cs b ho
  intro f
  induction f with
  | zero =>
    intro listed a w _ hr hy hS H
    refine ⟨fun h0 => absurd hr (by rw [h0]; exact List.not_mem_nil), fun j hj => ?_⟩
    rcases Decidable.em (j = i) with e | e
    · subst e; exact hy.wpOp hi hS ⟨fun _ _ => hS, H⟩
    · exact absurd (ready_mono hj e) (by rw [H.1]; exact List.not_mem_nil)
  | succ f ih =>
    intro listed a w hap hr hy hS H
    refine ⟨fun h0 => absurd hr (by rw [h0]; exact List.not_mem_nil), fun j hj => ?_⟩
    rcases Decidable.em (j = i) with e | e
    · subst e; exact hy.wpOp hi hS ⟨fun _ _ => hS, H⟩
    · obtain ⟨hjl, oj, hoj, hall⟩ := mem_ready.1 hj
      have hil := (mem_ready.1 hr).1
      have hno : ∀ e ∈ oj.after, Region.binds .any e = true → e.on ≠ i := by
        intro e he hb heq
        have h1 := hall e he hb
        rw [heq] at h1
        rcases Nat.lt_or_ge i listed.size with h' | h'
        · simp [h'] at hil h1; rw [hil] at h1; cases h1
        · simp [Array.getElem?_eq_none h'] at h1
      have h2 := wpOp_putIf hoj (hap j oj hoj e hjl hno) (fun cs b => sel i oi cs b hi) (fun cs b => sel j oj cs b hoj) hQ hy (H.2 j (ready_mono hj e))
      have hn : needs ops lds j = true := needs_of hso (Ne.symm e) hoj hno
      refine wpOp_mono (fun a' w' k => ⟨k.2.1, ih (listed.setIfInBounds j true) a' w' ?_ (ready_mono hr (Ne.symm e)) k.1 (k.2.1 hn hS) ?_⟩) h2
      · intro m om hm hmi hml hmo
        refine hap m om hm hmi ?_ hmo
        rcases Decidable.em (j = m) with q | q
        · subst q; exact hjl
        · rw [getD_set_ne true q] at hml; exact hml
      · rw [Array.setIfInBounds_comm _ _ e]; exact k.2.2
/-- an operation that looks at no memory -/
theorem wpD_free {i : Nat} {oi : Oper} {v : Value} (hi : ops[i]? = some oi) (hsel : Region.noSelect ops = true) (hQ : ∀ c a w, Q (.panic c) (a.put oi.dst v) w → Q (.panic c) a w) :
    ∀ (f : Nat) (listed : Array Bool) (a : Act) (w : World), (∀ j oj, ops[j]? = some oj → j ≠ i → listed.getD j true = false → (∀ e ∈ oj.after, Region.binds .any e = true → e.on ≠ i) → oi.apart ops oj = true) →
      i ∈ Region.ready .any ops listed → YieldsIf P ops (fun _ => True) oi v a → wpD P ops lds S Q f (listed.setIfInBounds i true) (a.put oi.dst v) w → wpD P ops lds S Q (f + 1) listed a w := by
  have sel := fun j o cs b (ho : ops[j]? = some o) => Region.noSelect_spec hsel j o cs b ho
  intro f
  induction f with
  | zero =>
    intro listed a w _ hr hy H
    refine ⟨fun h0 => absurd hr (by rw [h0]; exact List.not_mem_nil), fun j hj => ?_⟩
    rcases Decidable.em (j = i) with e | e
    · subst e; exact hy.wpOp hi trivial ⟨fun _ h => h, H⟩
    · exact absurd (ready_mono hj e) (by rw [H.1]; exact List.not_mem_nil)
  | succ f ih =>
    intro listed a w hap hr hy H
    refine ⟨fun h0 => absurd hr (by rw [h0]; exact List.not_mem_nil), fun j hj => ?_⟩
    rcases Decidable.em (j = i) with e | e
    · subst e; exact hy.wpOp hi trivial ⟨fun _ h => h, H⟩
    · obtain ⟨hjl, oj, hoj, hall⟩ := mem_ready.1 hj
      have hil := (mem_ready.1 hr).1
      have hno : ∀ e ∈ oj.after, Region.binds .any e = true → e.on ≠ i := by
        intro e he hb heq
        have h1 := hall e he hb
        rw [heq] at h1
        rcases Nat.lt_or_ge i listed.size with h' | h'
        · simp [h'] at hil h1; rw [hil] at h1; cases h1
        · simp [Array.getElem?_eq_none h'] at h1
      have h2 := wpOp_putIf hoj (hap j oj hoj e hjl hno) (fun cs b => sel i oi cs b hi) (fun cs b => sel j oj cs b hoj) hQ hy (H.2 j (ready_mono hj e))
      refine wpOp_mono (fun a' w' k => ⟨k.2.1, ih (listed.setIfInBounds j true) a' w' ?_ (ready_mono hr (Ne.symm e)) k.1 ?_⟩) h2
      · intro m om hm hmi hml hmo
        refine hap m om hm hmi ?_ hmo
        rcases Decidable.em (j = m) with q | q
        · subst q; exact hjl
        · rw [getD_set_ne true q] at hml; exact hml
      · rw [Array.setIfInBounds_comm _ _ e]; exact k.2.2
end
def RE (P : Program) (n : Nat) (ops : Array Oper) (lds : List Nat) (S : World → Prop) (Q : Exit → Fr → World → Prop) (f : Nat) (listed : Array Bool) (τ : Fr) (w : World) : Prop :=
  wpD P ops lds S (NoPanic (On n Q)) f listed (AF n τ) w
section
variable {P : Program} {n : Nat} {ops : Array Oper} {lds : List Nat} {S : World → Prop} {Q : Exit → Fr → World → Prop} {f : Nat} {listed : Array Bool} {τ : Fr} {w : World}
theorem CW.regionE {id : Nat} (lds : List Nat) (S : World → Prop) (hm : P.follows .mixedOrders = true)
    (h : RE P n ops lds S Q ops.size (Array.replicate ops.size false) τ w.drew) : CW P n (.region id ops true) Q τ w :=
  wp_region_noPanic (wp_region_any hm (wpD_any _ _ _ _ h))
theorem RE.take (i : Nat) {oi : Oper} {v : Value} (hi : ops[i]? = some oi) (hc : (Region.noSelect ops && lds.contains i && Region.free .any ops listed i && (Region.ready .any ops listed).contains i) = true)
    (hw : Wd n ops oi τ true) (hx : ∀ w, S w → Ev P (AF n τ).eval oi w v) (hS : S w) (h : RE P n ops lds S Q f (listed.setIfInBounds i true) (upo τ oi.dst v) w) : RE P n ops lds S Q (f + 1) listed τ w := by
  simp only [Bool.and_eq_true] at hc
  obtain ⟨⟨⟨h1, h2⟩, h3⟩, h4⟩ := hc
  refine wpD_first hi (by simpa using h2) h1 (fun c a w hp => hp) f listed (AF n τ) w (fun j oj hj hne hun hno => Region.free_spec hi h3 j oj hj hne hun hno) (by simpa using h4) (.inl ⟨hw, hx⟩) hS ?_
  rw [AF_put]; exact h
theorem RE.takeF (i : Nat) {oi : Oper} {v : Value} (hi : ops[i]? = some oi) (hc : (Region.noSelect ops && Region.free .any ops listed i && (Region.ready .any ops listed).contains i) = true)
    (hw : Wd n ops oi τ true) (hx : ∀ w, Ev P (AF n τ).eval oi w v) (h : RE P n ops lds S Q f (listed.setIfInBounds i true) (upo τ oi.dst v) w) : RE P n ops lds S Q (f + 1) listed τ w := by
  simp only [Bool.and_eq_true] at hc
  obtain ⟨⟨h1, h3⟩, h4⟩ := hc
  refine wpD_free hi h1 (fun c a w hp => hp) f listed (AF n τ) w (fun j oj hj hne hun hno => Region.free_spec hi h3 j oj hj hne hun hno) (by simpa using h4) (.inl ⟨hw, fun w _ => hx w⟩) ?_
  rw [AF_put]; exact h
theorem RE.passF (i : Nat) {oi : Oper} (hi : ops[i]? = some oi) (hc : (Region.noSelect ops && Region.free .any ops listed i && (Region.ready .any ops listed).contains i) = true)
    (hw : Wd n ops oi τ false) (h : RE P n ops lds S Q f (listed.setIfInBounds i true) (upo τ oi.dst undef) w) : RE P n ops lds S Q (f + 1) listed τ w := by
  simp only [Bool.and_eq_true] at hc
  obtain ⟨⟨h1, h3⟩, h4⟩ := hc
  refine wpD_free hi h1 (fun c a w hp => hp) f listed (AF n τ) w (fun j oj hj hne hun hno => Region.free_spec hi h3 j oj hj hne hun hno) (by simpa using h4) (.inr ⟨hw, rfl⟩) ?_
  rw [AF_put]; exact h
theorem RE.hardOp {i : Nat} {oi : Oper} (hi : ops[i]? = some oi) (hw : Wd n ops oi τ true) (hh : Hd P n oi τ w fun v w' => (needs ops lds i = true → S w → S w') ∧ RE P n ops lds S Q f (listed.setIfInBounds i true) (upo τ oi.dst v) w') :
    wpOp P ops (NoPanic (On n Q)) i (fun a' w' => (needs ops lds i = true → S w → S w') ∧ wpD P ops lds S (NoPanic (On n Q)) f (listed.setIfInBounds i true) a' w') (AF n τ) w := by
  unfold wpOp
  simp only [hi]
  rw [if_pos (show Region.wanted oi (yielded ops (AF n τ).tmps) = true from hw)]
  refine .inl (Oper.wp_mono ?_ (hh _))
  rintro a w ⟨v, rfl, h1, h2⟩; exact ⟨h1, h2⟩
theorem RE.only (i : Nat) {oi : Oper} (hi : ops[i]? = some oi) (hc : Region.ready .any ops listed = [i]) (hw : Wd n ops oi τ true)
    (hh : Hd P n oi τ w fun v w' => (needs ops lds i = true → S w → S w') ∧ RE P n ops lds S Q f (listed.setIfInBounds i true) (upo τ oi.dst v) w') : RE P n ops lds S Q (f + 1) listed τ w := by
  unfold RE wpD
  refine ⟨fun h => (by rw [hc] at h; cases h), fun j hj => ?_⟩
  rw [hc] at hj
  obtain rfl : j = i := by simpa using hj
  exact RE.hardOp hi hw hh
theorem RE.two (i j : Nat) {oi oj : Oper} (hi : ops[i]? = some oi) (hj : ops[j]? = some oj) (hc : Region.ready .any ops listed = [i, j]) (hw : Wd n ops oi τ true) (hw2 : Wd n ops oj τ true)
    (hh : Hd P n oi τ w fun v w' => (needs ops lds i = true → S w → S w') ∧ RE P n ops lds S Q f (listed.setIfInBounds i true) (upo τ oi.dst v) w')
    (hh2 : Hd P n oj τ w fun v w' => (needs ops lds j = true → S w → S w') ∧ RE P n ops lds S Q f (listed.setIfInBounds j true) (upo τ oj.dst v) w') : RE P n ops lds S Q (f + 1) listed τ w := by
  unfold RE wpD
  refine ⟨fun h => (by rw [hc] at h; cases h), fun k hk => ?_⟩
  rw [hc] at hk
  rcases (show k = i ∨ k = j by simpa using hk) with rfl | rfl
  · exact RE.hardOp hi hw hh
  · exact RE.hardOp hj hw2 hh2
theorem RE.fin {K : Fr → World → Prop} (hc : Region.ready .any ops listed = []) (F : Fr → Prop) (hF : F τ) (h : ∀ τ, F τ → K τ w) : RE P n ops lds S (Th K Q) f listed τ w := by
  have hn : NoPanic (On n (Th K Q)) .normal (AF n τ) w := ⟨τ, rfl, h τ hF⟩
  cases f with
  | zero => exact ⟨hc, hn⟩
  | succ f => exact ⟨fun _ => hn, by rw [hc]; intro i hi; cases hi⟩
theorem RE.done (hc : Region.ready .any ops listed = []) (h : Q .normal τ w) : RE P n ops lds S Q f listed τ w := by
  cases f with
  | zero => exact ⟨hc, τ, rfl, h⟩
  | succ f => exact ⟨fun _ => ⟨τ, rfl, h⟩, by rw [hc]; intro i hi; cases hi⟩
end
/-- something that tells the bytes behind a slice -/
def Tel (v : Value) (xs : List (BitVec 8)) : Assn := fun h => ∃ A : Assn, (∀ p w H, St p w (A :: H) → Src w 1 v xs.length (xs.map bu8)) ∧ A h
theorem Tel.src {p : Pers} {w : World} {H : List Assn} {v : Value} {xs : List (BitVec 8)} (s : St p w (Tel v xs :: H)) : Src w 1 v xs.length (xs.map bu8) := by
  obtain ⟨h, ⟨a, b, d, e, ⟨A, hA, ha⟩, hb⟩, r⟩ := s
  exact hA p w H ⟨h, ⟨a, b, d, e, ha, hb⟩, r⟩
theorem Tel.make {p : Pers} {w : World} {H : List Assn} {A : Assn} {v : Value} {xs : List (BitVec 8)} (s : St p w (A :: H)) (h : ∀ p w H, St p w (A :: H) → Src w 1 v xs.length (xs.map bu8)) : St p w (Tel v xs :: H) :=
  s.weaken fun x hx => ⟨A, h, hx⟩
theorem Tel.nil {p : Pers} {w : World} {H : List Assn} (c : Nat) (s : St p w H) : St p w (Tel (.slice none 0 c) [] :: H) :=
  Tel.make s.emp fun p w H s => Src.nil
/-! ### rows of slices of bytes -/
structure SlM where
  X : Option Addr
  cap : Nat
  ns : List (BitVec 8)
def SlM.enc (s : SlM) : List Value := [.slice s.X s.ns.length s.cap]
def SlM.tells (p : Pers) (A : Assn) (s : SlM) : Prop := ∀ w H, St p w (A :: H) → Src w 1 (.slice s.X s.ns.length s.cap) s.ns.length (s.ns.map bu8)
theorem ss_nil {p : Pers} {A : Assn} : ∀ s ∈ ([] : List SlM), s.tells p A := fun s h => by cases h
theorem ss_cons {p : Pers} {A : Assn} {a : SlM} {l : List SlM} (h : a.tells p A) (hl : ∀ s ∈ l, s.tells p A) : ∀ s ∈ a :: l, s.tells p A := fun s hs => by
  rcases List.mem_cons.1 hs with rfl | h2
  · exact h
  · exact hl s h2
theorem ss_at {L : List SlM} {b : List (List (BitVec 8))} (hb : b = L.map SlM.ns) {j : Nat} {l : List (BitVec 8)} (hj : j < b.length) (hl : l = b.getD j []) : ∃ X c, L[j]? = some ⟨X, c, l⟩ := by
  subst hb
  rw [List.length_map] at hj
  refine ⟨L[j].X, L[j].cap, ?_⟩
  subst hl
  simp [hj]
theorem ss_get {L : List SlM} {j : Nat} {s : SlM} (h : L[j]? = some s) : (L.flatMap SlM.enc)[j]? = some (.slice s.X s.ns.length s.cap) := by
  have := flat_get (f := SlM.enc) (sz := 1) (fun _ => rfl) h (j := 0) (u := .slice s.X s.ns.length s.cap) rfl
  rwa [Nat.mul_one, Nat.add_zero] at this
theorem ss_len {L : List SlM} {b : List (List (BitVec 8))} (hb : b = L.map SlM.ns) : b.length = L.length := by rw [hb, List.length_map]
end Go.SL
