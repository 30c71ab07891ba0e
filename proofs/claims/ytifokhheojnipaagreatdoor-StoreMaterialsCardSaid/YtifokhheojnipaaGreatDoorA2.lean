/- For the keyring: one of many that are held; a store into an element that keeps the rest; a row of elements, held. -/
import Derived.Test.YtifokhheojnipaaGreatDoorA1
import Derived.Lib.AppendZerosOnto
import Derived.Laws.CopyRow
import Derived.Laws.IdiomCopy
import Derived.Deep.RegionHeld3
import Derived.Lib.SlBytesConst
import Derived.ChangeKeysEq
import Derived.Laws.MakeOwn
set_option linter.unusedVariables false
set_option linter.unusedSimpArgs false
set_option linter.unnecessarySimpa false
namespace Go.SL
open Go.RowKit
set_option linter.unusedVariables false
set_option linter.unusedSimpArgs false
theorem Del.mid {A : Assn} {l2 : List Assn} : ∀ l1 : List Assn, Del A (l1 ++ A :: l2) (l1 ++ l2)
  | [] => .here
  | B :: l1 => .there (Del.mid l1)
theorem Del.before {A : Assn} {l l' : List Assn} (h : Del A l l') (B : List Assn) : Del A (l ++ B) (l' ++ B) := by
  induction h with
  | here => exact .here
  | there h ih => exact .there ih
/-- what lies at an index of a row -/
theorem cut_at {α : Type} {l : List α} {i : Nat} {a : α} (h : l[i]? = some a) : l = l.take i ++ a :: l.drop (i + 1) := by
  obtain ⟨hi, he⟩ := List.getElem?_eq_some_iff.1 h
  rw [← he, List.getElem_cons_drop, List.take_append_drop]
theorem over_take {cur : Array Value} {o n : Nat} {l xs : List Value} (hx : cur.toList.take n = xs) (ho : o + l.length ≤ n) (hn : n ≤ cur.size) : (over cur o l).toList.take n = xs.take o ++ l ++ xs.drop (o + l.length) := by
  subst hx
  have h1 : (cur.toList.take o).length = o := by rw [List.length_take, Array.length_toList]; omega
  have h2 : (cur.toList.take o ++ l).length = o + l.length := by rw [List.length_append, h1]
  simp only [over]
  rw [List.take_append, h2, List.take_of_length_le (by omega), List.take_take, Nat.min_eq_left (by omega), List.drop_take]
section
variable {P : Program} {n : Nat} {τ : Fr} {w : World} {dst : Option Tmp} {ty : TypeId} {pos : String} {af : Array Edge} {gd : Option (Nat × Bool)} {K : Value → World → Prop} {p : Pers} {HH H' : List Assn}
theorem H.storeAt {t e : TypeId} {x y : Operand} {b o k c sz : Nat} {v : Value} {xs : List Value} (hx : (Act.eval (AF n τ)) x = .pointer (some ⟨b, o, none⟩)) (hy : (Act.eval (AF n τ)) y = v)
    (s : St p w HH) (hd : Del (Own e sz (.slice (some ⟨b, 0, none⟩) k c) k xs) HH H') (hk : 0 < k) (hz : (P.info? t).map (·.size) = some v.cells.size) (ho : o + v.cells.size ≤ k * sz)
    (h1 : ∀ u ∈ v.cells.toList, u.oneCell' = true) (h : ∀ w', St p w' (Own e sz (.slice (some ⟨b, 0, none⟩) k c) k (xs.take o ++ v.cells.toList ++ xs.drop (o + v.cells.size)) :: H') → K undef w') : Hd P n ⟨dst, .store t x y, ty, pos, af, gd⟩ τ w K := by
  have s1 := s.take hd
  obtain ⟨hl, ⟨A, he, hk0, _⟩ | ⟨g, cap, cur, he, s2, hkc, hcm, hcs, hxx⟩⟩ := s1.ownOpen
  · omega
  · cases he
    have hle : k * sz ≤ c * sz := Nat.mul_le_mul_right _ hkc
    have hsz : v.cells.toList.length = v.cells.size := by simp
    refine H.store (v := v) (c := cur) hx hy s2 .here hz (by omega) h1 rfl fun w' s3 => ?_
    refine h w' (s3.ownNew hkc hcm ?_ ?_)
    · simp only [over, List.size_toArray, List.length_append, List.length_take, List.length_drop, Array.length_toList]
      omega
    · rw [over_take hxx (by omega) (by omega), hsz]
end
end Go.SL
namespace Go.SL
open Go.RowKit
set_option linter.unusedVariables false
set_option linter.unusedSimpArgs false
section
variable {P : Program} {n : Nat} {τ : Fr} {w : World} {dst : Option Tmp} {ty : TypeId} {pos : String} {af : Array Edge} {gd : Option (Nat × Bool)} {K : Value → World → Prop} {p : Pers} {H HH H' : List Assn}
theorem St.cellsOf {b o : Nat} {L ys : List Value} {e : TypeId} {fr : Nat × Nat} (s : St p w H) (d : Del (pt b (.cells L.toArray e fr)) H H') (h : ∀ j v, ys[j]? = some v → L[o + j]? = some v) :
    ∀ j v, ys[j]? = some v → w.cell? ⟨b, o + j, none⟩ = some v := fun j v hv => s.cell d (by rw [List.getElem?_toArray]; exact h j v hv)
end
end Go.SL
namespace Go.SL
open Go.RowKit
set_option linter.unusedVariables false
set_option linter.unusedSimpArgs false
def shrI (a b : Int) : Int := a.fdiv (2 ^ (min b.toNat 64))
def andI (a b : Int) : Int := IntKind.i64.wrap ((BitVec.ofInt 64 a &&& BitVec.ofInt 64 b).toNat : Int)
section
variable {P : Program} {ρ : Operand → Value} {w : World} {dst : Option Tmp} {ty : TypeId} {pos : String} {af : Array Edge} {gd : Option (Nat × Bool)}
theorem E.shr {x y : Operand} {t t' : TypeId} {k : IntKind} {a b : Int} (hx : ρ x = .int .i64 a) (hy : ρ y = .int k b) (h0 : 0 ≤ b) : Ev P ρ ⟨dst, .binOp .shr t x y t', ty, pos, af, gd⟩ w (.int .i64 (shrI a b)) := by
  have h1 : ¬ b < 0 := by omega
  simp [Ev, execOp, eqGuard, binOp, Op.shift, hx, hy, h1, shrI, IntKind.bits]
theorem E.and {x y : Operand} {t t' : TypeId} {a b : Int} (hx : ρ x = .int .i64 a) (hy : ρ y = .int .i64 b) : Ev P ρ ⟨dst, .binOp .and t x y t', ty, pos, af, gd⟩ w (.int .i64 (andI a b)) := by
  simp only [Ev, execOp, eqGuard, binOp, Op.intBits, hx, hy, andI]
  rfl
end
end Go.SL
namespace Go.SL
open Go.RowKit
set_option linter.unusedVariables false
set_option linter.unusedSimpArgs false

/-- an unsigned kind of n bits -/
structure UK (k : IntKind) (n : Nat) : Prop where
  s : k.signed = false
  b : k.bits = n
theorem UK.u8 : UK .u8 8 := ⟨rfl, rfl⟩
theorem UK.u16 : UK .u16 16 := ⟨rfl, rfl⟩
theorem UK.u32 : UK .u32 32 := ⟨rfl, rfl⟩
theorem UK.u64 : UK .u64 64 := ⟨rfl, rfl⟩
theorem UK.wrap {k : IntKind} {n : Nat} (h : UK k n) (z : Int) : k.wrap z = z % (2 ^ n : Int) := by
  obtain ⟨hs, rfl⟩ := h
  simp [IntKind.wrap, hs]
theorem UK.wrapN {k : IntKind} {n : Nat} (h : UK k n) (z : Nat) : k.wrap (z : Int) = ((z % 2 ^ n : Nat) : Int) := by
  rw [h.wrap]; simp
theorem UK.wrapB {k : IntKind} {n : Nat} (h : UK k n) (x : BitVec n) : k.wrap (x.toNat : Int) = (x.toNat : Int) := by
  rw [h.wrapN, Nat.mod_eq_of_lt x.isLt]
theorem ofInt_toNat {n : Nat} (x : BitVec n) : BitVec.ofInt n (x.toNat : Int) = x := by
  rw [BitVec.ofInt_natCast, BitVec.ofNat_toNat]; simp
theorem ofInt_nat {n : Nat} (z : Int) : ((BitVec.ofInt n z).toNat : Int) = z % (2 ^ n : Int) := by
  rw [BitVec.toNat_ofInt]
  have h : (0 : Int) ≤ z % ((2 ^ n : Nat) : Int) := Int.emod_nonneg _ (by have := Nat.two_pow_pos n; omega)
  rw [Int.toNat_of_nonneg h]; simp
section
variable {P : Program} {ρ : Operand → Value} {w : World} {dst : Option Tmp} {ty : TypeId} {pos : String} {af : Array Edge} {gd : Option (Nat × Bool)}
variable {x y : Operand} {t t' : TypeId} {k k' : IntKind} {n m : Nat} {a b : BitVec n}
theorem E.uadd (h : UK k n) (hx : ρ x = .int k a.toNat) (hy : ρ y = .int k b.toNat) : Ev P ρ ⟨dst, .binOp .add t x y t', ty, pos, af, gd⟩ w (.int k (a + b).toNat) := by
  refine E.add hx hy ?_
  rw [← Int.natCast_add, h.wrapN, BitVec.toNat_add]
theorem E.umul (h : UK k n) (hx : ρ x = .int k a.toNat) (hy : ρ y = .int k b.toNat) : Ev P ρ ⟨dst, .binOp .mul t x y t', ty, pos, af, gd⟩ w (.int k (a * b).toNat) := by
  refine E.mul hx hy ?_
  rw [← Int.natCast_mul, h.wrapN, BitVec.toNat_mul]
theorem usub (h : UK k n) : k.wrap ((a.toNat : Int) - b.toNat) = ((a - b).toNat : Int) := by
  rw [h.wrap, BitVec.toNat_sub]
  have ha := a.isLt; have hb := b.isLt
  have : ((a.toNat : Int) - b.toNat) % (2 ^ n : Int) = ((2 ^ n : Int) - b.toNat + a.toNat) % (2 ^ n : Int) := by
    rw [show (2 ^ n : Int) - b.toNat + a.toNat = (a.toNat - b.toNat) + (2 ^ n : Int) by omega, Int.add_emod_right]
  rw [this, Int.natCast_emod, Int.natCast_add, Int.natCast_sub (Nat.le_of_lt hb)]
  simp
theorem E.usub (h : UK k n) (hx : ρ x = .int k a.toNat) (hy : ρ y = .int k b.toNat) : Ev P ρ ⟨dst, .binOp .sub t x y t', ty, pos, af, gd⟩ w (.int k (a - b).toNat) :=
  E.sub hx hy (Go.SL.usub h)
theorem E.uneg (h : UK k n) (hx : ρ x = .int k a.toNat) : Ev P ρ ⟨dst, .unOp .neg t x, ty, pos, af, gd⟩ w (.int k (-a).toNat) := by
  refine E.neg hx ?_
  have := Go.SL.usub (a := 0#n) (b := a) h
  simp only [BitVec.toNat_ofNat, Nat.zero_mod] at this
  rw [show (0 : Int) = ((0 : Nat) : Int) from rfl, this, BitVec.zero_sub]
theorem E.ubits {op : BinOp} {r : BitVec n} (h : UK k n) (hx : ρ x = .int k a.toNat) (hy : ρ y = .int k b.toNat)
    (hr : (op = .and ∧ r = a &&& b) ∨ (op = .or ∧ r = a ||| b) ∨ (op = .xor ∧ r = a ^^^ b) ∨ (op = .andNot ∧ r = a &&& ~~~b)) : Ev P ρ ⟨dst, .binOp op t x y t', ty, pos, af, gd⟩ w (.int k r.toNat) := by
  have hw := h.wrapB r
  obtain ⟨hs, rfl⟩ := h
  rcases hr with ⟨rfl, rfl⟩ | ⟨rfl, rfl⟩ | ⟨rfl, rfl⟩ | ⟨rfl, rfl⟩ <;> simp [Ev, execOp, eqGuard, binOp, Op.intBits, hx, hy, ofInt_toNat, hw, -BitVec.toNat_and, -BitVec.toNat_or, -BitVec.toNat_xor, -BitVec.toNat_not]
theorem E.uand (h : UK k n) (hx : ρ x = .int k a.toNat) (hy : ρ y = .int k b.toNat) : Ev P ρ ⟨dst, .binOp .and t x y t', ty, pos, af, gd⟩ w (.int k (a &&& b).toNat) := E.ubits h hx hy (.inl ⟨rfl, rfl⟩)
theorem E.uor (h : UK k n) (hx : ρ x = .int k a.toNat) (hy : ρ y = .int k b.toNat) : Ev P ρ ⟨dst, .binOp .or t x y t', ty, pos, af, gd⟩ w (.int k (a ||| b).toNat) := E.ubits h hx hy (.inr (.inl ⟨rfl, rfl⟩))
theorem E.uxor (h : UK k n) (hx : ρ x = .int k a.toNat) (hy : ρ y = .int k b.toNat) : Ev P ρ ⟨dst, .binOp .xor t x y t', ty, pos, af, gd⟩ w (.int k (a ^^^ b).toNat) := E.ubits h hx hy (.inr (.inr (.inl ⟨rfl, rfl⟩)))
theorem E.uandNot (h : UK k n) (hx : ρ x = .int k a.toNat) (hy : ρ y = .int k b.toNat) : Ev P ρ ⟨dst, .binOp .andNot t x y t', ty, pos, af, gd⟩ w (.int k (a &&& ~~~b).toNat) := E.ubits h hx hy (.inr (.inr (.inr ⟨rfl, rfl⟩)))
theorem E.unot (h : UK k n) (hx : ρ x = .int k a.toNat) : Ev P ρ ⟨dst, .unOp .xor t x, ty, pos, af, gd⟩ w (.int k (~~~a).toNat) := by
  have hw := h.wrapB (~~~a)
  obtain ⟨hs, rfl⟩ := h
  have h1 : BitVec.ofInt k.bits k.max = BitVec.allOnes k.bits := by
    apply BitVec.eq_of_toNat_eq
    have : ((BitVec.ofInt k.bits k.max).toNat : Int) = (BitVec.allOnes k.bits).toNat := by
      rw [ofInt_nat, BitVec.toNat_allOnes]
      have hp := Nat.two_pow_pos k.bits
      simp only [IntKind.max, hs, Bool.false_eq_true, if_false]
      rw [Int.emod_eq_of_lt]
      · rw [Int.natCast_sub (by omega)]; simp
      · have : (0 : Int) < 2 ^ k.bits := by exact_mod_cast hp
        omega
      · omega
    exact_mod_cast this
  have h2 : BitVec.allOnes k.bits ^^^ a = ~~~a := by simp
  simp [Ev, execOp, Op.unary, Op.intBits, hx, hs, h1, ofInt_toNat, h2, hw, -BitVec.toNat_not]
theorem E.ushl {yk : IntKind} {s : Int} {j : Nat} (h : UK k n) (hx : ρ x = .int k a.toNat) (hy : ρ y = .int yk s) (h0 : s = (j : Int)) : Ev P ρ ⟨dst, .binOp .shl t x y t', ty, pos, af, gd⟩ w (.int k (a <<< j).toNat) := by
  subst h0
  have : k.wrap ((a.toNat : Int) * 2 ^ Min.min j k.bits) = ((a <<< j).toNat : Int) := by
    have e : ((a.toNat : Int) * 2 ^ Min.min j k.bits) = ((a.toNat * 2 ^ Min.min j k.bits : Nat) : Int) := by simp
    rw [e, h.wrapN, BitVec.toNat_shiftLeft, Nat.shiftLeft_eq, h.b]
    congr 1
    rcases Nat.le_total j n with hj | hj
    · rw [Nat.min_eq_left hj]
    · rw [Nat.min_eq_right hj, Nat.mul_mod_left]
      obtain ⟨d, rfl⟩ := Nat.exists_eq_add_of_le hj
      rw [Nat.pow_add, Nat.mul_comm (2 ^ n), ← Nat.mul_assoc, Nat.mul_mod_left]
  simp only [Ev, execOp, eqGuard, binOp, Op.shift, hx, hy, Int.toNat_natCast, this, if_neg (show ¬ ((j : Int) < 0) by omega)]; simp [-BitVec.toNat_shiftLeft, -BitVec.toNat_ushiftRight]
theorem E.ushr {yk : IntKind} {s : Int} {j : Nat} (h : UK k n) (hx : ρ x = .int k a.toNat) (hy : ρ y = .int yk s) (h0 : s = (j : Int)) : Ev P ρ ⟨dst, .binOp .shr t x y t', ty, pos, af, gd⟩ w (.int k (a >>> j).toNat) := by
  subst h0
  have : ((a.toNat : Int)).fdiv (2 ^ Min.min j k.bits) = ((a >>> j).toNat : Int) := by
    have e : (2 ^ Min.min j k.bits : Int) = ((2 ^ Min.min j k.bits : Nat) : Int) := by simp
    rw [e, Int.fdiv_eq_ediv_of_nonneg _ (Int.natCast_nonneg _), ← Int.natCast_ediv, BitVec.toNat_ushiftRight, Nat.shiftRight_eq_div_pow, h.b]
    congr 1
    rcases Nat.le_total j n with hj | hj
    · rw [Nat.min_eq_left hj]
    · rw [Nat.min_eq_right hj, Nat.div_eq_of_lt a.isLt, Nat.div_eq_of_lt]
      exact Nat.lt_of_lt_of_le a.isLt (Nat.pow_le_pow_right (by omega) hj)
  simp only [Ev, execOp, eqGuard, binOp, Op.shift, hx, hy, Int.toNat_natCast, this, if_neg (show ¬ ((j : Int) < 0) by omega)]; simp [-BitVec.toNat_shiftLeft, -BitVec.toNat_ushiftRight]
theorem toNat_beq (a b : BitVec n) : ((a.toNat : Int) == (b.toNat : Int)) = (a == b) := by
  rw [Bool.eq_iff_iff, beq_iff_eq, beq_iff_eq]
  exact ⟨fun h => BitVec.eq_of_toNat_eq (by exact_mod_cast h), fun h => by rw [h]⟩
theorem E.ueql (hx : ρ x = .int k a.toNat) (hy : ρ y = .int k b.toNat) : Ev P ρ ⟨dst, .binOp .eql t x y t', ty, pos, af, gd⟩ w (.bool (a == b)) :=
  E.b (E.eql hx hy) (toNat_beq a b)
theorem E.uneq (hx : ρ x = .int k a.toNat) (hy : ρ y = .int k b.toNat) : Ev P ρ ⟨dst, .binOp .neq t x y t', ty, pos, af, gd⟩ w (.bool (a != b)) :=
  E.b (E.neq hx hy) (by rw [bne, bne, toNat_beq])
theorem E.ulss (hx : ρ x = .int k a.toNat) (hy : ρ y = .int k b.toNat) : Ev P ρ ⟨dst, .binOp .lss t x y t', ty, pos, af, gd⟩ w (.bool (decide (a.toNat < b.toNat))) := E.b (E.lss hx hy) (by simp)
theorem E.uleq (hx : ρ x = .int k a.toNat) (hy : ρ y = .int k b.toNat) : Ev P ρ ⟨dst, .binOp .leq t x y t', ty, pos, af, gd⟩ w (.bool (decide (a.toNat ≤ b.toNat))) := E.b (E.leq hx hy) (by simp)
theorem E.ugtr (hx : ρ x = .int k a.toNat) (hy : ρ y = .int k b.toNat) : Ev P ρ ⟨dst, .binOp .gtr t x y t', ty, pos, af, gd⟩ w (.bool (decide (a.toNat > b.toNat))) := E.b (E.gtr hx hy) (by simp)
theorem E.ugeq (hx : ρ x = .int k a.toNat) (hy : ρ y = .int k b.toNat) : Ev P ρ ⟨dst, .binOp .geq t x y t', ty, pos, af, gd⟩ w (.bool (decide (a.toNat ≥ b.toNat))) := E.b (E.geq hx hy) (by simp)
/-- division and rest of what has no sign -/
theorem E.uquo (h : UK k n) (hx : ρ x = .int k a.toNat) (hy : ρ y = .int k b.toNat) (h0 : b ≠ 0#n) : Ev P ρ ⟨dst, .binOp .quo t x y t', ty, pos, af, gd⟩ w (.int k (a / b).toNat) := by
  have hb : (b.toNat : Int) ≠ 0 := fun e => h0 (BitVec.eq_of_toNat_eq (by simpa using e))
  refine E.quo hx hy hb ?_
  rw [Int.tdiv_eq_ediv_of_nonneg (Int.natCast_nonneg _), ← Int.natCast_ediv, h.wrapN, BitVec.toNat_udiv, Nat.mod_eq_of_lt (Nat.lt_of_le_of_lt (Nat.div_le_self _ _) a.isLt)]
theorem E.urem (hx : ρ x = .int k a.toNat) (hy : ρ y = .int k b.toNat) (h0 : b ≠ 0#n) : Ev P ρ ⟨dst, .binOp .rem t x y t', ty, pos, af, gd⟩ w (.int k (a % b).toNat) := by
  have hb : (b.toNat : Int) ≠ 0 := fun e => h0 (BitVec.eq_of_toNat_eq (by simpa using e))
  refine E.rem hx hy hb ?_
  rw [Int.tmod_eq_emod_of_nonneg (Int.natCast_nonneg _), ← Int.natCast_emod, BitVec.toNat_umod]
/-! conversions -/
theorem E.cvUU {src dt : TypeId} (hs : (P.underlying src).isSome = true) (hd : P.underlying dt = some (.int k')) (h' : UK k' m) (hx : ρ x = .int k a.toNat) : Ev P ρ ⟨dst, .convert src dt x, ty, pos, af, gd⟩ w (.int k' (a.setWidth m).toNat) :=
  E.convInt hs hd hx (by rw [h'.wrapN, BitVec.toNat_setWidth])
theorem i64_small {z : Int} (h0 : 0 ≤ z) (h1 : z < 9223372036854775808) : IntKind.i64.wrap z = z := by
  simp [IntKind.wrap, IntKind.bits, IntKind.signed]; omega
theorem E.cvUI {src dt : TypeId} (hs : (P.underlying src).isSome = true) (hd : P.underlying dt = some (.int .i64)) (hn : n < 64) (hx : ρ x = .int k a.toNat) : Ev P ρ ⟨dst, .convert src dt x, ty, pos, af, gd⟩ w (.int .i64 a.toNat) :=
  E.convInt hs hd hx (i64_small (Int.natCast_nonneg _) (by
    have := a.isLt
    have h2 : 2 ^ n ≤ 2 ^ 63 := Nat.pow_le_pow_right (by omega) (by omega)
    omega))
theorem i64_wrap (r : BitVec 64) : IntKind.i64.wrap (r.toNat : Int) = r.toInt := by
  have hr : r.toNat < 18446744073709551616 := r.isLt
  have hz : ∀ z : Int, IntKind.i64.wrap z = if z % 18446744073709551616 ≥ 9223372036854775808 then z % 18446744073709551616 - 18446744073709551616 else z % 18446744073709551616 := fun z => by simp [IntKind.wrap, IntKind.bits, IntKind.signed]
  have hi : r.toInt = if 2 * r.toNat < 18446744073709551616 then (r.toNat : Int) else (r.toNat : Int) - 18446744073709551616 := by rw [BitVec.toInt_eq_toNat_cond]; rfl
  rw [hz, hi]
  split <;> split <;> omega
theorem E.cvU64I {a : BitVec 64} {src dt : TypeId} (hs : (P.underlying src).isSome = true) (hd : P.underlying dt = some (.int .i64)) (hx : ρ x = .int k a.toNat) : Ev P ρ ⟨dst, .convert src dt x, ty, pos, af, gd⟩ w (.int .i64 a.toInt) :=
  E.convInt hs hd hx (i64_wrap a)
theorem E.cvIU {src dt : TypeId} {z : Int} (hs : (P.underlying src).isSome = true) (hd : P.underlying dt = some (.int k')) (h' : UK k' m) (hx : ρ x = .int .i64 z) : Ev P ρ ⟨dst, .convert src dt x, ty, pos, af, gd⟩ w (.int k' (BitVec.ofInt m z).toNat) :=
  E.convInt hs hd hx (by rw [h'.wrap, ofInt_nat])
/-! numbers with a sign: bits, shifts, and what wraps -/
def w64 (z : Int) : Int := IntKind.i64.wrap z
theorem w64_id {z : Int} (h0 : -9223372036854775808 ≤ z) (h1 : z ≤ 9223372036854775807) : w64 z = z := by
  simp [w64, IntKind.wrap, IntKind.bits, IntKind.signed]; omega
def ior64 (a b : Int) : Int := (BitVec.ofInt 64 a ||| BitVec.ofInt 64 b).toInt
def iand64 (a b : Int) : Int := (BitVec.ofInt 64 a &&& BitVec.ofInt 64 b).toInt
def ixor64 (a b : Int) : Int := (BitVec.ofInt 64 a ^^^ BitVec.ofInt 64 b).toInt
def ishl64 (a : Int) (j : Nat) : Int := w64 (a * 2 ^ Min.min j 64)
def ishr64 (a : Int) (j : Nat) : Int := a.fdiv (2 ^ Min.min j 64)
section
variable {i j : Int}
theorem E.ior (hx : ρ x = .int .i64 i) (hy : ρ y = .int .i64 j) : Ev P ρ ⟨dst, .binOp .or t x y t', ty, pos, af, gd⟩ w (.int .i64 (ior64 i j)) := by
  rw [ior64, ← i64_wrap]; simp [Ev, execOp, eqGuard, binOp, Op.intBits, hx, hy, IntKind.bits, -BitVec.toNat_or, -BitVec.toNat_and, -BitVec.toNat_xor]; rfl
theorem E.iand (hx : ρ x = .int .i64 i) (hy : ρ y = .int .i64 j) : Ev P ρ ⟨dst, .binOp .and t x y t', ty, pos, af, gd⟩ w (.int .i64 (iand64 i j)) := by
  rw [iand64, ← i64_wrap]; simp [Ev, execOp, eqGuard, binOp, Op.intBits, hx, hy, IntKind.bits, -BitVec.toNat_or, -BitVec.toNat_and, -BitVec.toNat_xor]; rfl
theorem E.ixor (hx : ρ x = .int .i64 i) (hy : ρ y = .int .i64 j) : Ev P ρ ⟨dst, .binOp .xor t x y t', ty, pos, af, gd⟩ w (.int .i64 (ixor64 i j)) := by
  rw [ixor64, ← i64_wrap]; simp [Ev, execOp, eqGuard, binOp, Op.intBits, hx, hy, IntKind.bits, -BitVec.toNat_or, -BitVec.toNat_and, -BitVec.toNat_xor]; rfl
theorem E.ishl {yk : IntKind} {s : Int} {d : Nat} (hx : ρ x = .int .i64 i) (hy : ρ y = .int yk s) (h0 : s = (d : Int)) : Ev P ρ ⟨dst, .binOp .shl t x y t', ty, pos, af, gd⟩ w (.int .i64 (ishl64 i d)) := by
  subst h0; simp only [Ev, execOp, eqGuard, binOp, Op.shift, hx, hy, Int.toNat_natCast, if_neg (show ¬ ((d : Int) < 0) by omega)]; simp [ishl64, w64, IntKind.bits]
theorem E.ishr {yk : IntKind} {s : Int} {d : Nat} (hx : ρ x = .int .i64 i) (hy : ρ y = .int yk s) (h0 : s = (d : Int)) : Ev P ρ ⟨dst, .binOp .shr t x y t', ty, pos, af, gd⟩ w (.int .i64 (ishr64 i d)) := by
  subst h0; simp only [Ev, execOp, eqGuard, binOp, Op.shift, hx, hy, Int.toNat_natCast, if_neg (show ¬ ((d : Int) < 0) by omega)]; simp [ishr64, IntKind.bits]
end
end
end Go.SL
namespace Go.SL
open Go.RowKit
set_option linter.unusedVariables false
set_option linter.unusedSimpArgs false

@[reducible] def bu8 (x : BitVec 8) : Value := .int .u8 (x.toNat : Int)
@[reducible] def bu16 (x : BitVec 16) : Value := .int .u16 (x.toNat : Int)
@[reducible] def bu32 (x : BitVec 32) : Value := .int .u32 (x.toNat : Int)
@[reducible] def bu64 (x : BitVec 64) : Value := .int .u64 (x.toNat : Int)
@[reducible] def bi64 (x : Int) : Value := .int .i64 x
/-! plain functions: none where Go would panic -/
def lt_ {α β : Type} (e : α) (f : α → β) : β := f e
section
variable {α β : Type}
theorem bd {x : Option α} {f : α → Option β} {r : β} (h : x.bind f = some r) : ∃ a, x = some a ∧ f a = some r := by
  cases x with
  | none => cases h
  | some a => exact ⟨a, rfl, h⟩
theorem lp {e : α} {f : α → Option β} {r : β} (h : lt_ e f = some r) : ∃ a, a = e ∧ f a = some r := ⟨e, rfl, h⟩
theorem ct {c : Bool} {A B : Option α} {r : α} (hc : c = true) (h : (bif c then A else B) = some r) : A = some r := by rw [hc] at h; exact h
end
/-! rows -/
section
variable {α : Type} {f : α → Value} {l new : List α} {d x : α} {L L1 L2 L1' L2' ys xs : List Value} {r o n1 m i j : Nat} {v : Value}
def sl (o m : Nat) (l : List α) : List α := (l.drop o).take m
def ov (l : List α) (o : Nat) (new : List α) : List α := l.take o ++ new ++ l.drop (o + new.length)
theorem sl_len {N : Nat} (h : l.length = N) (ho : o + m ≤ N) : (sl o m l).length = m := by
  simp only [sl, List.length_take, List.length_drop]; omega
theorem getL (h1 : L1.length = n1) (ho : o = n1 + r) (h : L2[r]? = some v) : (L1 ++ L2)[o]? = some v := by
  subst ho; subst h1; rw [List.getElem?_append_right (by omega), Nat.add_sub_cancel_left]; exact h
/-- ys laid over L from o on -/
structure Put (L : List Value) (o : Nat) (ys L' : List Value) : Prop where
  le : o + ys.length ≤ L.length
  eq : L' = L.take o ++ ys ++ L.drop (o + ys.length)
theorem putR (h : Put L1 r ys L1') : Put (L1 ++ L2) r ys (L1' ++ L2) := by
  refine ⟨by rw [List.length_append]; have := h.le; omega, ?_⟩
  rw [h.eq, List.take_append_of_le_length (by have := h.le; omega), List.drop_append_of_le_length h.le]
  simp [List.append_assoc]
theorem put_len (h : Put L o ys L1) : L1.length = L.length := by
  have := h.le
  rw [h.eq]; simp only [List.length_append, List.length_take, List.length_drop]; omega
end
section
variable {P : Program} {n : Nat} {τ : Fr} {ρ : Operand → Value} {w : World} {dst : Option Tmp} {ty : TypeId} {pos : String} {af : Array Edge} {gd : Option (Nat × Bool)} {K : Value → World → Prop} {p : Pers} {H HH H' : List Assn}
theorem E.v {o : Oper} {a b : Value} (h : Ev P ρ o w a) (e : a = b) : Ev P ρ o w b := e ▸ h
/-- what is behind a part of a slice -/
def sbA (X : Option Addr) (c i sz : Nat) : Option Addr := if c = i then X else X.map (·.add (i * sz))
theorem Src.sub {w : World} {X : Option Addr} {m c i j : Nat} {xs : List Value} (h : Src w 1 (.slice X m c) m xs) (hij : i ≤ j) (hj : j ≤ m) : Src w 1 (.slice (sbA X c i 1) (j - i) (c - i)) (j - i) (sl i (j - i) xs) := by
  obtain ⟨hl, X', c', he, hc, hh⟩ := h
  cases he
  refine ⟨by rw [Nat.mul_one, sl_len (N := m) (by rw [hl, Nat.mul_one]) (by omega)], _, _, rfl, by omega, ?_⟩
  rcases hh with rfl | ⟨b, o, rfl, hcell⟩
  · exact .inl (by omega)
  · rcases Nat.eq_zero_or_pos (j - i) with h0 | h0
    · exact .inl h0
    · refine .inr ⟨b, o + i, ?_, fun q u hu => ?_⟩
      · unfold sbA
        rw [if_neg (by omega), Nat.mul_one, Option.map_some, add_lit]
      · have : xs[i + q]? = some u := by
          simp only [sl, List.getElem?_take, List.getElem?_drop] at hu
          split at hu
          · exact hu
          · cases hu
        rw [Nat.add_assoc]; exact hcell _ _ this
end
end Go.SL
namespace Go.SL
open Go.RowKit
set_option linter.unusedVariables false
set_option linter.unusedSimpArgs false
section
variable {P : Program} {n : Nat} {Q : Exit → Fr → World → Prop} {τ : Fr} {w : World}
end
section
variable {P : Program} {ρ : Operand → Value} {w : World} {dst : Option Tmp} {ty : TypeId} {pos : String} {af : Array Edge} {gd : Option (Nat × Bool)} {p : Pers} {H H' HH : List Assn}
theorem Own.rec {e : TypeId} {v : Value} {k : Nat} {L L' : List Value} (s : St p w (Own e 1 v k L :: H)) (h : L = L') : St p w (Own e 1 v k L' :: H) := h ▸ s
theorem Src.nil {c : Nat} : Src w 1 (.slice none 0 c) 0 [] := ⟨rfl, none, c, rfl, Nat.zero_le _, .inl rfl⟩
theorem Src.cast {X : Option Addr} {m m' c c' : Nat} {xs ys : List Value} (h : Src w 1 (.slice X m c) m xs) (hm : m = m') (hc : c = c') (hx : xs = ys) : Src w 1 (.slice X m' c') m' ys := by subst hm; subst hc; subst hx; exact h
theorem Src.part {b o0 o m n c c2 : Nat} {xs ys : List Value} (h : Src w 1 (.slice (some ⟨b, o0, none⟩) m c) m xs) (ho : o + n ≤ m) (hc2 : n ≤ c2) (hy : ys = sl o n xs) : Src w 1 (.slice (some ⟨b, o0 + o, none⟩) n c2) n ys := by
  subst hy
  obtain ⟨hl, X', c', he, hc, hh⟩ := h
  cases he
  refine ⟨by rw [Nat.mul_one, sl_len (N := m) (by rw [hl, Nat.mul_one]) ho], _, _, rfl, hc2, ?_⟩
  rcases hh with rfl | ⟨b', o', hX, hcell⟩
  · exact .inl (by omega)
  · cases hX
    refine .inr ⟨b, o0 + o, rfl, fun q u hu => ?_⟩
    have : xs[o + q]? = some u := by
      simp only [sl, List.getElem?_take, List.getElem?_drop] at hu
      split at hu
      · exact hu
      · cases hu
    rw [Nat.add_assoc]; exact hcell _ _ this
/-- a string's byte -/
theorem E.indexStr {x y : Operand} {t : TypeId} {s : ByteArray} {l : List (BitVec 8)} {k : IntKind} {i : Int} {j : Nat} (ht : P.underlying t = some .string) (hx : ρ x = .string s) (hl : s.data.toList.map UInt8.toBitVec = l) (hy : ρ y = .int k i) (hi : i = (j : Int)) (h : j < l.length) :
    Ev P ρ ⟨dst, .index t x y, ty, pos, af, gd⟩ w (.int .u8 (l.getD j 0#8).toNat) := by
  subst hi
  have hlen : l.length = s.size := by rw [← hl, List.length_map, Array.length_toList]; rfl
  have h' : j < s.size := by omega
  obtain ⟨b, hg, hv⟩ : ∃ b : UInt8, s[j]? = some b ∧ (b.toNat : Int) = ((l.getD j 0#8).toNat : Int) := by
    refine ⟨s[j], getElem?_pos s j h', ?_⟩
    have hj : j < s.data.toList.length := by rw [Array.length_toList]; exact h'
    have e : l.getD j 0#8 = s[j].toBitVec := by
      rw [← hl, List.getD_eq_getElem?_getD, List.getElem?_map, List.getElem?_eq_getElem hj]; rfl
    rw [e]; rfl
  have hr : (Instr.index t (.string s) (.int k (j : Int))).run P w = .ok (.int .u8 ((l.getD j 0#8).toNat : Int)) w := by
    rw [← hv]
    have h0 : (0 : Int) ≤ (j : Int) := by omega
    simp only [Instr.index, asIntOf, Sem.run_bind, Sem.run_pure, Result.andThen_ok, run_underlying ht, if_pos h0, Int.toNat_natCast, hg]
  simp only [Ev, execOp, hx, hy]
  simp [hr]
end
section
variable {P : Program} {n : Nat} {τ : Fr} {w : World} {dst : Option Tmp} {ty : TypeId} {pos : String} {af : Array Edge} {gd : Option (Nat × Bool)} {K : Value → World → Prop} {p : Pers} {H H' HH : List Assn}
theorem H.copyL {x y : Operand} {dT sT e te : TypeId} {b o dLen dCap m : Nat} {yv : Value} {L L' src : List Value} (hu : P.underlying dT = some (.slice e)) (hz : (P.info? e).map (·.size) = some 1) (hx : (Act.eval (AF n τ)) x = .slice (some ⟨b, o, none⟩) dLen dCap) (hy : (Act.eval (AF n τ)) y = yv)
    (s : St p w HH) (hr : Rep (pt b (.cells L.toArray te)) (pt b (.cells L'.toArray te)) HH H') (hsrc : Src w 1 yv m src) (h1 : ∀ u ∈ src, u.oneCell' = true) (hfit : o + dLen ≤ L.length) (hp : Put L o (src.take dLen) L') (h : ∀ w', St p w' H' → K (.int .i64 ((min m dLen : Nat) : Int)) w') :
    Hd P n ⟨dst, .call ⟨.builtin .copy, #[x, y], #[dT, sT]⟩, ty, pos, af, gd⟩ τ w K := by
  obtain ⟨k, d1, d2⟩ := hr.dels
  have s1 := s.take d1
  have go : ∀ v w', (Builtin.copy_ #[dT, sT] ty #[.slice (some ⟨b, o, none⟩) dLen dCap, yv]).run P w = .ok v w' → K v w' → Hd P n ⟨dst, .call ⟨.builtin .copy, #[x, y], #[dT, sT]⟩, ty, pos, af, gd⟩ τ w K := by
    intro v w' hr hk
    refine Hd.value (v := v) (w' := w') ?_ hk
    simp [execOp, resolve, invoke, builtin, hx, hy, hr]
  obtain ⟨hl, X, c, rfl, hc, hh⟩ := hsrc
  rw [Nat.mul_one] at hl
  have hlen : (src.take dLen).length = min m dLen := by rw [List.length_take, hl, Nat.min_comm]
  by_cases h0 : min m dLen = 0
  · have hr := run_copy_none (P := P) w dT sT ty e (some ⟨b, o, none⟩) X dLen dCap m c hu hz h0
    have hnil : src.take dLen = [] := List.eq_nil_of_length_eq_zero (by omega)
    have hL : L' = L := by rw [hp.eq, hnil]; simp
    refine go _ _ hr ?_
    rw [hL] at d2
    have := h w (s1.give d2)
    rw [h0] at this; exact this
  · rcases hh with rfl | ⟨g, q, rfl, hcell⟩
    · exact absurd (Nat.zero_min dLen) h0
    · have hr := run_copy_row (P := P) w dT sT ty e b o dLen dCap ⟨g, q, none⟩ m c L.toArray te (src.take dLen) hu hz s1.block hlen (fun j v hv => by
        rw [add_lit]; refine hcell j v ?_
        rw [List.getElem?_take] at hv; split at hv
        · exact hv
        · cases hv) (by rw [hlen, List.size_toArray]; have := Nat.min_le_right m dLen; omega) (fun v hv => h1 v (List.mem_of_mem_take hv))
      refine go _ _ hr ?_
      have h3 := h _ (((s1.over o (src.take dLen)).weaken (B := pt b (.cells L'.toArray te)) (fun x hx => by
        have : SL.over L.toArray o (src.take dLen) = L'.toArray := by rw [hp.eq]; rfl
        rw [this] at hx; exact hx)).give d2)
      rw [← hlen] at h3; exact h3
theorem H.copyOwn {x y : Operand} {dT sT e : TypeId} {b o k c dLen dCap m : Nat} {yv : Value} {L L' src : List Value} (hu : P.underlying dT = some (.slice e)) (hz : (P.info? e).map (·.size) = some 1) (hx : (Act.eval (AF n τ)) x = .slice (some ⟨b, o, none⟩) dLen dCap) (hy : (Act.eval (AF n τ)) y = yv)
    (s : St p w HH) (hd : Del (Own e 1 (.slice (some ⟨b, 0, none⟩) k c) k L) HH H') (hk : 0 < k) (hsrc : Src w 1 yv m src) (h1 : ∀ u ∈ src, u.oneCell' = true) (hfit : o + dLen ≤ k) (hp : Put L o (src.take dLen) L') (h : ∀ w', St p w' (Own e 1 (.slice (some ⟨b, 0, none⟩) k c) k L' :: H') → K (.int .i64 ((min m dLen : Nat) : Int)) w') :
    Hd P n ⟨dst, .call ⟨.builtin .copy, #[x, y], #[dT, sT]⟩, ty, pos, af, gd⟩ τ w K := by
  obtain ⟨hl, ⟨A, he, hk0, _⟩ | ⟨g, cap, cur, he, s2, hkc, hcm, hcs, hxx⟩⟩ := (s.take hd).ownOpen
  · omega
  · cases he
    rw [Nat.mul_one] at hcs hxx
    have hcl : c ≤ cur.toList.length := by rw [Array.length_toList]; exact hcs
    have hov : Put cur.toList o (src.take dLen) ((SL.over cur o (src.take dLen)).toList) := ⟨by rw [List.length_take]; omega, rfl⟩
    refine H.copyL (L := cur.toList) (L' := (SL.over cur o (src.take dLen)).toList) hu hz hx hy s2 .here hsrc h1 (by omega) hov fun w' s3 => h w' (s3.ownNew hkc hcm ?_ ?_)
    · rw [List.size_toArray, put_len hov, Nat.mul_one]; exact hcl
    · rw [Nat.mul_one]
      have hle := hp.le
      rw [hl, Nat.mul_one] at hle
      rw [show ((SL.over cur o (src.take dLen)).toList.toArray).toList = (SL.over cur o (src.take dLen)).toList by simp]
      show (cur.toList.take o ++ src.take dLen ++ cur.toList.drop (o + (src.take dLen).length)).take k = L'
      generalize src.take dLen = ys at *
      rw [hp.eq, ← hxx, List.take_append, List.take_of_length_le (by rw [List.length_append, List.length_take]; omega), List.length_append, List.length_take, List.take_take, Nat.min_eq_left (show o ≤ k by omega), Nat.min_eq_left (show o ≤ cur.toList.length by omega), List.take_drop, show o + ys.length + (k - (o + ys.length)) = k by omega]
/-- noughts put behind a row -/
theorem H.appendZ {x y : Operand} {t tn e : TypeId} {z : Value} {bytes : Nat} {kn kq : IntKind} {s0 : Value} {k m : Nat} {q : Int} {xs : List Value} (ht : P.underlying t = some (.slice e)) (htn : P.underlying tn = some (.int kn))
    (hi : (P.info? e).map (fun i => (i.zero, i.size, i.bytes)) = some (some z, 1, bytes)) (hz1 : z.cells = #[z]) (ho1 : z.oneCell' = true) (hx : (Act.eval (AF n τ)) x = s0) (hy : (Act.eval (AF n τ)) y = .int kq q) (hq : q = (m : Int))
    (s : St p w H) (hd : Del (Own e 1 s0 k xs) H H') (hfit : (k + m) * bytes ≤ 140737488355328) (hm48 : m * bytes ≤ 140737488355328) (h63 : k + m ≤ 1000000000)
    (h : ∀ v w', St p w' (Own e 1 v (k + m) (xs ++ List.replicate m z) :: H') → K v w') : Hd P n ⟨dst, .call ⟨.builtin .append, #[x, y], #[t, tn]⟩, ty, pos, af, gd⟩ τ w K := by
  subst hq
  obtain ⟨i, hq, hz0, hs1, hb⟩ := info_parts hi
  have go : ∀ v w', (Builtin.append_ #[t, tn] ty #[s0, .int kq (m : Int)]).run P w = .ok v w' → K v w' → Hd P n ⟨dst, .call ⟨.builtin .append, #[x, y], #[t, tn]⟩, ty, pos, af, gd⟩ τ w K := by
    intro v w' hr hk
    refine Hd.value (v := v) (w' := w') ?_ hk
    simp [execOp, resolve, invoke, builtin, hx, hy, hr]
  have hwr : IntKind.i64.wrap (m : Int) = (m : Int) := i64_small (by omega) (by omega)
  have hzl : ∀ j, (Builtin.zeroCells z.cells j).toList = List.replicate j z := by
    intro j
    rw [hz1]
    simp [Builtin.zeroCells, Nat.mod_one, List.map_const']
  have s1 := s.take hd
  obtain ⟨hl, hX⟩ := s1.ownOpen
  rw [Nat.mul_one] at hl
  have hml : k + m ≤ maxLen := by simp only [maxLen]; omega
  have grown : ∀ (s2 : St p w H') (old : Nat), old < k + m → St p (w.drew.alloc (.cells (xs.toArray ++ Builtin.zeroCells z.cells m ++ Builtin.zeroCells z.cells (grownCap w (k + m) old e - (k + m))) e))
      (Own e 1 (.slice (some ⟨w.heap.size, 0, none⟩) (k + m) (grownCap w (k + m) old e)) (k + m) (xs ++ List.replicate m z) :: H') := by
    intro s2 old hold
    have hge := grownCap_ge w (k + m) old e
    have hcm : grownCap w (k + m) old e ≤ maxLen := grownCap_le_maxLen w (k + m) old e hml
    refine ((s2.drew).alloc _).ownNew hge hcm ?_ ?_
    · simp only [Array.size_append, List.size_toArray, size_zeroCells, hl, hz1, List.size_toArray, List.length_singleton, Nat.mul_one]; omega
    · simp only [Array.toList_append, hzl, Nat.mul_one, List.append_assoc]
      rw [← List.append_assoc, List.take_append_of_le_length (by simp [hl]), List.take_of_length_le (by simp [hl])]
  rcases hX with ⟨A, rfl, rfl, s2⟩ | ⟨g, cap, cur, rfl, s2, hnc, hcm, hcs, htake⟩
  · have hxs : xs = [] := List.eq_nil_of_length_eq_zero (by simpa using hl)
    subst hxs
    by_cases hm : m = 0
    · subst hm
      refine go (.slice A 0 0) w ?_ (h _ _ (by simpa using s2.ownNil A))
      cases A <;> simp [Builtin.append_, run_underlying ht, run_underlying htn, sizeOf, typeInfo, hq, asInt, asIntOf, hwr, i64_small, storeCells]
    · have hr := Go.Lib.run_append_grow_zeros (P := P) w t tn ty e i z kq kn ht htn hq hz0 A 0 0 [] (by
        cases A with
        | none => rfl
        | some a => simp [Builtin.firstCells, loadCells, loadCellsFrom]) m (by omega) (by omega) (by omega) (by omega) (by rw [hb]; omega) (growslice_fits (by omega) (by rw [hb]; simpa using hfit))
      have hg := grown s2 0 (by omega)
      simp only [Nat.zero_add] at hg hr ⊢
      exact go _ _ hr (h _ _ (by simpa using hg))
  · rw [Nat.mul_one] at hcs htake
    by_cases hroom : k + m ≤ cap
    · by_cases hm : m = 0
      · subst hm
        refine go (.slice (some ⟨g, 0, none⟩) k cap) w ?_ (h _ _ (by simpa using s1))
        have : k ≤ cap := hnc
        simp [Builtin.append_, run_underlying ht, run_underlying htn, sizeOf, typeInfo, hq, asInt, asIntOf, i64_small, storeCells, this, IntKind.wrap, IntKind.bits, IntKind.signed]
      · have hst := run_storeCells_at P g k e (List.replicate m z) 0 cur w s2.block (by simp; omega) (fun u hu => by rw [List.eq_of_mem_replicate hu]; exact ho1)
        simp only [Nat.add_zero] at hst
        refine go (.slice (some ⟨g, 0, none⟩) (k + m) cap) (w.setRow g (over cur k (List.replicate m z))) ?_ (h _ _ ((s2.over k (List.replicate m z)).ownNew hroom hcm ?_ ?_))
        · have hn : ¬ m * i.size = 0 := by rw [hs1]; omega
          have hbm : ¬ (281474976710656 < (m : Int) * i.bytes) := by
            rw [hb]
            have h9 : (m : Int) * bytes = ((m * bytes : Nat) : Int) := by simp
            rw [h9]; omega
          have hn0 : ¬ ((m : Int) < 0) := by omega
          simp [Builtin.append_, run_underlying ht, run_underlying htn, sizeOf, typeInfo, hq, asInt, asIntOf, hwr, hn, hn0, hbm, zeroValue, hz0, hroom, hzl, hs1, add_lit, hst, over]
          intro h0; exact absurd h0 hm
        · simp only [SL.over, List.size_toArray, List.length_append, List.length_take, List.length_drop, Array.length_toList, List.length_replicate]; omega
        · have hlen : (xs ++ List.replicate m z).length = k + m := by rw [List.length_append, hl, List.length_replicate]
          simp only [SL.over, Nat.mul_one]
          rw [htake, ← hlen]
          exact List.take_left
    · have hr := Go.Lib.run_append_grow_zeros (P := P) w t tn ty e i z kq kn ht htn hq hz0 (some ⟨g, 0, none⟩) k cap xs (by
        have hc : ∀ j u, xs[j]? = some u → w.drew.cell? ((⟨g, 0, none⟩ : Addr).add j) = some u := fun j u hu => by
          rw [add_lit, Nat.zero_add]
          show w.cell? _ = _
          rw [cell_of_row w g j cur e (0, 0) s2.block]
          rw [← htake, List.getElem?_take] at hu
          split at hu
          · simpa using hu
          · cases hu
        have := run_loadCells_list (P := P) w.drew ⟨g, 0, none⟩ xs hc
        simp only [Builtin.firstCells, hs1, Nat.mul_one]
        rw [← hl]; exact this) m (by omega) (by omega) (by omega) (by omega) (by rw [hb]; omega) (growslice_fits (by omega) (by rw [hb]; exact hfit))
      exact go _ _ hr (h _ _ (grown s2.drop cap (by omega)))
end
/-! ### regions that leave their order open: what the loads want is kept till the last one that may come up -/
def wpD (P : Program) (ops : Array Oper) (lds : List Nat) (S : World → Prop) (Q : Exit → Act → World → Prop) : Nat → Array Bool → Act → World → Prop
  | 0, listed, a, w => Region.ready .any ops listed = [] ∧ Q .normal a w
  | f + 1, listed, a, w => (Region.ready .any ops listed = [] → Q .normal a w) ∧
      ∀ i ∈ Region.ready .any ops listed, wpOp P ops Q i (fun a' w' => (needs ops lds i = true → S w → S w') ∧ wpD P ops lds S Q f (listed.setIfInBounds i true) a' w') a w
section
variable {P : Program} {ops : Array Oper} {lds : List Nat} {S : World → Prop} {Q : Exit → Act → World → Prop}
theorem wpD_first {i : Nat} {oi : Oper} {v : Value} (hi : ops[i]? = some oi) (hso : i ∈ lds) (hsel : Region.noSelect ops = true) (hQ : ∀ c a w, Q (.panic c) (a.put oi.dst v) w → Q (.panic c) a w) :
    ∀ (f : Nat) (listed : Array Bool) (a : Act) (w : World), (∀ j oj, ops[j]? = some oj → j ≠ i → listed.getD j true = false → (∀ e ∈ oj.after, Region.binds .any e = true → e.on ≠ i) → oi.apart ops oj = true) →
      i ∈ Region.ready .any ops listed → YieldsIf P ops S oi v a → S w → wpD P ops lds S Q f (listed.setIfInBounds i true) (a.put oi.dst v) w → wpD P ops lds S Q (f + 1) listed a w := by
  have sel := fun j o cs b (ho : ops[j]? = some o) => Region.noSelect_spec hsel j o cs b ho
  intro f
  induction f with
  | zero =>
    intro listed a w _ hr hy hS H
    refine ⟨fun h0 => absurd hr (by rw [h0]; exact List.not_mem_nil), fun j hj => ?_⟩
    rcases Decidable.em (j = i) with e | e
    · subst e; exact hy.wpOp hi hS ⟨fun _ _ => hS, H⟩
    · exact absurd (ready_mono hj e) (by rw [H.1]; exact List.not_mem_nil)
  | succ f ih =>
    intro listed a w hap hr hy hS H
    refine ⟨fun h0 => absurd hr (by rw [h0]; exact List.not_mem_nil), fun j hj => ?_⟩
    rcases Decidable.em (j = i) with e | e
    · subst e; exact hy.wpOp hi hS ⟨fun _ _ => hS, H⟩
    · obtain ⟨hjl, oj, hoj, hall⟩ := mem_ready.1 hj
      have hil := (mem_ready.1 hr).1
      have hno : ∀ e ∈ oj.after, Region.binds .any e = true → e.on ≠ i := by
        intro e he hb heq
        have h1 := hall e he hb
        rw [heq] at h1
        rcases Nat.lt_or_ge i listed.size with h' | h'
        · simp [h'] at hil h1; rw [hil] at h1; cases h1
        · simp [Array.getElem?_eq_none h'] at h1
      have h2 := wpOp_putIf hoj (hap j oj hoj e hjl hno) (fun cs b => sel i oi cs b hi) (fun cs b => sel j oj cs b hoj) hQ hy (H.2 j (ready_mono hj e))
      have hn : needs ops lds j = true := needs_of hso (Ne.symm e) hoj hno
      refine wpOp_mono (fun a' w' k => ⟨k.2.1, ih (listed.setIfInBounds j true) a' w' ?_ (ready_mono hr (Ne.symm e)) k.1 (k.2.1 hn hS) ?_⟩) h2
      · intro m om hm hmi hml hmo
        refine hap m om hm hmi ?_ hmo
        rcases Decidable.em (j = m) with q | q
        · subst q; exact hjl
        · rw [getD_set_ne true q] at hml; exact hml
      · rw [Array.setIfInBounds_comm _ _ e]; exact k.2.2
end
def RE (P : Program) (n : Nat) (ops : Array Oper) (lds : List Nat) (S : World → Prop) (Q : Exit → Fr → World → Prop) (f : Nat) (listed : Array Bool) (τ : Fr) (w : World) : Prop :=
  wpD P ops lds S (NoPanic (On n Q)) f listed (AF n τ) w
section
variable {P : Program} {n : Nat} {ops : Array Oper} {lds : List Nat} {S : World → Prop} {Q : Exit → Fr → World → Prop} {f : Nat} {listed : Array Bool} {τ : Fr} {w : World}
theorem RE.take (i : Nat) {oi : Oper} {v : Value} (hi : ops[i]? = some oi) (hc : (Region.noSelect ops && lds.contains i && Region.free .any ops listed i && (Region.ready .any ops listed).contains i) = true)
    (hw : Wd n ops oi τ true) (hx : ∀ w, S w → Ev P (AF n τ).eval oi w v) (hS : S w) (h : RE P n ops lds S Q f (listed.setIfInBounds i true) (upo τ oi.dst v) w) : RE P n ops lds S Q (f + 1) listed τ w := by
  simp only [Bool.and_eq_true] at hc
  obtain ⟨⟨⟨h1, h2⟩, h3⟩, h4⟩ := hc
  refine wpD_first hi (by simpa using h2) h1 (fun c a w hp => hp) f listed (AF n τ) w (fun j oj hj hne hun hno => Region.free_spec hi h3 j oj hj hne hun hno) (by simpa using h4) (.inl ⟨hw, hx⟩) hS ?_
  rw [AF_put]; exact h
theorem RE.hardOp {i : Nat} {oi : Oper} (hi : ops[i]? = some oi) (hw : Wd n ops oi τ true) (hh : Hd P n oi τ w fun v w' => (needs ops lds i = true → S w → S w') ∧ RE P n ops lds S Q f (listed.setIfInBounds i true) (upo τ oi.dst v) w') :
    wpOp P ops (NoPanic (On n Q)) i (fun a' w' => (needs ops lds i = true → S w → S w') ∧ wpD P ops lds S (NoPanic (On n Q)) f (listed.setIfInBounds i true) a' w') (AF n τ) w := by
  unfold wpOp
  simp only [hi]
  rw [if_pos (show Region.wanted oi (yielded ops (AF n τ).tmps) = true from hw)]
  refine .inl (Oper.wp_mono ?_ (hh _))
  rintro a w ⟨v, rfl, h1, h2⟩; exact ⟨h1, h2⟩
theorem RE.only (i : Nat) {oi : Oper} (hi : ops[i]? = some oi) (hc : Region.ready .any ops listed = [i]) (hw : Wd n ops oi τ true)
    (hh : Hd P n oi τ w fun v w' => (needs ops lds i = true → S w → S w') ∧ RE P n ops lds S Q f (listed.setIfInBounds i true) (upo τ oi.dst v) w') : RE P n ops lds S Q (f + 1) listed τ w := by
  unfold RE wpD
  refine ⟨fun h => (by rw [hc] at h; cases h), fun j hj => ?_⟩
  rw [hc] at hj
  obtain rfl : j = i := by simpa using hj
  exact RE.hardOp hi hw hh
theorem RE.two (i j : Nat) {oi oj : Oper} (hi : ops[i]? = some oi) (hj : ops[j]? = some oj) (hc : Region.ready .any ops listed = [i, j]) (hw : Wd n ops oi τ true) (hw2 : Wd n ops oj τ true)
    (hh : Hd P n oi τ w fun v w' => (needs ops lds i = true → S w → S w') ∧ RE P n ops lds S Q f (listed.setIfInBounds i true) (upo τ oi.dst v) w')
    (hh2 : Hd P n oj τ w fun v w' => (needs ops lds j = true → S w → S w') ∧ RE P n ops lds S Q f (listed.setIfInBounds j true) (upo τ oj.dst v) w') : RE P n ops lds S Q (f + 1) listed τ w := by
  unfold RE wpD
  refine ⟨fun h => (by rw [hc] at h; cases h), fun k hk => ?_⟩
  rw [hc] at hk
  rcases (show k = i ∨ k = j by simpa using hk) with rfl | rfl
  · exact RE.hardOp hi hw hh
  · exact RE.hardOp hj hw2 hh2
theorem RE.fin {K : Fr → World → Prop} (hc : Region.ready .any ops listed = []) (F : Fr → Prop) (hF : F τ) (h : ∀ τ, F τ → K τ w) : RE P n ops lds S (Th K Q) f listed τ w := by
  have hn : NoPanic (On n (Th K Q)) .normal (AF n τ) w := ⟨τ, rfl, h τ hF⟩
  cases f with
  | zero => exact ⟨hc, hn⟩
  | succ f => exact ⟨fun _ => hn, by rw [hc]; intro i hi; cases hi⟩
theorem RE.done (hc : Region.ready .any ops listed = []) (h : Q .normal τ w) : RE P n ops lds S Q f listed τ w := by
  cases f with
  | zero => exact ⟨hc, τ, rfl, h⟩
  | succ f => exact ⟨fun _ => ⟨τ, rfl, h⟩, by rw [hc]; intro i hi; cases hi⟩
end
/-- something that tells the bytes behind a slice -/
def Tel (v : Value) (xs : List (BitVec 8)) : Assn := fun h => ∃ A : Assn, (∀ p w H, St p w (A :: H) → Src w 1 v xs.length (xs.map bu8)) ∧ A h
theorem Tel.src {p : Pers} {w : World} {H : List Assn} {v : Value} {xs : List (BitVec 8)} (s : St p w (Tel v xs :: H)) : Src w 1 v xs.length (xs.map bu8) := by
  obtain ⟨h, ⟨a, b, d, e, ⟨A, hA, ha⟩, hb⟩, r⟩ := s
  exact hA p w H ⟨h, ⟨a, b, d, e, ha, hb⟩, r⟩
theorem Tel.make {p : Pers} {w : World} {H : List Assn} {A : Assn} {v : Value} {xs : List (BitVec 8)} (s : St p w (A :: H)) (h : ∀ p w H, St p w (A :: H) → Src w 1 v xs.length (xs.map bu8)) : St p w (Tel v xs :: H) :=
  s.weaken fun x hx => ⟨A, h, hx⟩
theorem Tel.nil {p : Pers} {w : World} {H : List Assn} (c : Nat) (s : St p w H) : St p w (Tel (.slice none 0 c) [] :: H) :=
  Tel.make s.emp fun p w H s => Src.nil
/-! ### rows of slices of bytes -/
structure SlM where
  X : Option Addr
  cap : Nat
  ns : List (BitVec 8)
def SlM.enc (s : SlM) : List Value := [.slice s.X s.ns.length s.cap]
def SlM.tells (p : Pers) (A : Assn) (s : SlM) : Prop := ∀ w H, St p w (A :: H) → Src w 1 (.slice s.X s.ns.length s.cap) s.ns.length (s.ns.map bu8)
end Go.SL
namespace Go.SL
open Go.RowKit
set_option linter.unusedVariables false
set_option linter.unusedSimpArgs false
/-- bytes as a text -/
def sb (l : List (BitVec 8)) : ByteArray := ⟨(l.map UInt8.ofBitVec).toArray⟩
theorem sb_inj {a b : List (BitVec 8)} (h : (sb a).toList = (sb b).toList) : a = b := by
  have hd : (sb a).data = (sb b).data := by
    rw [ByteArray.toList_eq, ByteArray.toList_eq] at h
    exact Array.toList_inj.1 h
  have h2 : (a.map UInt8.ofBitVec) = b.map UInt8.ofBitVec := by
    have := congrArg Array.toList hd
    simpa [sb] using this
  have h3 := congrArg (fun l => l.map UInt8.toBitVec) h2
  simpa [List.map_map, Function.comp_def] using h3
theorem sb_beq (a b : List (BitVec 8)) : ((sb a).toList == (sb b).toList) = (a == b) := by
  rw [Bool.eq_iff_iff, beq_iff_eq, beq_iff_eq]
  exact ⟨sb_inj, fun h => by rw [h]⟩
section
variable {P : Program} {ρ : Operand → Value} {w : World} {dst : Option Tmp} {ty : TypeId} {pos : String} {af : Array Edge} {gd : Option (Nat × Bool)}
theorem bstr_sb (l : List (BitVec 8)) : bstr (l.map fun x => (x.toNat : Int)) = sb l := by
  suffices h : ∀ (l : List (BitVec 8)) (acc : ByteArray), (l.map fun x => (x.toNat : Int)).foldl (fun a n => a.push (UInt8.ofNat n.toNat)) acc = ⟨acc.data ++ (l.map UInt8.ofBitVec).toArray⟩ by
    have := h l ByteArray.empty
    unfold bstr sb
    rw [this]; simp [ByteArray.empty, ByteArray.emptyWithCapacity]; try rfl
  intro l
  induction l with
  | nil => intro acc; simp
  | cons x l ih =>
    intro acc
    have hx : UInt8.ofNat ((x.toNat : Int)).toNat = UInt8.ofBitVec x := by
      apply UInt8.toBitVec_inj.1
      simp
    simp only [List.map_cons, List.foldl_cons, ih]
    rw [hx]
    simp [ByteArray.push]
theorem E.strB {x : Operand} {src dt e : TypeId} {v : Value} {m : Nat} {l : List (BitVec 8)} (hs : P.underlying src = some (.slice e)) (he : P.underlying e = some (.int .u8)) (hd : P.underlying dt = some .string)
    (hx : ρ x = v) (hsrc : Src w 1 v m (l.map bu8)) : Ev P ρ ⟨dst, .convert src dt x, ty, pos, af, gd⟩ w (.string (sb l)) := by
  rw [← bstr_sb]
  refine E.bytesStr hs he hd hx (m := m) ?_
  have : bv (l.map fun x => (x.toNat : Int)) = l.map bu8 := by simp [bv]
  rw [this]; exact hsrc
theorem E.eqlSB {x y : Operand} {t t' : TypeId} {a b : List (BitVec 8)} (hx : ρ x = .string (sb a)) (hy : ρ y = .string (sb b)) : Ev P ρ ⟨dst, .binOp .eql t x y t', ty, pos, af, gd⟩ w (.bool (a == b)) :=
  E.b (E.eqlStr hx hy) (sb_beq a b)
theorem E.neqSB {x y : Operand} {t t' : TypeId} {a b : List (BitVec 8)} (hx : ρ x = .string (sb a)) (hy : ρ y = .string (sb b)) : Ev P ρ ⟨dst, .binOp .neq t x y t', ty, pos, af, gd⟩ w (.bool (a != b)) :=
  E.b (E.neqStr hx hy) (by rw [bne, sb_beq])
theorem eqItems8 {e : TypeId} (he : P.underlying e = some (.int .u8)) (hc : P.cellsOf e = 1) (hp : P.plainKey e = true) (d : Nat) (a b : List (BitVec 8)) (w : World) : ∀ is : List Nat, (∀ i ∈ is, i < a.length ∧ i < b.length) → (Op.eqItems (d + 1) e (P.cellsOf e) (a.map bu8).toArray (b.map bu8).toArray is).run P w = .ok (is.all fun i => a[i]? == b[i]?) w
  | [], _ => by simp [Op.eqItems]
  | i :: is, h => by
    obtain ⟨ha, hb⟩ := h i (by simp)
    have ih := eqItems8 he hc hp d a b w is (fun j hj => h j (by simp [hj]))
    have p1 := run_part_plain (P := P) w hp (xs := (a.map bu8).toArray) (off := i) (v := bu8 a[i]) (by simp [ha])
    have p2 := run_part_plain (P := P) w hp (xs := (b.map bu8).toArray) (off := i) (v := bu8 b[i]) (by simp [hb])
    have p3 := run_equalIn_int (P := P) w d e .u8 .u8 a[i].toNat b[i].toNat he
    rw [hc] at ih ⊢
    simp only [Op.eqItems, Sem.run_bind, Nat.mul_one, p1, p2, p3, Result.andThen_ok, List.all_cons]
    rw [List.getElem?_eq_getElem ha, List.getElem?_eq_getElem hb]
    have hq : (((a[i].toNat : Int)) == (b[i].toNat : Int)) = (some a[i] == some b[i]) := by rw [toNat_beq]; simp
    rw [← hq]
    cases hq2 : (((a[i].toNat : Int)) == (b[i].toNat : Int)) <;> simp [ih, hq2]
end
section
variable {P : Program} {n : Nat} {τ : Fr} {w : World} {dst : Option Tmp} {ty : TypeId} {pos : String} {af : Array Edge} {gd : Option (Nat × Bool)} {K : Value → World → Prop} {p : Pers} {H H' HH : List Assn}
/-- a literal's bytes, marked as a text's -/
theorem H.convS {x : Operand} {t e te : TypeId} {b m c : Nat} {C : Array Value} (ht : P.underlying t = some (.slice e)) (he : P.underlying e = some (.int .u8)) (hx : (Act.eval (AF n τ)) x = .slice (some ⟨b, 0, none⟩) m c)
    (s : St p w HH) (hr : Rep (pt b (.cells C te)) (pt b (.cells C te (C.size, C.size + 1))) HH H') (h : ∀ w', St p w' H' → K (.slice (some ⟨b, 0, none⟩) m c) w') : Hd P n ⟨dst, .convert t t x, ty, pos, af, gd⟩ τ w K := by
  obtain ⟨k, d1, d2⟩ := hr.dels
  have s1 := s.take d1
  have hb := s1.block
  have hsh : w.shape? b = some (te, C.size) := by unfold World.shape?; rw [hb]
  have hlt : b < w.heap.size := (Array.getElem?_eq_some_iff.1 hb).1
  have hv : w.heap[b] = .cells C te := (Array.getElem?_eq_some_iff.1 hb).2
  have hr1 : (convert t t (.slice (some ⟨b, 0, none⟩) m c)).run P w = .ok (.slice (some ⟨b, 0, none⟩) m c) (w.freeze ⟨b, C.size, none⟩ 1) := by
    simp [convert, run_underlying ht, run_underlying he, markStringish, hsh]
  have hf : (w.freeze ⟨b, C.size, none⟩ 1).heap[b]? = some (.cells C te (C.size, C.size + 1)) := by
    unfold World.freeze
    rw [if_neg (by decide)]
    simp [Array.getElem?_modify, hlt, Array.getElem_modify, hv]
  have ho : ∀ q, q ≠ b → (w.freeze ⟨b, C.size, none⟩ 1).heap[q]? = w.heap[q]? := fun q hq => by
    unfold World.freeze
    rw [if_neg (by decide)]
    simp [Array.getElem?_modify, Ne.symm hq]
  have h5 : (w.freeze ⟨b, C.size, none⟩ 1).os = w.os ∧ (w.freeze ⟨b, C.size, none⟩ 1).tape = w.tape ∧ (w.freeze ⟨b, C.size, none⟩ 1).output = w.output := by
    unfold World.freeze
    rw [if_neg (by decide)]; exact ⟨rfl, rfl, rfl⟩
  refine Hd.value (v := .slice (some ⟨b, 0, none⟩) m c) (w' := w.freeze ⟨b, C.size, none⟩ 1) ?_ (h _ ((s1.turn hf ho h5.1 h5.2.1 h5.2.2).give d2))
  simp [execOp, hx, hr1]
theorem H.make {t e : TypeId} {z : Value} {bytes k : Nat} {kl kc : IntKind} {x y : Operand} {a b : Int} (ht : P.underlying t = some (.slice e)) (hi : (P.info? e).map (fun i => (i.zero, i.size, i.bytes)) = some (some z, 1, bytes)) (hz1 : z.cells = #[z])
    (hx : (Act.eval (AF n τ)) x = .int kl a) (hy : (Act.eval (AF n τ)) y = .int kc b) (ha : a = (k : Int)) (hb : b = (k : Int)) (hfit : bytes * k ≤ 281474976710656) (h63 : k ≤ 1000000) (s : St p w H)
    (h : ∀ g w', St p w' (Own e 1 (.slice (some ⟨g, 0, none⟩) k k) k (List.replicate k z) :: H) → K (.slice (some ⟨g, 0, none⟩) k k) w') : Hd P n ⟨dst, .makeSlice t x y, ty, pos, af, gd⟩ τ w K := by
  subst ha; subst hb
  obtain ⟨i, hq, hz0, hs1, hby⟩ := info_parts hi
  have hbb : (i.bytes : Int) * (k : Int) ≤ 281474976710656 := by
    rw [hby, ← Int.natCast_mul]; exact Int.ofNat_le.2 hfit
  have hr := run_make (P := P) w t e i z ht hq hz0 kl kc (k : Int) (k : Int) (by omega) (by omega) hbb (by omega)
  simp only [Int.toNat_natCast, hs1, Nat.mul_one] at hr
  have hm : (madeCells z.cells k).toList = List.replicate k z := by
    rw [hz1]; simp [madeCells, Nat.mod_one, List.map_const']
  have hsz : (madeCells z.cells k).size = k := by rw [← Array.length_toList, hm, List.length_replicate]
  refine Hd.value (v := .slice (some ⟨w.heap.size, 0, none⟩) k k) (w' := w.alloc (.cells (madeCells z.cells k) e)) ?_ (h _ _ ((s.alloc _).ownNew (Nat.le_refl _) (by simp [maxLen]; omega) (by rw [hsz, Nat.mul_one]; exact Nat.le_refl _) (by rw [Nat.mul_one, hm, List.take_of_length_le (by simp)])))
  simp [execOp, hx, hy, hr]
end
end Go.SL
namespace Go.SL
open Go.RowKit
set_option linter.unusedVariables false
set_option linter.unusedSimpArgs false
/-- a symbolic value -/
inductive SV where
  | u8 (x : BitVec 8) | u16 (x : BitVec 16) | u32 (x : BitVec 32) | u64 (x : BitVec 64)
  | i (z : Int) | b (c : Bool) | p (k o : Nat) | s (X : Option Addr) (n c : Nat) | v (x : Value) | un
def SV.val : SV → Value
  | .u8 x => .int .u8 x.toNat | .u16 x => .int .u16 x.toNat | .u32 x => .int .u32 x.toNat | .u64 x => .int .u64 x.toNat
  | .i z => .int .i64 z | .b c => .bool c | .p k o => .pointer (some ⟨k, o, none⟩) | .s X n c => .slice X n c | .v x => x | .un => undef
abbrev FR := List (Nat × SV)
def FR.look : FR → Nat → Option SV
  | [], _ => none
  | (y, u) :: l, x => bif Nat.beq y x then some u else FR.look l x
def FR.without (d : Nat) : FR → FR
  | [] => []
  | (y, u) :: l => bif Nat.beq y d then FR.without d l else (y, u) :: FR.without d l
def Hol (fr : FR) (τ : Fr) : Prop := ∀ x u, fr.look x = some u → τ x = u.val
theorem Hol.nil {τ : Fr} : Hol [] τ := fun x u h => by cases h
theorem Hol.put {fr : FR} {τ : Fr} (h : Hol fr τ) (d : Nat) (u : SV) : Hol ((d, u) :: fr) (upo τ (some d) u.val) := by
  intro x t e
  simp only [FR.look] at e
  cases hb : Nat.beq d x with
  | true =>
    rw [hb, cond_true] at e; cases e
    have := Nat.eq_of_beq_eq_true hb; subst this; exact tp
  | false =>
    rw [hb, cond_false] at e
    have hn : Nat.beq x d = false := by
      cases h2 : Nat.beq x d with
      | false => rfl
      | true => have := Nat.eq_of_beq_eq_true h2; subst this; rw [Nat.beq_refl] at hb; cases hb
    exact up hn (h x t e)
theorem look_without {fr : FR} {d x : Nat} {u : SV} (e : (FR.without d fr).look x = some u) : fr.look x = some u ∧ x ≠ d := by
  induction fr with
  | nil => cases e
  | cons a l ih =>
    obtain ⟨y, t⟩ := a
    simp only [FR.without] at e
    cases hb : Nat.beq y d with
    | true =>
      rw [hb, cond_true] at e
      obtain ⟨h1, h2⟩ := ih e
      have := Nat.eq_of_beq_eq_true hb; subst this
      refine ⟨?_, h2⟩
      simp only [FR.look]
      have hn : Nat.beq y x = false := by
        cases h3 : Nat.beq y x with
        | false => rfl
        | true => exact absurd (Nat.eq_of_beq_eq_true h3).symm h2
      rw [hn, cond_false]; exact h1
    | false =>
      rw [hb, cond_false] at e
      simp only [FR.look] at e ⊢
      cases h3 : Nat.beq y x with
      | true =>
        simp only [h3, cond_true] at e ⊢
        refine ⟨e, fun h => ?_⟩
        have := Nat.eq_of_beq_eq_true h3; subst this; subst h; rw [Nat.beq_refl] at hb; cases hb
      | false => simp only [h3, cond_false] at e ⊢; exact ih e
theorem Hol.drop {fr : FR} {τ : Fr} (h : Hol fr τ) (d : Nat) (u : Value) : Hol (FR.without d fr) (upo τ (some d) u) := by
  intro x t e
  obtain ⟨h1, h2⟩ := look_without e
  have hn : Nat.beq x d = false := by
    cases h3 : Nat.beq x d with
    | false => rfl
    | true => exact absurd (Nat.eq_of_beq_eq_true h3) h2
  exact up hn (h x t h1)
/-- constants -/
def cst : Value → SV
  | .int .i64 z => .i z
  | .int .u8 z => if 0 ≤ z ∧ z < 256 then .u8 (BitVec.ofNat 8 z.toNat) else .v (.int .u8 z)
  | .int .u32 z => if 0 ≤ z ∧ z < 4294967296 then .u32 (BitVec.ofNat 32 z.toNat) else .v (.int .u32 z)
  | .int .u64 z => if 0 ≤ z ∧ z < 18446744073709551616 then .u64 (BitVec.ofNat 64 z.toNat) else .v (.int .u64 z)
  | .bool c => .b c
  | .slice X n c => .s X n c
  | x => .v x
theorem cst_val (x : Value) : (cst x).val = x := by
  unfold cst
  split
  · rfl
  · split
    · rename_i z h; simp only [SV.val, BitVec.toNat_ofNat]; congr 1; show ((z.toNat % 256 : Nat) : Int) = z; omega
    · rfl
  · split
    · rename_i z h; simp only [SV.val, BitVec.toNat_ofNat]; congr 1; show ((z.toNat % 4294967296 : Nat) : Int) = z; omega
    · rfl
  · split
    · rename_i z h; simp only [SV.val, BitVec.toNat_ofNat]; congr 1; show ((z.toNat % 18446744073709551616 : Nat) : Int) = z; omega
    · rfl
  · rfl
  · rfl
  · rfl
def opv (n : Nat) (fr : FR) : Operand → Option SV
  | .tmp x => bif Nat.blt x n then fr.look x else none
  | .const c => some (cst c)
  | _ => none
theorem opv_ok {n : Nat} {fr : FR} {τ : Fr} {x : Operand} {u : SV} (h : Hol fr τ) (e : opv n fr x = some u) : (AF n τ).eval x = u.val := by
  cases x with
  | tmp x =>
    simp only [opv] at e
    cases hb : Nat.blt x n with
    | true => rw [hb, cond_true] at e; exact AF_ev hb (h x u e)
    | false => rw [hb, cond_false] at e; cases e
  | const c => cases e; rw [cst_val]; rfl
  | global g => cases e
  | func f => cases e
/-- what is asked for; none: nothing -/
abbrev Cd := Option Prop
@[reducible] def Cd.holds : Cd → Prop
  | none => True
  | some p => p
def Cd.and : Cd → Cd → Cd
  | none, d => d
  | some p, none => some p
  | some p, some q => some (p ∧ q)
theorem Cd.both {c d : Cd} (h : (c.and d).holds) : c.holds ∧ d.holds := by
  cases c <;> cases d
  · exact ⟨trivial, trivial⟩
  · exact ⟨trivial, h⟩
  · exact ⟨h, trivial⟩
  · exact h
/-- two numbers, or bits -/
def bopI (op : BinOp) (a c : Int) : Option (SV × Cd) := match op with
  | .add => some (.i (w64 (a + c)), none) | .sub => some (.i (w64 (a - c)), none) | .mul => some (.i (w64 (a * c)), none)
  | .quo => some (.i (w64 (a.tdiv c)), some (c ≠ 0)) | .rem => some (.i (a.tmod c), some (c ≠ 0))
  | .eql => some (.b (a == c), none) | .neq => some (.b (a != c), none)
  | .lss => some (.b (decide (a < c)), none) | .leq => some (.b (decide (a ≤ c)), none) | .gtr => some (.b (decide (a > c)), none) | .geq => some (.b (decide (a ≥ c)), none)
  | .or => some (.i (ior64 a c), none) | .and => some (.i (iand64 a c), none) | .xor => some (.i (ixor64 a c), none)
  | .shl => some (.i (ishl64 a c.toNat), some (0 ≤ c)) | .shr => some (.i (ishr64 a c.toNat), some (0 ≤ c))
  | _ => none
theorem bopI_ok {P : Program} {ρ : Operand → Value} {w : World} {dst : Option Tmp} {ty : TypeId} {pos : String} {af : Array Edge} {gd : Option (Nat × Bool)} {op : BinOp} {a c : Int} {u : SV} {C : Cd} {x y : Operand} {t t' : TypeId}
    (e : bopI op a c = some (u, C)) (hC : C.holds) (hx : ρ x = .int .i64 a) (hy : ρ y = .int .i64 c) : Ev P ρ ⟨dst, .binOp op t x y t', ty, pos, af, gd⟩ w u.val := by
  cases op <;> simp only [bopI, reduceCtorEq, Option.some.injEq, Prod.mk.injEq] at e <;> obtain ⟨rfl, rfl⟩ := e
  · exact E.add hx hy rfl
  · exact E.sub hx hy rfl
  · exact E.mul hx hy rfl
  · exact E.quo hx hy hC rfl
  · exact E.rem hx hy hC rfl
  · exact E.iand hx hy
  · exact E.ior hx hy
  · exact E.ixor hx hy
  · exact E.ishl hx hy (by have h0 : 0 ≤ c := hC
                           omega)
  · exact E.ishr hx hy (by have h0 : 0 ≤ c := hC
                           omega)
  · exact E.eql hx hy
  · exact E.neq hx hy
  · exact E.lss hx hy
  · exact E.leq hx hy
  · exact E.gtr hx hy
  · exact E.geq hx hy
def bopU {n : Nat} (mk : BitVec n → SV) (op : BinOp) (a c : BitVec n) : Option (SV × Cd) := match op with
  | .add => some (mk (a + c), none) | .sub => some (mk (a - c), none) | .mul => some (mk (a * c), none)
  | .quo => some (mk (a / c), some (c ≠ 0#n)) | .rem => some (mk (a % c), some (c ≠ 0#n))
  | .eql => some (.b (a == c), none) | .neq => some (.b (a != c), none)
  | .lss => some (.b (decide (a.toNat < c.toNat)), none) | .leq => some (.b (decide (a.toNat ≤ c.toNat)), none) | .gtr => some (.b (decide (a.toNat > c.toNat)), none) | .geq => some (.b (decide (a.toNat ≥ c.toNat)), none)
  | .or => some (mk (a ||| c), none) | .and => some (mk (a &&& c), none) | .xor => some (mk (a ^^^ c), none) | .andNot => some (mk (a &&& ~~~c), none)
  | _ => none
section
variable {P : Program} {ρ : Operand → Value} {w : World} {dst : Option Tmp} {ty : TypeId} {pos : String} {af : Array Edge} {gd : Option (Nat × Bool)} {op : BinOp} {u : SV} {C : Cd} {x y : Operand} {t t' : TypeId} {n : Nat}
theorem bopU_ok {k : IntKind} {mk : BitVec n → SV} (hk : UK k n) (hm : ∀ x, (mk x).val = .int k x.toNat) {a c : BitVec n}
    (e : bopU mk op a c = some (u, C)) (hC : C.holds) (hx : ρ x = .int k a.toNat) (hy : ρ y = .int k c.toNat) : Ev P ρ ⟨dst, .binOp op t x y t', ty, pos, af, gd⟩ w u.val := by
  cases op <;> simp only [bopU, reduceCtorEq, Option.some.injEq, Prod.mk.injEq] at e <;> obtain ⟨rfl, rfl⟩ := e <;> (try rw [hm])
  · exact E.uadd hk hx hy
  · exact E.usub hk hx hy
  · exact E.umul hk hx hy
  · exact E.uquo hk hx hy hC
  · exact E.urem hx hy hC
  · exact E.uand hk hx hy
  · exact E.uor hk hx hy
  · exact E.uxor hk hx hy
  · exact E.uandNot hk hx hy
  · exact E.ueql hx hy
  · exact E.uneq hx hy
  · exact E.ulss hx hy
  · exact E.uleq hx hy
  · exact E.ugtr hx hy
  · exact E.ugeq hx hy
/-- a shift by a natural number -/
def shU {n : Nat} (mk : BitVec n → SV) (op : BinOp) (a : BitVec n) (j : Nat) : Option SV := match op with
  | .shl => some (mk (a <<< j)) | .shr => some (mk (a >>> j)) | _ => none
theorem shU_ok {k yk : IntKind} {mk : BitVec n → SV} (hk : UK k n) (hm : ∀ x, (mk x).val = .int k x.toNat) {a : BitVec n} {j : Nat} {z : Int}
    (e : shU mk op a j = some u) (hx : ρ x = .int k a.toNat) (hy : ρ y = .int yk z) (hz : z = (j : Int)) : Ev P ρ ⟨dst, .binOp op t x y t', ty, pos, af, gd⟩ w u.val := by
  cases op <;> simp only [shU, reduceCtorEq, Option.some.injEq] at e <;> subst e <;> rw [hm]
  · exact E.ushl hk hx hy hz
  · exact E.ushr hk hx hy hz
/-- what counts as a natural number: the number, and what is asked for -/
def nat? : SV → Option (Nat × Cd)
  | .i z => some (z.toNat, some (0 ≤ z)) | .u8 x => some (x.toNat, none) | .u16 x => some (x.toNat, none) | .u32 x => some (x.toNat, none) | .u64 x => some (x.toNat, none)
  | _ => none
theorem nat_ok {a : SV} {j : Nat} (e : nat? a = some (j, C)) (hC : C.holds) : ∃ k, a.val = .int k (j : Int) := by
  cases a <;> simp only [nat?, reduceCtorEq, Option.some.injEq, Prod.mk.injEq] at e <;> obtain ⟨rfl, rfl⟩ := e
  · exact ⟨_, rfl⟩
  · exact ⟨_, rfl⟩
  · exact ⟨_, rfl⟩
  · exact ⟨_, rfl⟩
  · rename_i z
    have h0 : 0 ≤ z := hC
    exact ⟨_, by simp only [SV.val]; congr 1; omega⟩
def shI (op : BinOp) (a : Int) (j : Nat) : Option SV := match op with
  | .shl => some (.i (ishl64 a j)) | .shr => some (.i (ishr64 a j)) | _ => none
def shf (op : BinOp) (a b : SV) : Option (SV × Cd) := match nat? b with
  | none => none
  | some (j, C) => (match a with
    | .u8 a => shU .u8 op a j | .u16 a => shU .u16 op a j | .u32 a => shU .u32 op a j | .u64 a => shU .u64 op a j | .i a => shI op a j | _ => none).map fun u => (u, C)
def bopN (op : BinOp) (a b : SV) : Option (SV × Cd) := match a, b with
  | .i a, .i c => bopI op a c
  | .u8 a, .u8 c => bopU .u8 op a c | .u16 a, .u16 c => bopU .u16 op a c | .u32 a, .u32 c => bopU .u32 op a c | .u64 a, .u64 c => bopU .u64 op a c
  | _, _ => none
def bop (op : BinOp) (a b : SV) : Option (SV × Cd) := match op with
  | .shl => shf .shl a b | .shr => shf .shr a b
  | op => bopN op a b
theorem shf_ok {a b : SV} (e : shf op a b = some (u, C)) (hC : C.holds) (hx : ρ x = a.val) (hy : ρ y = b.val) : Ev P ρ ⟨dst, .binOp op t x y t', ty, pos, af, gd⟩ w u.val := by
  unfold shf at e
  cases hn : nat? b with
  | none => rw [hn] at e; cases e
  | some r =>
    obtain ⟨j, D⟩ := r
    rw [hn] at e
    have key : ∀ {z : Option SV}, z.map (fun u => (u, D)) = some (u, C) → z = some u ∧ D = C := fun {z} h => by
      cases z with
      | none => cases h
      | some q => simp only [Option.map_some, Option.some.injEq, Prod.mk.injEq] at h; exact ⟨by rw [h.1], h.2⟩
    obtain ⟨e1, rfl⟩ := key e
    obtain ⟨yk, hy2⟩ := nat_ok hn hC
    rw [hy2] at hy
    cases a <;> simp only [reduceCtorEq] at e1
    · exact shU_ok UK.u8 (fun _ => rfl) e1 hx hy rfl
    · exact shU_ok UK.u16 (fun _ => rfl) e1 hx hy rfl
    · exact shU_ok UK.u32 (fun _ => rfl) e1 hx hy rfl
    · exact shU_ok UK.u64 (fun _ => rfl) e1 hx hy rfl
    · cases op <;> simp only [shI, reduceCtorEq, Option.some.injEq] at e1 <;> subst e1
      · exact E.ishl hx hy rfl
      · exact E.ishr hx hy rfl
theorem bop_ok {a b : SV} (e : bop op a b = some (u, C)) (hC : C.holds) (hx : ρ x = a.val) (hy : ρ y = b.val) : Ev P ρ ⟨dst, .binOp op t x y t', ty, pos, af, gd⟩ w u.val := by
  by_cases h1 : op = .shl
  · subst h1; exact shf_ok e hC hx hy
  · by_cases h2 : op = .shr
    · subst h2; exact shf_ok e hC hx hy
    · have e2 : bopN op a b = some (u, C) := by
        cases op <;> first | exact e | exact absurd rfl (by assumption)
      cases a <;> cases b <;> simp only [bopN, reduceCtorEq] at e2
      · exact bopU_ok UK.u8 (fun _ => rfl) e2 hC hx hy
      · exact bopU_ok UK.u16 (fun _ => rfl) e2 hC hx hy
      · exact bopU_ok UK.u32 (fun _ => rfl) e2 hC hx hy
      · exact bopU_ok UK.u64 (fun _ => rfl) e2 hC hx hy
      · exact bopI_ok e2 hC hx hy
end
abbrev TL := List (Nat × TypeDesc)
def tl : TL → Nat → Option TypeDesc
  | [], _ => none
  | (t, d) :: l, x => bif Nat.beq t x then some d else tl l x
def TOk (P : Program) (T : TL) : Prop := ∀ e ∈ T, P.underlying e.1 = some e.2
theorem tl_ok {P : Program} {T : TL} {t : Nat} {d : TypeDesc} (h : TOk P T) (e : tl T t = some d) : P.underlying t = some d := by
  induction T with
  | nil => cases e
  | cons a l ih =>
    obtain ⟨y, q⟩ := a
    simp only [tl] at e
    cases hb : Nat.beq y t with
    | true =>
      rw [hb, cond_true] at e; cases e
      have := Nat.eq_of_beq_eq_true hb; subst this
      exact h (y, d) (List.mem_cons_self ..)
    | false => rw [hb, cond_false] at e; exact ih (fun z hz => h z (List.mem_cons_of_mem _ hz)) e
abbrev ZL := List (Nat × Nat)
def zl : ZL → Nat → Option Nat
  | [], _ => none
  | (t, d) :: l, x => bif Nat.beq t x then some d else zl l x
def ZOk (P : Program) (Z : ZL) : Prop := ∀ e ∈ Z, (P.info? e.1).map (·.size) = some e.2
theorem zl_ok {P : Program} {Z : ZL} {t : Nat} {d : Nat} (h : ZOk P Z) (e : zl Z t = some d) : (P.info? t).map (·.size) = some d := by
  induction Z with
  | nil => cases e
  | cons a l ih =>
    obtain ⟨y, q⟩ := a
    simp only [zl] at e
    cases hb : Nat.beq y t with
    | true =>
      rw [hb, cond_true] at e; cases e
      have := Nat.eq_of_beq_eq_true hb; subst this
      exact h (y, d) (List.mem_cons_self ..)
    | false => rw [hb, cond_false] at e; exact ih (fun z hz => h z (List.mem_cons_of_mem _ hz)) e
def convU {n : Nat} (x : BitVec n) : IntKind → Option SV
  | .u8 => some (.u8 (x.setWidth 8)) | .u16 => some (.u16 (x.setWidth 16)) | .u32 => some (.u32 (x.setWidth 32)) | .u64 => some (.u64 (x.setWidth 64))
  | .i64 => if n < 64 then some (.i x.toNat) else none
  | _ => none
def conv (k : IntKind) : SV → Option SV
  | .i z => (match k with
    | .i64 => some (.i (w64 z)) | .u8 => some (.u8 (BitVec.ofInt 8 z)) | .u16 => some (.u16 (BitVec.ofInt 16 z)) | .u32 => some (.u32 (BitVec.ofInt 32 z)) | .u64 => some (.u64 (BitVec.ofInt 64 z)) | _ => none)
  | .u8 x => convU x k | .u16 x => convU x k | .u32 x => convU x k
  | .u64 x => (match k with | .i64 => some (.i x.toInt) | k => convU x k)
  | _ => none
section
variable {P : Program} {ρ : Operand → Value} {w : World} {dst : Option Tmp} {ty : TypeId} {pos : String} {af : Array Edge} {gd : Option (Nat × Bool)} {u : SV} {C : Cd} {x y : Operand} {n : Nat} {src dt : TypeId}
theorem convU_ok {k k' : IntKind} {a : BitVec n} (e : convU a k' = some u) (hs : (P.underlying src).isSome = true) (hd : P.underlying dt = some (.int k')) (hx : ρ x = .int k a.toNat) : Ev P ρ ⟨dst, .convert src dt x, ty, pos, af, gd⟩ w u.val := by
  cases k' <;> simp only [convU, reduceCtorEq, Option.some.injEq] at e
  · split at e
    · rename_i h; cases e; exact E.cvUI hs hd h hx
    · cases e
  · subst e; exact E.cvUU hs hd UK.u8 hx
  · subst e; exact E.cvUU hs hd UK.u16 hx
  · subst e; exact E.cvUU hs hd UK.u32 hx
  · subst e; exact E.cvUU hs hd UK.u64 hx
theorem conv_ok {k' : IntKind} {a : SV} (e : conv k' a = some u) (hs : (P.underlying src).isSome = true) (hd : P.underlying dt = some (.int k')) (hx : ρ x = a.val) : Ev P ρ ⟨dst, .convert src dt x, ty, pos, af, gd⟩ w u.val := by
  cases a <;> simp only [conv, reduceCtorEq] at e
  · exact convU_ok e hs hd hx
  · exact convU_ok e hs hd hx
  · exact convU_ok e hs hd hx
  · split at e
    · cases e; exact E.cvU64I hs hd hx
    · exact convU_ok e hs hd hx
  · split at e <;> simp only [reduceCtorEq, Option.some.injEq] at e <;> subst e
    · exact E.convInt hs hd hx rfl
    · exact E.cvIU hs hd UK.u8 hx
    · exact E.cvIU hs hd UK.u16 hx
    · exact E.cvIU hs hd UK.u32 hx
    · exact E.cvIU hs hd UK.u64 hx
end
def idx (Z : ZL) (e : Nat) (k o m : Nat) (z : SV) : Option (SV × Cd) := match nat? z, zl Z e with
  | some (j, C), some sz => some (.p k (o + j * sz), C.and (some (j < m)))
  | _, _ => none
def tr (o : Option SV) : Option (SV × Cd) := o.map fun u => (u, none)
/-- what a soft operation makes of a frame: a value, and what it asks for -/
def sop (T : TL) (Z : ZL) (n : Nat) (fr : FR) : Op → Option (SV × Cd)
  | .move x => tr (opv n fr x)
  | .assign x => tr (opv n fr x)
  | .pick c x y => (match opv n fr c with | some (.b true) => tr (opv n fr x) | some (.b false) => tr (opv n fr y) | _ => none)
  | .binOp op t x y t' => (match opv n fr x, opv n fr y with | some a, some c => bop op a c | _, _ => none)
  | .unOp .not t x => (match opv n fr x with | some (.b c) => some (.b (!c), none) | _ => none)
  | .convert s d x => (match opv n fr x, tl T s, tl T d with | some a, some _, some (.int k) => tr (conv k a) | _, _, _ => none)
  | .indexAddr t x y => (match opv n fr x, opv n fr y, tl T t with
    | some (.s (some ⟨k, o, none⟩) m c), some z, some (.slice e) => idx Z e k o m z
    | some (.p k o), some z, some (.array m e) => idx Z e k o m z
    | _, _, _ => none)
  | .call d => (match d with
    | ⟨.builtin .len, ⟨[x]⟩, ⟨[t]⟩⟩ => (match opv n fr x, tl T t with | some (.s X m c), some (.slice _) => some (.i (m : Int), none) | _, _ => none)
    | _ => none)
  | _ => none
theorem tr_ok {o : Option SV} {u : SV} {C : Cd} (e : tr o = some (u, C)) : o = some u := by
  cases o with
  | none => cases e
  | some a => simp only [tr, Option.map_some, Option.some.injEq, Prod.mk.injEq] at e; rw [e.1]
theorem sop_ok {P : Program} {T : TL} {Z : ZL} {n : Nat} {fr : FR} {τ : Fr} {w : World} {o : Oper} {u : SV} {C : Cd} (hT : TOk P T) (hZ : ZOk P Z) (hf : Hol fr τ) (e : sop T Z n fr o.op = some (u, C)) (hC : C.holds) : Ev P (AF n τ).eval o w u.val := by
  obtain ⟨dst, op, ty, pos, af, gd⟩ := o
  unfold sop at e
  dsimp only at e
  split at e
  · exact E.move (opv_ok hf (tr_ok e))
  · exact E.assign (opv_ok hf (tr_ok e))
  · split at e
    · rename_i h; exact E.pickT (opv_ok hf h) (opv_ok hf (tr_ok e))
    · rename_i h; exact E.pickF (opv_ok hf h) (opv_ok hf (tr_ok e))
    · cases e
  · split at e
    · rename_i h1 h2; exact bop_ok e hC (opv_ok hf h1) (opv_ok hf h2)
    · cases e
  · split at e
    · rename_i h1; cases e; exact E.not (opv_ok hf h1)
    · cases e
  · split at e
    · rename_i h1 h2 h3; exact conv_ok (tr_ok e) (by rw [tl_ok hT h2]; rfl) (tl_ok hT h3) (opv_ok hf h1)
    · cases e
  · split at e
    · rename_i h1 h2 h3
      unfold idx at e
      split at e
      · rename_i j D sz hn hz
        cases e
        obtain ⟨yk, hy⟩ := nat_ok hn (Cd.both hC).1
        exact E.indexAddr (tl_ok hT h3) (zl_ok hZ hz) (opv_ok hf h1) ((opv_ok hf h2).trans hy) (by omega) (Int.ofNat_lt.2 (Cd.both hC).2) (by rw [Int.toNat_natCast])
      · cases e
    · rename_i h1 h2 h3
      unfold idx at e
      split at e
      · rename_i j D sz hn hz
        cases e
        obtain ⟨yk, hy⟩ := nat_ok hn (Cd.both hC).1
        exact E.indexAddrA (tl_ok hT h3) (zl_ok hZ hz) (opv_ok hf h1) ((opv_ok hf h2).trans hy) (by omega) (Int.ofNat_lt.2 (Cd.both hC).2) (by rw [Int.toNat_natCast])
      · cases e
    · cases e
  · split at e
    · split at e
      · rename_i h1 h2; cases e; exact E.lenS (tl_ok hT h2) (opv_ok hf h1)
      · cases e
    · cases e
  · cases e
def scalar : TypeDesc → Bool
  | .struct _ => false | .array _ _ => false | _ => true
/-- one operation; a hint: what it is to yield (wanted for loads and parts of tuples) -/
def one (T : TL) (Z : ZL) (w : World) (n : Nat) (fr : FR) (o : Oper) : Option SV → Option (SV × Cd)
  | none => sop T Z n fr o.op
  | some u => match o.op with
    | .load t x => (match opv n fr x, tl T t with | some (.p k off), some d => bif scalar d then some (u, some (w.cell? ⟨k, off, none⟩ = some u.val)) else none | _, _ => none)
    | .extract x i => (match opv n fr x with | some (.v (.tuple vs)) => some (u, some (vs[i]? = some u.val)) | _ => none)
    | op => match sop T Z n fr op with | some (r, C) => some (u, C.and (some (r = u))) | none => none
def gdb (ops : Array Oper) (n : Nat) (fr : FR) : Option (Nat × Bool) → Option Bool
  | none => some true
  | some (j, c) => match (ops[j]?).bind (·.dst) with
    | some x => (match opv n fr (.tmp x) with | some (.b true) => some (true == c) | some (.b false) => some (false == c) | some .un => some false | _ => none)
    | none => none
def putd (fr : FR) (u : SV) : Option Nat → FR
  | some d => (d, u) :: fr
  | none => fr
def dropd (fr : FR) : Option Nat → FR
  | some d => (d, .un) :: fr
  | none => fr
def reg (T : TL) (Z : ZL) (w : World) (n : Nat) (ops : Array Oper) (hs : FR) : Nat → Nat → List Oper → FR → Option (FR × Cd)
  | 0, _, _, fr => some (fr, none)
  | _ + 1, _, [], _ => none
  | m + 1, q, o :: l, fr => match gdb ops n fr o.guard with
    | some true => (match one T Z w n fr o (FR.look hs q) with
      | some (u, C) => (match reg T Z w n ops hs m (q + 1) l (putd fr u o.dst) with | some (f, D) => some (f, C.and D) | none => none)
      | none => none)
    | some false => reg T Z w n ops hs m (q + 1) l (dropd fr o.dst)
    | none => none
def FR.keep : List Nat → FR → FR
  | [], _ => []
  | k :: ks, fr => match fr.look k with | some u => (k, u) :: FR.keep ks fr | none => FR.keep ks fr
theorem Hol.keep {fr : FR} {τ : Fr} (h : Hol fr τ) (ks : List Nat) : Hol (FR.keep ks fr) τ := by
  induction ks with
  | nil => exact Hol.nil
  | cons k ks ih =>
    simp only [FR.keep]
    cases hk : fr.look k with
    | none => exact ih
    | some u =>
      intro x t e
      simp only [FR.look] at e
      cases hb : Nat.beq k x with
      | true =>
        rw [hb, cond_true] at e; cases e
        have := Nat.eq_of_beq_eq_true hb; subst this; exact h k u hk
      | false => rw [hb, cond_false] at e; exact ih x t e
section
variable {P : Program} {T : TL} {Z : ZL} {n : Nat} {fr fr' : FR} {τ : Fr} {w : World} {ops : Array Oper} {Q : Exit → Fr → World → Prop} {hs : FR} {C : Cd}
theorem one_ok {o : Oper} {h : Option SV} {u : SV} (hT : TOk P T) (hZ : ZOk P Z) (hf : Hol fr τ) (e : one T Z w n fr o h = some (u, C)) (hC : C.holds) : Ev P (AF n τ).eval o w u.val := by
  cases h with
  | none => exact sop_ok hT hZ hf e hC
  | some t =>
    obtain ⟨dst, op, ty, pos, af, gd⟩ := o
    simp only [one] at e
    split at e
    · split at e
      · rename_i k off d h1 h2
        cases hd : scalar d with
        | true =>
          rw [hd, cond_true] at e; cases e
          exact E.load (tl_ok hT h2) (by cases d <;> first | rfl | cases hd) (opv_ok hf h1) hC
        | false => rw [hd, cond_false] at e; cases e
      · cases e
    · split at e
      · rename_i h1; cases e; exact E.extract (opv_ok hf h1) hC
      · cases e
    · split at e
      · rename_i h1
        cases e
        obtain ⟨h2, h3⟩ := Cd.both hC
        have h3 : _ = _ := h3
        subst h3
        exact sop_ok (o := ⟨dst, op, ty, pos, af, gd⟩) hT hZ hf h1 h2
      · cases e
theorem gdb_ok {o : Oper} {b : Bool} (hf : Hol fr τ) (e : gdb ops n fr o.guard = some b) : Wd n ops o τ b := by
  obtain ⟨dst, op, ty, pos, af, gd⟩ := o
  cases gd with
  | none => cases e; exact Wd.a
  | some jc =>
    obtain ⟨j, c⟩ := jc
    simp only [gdb] at e
    split at e
    · rename_i x hx
      split at e
      · rename_i h1; cases e; exact Wd.g hx (opv_ok hf h1)
      · rename_i h1; cases e; exact Wd.g hx (opv_ok hf h1)
      · rename_i h1; cases e; exact Wd.u hx (opv_ok hf h1)
      · cases e
    · cases e
theorem putd_ok {u : SV} (hf : Hol fr τ) (d : Option Nat) : Hol (putd fr u d) (upo τ d u.val) := by
  cases d with
  | none => exact hf
  | some d => exact hf.put d u
theorem dropd_ok (hf : Hol fr τ) (d : Option Nat) : Hol (dropd fr d) (upo τ d undef) := by
  cases d with
  | none => exact hf
  | some d => exact hf.put d .un
theorem reg_ok (hT : TOk P T) (hZ : ZOk P Z) : ∀ (m q : Nat) (l : List Oper) (fr : FR) (τ : Fr) (C : Cd), reg T Z w n ops hs m q l fr = some (fr', C) → C.holds → Hol fr τ → (∀ τ', Hol fr' τ' → RW P n ops Q (l.drop m) τ' w) → RW P n ops Q l τ w := by
  intro m
  induction m with
  | zero => intro q l fr τ C e _ hf k; cases e; exact k τ hf
  | succ m ih =>
    intro q l fr τ C e hC hf k
    cases l with
    | nil => cases e
    | cons o l =>
      simp only [reg] at e
      split at e
      · rename_i hg
        split at e
        · rename_i u D h1
          split at e
          · rename_i f D2 h2
            cases e
            exact RW.soft (gdb_ok hf hg) (one_ok hT hZ hf h1 (Cd.both hC).1) (ih _ _ _ _ _ h2 (Cd.both hC).2 (putd_ok hf _) k)
          · cases e
        · cases e
      · rename_i hg
        exact RW.pass (gdb_ok hf hg) (ih _ _ _ _ _ e hC (dropd_ok hf _) k)
      · cases e
/-- the next m operations of a region, computed; what is kept: the slots ks -/
theorem RG.run (hT : TOk P T) (hZ : ZOk P Z) (hs : FR) (m : Nat) (ks : List Nat) (fr' : FR) (C : Cd) {l : List Oper} (hf : Hol fr τ) (e : (reg T Z w n ops hs m 0 l fr).map (fun r => (FR.keep ks r.1, r.2)) = some (fr', C)) (hC : C.holds) (k : ∀ τ', Hol fr' τ' → RW P n ops Q (l.drop m) τ' w) : RW P n ops Q l τ w := by
  cases h : reg T Z w n ops hs m 0 l fr with
  | none => rw [h] at e; cases e
  | some r =>
    rw [h] at e
    obtain ⟨f, D⟩ := r
    simp only [Option.map_some, Option.some.injEq, Prod.mk.injEq] at e
    obtain ⟨rfl, rfl⟩ := e
    exact reg_ok hT hZ m 0 l fr τ D h hC hf fun τ' hf' => k τ' (hf'.keep ks)
theorem RG.all {K : Fr → World → Prop} {id : Nat} (hT : TOk P T) (hZ : ZOk P Z) (hs : FR) (ks : List Nat) (fr' : FR) (C : Cd) (hf : Hol fr τ) (e : (reg T Z w n ops hs ops.toList.length 0 ops.toList fr).map (fun r => (FR.keep ks r.1, r.2)) = some (fr', C)) (hC : C.holds) (k : ∀ τ', Hol fr' τ' → K τ' w) : CW P n (.region id ops false) (Th K Q) τ w :=
  CW.region (RG.run hT hZ hs _ ks fr' C hf e hC fun τ' hf' => by rw [List.drop_length]; exact ⟨τ', rfl, k τ' hf'⟩)
end
section
variable {P : Program} {n : Nat} {fr fr' : FR} {τ : Fr} {w : World} {ops : Array Oper} {Q : Exit → Fr → World → Prop} {x : Nat} {u : SV}
theorem Hol.cons (h : τ x = u.val) (hf : Hol fr τ) : Hol ((x, u) :: fr) τ := by
  intro y t e
  simp only [FR.look] at e
  cases hb : Nat.beq x y with
  | true => rw [hb, cond_true] at e; cases e; have := Nat.eq_of_beq_eq_true hb; subst this; exact h
  | false => rw [hb, cond_false] at e; exact hf y t e
theorem Hol.val {v : Value} (hf : Hol fr τ) (e : (fr.look x).map SV.val = some v) : τ x = v := by
  cases h : fr.look x with
  | none => rw [h] at e; cases e
  | some u => rw [h] at e; cases e; exact hf x u h
theorem Hol.ev {v : Value} (hf : Hol fr τ) (h : Nat.blt x n = true) (e : (fr.look x).map SV.val = some v) : (AF n τ).eval (.tmp x) = v := AF_ev h (hf.val e)
/-- a frame's slots under other names of their values -/
theorem Hol.as (hf : Hol fr τ) (h : ∀ y t, fr'.look y = some t → ∃ t', fr.look y = some t' ∧ t'.val = t.val) : Hol fr' τ := fun y t e => by
  obtain ⟨t', h1, h2⟩ := h y t e
  rw [hf y t' h1, h2]
theorem RG.fin {K : Fr → World → Prop} (ks : List Nat) (fr' : FR) (hf : Hol fr τ) (e : FR.keep ks fr = fr') (k : ∀ τ', Hol fr' τ' → K τ' w) : RW P n ops (Th K Q) [] τ w := by
  subst e; exact ⟨τ, rfl, k τ (hf.keep ks)⟩
/-- a slot whose Bool is known -/
theorem Hol.bool {b c : Bool} (hf : Hol fr τ) (e : fr.look x = some (.b b)) (h : b = c) : Hol ((x, .b c) :: fr) τ := Hol.cons (by rw [hf x _ e, h]) hf
theorem TOk.nil : TOk P [] := fun _ h => nomatch h
theorem ZOk.nil : ZOk P [] := fun _ h => nomatch h
theorem RG.nil {K : Fr → World → Prop} (h : K τ w) : RW P n ops (Th K Q) [] τ w := ⟨τ, rfl, h⟩
end
end Go.SL
