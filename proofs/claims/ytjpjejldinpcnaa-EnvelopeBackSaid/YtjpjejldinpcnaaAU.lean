/- Bytes, words and numbers as bit vectors: what each operation yields of them; rows of them, held or read. -/
import Derived.Test.YtjpjejldinpcnaaSK
namespace Go.SL
open Go.RowKit
set_option linter.unusedVariables false
set_option linter.unusedSimpArgs false

/-- an unsigned kind of n bits -/
structure UK (k : IntKind) (n : Nat) : Prop where
  s : k.signed = false
  b : k.bits = n
theorem UK.u8 : UK .u8 8 := ⟨rfl, rfl⟩
theorem UK.u16 : UK .u16 16 := ⟨rfl, rfl⟩
theorem UK.u32 : UK .u32 32 := ⟨rfl, rfl⟩
theorem UK.u64 : UK .u64 64 := ⟨rfl, rfl⟩
theorem UK.wrap {k : IntKind} {n : Nat} (h : UK k n) (z : Int) : k.wrap z = z % (2 ^ n : Int) := by
  obtain ⟨hs, rfl⟩ := h
  simp [IntKind.wrap, hs]
theorem UK.wrapN {k : IntKind} {n : Nat} (h : UK k n) (z : Nat) : k.wrap (z : Int) = ((z % 2 ^ n : Nat) : Int) := by
  rw [h.wrap]; simp
theorem UK.wrapB {k : IntKind} {n : Nat} (h : UK k n) (x : BitVec n) : k.wrap (x.toNat : Int) = (x.toNat : Int) := by
  rw [h.wrapN, Nat.mod_eq_of_lt x.isLt]
theorem ofInt_toNat {n : Nat} (x : BitVec n) : BitVec.ofInt n (x.toNat : Int) = x := by
  rw [BitVec.ofInt_natCast, BitVec.ofNat_toNat]; simp
theorem ofInt_nat {n : Nat} (z : Int) : ((BitVec.ofInt n z).toNat : Int) = z % (2 ^ n : Int) := by
  rw [BitVec.toNat_ofInt]
  have h : (0 : Int) ≤ z % ((2 ^ n : Nat) : Int) := Int.emod_nonneg _ (by have := Nat.two_pow_pos n; omega)
  rw [Int.toNat_of_nonneg h]; simp
section
variable {P : Program} {ρ : Operand → Value} {w : World} {dst : Option Tmp} {ty : TypeId} {pos : String} {af : Array Edge} {gd : Option (Nat × Bool)}
variable {x y : Operand} {t t' : TypeId} {k k' : IntKind} {n m : Nat} {a b : BitVec n}
theorem E.uadd (h : UK k n) (hx : ρ x = .int k a.toNat) (hy : ρ y = .int k b.toNat) : Ev P ρ ⟨dst, .binOp .add t x y t', ty, pos, af, gd⟩ w (.int k (a + b).toNat) := by
  refine E.add hx hy ?_
  rw [← Int.natCast_add, h.wrapN, BitVec.toNat_add]
theorem E.umul (h : UK k n) (hx : ρ x = .int k a.toNat) (hy : ρ y = .int k b.toNat) : Ev P ρ ⟨dst, .binOp .mul t x y t', ty, pos, af, gd⟩ w (.int k (a * b).toNat) := by
  refine E.mul hx hy ?_
  rw [← Int.natCast_mul, h.wrapN, BitVec.toNat_mul]
theorem usub (h : UK k n) : k.wrap ((a.toNat : Int) - b.toNat) = ((a - b).toNat : Int) := by
  rw [h.wrap, BitVec.toNat_sub]
  have ha := a.isLt; have hb := b.isLt
  have : ((a.toNat : Int) - b.toNat) % (2 ^ n : Int) = ((2 ^ n : Int) - b.toNat + a.toNat) % (2 ^ n : Int) := by
    rw [show (2 ^ n : Int) - b.toNat + a.toNat = (a.toNat - b.toNat) + (2 ^ n : Int) by omega, Int.add_emod_right]
  rw [this, Int.natCast_emod, Int.natCast_add, Int.natCast_sub (Nat.le_of_lt hb)]
  simp
theorem E.usub (h : UK k n) (hx : ρ x = .int k a.toNat) (hy : ρ y = .int k b.toNat) : Ev P ρ ⟨dst, .binOp .sub t x y t', ty, pos, af, gd⟩ w (.int k (a - b).toNat) :=
  E.sub hx hy (Go.SL.usub h)
theorem E.uneg (h : UK k n) (hx : ρ x = .int k a.toNat) : Ev P ρ ⟨dst, .unOp .neg t x, ty, pos, af, gd⟩ w (.int k (-a).toNat) := by
  refine E.neg hx ?_
  have := Go.SL.usub (a := 0#n) (b := a) h
  simp only [BitVec.toNat_ofNat, Nat.zero_mod] at this
  rw [show (0 : Int) = ((0 : Nat) : Int) from rfl, this, BitVec.zero_sub]
theorem E.ubits {op : BinOp} {r : BitVec n} (h : UK k n) (hx : ρ x = .int k a.toNat) (hy : ρ y = .int k b.toNat)
    (hr : (op = .and ∧ r = a &&& b) ∨ (op = .or ∧ r = a ||| b) ∨ (op = .xor ∧ r = a ^^^ b) ∨ (op = .andNot ∧ r = a &&& ~~~b)) : Ev P ρ ⟨dst, .binOp op t x y t', ty, pos, af, gd⟩ w (.int k r.toNat) := by
  have hw := h.wrapB r
  obtain ⟨hs, rfl⟩ := h
  rcases hr with ⟨rfl, rfl⟩ | ⟨rfl, rfl⟩ | ⟨rfl, rfl⟩ | ⟨rfl, rfl⟩ <;> simp [Ev, execOp, eqGuard, binOp, Op.intBits, hx, hy, ofInt_toNat, hw, -BitVec.toNat_and, -BitVec.toNat_or, -BitVec.toNat_xor, -BitVec.toNat_not]
theorem E.uand (h : UK k n) (hx : ρ x = .int k a.toNat) (hy : ρ y = .int k b.toNat) : Ev P ρ ⟨dst, .binOp .and t x y t', ty, pos, af, gd⟩ w (.int k (a &&& b).toNat) := E.ubits h hx hy (.inl ⟨rfl, rfl⟩)
theorem E.uor (h : UK k n) (hx : ρ x = .int k a.toNat) (hy : ρ y = .int k b.toNat) : Ev P ρ ⟨dst, .binOp .or t x y t', ty, pos, af, gd⟩ w (.int k (a ||| b).toNat) := E.ubits h hx hy (.inr (.inl ⟨rfl, rfl⟩))
theorem E.uxor (h : UK k n) (hx : ρ x = .int k a.toNat) (hy : ρ y = .int k b.toNat) : Ev P ρ ⟨dst, .binOp .xor t x y t', ty, pos, af, gd⟩ w (.int k (a ^^^ b).toNat) := E.ubits h hx hy (.inr (.inr (.inl ⟨rfl, rfl⟩)))
theorem E.uandNot (h : UK k n) (hx : ρ x = .int k a.toNat) (hy : ρ y = .int k b.toNat) : Ev P ρ ⟨dst, .binOp .andNot t x y t', ty, pos, af, gd⟩ w (.int k (a &&& ~~~b).toNat) := E.ubits h hx hy (.inr (.inr (.inr ⟨rfl, rfl⟩)))
theorem E.unot (h : UK k n) (hx : ρ x = .int k a.toNat) : Ev P ρ ⟨dst, .unOp .xor t x, ty, pos, af, gd⟩ w (.int k (~~~a).toNat) := by
  have hw := h.wrapB (~~~a)
  obtain ⟨hs, rfl⟩ := h
  have h1 : BitVec.ofInt k.bits k.max = BitVec.allOnes k.bits := by
    apply BitVec.eq_of_toNat_eq
    have : ((BitVec.ofInt k.bits k.max).toNat : Int) = (BitVec.allOnes k.bits).toNat := by
      rw [ofInt_nat, BitVec.toNat_allOnes]
      have hp := Nat.two_pow_pos k.bits
      simp only [IntKind.max, hs, Bool.false_eq_true, if_false]
      rw [Int.emod_eq_of_lt]
      · rw [Int.natCast_sub (by omega)]; simp
      · have : (0 : Int) < 2 ^ k.bits := by exact_mod_cast hp
        omega
      · omega
    exact_mod_cast this
  have h2 : BitVec.allOnes k.bits ^^^ a = ~~~a := by simp
  simp [Ev, execOp, Op.unary, Op.intBits, hx, hs, h1, ofInt_toNat, h2, hw, -BitVec.toNat_not]
theorem E.ushl {yk : IntKind} {s : Int} {j : Nat} (h : UK k n) (hx : ρ x = .int k a.toNat) (hy : ρ y = .int yk s) (h0 : s = (j : Int)) : Ev P ρ ⟨dst, .binOp .shl t x y t', ty, pos, af, gd⟩ w (.int k (a <<< j).toNat) := by
  subst h0
  have : k.wrap ((a.toNat : Int) * 2 ^ Min.min j k.bits) = ((a <<< j).toNat : Int) := by
    have e : ((a.toNat : Int) * 2 ^ Min.min j k.bits) = ((a.toNat * 2 ^ Min.min j k.bits : Nat) : Int) := by simp
    rw [e, h.wrapN, BitVec.toNat_shiftLeft, Nat.shiftLeft_eq, h.b]
    congr 1
    rcases Nat.le_total j n with hj | hj
    · rw [Nat.min_eq_left hj]
    · rw [Nat.min_eq_right hj, Nat.mul_mod_left]
      obtain ⟨d, rfl⟩ := Nat.exists_eq_add_of_le hj
      rw [Nat.pow_add, Nat.mul_comm (2 ^ n), ← Nat.mul_assoc, Nat.mul_mod_left]
  simp only [Ev, execOp, eqGuard, binOp, Op.shift, hx, hy, Int.toNat_natCast, this, if_neg (show ¬ ((j : Int) < 0) by omega)]; simp [-BitVec.toNat_shiftLeft, -BitVec.toNat_ushiftRight]
theorem E.ushr {yk : IntKind} {s : Int} {j : Nat} (h : UK k n) (hx : ρ x = .int k a.toNat) (hy : ρ y = .int yk s) (h0 : s = (j : Int)) : Ev P ρ ⟨dst, .binOp .shr t x y t', ty, pos, af, gd⟩ w (.int k (a >>> j).toNat) := by
  subst h0
  have : ((a.toNat : Int)).fdiv (2 ^ Min.min j k.bits) = ((a >>> j).toNat : Int) := by
    have e : (2 ^ Min.min j k.bits : Int) = ((2 ^ Min.min j k.bits : Nat) : Int) := by simp
    rw [e, Int.fdiv_eq_ediv_of_nonneg _ (Int.natCast_nonneg _), ← Int.natCast_ediv, BitVec.toNat_ushiftRight, Nat.shiftRight_eq_div_pow, h.b]
    congr 1
    rcases Nat.le_total j n with hj | hj
    · rw [Nat.min_eq_left hj]
    · rw [Nat.min_eq_right hj, Nat.div_eq_of_lt a.isLt, Nat.div_eq_of_lt]
      exact Nat.lt_of_lt_of_le a.isLt (Nat.pow_le_pow_right (by omega) hj)
  simp only [Ev, execOp, eqGuard, binOp, Op.shift, hx, hy, Int.toNat_natCast, this, if_neg (show ¬ ((j : Int) < 0) by omega)]; simp [-BitVec.toNat_shiftLeft, -BitVec.toNat_ushiftRight]
theorem toNat_beq (a b : BitVec n) : ((a.toNat : Int) == (b.toNat : Int)) = (a == b) := by
  rw [Bool.eq_iff_iff, beq_iff_eq, beq_iff_eq]
  exact ⟨fun h => BitVec.eq_of_toNat_eq (by exact_mod_cast h), fun h => by rw [h]⟩
theorem E.ueql (hx : ρ x = .int k a.toNat) (hy : ρ y = .int k b.toNat) : Ev P ρ ⟨dst, .binOp .eql t x y t', ty, pos, af, gd⟩ w (.bool (a == b)) :=
  E.b (E.eql hx hy) (toNat_beq a b)
theorem E.uneq (hx : ρ x = .int k a.toNat) (hy : ρ y = .int k b.toNat) : Ev P ρ ⟨dst, .binOp .neq t x y t', ty, pos, af, gd⟩ w (.bool (a != b)) :=
  E.b (E.neq hx hy) (by rw [bne, bne, toNat_beq])
theorem E.ulss (hx : ρ x = .int k a.toNat) (hy : ρ y = .int k b.toNat) : Ev P ρ ⟨dst, .binOp .lss t x y t', ty, pos, af, gd⟩ w (.bool (decide (a.toNat < b.toNat))) := E.b (E.lss hx hy) (by simp)
theorem E.uleq (hx : ρ x = .int k a.toNat) (hy : ρ y = .int k b.toNat) : Ev P ρ ⟨dst, .binOp .leq t x y t', ty, pos, af, gd⟩ w (.bool (decide (a.toNat ≤ b.toNat))) := E.b (E.leq hx hy) (by simp)
theorem E.ugtr (hx : ρ x = .int k a.toNat) (hy : ρ y = .int k b.toNat) : Ev P ρ ⟨dst, .binOp .gtr t x y t', ty, pos, af, gd⟩ w (.bool (decide (a.toNat > b.toNat))) := E.b (E.gtr hx hy) (by simp)
theorem E.ugeq (hx : ρ x = .int k a.toNat) (hy : ρ y = .int k b.toNat) : Ev P ρ ⟨dst, .binOp .geq t x y t', ty, pos, af, gd⟩ w (.bool (decide (a.toNat ≥ b.toNat))) := E.b (E.geq hx hy) (by simp)
/-- division and rest of what has no sign -/
theorem E.uquo (h : UK k n) (hx : ρ x = .int k a.toNat) (hy : ρ y = .int k b.toNat) (h0 : b ≠ 0#n) : Ev P ρ ⟨dst, .binOp .quo t x y t', ty, pos, af, gd⟩ w (.int k (a / b).toNat) := by
  have hb : (b.toNat : Int) ≠ 0 := fun e => h0 (BitVec.eq_of_toNat_eq (by simpa using e))
  refine E.quo hx hy hb ?_
  rw [Int.tdiv_eq_ediv_of_nonneg (Int.natCast_nonneg _), ← Int.natCast_ediv, h.wrapN, BitVec.toNat_udiv, Nat.mod_eq_of_lt (Nat.lt_of_le_of_lt (Nat.div_le_self _ _) a.isLt)]
theorem E.urem (hx : ρ x = .int k a.toNat) (hy : ρ y = .int k b.toNat) (h0 : b ≠ 0#n) : Ev P ρ ⟨dst, .binOp .rem t x y t', ty, pos, af, gd⟩ w (.int k (a % b).toNat) := by
  have hb : (b.toNat : Int) ≠ 0 := fun e => h0 (BitVec.eq_of_toNat_eq (by simpa using e))
  refine E.rem hx hy hb ?_
  rw [Int.tmod_eq_emod_of_nonneg (Int.natCast_nonneg _), ← Int.natCast_emod, BitVec.toNat_umod]
/-! conversions -/
theorem E.cvUU {src dt : TypeId} (hs : (P.underlying src).isSome = true) (hd : P.underlying dt = some (.int k')) (h' : UK k' m) (hx : ρ x = .int k a.toNat) : Ev P ρ ⟨dst, .convert src dt x, ty, pos, af, gd⟩ w (.int k' (a.setWidth m).toNat) :=
  E.convInt hs hd hx (by rw [h'.wrapN, BitVec.toNat_setWidth])
theorem i64_small {z : Int} (h0 : 0 ≤ z) (h1 : z < 9223372036854775808) : IntKind.i64.wrap z = z := by
  simp [IntKind.wrap, IntKind.bits, IntKind.signed]; omega
theorem E.cvUI {src dt : TypeId} (hs : (P.underlying src).isSome = true) (hd : P.underlying dt = some (.int .i64)) (hn : n < 64) (hx : ρ x = .int k a.toNat) : Ev P ρ ⟨dst, .convert src dt x, ty, pos, af, gd⟩ w (.int .i64 a.toNat) :=
  E.convInt hs hd hx (i64_small (Int.natCast_nonneg _) (by
    have := a.isLt
    have h2 : 2 ^ n ≤ 2 ^ 63 := Nat.pow_le_pow_right (by omega) (by omega)
    omega))
theorem i64_wrap (r : BitVec 64) : IntKind.i64.wrap (r.toNat : Int) = r.toInt := by
  have hr : r.toNat < 18446744073709551616 := r.isLt
  have hz : ∀ z : Int, IntKind.i64.wrap z = if z % 18446744073709551616 ≥ 9223372036854775808 then z % 18446744073709551616 - 18446744073709551616 else z % 18446744073709551616 := fun z => by simp [IntKind.wrap, IntKind.bits, IntKind.signed]
  have hi : r.toInt = if 2 * r.toNat < 18446744073709551616 then (r.toNat : Int) else (r.toNat : Int) - 18446744073709551616 := by rw [BitVec.toInt_eq_toNat_cond]; rfl
  rw [hz, hi]
  split <;> split <;> omega
theorem E.cvU64I {a : BitVec 64} {src dt : TypeId} (hs : (P.underlying src).isSome = true) (hd : P.underlying dt = some (.int .i64)) (hx : ρ x = .int k a.toNat) : Ev P ρ ⟨dst, .convert src dt x, ty, pos, af, gd⟩ w (.int .i64 a.toInt) :=
  E.convInt hs hd hx (i64_wrap a)
theorem E.cvIU {src dt : TypeId} {z : Int} (hs : (P.underlying src).isSome = true) (hd : P.underlying dt = some (.int k')) (h' : UK k' m) (hx : ρ x = .int .i64 z) : Ev P ρ ⟨dst, .convert src dt x, ty, pos, af, gd⟩ w (.int k' (BitVec.ofInt m z).toNat) :=
  E.convInt hs hd hx (by rw [h'.wrap, ofInt_nat])
/-! numbers with a sign: bits, shifts, and what wraps -/
def w64 (z : Int) : Int := IntKind.i64.wrap z
theorem w64_id {z : Int} (h0 : -9223372036854775808 ≤ z) (h1 : z ≤ 9223372036854775807) : w64 z = z := by
  simp [w64, IntKind.wrap, IntKind.bits, IntKind.signed]; omega
def ior64 (a b : Int) : Int := (BitVec.ofInt 64 a ||| BitVec.ofInt 64 b).toInt
def iand64 (a b : Int) : Int := (BitVec.ofInt 64 a &&& BitVec.ofInt 64 b).toInt
def ixor64 (a b : Int) : Int := (BitVec.ofInt 64 a ^^^ BitVec.ofInt 64 b).toInt
def ishl64 (a : Int) (j : Nat) : Int := w64 (a * 2 ^ Min.min j 64)
def ishr64 (a : Int) (j : Nat) : Int := a.fdiv (2 ^ Min.min j 64)
section
variable {i j : Int}
theorem E.ior (hx : ρ x = .int .i64 i) (hy : ρ y = .int .i64 j) : Ev P ρ ⟨dst, .binOp .or t x y t', ty, pos, af, gd⟩ w (.int .i64 (ior64 i j)) := by
  rw [ior64, ← i64_wrap]; simp [Ev, execOp, eqGuard, binOp, Op.intBits, hx, hy, IntKind.bits, -BitVec.toNat_or, -BitVec.toNat_and, -BitVec.toNat_xor]; rfl
theorem E.iand (hx : ρ x = .int .i64 i) (hy : ρ y = .int .i64 j) : Ev P ρ ⟨dst, .binOp .and t x y t', ty, pos, af, gd⟩ w (.int .i64 (iand64 i j)) := by
  rw [iand64, ← i64_wrap]; simp [Ev, execOp, eqGuard, binOp, Op.intBits, hx, hy, IntKind.bits, -BitVec.toNat_or, -BitVec.toNat_and, -BitVec.toNat_xor]; rfl
theorem E.ixor (hx : ρ x = .int .i64 i) (hy : ρ y = .int .i64 j) : Ev P ρ ⟨dst, .binOp .xor t x y t', ty, pos, af, gd⟩ w (.int .i64 (ixor64 i j)) := by
  rw [ixor64, ← i64_wrap]; simp [Ev, execOp, eqGuard, binOp, Op.intBits, hx, hy, IntKind.bits, -BitVec.toNat_or, -BitVec.toNat_and, -BitVec.toNat_xor]; rfl
theorem E.ishl {yk : IntKind} {s : Int} {d : Nat} (hx : ρ x = .int .i64 i) (hy : ρ y = .int yk s) (h0 : s = (d : Int)) : Ev P ρ ⟨dst, .binOp .shl t x y t', ty, pos, af, gd⟩ w (.int .i64 (ishl64 i d)) := by
  subst h0; simp only [Ev, execOp, eqGuard, binOp, Op.shift, hx, hy, Int.toNat_natCast, if_neg (show ¬ ((d : Int) < 0) by omega)]; simp [ishl64, w64, IntKind.bits]
theorem E.ishr {yk : IntKind} {s : Int} {d : Nat} (hx : ρ x = .int .i64 i) (hy : ρ y = .int yk s) (h0 : s = (d : Int)) : Ev P ρ ⟨dst, .binOp .shr t x y t', ty, pos, af, gd⟩ w (.int .i64 (ishr64 i d)) := by
  subst h0; simp only [Ev, execOp, eqGuard, binOp, Op.shift, hx, hy, Int.toNat_natCast, if_neg (show ¬ ((d : Int) < 0) by omega)]; simp [ishr64, IntKind.bits]
end
end
end Go.SL
