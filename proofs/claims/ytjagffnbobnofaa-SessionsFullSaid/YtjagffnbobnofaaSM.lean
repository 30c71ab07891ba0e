/- Shifts and bits; more of the library's own pieces. -/
import Derived.Test.YtjagffnbobnofaaSK
namespace Go.SL
open Go.RowKit
set_option linter.unusedVariables false
set_option linter.unusedSimpArgs false
def shrI (a b : Int) : Int := a.fdiv (2 ^ (min b.toNat 64))
def andI (a b : Int) : Int := IntKind.i64.wrap ((BitVec.ofInt 64 a &&& BitVec.ofInt 64 b).toNat : Int)
section
variable {P : Program} {ρ : Operand → Value} {w : World} {dst : Option Tmp} {ty : TypeId} {pos : String} {af : Array Edge} {gd : Option (Nat × Bool)}
theorem E.shr {x y : Operand} {t t' : TypeId} {k : IntKind} {a b : Int} (hx : ρ x = .int .i64 a) (hy : ρ y = .int k b) (h0 : 0 ≤ b) : Ev P ρ ⟨dst, .binOp .shr t x y t', ty, pos, af, gd⟩ w (.int .i64 (shrI a b)) := by
  have h1 : ¬ b < 0 := by omega
  simp [Ev, execOp, eqGuard, binOp, Op.shift, hx, hy, h1, shrI, IntKind.bits]
theorem E.and {x y : Operand} {t t' : TypeId} {a b : Int} (hx : ρ x = .int .i64 a) (hy : ρ y = .int .i64 b) : Ev P ρ ⟨dst, .binOp .and t x y t', ty, pos, af, gd⟩ w (.int .i64 (andI a b)) := by
  simp only [Ev, execOp, eqGuard, binOp, Op.intBits, hx, hy, andI]
  rfl
theorem E.shrU {x y : Operand} {t t' : TypeId} {k k2 : IntKind} {a : Int} (hx : ρ x = .int k a) (hy : ρ y = .int k2 1) (hk : 1 ≤ k.bits) : Ev P ρ ⟨dst, .binOp .shr t x y t', ty, pos, af, gd⟩ w (.int k (a / 2)) := by
  have h2 : a.fdiv 2 = a / 2 := Int.fdiv_eq_ediv_of_nonneg _ (by decide)
  have h3 : Nat.min 1 k.bits = 1 := Nat.min_eq_left hk
  have h4 : (1 : Int).toNat = 1 := rfl
  simp only [Ev, execOp, eqGuard, binOp, Op.shift, hx, hy]
  cases k <;> simp [IntKind.bits, h2]
theorem E.slice3 {x lo hi mx : Operand} {t e : TypeId} {b o l c : Nat} {sz : Nat} {i j k : Nat} (ht : P.underlying t = some (.slice e)) (hz : (P.info? e).map (·.size) = some sz)
    (hx : ρ x = .slice (some ⟨b, o, none⟩) l c) (hlo : ρ lo = .int .i64 i) (hhi : ρ hi = .int .i64 j) (hmx : ρ mx = .int .i64 k) (hij : i ≤ j) (hjk : j ≤ k) (hkc : k ≤ c) :
    Ev P ρ ⟨dst, .slice t x (some lo) (some hi) (some mx), ty, pos, af, gd⟩ w (.slice (some ⟨b, if i = k then o else o + i * sz, none⟩) (j - i) (k - i)) := by
  cases hq : P.info? e with
  | none => simp [hq] at hz
  | some q =>
    have hsz : q.size = sz := by simpa [hq] using hz
    have h1 : (i : Int) ≤ (j : Int) := by omega
    have h2 : (j : Int) ≤ (k : Int) := by omega
    have h3 : (k : Int) ≤ (c : Int) := by omega
    by_cases hc : i = k
    · subst hc
      obtain rfl : i = j := by omega
      simp [Ev, execOp, Instr.sliceAt, run_underlying ht, Instr.slice, Instr.sliceBounds, Instr.sliceBound, asIntOf, hx, sizeOf, typeInfo, hq, hsz, hlo, hhi, hmx, h3, hkc]
    · have hc2 : ¬ k = i := fun h => hc h.symm
      simp [Ev, execOp, Instr.sliceAt, run_underlying ht, Instr.slice, Instr.sliceBounds, Instr.sliceBound, asIntOf, hx, sizeOf, typeInfo, hq, hsz, hlo, hhi, hmx, h1, h2, h3, hij, hjk, hkc, hc, hc2, add_lit]
theorem E.capS {x : Operand} {t e : TypeId} {p : Option Addr} {l c : Nat} (ht : P.underlying t = some (.slice e)) (hx : ρ x = .slice p l c) : Ev P ρ ⟨dst, .call ⟨.builtin .cap, #[x], #[t]⟩, ty, pos, af, gd⟩ w (.int .i64 c) := by
  simp [Ev, execOp, resolve, invoke, builtin, Builtin.cap_, run_underlying ht, hx, goInt]
def byteAt (s : ByteArray) (i : Int) : Int := (((s[i.toNat]?).map fun b => (b.toNat : Int)).getD 0)
theorem E.indexS {x y : Operand} {t : TypeId} {s : ByteArray} {k : IntKind} {i : Int} (ht : P.underlying t = some .string) (hx : ρ x = .string s) (hy : ρ y = .int k i) (h0 : 0 ≤ i) (h1 : i < s.size) : Ev P ρ ⟨dst, .index t x y, ty, pos, af, gd⟩ w (.int .u8 (byteAt s i)) := by
  have hlt : i.toNat < s.size := by omega
  have hs : s[i.toNat]? = some s[i.toNat] := by simp [hlt]
  simp [Ev, execOp, Instr.index, asIntOf, run_underlying ht, hx, hy, h0, hs, byteAt]
theorem byteAt_le (s : ByteArray) (i : Int) : 0 ≤ byteAt s i ∧ byteAt s i ≤ 255 := by
  unfold byteAt
  cases h : s[i.toNat]? with
  | none => simp
  | some b => have := b.toNat_lt; simp; omega
end
end Go.SL
