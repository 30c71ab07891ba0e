/- What each operation yields, and what it does to the memory that is held. -/
import Derived.Test.YtjpjejldinpcnaaSL1
import Derived.Maps.Own
import Derived.Laws.CopyOwn
namespace Go.SL
open Go.RowKit
set_option linter.unusedVariables false
set_option linter.unusedSimpArgs false

section
variable {P : Program} {ρ : Operand → Value} {w : World} {dst : Option Tmp} {ty : TypeId} {pos : String} {af : Array Edge} {gd : Option (Nat × Bool)}
theorem E.move {x : Operand} {v : Value} (h : ρ x = v) : Ev P ρ ⟨dst, .move x, ty, pos, af, gd⟩ w v := by simp [Ev, execOp, h]
theorem E.b {o : Oper} {a b : Bool} (h : Ev P ρ o w (.bool a)) (e : a = b) : Ev P ρ o w (.bool b) := e ▸ h
theorem E.assign {x : Operand} {v : Value} (h : ρ x = v) : Ev P ρ ⟨dst, .assign x, ty, pos, af, gd⟩ w v := by simp [Ev, execOp, h]
theorem E.pick {c x y : Operand} {b : Bool} {v : Value} (hc : ρ c = .bool b) (h : (if b then ρ x else ρ y) = v) : Ev P ρ ⟨dst, .pick c x y, ty, pos, af, gd⟩ w v := by
  cases b <;> simp at h <;> simp [Ev, execOp, hc, asBool, h]
theorem E.pickT {c x y : Operand} {v : Value} (hc : ρ c = .bool true) (h : ρ x = v) : Ev P ρ ⟨dst, .pick c x y, ty, pos, af, gd⟩ w v := E.pick hc h
theorem E.pickF {c x y : Operand} {v : Value} (hc : ρ c = .bool false) (h : ρ y = v) : Ev P ρ ⟨dst, .pick c x y, ty, pos, af, gd⟩ w v := E.pick hc h
section
variable {x y : Operand} {t t' : TypeId} {k : IntKind} {a b c : Int}
theorem E.add (hx : ρ x = .int k a) (hy : ρ y = .int k b) (hc : k.wrap (a + b) = c) : Ev P ρ ⟨dst, .binOp .add t x y t', ty, pos, af, gd⟩ w (.int k c) := by
  simp [Ev, execOp, eqGuard, binOp, Op.intArith, hx, hy, hc]
theorem E.sub (hx : ρ x = .int k a) (hy : ρ y = .int k b) (hc : k.wrap (a - b) = c) : Ev P ρ ⟨dst, .binOp .sub t x y t', ty, pos, af, gd⟩ w (.int k c) := by
  simp [Ev, execOp, eqGuard, binOp, Op.intArith, hx, hy, hc]
theorem E.mul (hx : ρ x = .int k a) (hy : ρ y = .int k b) (hc : k.wrap (a * b) = c) : Ev P ρ ⟨dst, .binOp .mul t x y t', ty, pos, af, gd⟩ w (.int k c) := by
  simp [Ev, execOp, eqGuard, binOp, Op.intArith, hx, hy, hc]
theorem E.quo (hx : ρ x = .int k a) (hy : ρ y = .int k b) (h0 : b ≠ 0) (hc : k.wrap (a.tdiv b) = c) : Ev P ρ ⟨dst, .binOp .quo t x y t', ty, pos, af, gd⟩ w (.int k c) := by
  simp [Ev, execOp, eqGuard, binOp, Op.intDiv, hx, hy, hc, h0]
theorem E.rem (hx : ρ x = .int k a) (hy : ρ y = .int k b) (h0 : b ≠ 0) (hc : a.tmod b = c) : Ev P ρ ⟨dst, .binOp .rem t x y t', ty, pos, af, gd⟩ w (.int k c) := by
  simp [Ev, execOp, eqGuard, binOp, Op.intDiv, hx, hy, hc, h0]
theorem E.eql (hx : ρ x = .int k a) (hy : ρ y = .int k b) : Ev P ρ ⟨dst, .binOp .eql t x y t', ty, pos, af, gd⟩ w (.bool (a == b)) := by
  simp [Ev, execOp, eqGuard, binOp, Op.intCmp, hx, hy]
theorem E.neq (hx : ρ x = .int k a) (hy : ρ y = .int k b) : Ev P ρ ⟨dst, .binOp .neq t x y t', ty, pos, af, gd⟩ w (.bool (a != b)) := by
  simp [Ev, execOp, eqGuard, binOp, Op.intCmp, hx, hy]
theorem E.lss (hx : ρ x = .int k a) (hy : ρ y = .int k b) : Ev P ρ ⟨dst, .binOp .lss t x y t', ty, pos, af, gd⟩ w (.bool (decide (a < b))) := by
  simp [Ev, execOp, eqGuard, binOp, Op.intCmp, hx, hy]
theorem E.leq (hx : ρ x = .int k a) (hy : ρ y = .int k b) : Ev P ρ ⟨dst, .binOp .leq t x y t', ty, pos, af, gd⟩ w (.bool (decide (a ≤ b))) := by
  simp [Ev, execOp, eqGuard, binOp, Op.intCmp, hx, hy]
theorem E.gtr (hx : ρ x = .int k a) (hy : ρ y = .int k b) : Ev P ρ ⟨dst, .binOp .gtr t x y t', ty, pos, af, gd⟩ w (.bool (decide (a > b))) := by
  simp [Ev, execOp, eqGuard, binOp, Op.intCmp, hx, hy]
theorem E.geq (hx : ρ x = .int k a) (hy : ρ y = .int k b) : Ev P ρ ⟨dst, .binOp .geq t x y t', ty, pos, af, gd⟩ w (.bool (decide (a ≥ b))) := by
  simp [Ev, execOp, eqGuard, binOp, Op.intCmp, hx, hy]
theorem E.neg (hx : ρ x = .int k a) (hc : k.wrap (0 - a) = c) : Ev P ρ ⟨dst, .unOp .neg t x, ty, pos, af, gd⟩ w (.int k c) := by
  simp only [Ev, execOp, Op.unary, Op.intArith, hx, hc]; rfl
theorem E.convInt {k' : IntKind} {src dt : TypeId} (hs : (P.underlying src).isSome = true) (hd : P.underlying dt = some (.int k')) (hx : ρ x = .int k a) (hc : k'.wrap a = c) :
    Ev P ρ ⟨dst, .convert src dt x, ty, pos, af, gd⟩ w (.int k' c) := by
  simp [Ev, execOp, hx, run_convert_int w src dt k a hs, hd, hc, go_sem]
end
theorem E.not {x : Operand} {t : TypeId} {b : Bool} (hx : ρ x = .bool b) : Ev P ρ ⟨dst, .unOp .not t x, ty, pos, af, gd⟩ w (.bool (!b)) := by
  simp [Ev, execOp, Op.unary, hx]
theorem E.eqlB {x y : Operand} {t t' : TypeId} {a b : Bool} (ht : P.underlying t = some .bool) (hx : ρ x = .bool a) (hy : ρ y = .bool b) : Ev P ρ ⟨dst, .binOp .eql t x y t', ty, pos, af, gd⟩ w (.bool (a == b)) := by
  simp [Ev, execOp, eqGuard, binOp, hx, hy, run_equal_bool, ht]
theorem E.neqB {x y : Operand} {t t' : TypeId} {a b : Bool} (ht : P.underlying t = some .bool) (hx : ρ x = .bool a) (hy : ρ y = .bool b) : Ev P ρ ⟨dst, .binOp .neq t x y t', ty, pos, af, gd⟩ w (.bool (a != b)) := by
  simp [Ev, execOp, eqGuard, binOp, hx, hy, run_equal_bool, ht, bne]
theorem eqIn_ptr (d : Nat) {t e : TypeId} {p : Option Addr} (ht : P.underlying t = some (.pointer e)) : (Op.equalIn (d + 1) t (.pointer p) (.pointer none)).run P w = .ok p.isNone w := by
  cases p <;> simp [Op.equalIn, run_underlying ht]
theorem eq_ptr {t e : TypeId} {p : Option Addr} (ht : P.underlying t = some (.pointer e)) : (Op.equal t (.pointer p) (.pointer none)).run P w = .ok p.isNone w := eqIn_ptr 9999 ht
theorem eqIn_slc (d : Nat) {t e : TypeId} {p : Option Addr} {l c : Nat} (ht : P.underlying t = some (.slice e)) : (Op.equalIn (d + 1) t (.slice p l c) (.slice none 0 0)).run P w = .ok p.isNone w := by
  cases p <;> simp [Op.equalIn, run_underlying ht]
theorem eq_slc {t e : TypeId} {p : Option Addr} {l c : Nat} (ht : P.underlying t = some (.slice e)) : (Op.equal t (.slice p l c) (.slice none 0 0)).run P w = .ok p.isNone w := eqIn_slc 9999 ht
/-- a pointer against nil -/
theorem E.eqlP {x y : Operand} {t t' e : TypeId} {p : Option Addr} (ht : P.underlying t = some (.pointer e)) (hx : ρ x = .pointer p) (hy : ρ y = .pointer none) : Ev P ρ ⟨dst, .binOp .eql t x y t', ty, pos, af, gd⟩ w (.bool p.isNone) := by
  simp [Ev, execOp, eqGuard, binOp, hx, hy, eq_ptr ht]
theorem E.neqP {x y : Operand} {t t' e : TypeId} {p : Option Addr} (ht : P.underlying t = some (.pointer e)) (hx : ρ x = .pointer p) (hy : ρ y = .pointer none) : Ev P ρ ⟨dst, .binOp .neq t x y t', ty, pos, af, gd⟩ w (.bool (!p.isNone)) := by
  simp [Ev, execOp, eqGuard, binOp, hx, hy, eq_ptr ht]
/-- a slice against nil -/
theorem E.eqlS {x y : Operand} {t t' e : TypeId} {p : Option Addr} {l c : Nat} (ht : P.underlying t = some (.slice e)) (hx : ρ x = .slice p l c) (hy : ρ y = .slice none 0 0) : Ev P ρ ⟨dst, .binOp .eql t x y t', ty, pos, af, gd⟩ w (.bool p.isNone) := by
  simp [Ev, execOp, eqGuard, binOp, hx, hy, eq_slc ht]
theorem E.nilCheck {x : Operand} {a : Addr} (hx : ρ x = .pointer (some a)) : Ev P ρ ⟨dst, .nilCheck x, ty, pos, af, gd⟩ w (.pointer (some a)) := by
  simp [Ev, execOp, hx]
theorem add_lit (b o n : Nat) : (⟨b, o, none⟩ : Addr).add n = ⟨b, o + n, none⟩ := by
  unfold Addr.add; split
  · rename_i h; subst h; rfl
  · rfl
theorem E.fieldAddr {x : Operand} {s : TypeId} {i b o : Nat} {fs : Array Field} {f : Field} {sz : Nat} (hx : ρ x = .pointer (some ⟨b, o, none⟩)) (hs : P.underlying s = some (.struct fs)) (hf : fs[i]? = some f)
    (hz : (P.info? f.type).map (·.size) = some (sz + 1)) {o' : Nat} (ho : o + f.offset = o') : Ev P ρ ⟨dst, .fieldAddr s x i, ty, pos, af, gd⟩ w (.pointer (some ⟨b, o', none⟩)) := by
  cases hq : P.info? f.type with
  | none => simp [hq] at hz
  | some q =>
    have hsz : q.size = sz + 1 := by simpa [hq] using hz
    simp [Ev, execOp, Instr.fieldAt, Instr.sureAddr, fieldPlace, run_underlying hs, hf, hx, sizeOf, typeInfo, hq, hsz, add_lit, ho]
theorem E.extract {x : Operand} {i : Nat} {vs : Array Value} {v : Value} (hx : ρ x = .tuple vs) (hv : vs[i]? = some v) : Ev P ρ ⟨dst, .extract x i, ty, pos, af, gd⟩ w v := by
  simp [Ev, execOp, Instr.extract, hx, hv]
theorem E.indexAddr {x y : Operand} {t e : TypeId} {b o l c : Nat} {k : IntKind} {i : Int} {sz : Nat} (ht : P.underlying t = some (.slice e)) (hz : (P.info? e).map (·.size) = some sz)
    (hx : ρ x = .slice (some ⟨b, o, none⟩) l c) (hy : ρ y = .int k i) (h0 : 0 ≤ i) (h1 : i < l) {o' : Nat} (ho : o + i.toNat * sz = o') : Ev P ρ ⟨dst, .indexAddr t x y, ty, pos, af, gd⟩ w (.pointer (some ⟨b, o', none⟩)) := by
  cases hq : P.info? e with
  | none => simp [hq] at hz
  | some q =>
    have hsz : q.size = sz := by simpa [hq] using hz
    simp [Ev, execOp, Instr.indexAt, asIntOf, run_underlying ht, hx, hy, h0, h1, sizeOf, typeInfo, hq, hsz, add_lit, ho]
theorem E.indexAddrA {x y : Operand} {t e : TypeId} {b o l : Nat} {k : IntKind} {i : Int} {sz : Nat} (ht : P.underlying t = some (.array l e)) (hz : (P.info? e).map (·.size) = some sz)
    (hx : ρ x = .pointer (some ⟨b, o, none⟩)) (hy : ρ y = .int k i) (h0 : 0 ≤ i) (h1 : i < l) {o' : Nat} (ho : o + i.toNat * sz = o') : Ev P ρ ⟨dst, .indexAddr t x y, ty, pos, af, gd⟩ w (.pointer (some ⟨b, o', none⟩)) := by
  cases hq : P.info? e with
  | none => simp [hq] at hz
  | some q =>
    have hsz : q.size = sz := by simpa [hq] using hz
    simp [Ev, execOp, Instr.indexAt, Instr.sureAddr, asIntOf, run_underlying ht, hx, hy, h0, h1, sizeOf, typeInfo, hq, hsz, add_lit, ho]
theorem E.lenS {x : Operand} {t e : TypeId} {p : Option Addr} {l c : Nat} (ht : P.underlying t = some (.slice e)) (hx : ρ x = .slice p l c) : Ev P ρ ⟨dst, .call ⟨.builtin .len, #[x], #[t]⟩, ty, pos, af, gd⟩ w (.int .i64 l) := by
  simp [Ev, execOp, resolve, invoke, builtin, Builtin.len_, run_underlying ht, hx, goInt]
theorem E.lenStr {x : Operand} {t : TypeId} {s : ByteArray} (ht : P.underlying t = some .string) (hx : ρ x = .string s) : Ev P ρ ⟨dst, .call ⟨.builtin .len, #[x], #[t]⟩, ty, pos, af, gd⟩ w (.int .i64 s.size) := by
  simp [Ev, execOp, resolve, invoke, builtin, Builtin.len_, run_underlying ht, hx, goInt]
theorem E.max {x y : Operand} {ts : Array TypeId} {k : IntKind} {a b c : Int} (hx : ρ x = .int k a) (hy : ρ y = .int k b) (hc : (if b > a then b else a) = c) : Ev P ρ ⟨dst, .call ⟨.builtin .max, #[x, y], ts⟩, ty, pos, af, gd⟩ w (.int k c) := by
  subst hc; simp [Ev, execOp, resolve, invoke, builtin, Builtin.max_, Builtin.max2, hx, hy]
theorem E.min {x y : Operand} {ts : Array TypeId} {k : IntKind} {a b c : Int} (hx : ρ x = .int k a) (hy : ρ y = .int k b) (hc : (if b < a then b else a) = c) : Ev P ρ ⟨dst, .call ⟨.builtin .min, #[x, y], ts⟩, ty, pos, af, gd⟩ w (.int k c) := by
  subst hc; simp [Ev, execOp, resolve, invoke, builtin, Builtin.min_, Builtin.min2, hx, hy]
/-- x[lo:hi] of a slice that leads somewhere -/
theorem E.slice {x : Operand} {lo hi : Option Operand} {t e : TypeId} {b o l c : Nat} {sz : Nat} {i j : Nat} (ht : P.underlying t = some (.slice e)) (hz : (P.info? e).map (·.size) = some sz)
    (hx : ρ x = .slice (some ⟨b, o, none⟩) l c) (hlo : (match lo with | none => i = 0 | some y => ρ y = .int .i64 i)) (hhi : (match hi with | none => j = l | some y => ρ y = .int .i64 j)) (hij : i ≤ j) (hjc : j ≤ c)
    {v : Value} (hv : .slice (some ⟨b, if i = c then o else o + i * sz, none⟩) (j - i) (c - i) = v) : Ev P ρ ⟨dst, .slice t x lo hi none, ty, pos, af, gd⟩ w v := by
  subst hv
  cases hq : P.info? e with
  | none => simp [hq] at hz
  | some q =>
    have hsz : q.size = sz := by simpa [hq] using hz
    cases lo with
    | none =>
      simp only at hlo; subst hlo
      cases hi with
      | none =>
        simp only at hhi; subst hhi
        by_cases hc : 0 = c
        · subst hc; simp [Ev, execOp, Instr.sliceAt, run_underlying ht, Instr.slice, Instr.sliceBounds, hx, sizeOf, typeInfo, hq, hsz]
        · have hc2 : ¬ c = 0 := fun h => hc h.symm
          simp [Ev, execOp, Instr.sliceAt, run_underlying ht, Instr.slice, Instr.sliceBounds, hx, sizeOf, typeInfo, hq, hsz, hc, hc2, add_lit]
      | some y =>
        simp only at hhi
        have h1 : (j : Int) ≤ (c : Int) := by omega
        by_cases hc : 0 = c
        · subst hc; simp [Ev, execOp, Instr.sliceAt, run_underlying ht, Instr.slice, Instr.sliceBounds, Instr.sliceBound, asIntOf, hx, sizeOf, typeInfo, hq, hsz, hhi, h1]; intro h; omega
        · have hc2 : ¬ c = 0 := fun h => hc h.symm
          simp [Ev, execOp, Instr.sliceAt, run_underlying ht, Instr.slice, Instr.sliceBounds, Instr.sliceBound, asIntOf, hx, sizeOf, typeInfo, hq, hsz, hhi, h1, hc, hc2, add_lit]; intro h; omega
    | some z =>
      simp only at hlo
      cases hi with
      | none =>
        simp only at hhi; subst hhi
        have h1 : (i : Int) ≤ (j : Int) := by omega
        by_cases hc : i = c
        · subst hc; simp [Ev, execOp, Instr.sliceAt, run_underlying ht, Instr.slice, Instr.sliceBounds, Instr.sliceBound, asIntOf, hx, sizeOf, typeInfo, hq, hsz, hlo, h1]; intro h; omega
        · have hc2 : ¬ c = i := fun h => hc h.symm
          simp [Ev, execOp, Instr.sliceAt, run_underlying ht, Instr.slice, Instr.sliceBounds, Instr.sliceBound, asIntOf, hx, sizeOf, typeInfo, hq, hsz, hlo, h1, hc, hc2, add_lit]; intro h; omega
      | some y =>
        simp only at hhi
        have h1 : (i : Int) ≤ (j : Int) := by omega
        have h2 : (j : Int) ≤ (c : Int) := by omega
        by_cases hc : i = c
        · subst hc; simp [Ev, execOp, Instr.sliceAt, run_underlying ht, Instr.slice, Instr.sliceBounds, Instr.sliceBound, asIntOf, hx, sizeOf, typeInfo, hq, hsz, hlo, hhi, h1, h2]; simp [hij, hjc]
        · have hc2 : ¬ c = i := fun h => hc h.symm
          simp [Ev, execOp, Instr.sliceAt, run_underlying ht, Instr.slice, Instr.sliceBounds, Instr.sliceBound, asIntOf, hx, sizeOf, typeInfo, hq, hsz, hlo, hhi, h1, h2, hc, hc2, add_lit]; simp [hij, hjc, hc, hc2, add_lit]
/-- .. of a nil slice -/
theorem E.sliceN {x : Operand} {lo hi : Option Operand} {t e : TypeId} (ht : P.underlying t = some (.slice e)) (hz : (P.info? e).isSome = true)
    (hx : ρ x = .slice none 0 0) (hlo : (match lo with | none => True | some y => ρ y = .int .i64 0)) (hhi : (match hi with | none => True | some y => ρ y = .int .i64 0)) : Ev P ρ ⟨dst, .slice t x lo hi none, ty, pos, af, gd⟩ w (.slice none 0 0) := by
  obtain ⟨q, hq⟩ := Option.isSome_iff_exists.1 hz
  cases lo <;> cases hi <;> simp only at hlo hhi <;> simp [Ev, execOp, Instr.sliceAt, run_underlying ht, Instr.slice, Instr.sliceBounds, Instr.sliceBound, asIntOf, hx, sizeOf, typeInfo, hq, hlo, hhi]
/-- a variable of one cell is read -/
theorem E.load {x : Operand} {t : TypeId} {d : TypeDesc} {a : Addr} {v : Value} (ht : P.underlying t = some d) (hd : (match d with | .struct _ | .array _ _ => true | _ => false) = false)
    (hx : ρ x = .pointer (some a)) (hc : w.cell? a = some v) : Ev P ρ ⟨dst, .load t x, ty, pos, af, gd⟩ w v := by
  have hagg : (isAgg t).run P w = .ok false w := by
    unfold isAgg
    rw [Sem.run_bind, run_underlying ht w]
    cases d <;> simp_all
  simp [Ev, execOp, Instr.loadAt, Instr.sureAddr, loadVar, hx, Sem.run_bind, hagg, hc]
/-- a struct, or an array -/
theorem E.loadN {x : Operand} {t : TypeId} {d : TypeDesc} {b o sz : Nat} {cs : List Value} (ht : P.underlying t = some d) (hd : (match d with | .struct _ | .array _ _ => true | _ => false) = true)
    (hz : (P.info? t).map (·.size) = some sz) (hx : ρ x = .pointer (some ⟨b, o, none⟩)) (hl : cs.length = sz) (hc : ∀ j v, cs[j]? = some v → w.cell? ⟨b, o + j, none⟩ = some v) :
    Ev P ρ ⟨dst, .load t x, ty, pos, af, gd⟩ w (.agg cs.toArray) := by
  cases hq : P.info? t with
  | none => simp [hq] at hz
  | some i =>
    have hs : i.size = cs.length := by rw [hl]; simpa [hq] using hz
    have hagg : (isAgg t).run P w = .ok true w := by
      unfold isAgg
      rw [Sem.run_bind, run_underlying ht w]
      cases d <;> simp_all
    have hld : (loadCells ⟨b, o, none⟩ cs.length).run P w = .ok cs.toArray w :=
      run_loadCells_list (P := P) w ⟨b, o, none⟩ cs (fun j v hv => by rw [add_lit]; exact hc j v hv)
    simp [Ev, execOp, Instr.loadAt, Instr.sureAddr, loadVar, hx, Sem.run_bind, hagg, sizeOf, typeInfo, hq, hs, hld]
theorem E.run {o : Oper} {v : Value} (h : (execOp ρ o).run P w = .ok (.value v) w) : Ev P ρ o w v := h
theorem E.build {t : TypeId} {ps : Array (Nat × Operand)} {vs : Array (Nat × Value)} {v : Value} (hp : (ps.map fun (i, x) => (i, ρ x)) = vs) (h : (Instr.build t vs).run P w = .ok v w) : Ev P ρ ⟨dst, .build t ps, ty, pos, af, gd⟩ w v := by
  subst hp
  have h' : (Instr.build t (Array.map (fun x => (x.fst, ρ x.snd)) ps)).run P w = .ok v w := h
  simp [Ev, execOp, h']
theorem E.makeFunc {fn : Fn} {first cap : Array Operand} {a b : Array Value} (ha : first.map ρ = a) (hb : cap.map ρ = b) : Ev P ρ ⟨dst, .makeFunc fn first cap, ty, pos, af, gd⟩ w (.func fn a b) := by
  simp [Ev, execOp, Instr.makeFunc, ha, hb]
theorem E.index {x y : Operand} {t e : TypeId} {l : Nat} {k : IntKind} {i : Int} {cs : Array Value} {v : Value} (ht : P.underlying t = some (.array l e)) (hx : ρ x = .agg cs) (hy : ρ y = .int k i) (h0 : 0 ≤ i) (h1 : i < l)
    (hz : (P.info? e).map (·.size) = some 1) {d : TypeDesc} (he : P.underlying e = some d) (hd : (match d with | .struct _ | .array _ _ => true | _ => false) = false) (hv : cs[i.toNat]? = some v) : Ev P ρ ⟨dst, .index t x y, ty, pos, af, gd⟩ w v := by
  cases hq : P.info? e with
  | none => simp [hq] at hz
  | some q =>
    have hsz : q.size = 1 := by simpa [hq] using hz
    have hagg : (isAgg e).run P w = .ok false w := by
      unfold isAgg
      rw [Sem.run_bind, run_underlying he w]
      cases d <;> simp_all
    simp [Ev, execOp, Instr.index, asIntOf, run_underlying ht, hx, hy, h0, h1, sizeOf, typeInfo, hq, hsz, part, hagg, hv]
end
end Go.SL
