/- Keys of 32 bytes in the program: how they are put together and compared. -/
import Derived.Test.YtjpjejldinpcnaaKA3
import Derived.Test.YtjpjejldinpcnaaProg
import Derived.ChangeKeysEq
namespace Go.Proofs.Ytjpjejldinpcnaa
open Go.RowKit Go.SL Go.K13
set_option linter.unusedVariables false
set_option linter.unusedSimpArgs false
theorem k32_ind {C : K32 → Prop} (h : ∀ a0 a1 a2 a3 a4 a5 a6 a7 a8 a9 a10 a11 a12 a13 a14 a15 a16 a17 a18 a19 a20 a21 a22 a23 a24 a25 a26 a27 a28 a29 a30 a31 : Int, C ⟨[a0, a1, a2, a3, a4, a5, a6, a7, a8, a9, a10, a11, a12, a13, a14, a15, a16, a17, a18, a19, a20, a21, a22, a23, a24, a25, a26, a27, a28, a29, a30, a31], rfl⟩) (m : K32) : C m := by
  obtain ⟨l, hl⟩ := m
  obtain ⟨a0, l0, rfl⟩ := List.exists_cons_of_length_eq_add_one hl
  replace hl : l0.length = 31 := Nat.succ.inj hl
  obtain ⟨a1, l1, rfl⟩ := List.exists_cons_of_length_eq_add_one hl
  replace hl : l1.length = 30 := Nat.succ.inj hl
  obtain ⟨a2, l2, rfl⟩ := List.exists_cons_of_length_eq_add_one hl
  replace hl : l2.length = 29 := Nat.succ.inj hl
  obtain ⟨a3, l3, rfl⟩ := List.exists_cons_of_length_eq_add_one hl
  replace hl : l3.length = 28 := Nat.succ.inj hl
  obtain ⟨a4, l4, rfl⟩ := List.exists_cons_of_length_eq_add_one hl
  replace hl : l4.length = 27 := Nat.succ.inj hl
  obtain ⟨a5, l5, rfl⟩ := List.exists_cons_of_length_eq_add_one hl
  replace hl : l5.length = 26 := Nat.succ.inj hl
  obtain ⟨a6, l6, rfl⟩ := List.exists_cons_of_length_eq_add_one hl
  replace hl : l6.length = 25 := Nat.succ.inj hl
  obtain ⟨a7, l7, rfl⟩ := List.exists_cons_of_length_eq_add_one hl
  replace hl : l7.length = 24 := Nat.succ.inj hl
  obtain ⟨a8, l8, rfl⟩ := List.exists_cons_of_length_eq_add_one hl
  replace hl : l8.length = 23 := Nat.succ.inj hl
  obtain ⟨a9, l9, rfl⟩ := List.exists_cons_of_length_eq_add_one hl
  replace hl : l9.length = 22 := Nat.succ.inj hl
  obtain ⟨a10, l10, rfl⟩ := List.exists_cons_of_length_eq_add_one hl
  replace hl : l10.length = 21 := Nat.succ.inj hl
  obtain ⟨a11, l11, rfl⟩ := List.exists_cons_of_length_eq_add_one hl
  replace hl : l11.length = 20 := Nat.succ.inj hl
  obtain ⟨a12, l12, rfl⟩ := List.exists_cons_of_length_eq_add_one hl
  replace hl : l12.length = 19 := Nat.succ.inj hl
  obtain ⟨a13, l13, rfl⟩ := List.exists_cons_of_length_eq_add_one hl
  replace hl : l13.length = 18 := Nat.succ.inj hl
  obtain ⟨a14, l14, rfl⟩ := List.exists_cons_of_length_eq_add_one hl
  replace hl : l14.length = 17 := Nat.succ.inj hl
  obtain ⟨a15, l15, rfl⟩ := List.exists_cons_of_length_eq_add_one hl
  replace hl : l15.length = 16 := Nat.succ.inj hl
  obtain ⟨a16, l16, rfl⟩ := List.exists_cons_of_length_eq_add_one hl
  replace hl : l16.length = 15 := Nat.succ.inj hl
  obtain ⟨a17, l17, rfl⟩ := List.exists_cons_of_length_eq_add_one hl
  replace hl : l17.length = 14 := Nat.succ.inj hl
  obtain ⟨a18, l18, rfl⟩ := List.exists_cons_of_length_eq_add_one hl
  replace hl : l18.length = 13 := Nat.succ.inj hl
  obtain ⟨a19, l19, rfl⟩ := List.exists_cons_of_length_eq_add_one hl
  replace hl : l19.length = 12 := Nat.succ.inj hl
  obtain ⟨a20, l20, rfl⟩ := List.exists_cons_of_length_eq_add_one hl
  replace hl : l20.length = 11 := Nat.succ.inj hl
  obtain ⟨a21, l21, rfl⟩ := List.exists_cons_of_length_eq_add_one hl
  replace hl : l21.length = 10 := Nat.succ.inj hl
  obtain ⟨a22, l22, rfl⟩ := List.exists_cons_of_length_eq_add_one hl
  replace hl : l22.length = 9 := Nat.succ.inj hl
  obtain ⟨a23, l23, rfl⟩ := List.exists_cons_of_length_eq_add_one hl
  replace hl : l23.length = 8 := Nat.succ.inj hl
  obtain ⟨a24, l24, rfl⟩ := List.exists_cons_of_length_eq_add_one hl
  replace hl : l24.length = 7 := Nat.succ.inj hl
  obtain ⟨a25, l25, rfl⟩ := List.exists_cons_of_length_eq_add_one hl
  replace hl : l25.length = 6 := Nat.succ.inj hl
  obtain ⟨a26, l26, rfl⟩ := List.exists_cons_of_length_eq_add_one hl
  replace hl : l26.length = 5 := Nat.succ.inj hl
  obtain ⟨a27, l27, rfl⟩ := List.exists_cons_of_length_eq_add_one hl
  replace hl : l27.length = 4 := Nat.succ.inj hl
  obtain ⟨a28, l28, rfl⟩ := List.exists_cons_of_length_eq_add_one hl
  replace hl : l28.length = 3 := Nat.succ.inj hl
  obtain ⟨a29, l29, rfl⟩ := List.exists_cons_of_length_eq_add_one hl
  replace hl : l29.length = 2 := Nat.succ.inj hl
  obtain ⟨a30, l30, rfl⟩ := List.exists_cons_of_length_eq_add_one hl
  replace hl : l30.length = 1 := Nat.succ.inj hl
  obtain ⟨a31, l31, rfl⟩ := List.exists_cons_of_length_eq_add_one hl
  replace hl : l31.length = 0 := Nat.succ.inj hl
  obtain rfl := List.eq_nil_of_length_eq_zero hl
  exact h a0 a1 a2 a3 a4 a5 a6 a7 a8 a9 a10 a11 a12 a13 a14 a15 a16 a17 a18 a19 a20 a21 a22 a23 a24 a25 a26 a27 a28 a29 a30 a31
theorem info5 : (Try.prog.info? 5).isSome = true := by kernel_rfl
theorem info34 : (Try.prog.info? 34).isSome = true := by kernel_rfl
theorem cells34 : Try.prog.cellsOf 34 = 32 := by kernel_rfl
theorem cells5 : Try.prog.cellsOf 5 = 1 := by kernel_rfl
theorem plain5 : Try.prog.plainKey 5 = true := by kernel_rfl
theorem plain3 : Try.prog.plainKey 3 = true := by kernel_rfl
theorem plain4 : Try.prog.plainKey 4 = true := by kernel_rfl
theorem und105 : Try.prog.underlying 105 = some (.struct (Try.prog.fieldsOf 105)) := by kernel_rfl
theorem stood105 : Try.prog.stoodInHeld 105 = false := by kernel_rfl
theorem eqItems_u8 (d : Nat) (a b : List Int) (w : World) : ∀ is : List Nat, (∀ i ∈ is, i < a.length ∧ i < b.length) → (Op.eqItems (d + 1) 5 (Try.prog.cellsOf 5) (bv a).toArray (bv b).toArray is).run Try.prog w = .ok (is.all fun i => a[i]? == b[i]?) w
  | [], _ => by simp [Op.eqItems]
  | i :: is, h => by
    obtain ⟨ha, hb⟩ := h i (by simp)
    have ih := eqItems_u8 d a b w is (fun j hj => h j (by simp [hj]))
    have hc := cells5
    have hp := plain5
    have p1 := run_part_plain (P := Try.prog) w hp (xs := (bv a).toArray) (off := i) (v := .int .u8 a[i]) (by simp [bv, ha])
    have p2 := run_part_plain (P := Try.prog) w hp (xs := (bv b).toArray) (off := i) (v := .int .u8 b[i]) (by simp [bv, hb])
    have p3 := run_equalIn_int (P := Try.prog) w d 5 .u8 .u8 a[i] b[i] Try.underlying5
    rw [hc] at ih ⊢
    simp only [Op.eqItems, Sem.run_bind, Nat.mul_one, p1, p2, p3, Result.andThen_ok, List.all_cons]
    rw [List.getElem?_eq_getElem ha, List.getElem?_eq_getElem hb]
    cases hq : (a[i] == b[i]) <;> simp [ih, hq]
theorem equalIn34 (d : Nat) (a b : K32) (w : World) : (Op.equalIn (d + 2) 34 (.agg (bk a).toArray) (.agg (bk b).toArray)).run Try.prog w = .ok (decide (a = b)) w := by
  obtain ⟨i, hi⟩ : ∃ i, Try.prog.info? 5 = some i := Option.isSome_iff_exists.1 info5
  rw [run_equalIn_array (P := Try.prog) (i := i) w (d + 1) _ _ Try.underlying34 hi]
  have h := eqItems_u8 d a.1 b.1 w (List.range 32) (fun j hj => by rw [a.2, b.2]; exact ⟨List.mem_range.1 hj, List.mem_range.1 hj⟩)
  have h' : (Op.eqItems (d + 1) 5 (Try.prog.cellsOf 5) (bk a).toArray (bk b).toArray (List.range 32)).run Try.prog w = .ok ((List.range 32).all fun i => a.1[i]? == b.1[i]?) w := h
  rw [h']
  refine congrArg (fun x => Result.ok x w) ?_
  rw [Bool.eq_iff_iff, decide_eq_true_iff, List.all_eq_true]
  constructor
  · intro e
    refine Subtype.ext (List.ext_getElem? fun j => ?_)
    by_cases hj : j < 32
    · exact eq_of_beq (e j (List.mem_range.2 hj))
    · rw [List.getElem?_eq_none (by rw [a.2]; omega), List.getElem?_eq_none (by rw [b.2]; omega)]
  · rintro rfl j _; exact beq_self_eq_true _
theorem equal34 (a b : K32) (w : World) : (Op.equal 34 (.agg (bk a).toArray) (.agg (bk b).toArray)).run Try.prog w = .ok (decide (a = b)) w := by
  unfold Op.equal Op.maxDepth
  exact equalIn34 9998 a b w
theorem fields105 : ∃ f0 f1 f2 : Field, (Try.prog.fieldsOf 105).toList = [f0, f1, f2] ∧ f0.name ≠ "_" ∧ f1.name ≠ "_" ∧ f2.name ≠ "_" ∧ f0.type = 34 ∧ f1.type = 3 ∧ f2.type = 4 ∧ f0.offset = 0 ∧ f1.offset = 32 ∧ f2.offset = 33 :=
  ⟨{ name := "Material", type := 34, offset := 0, embedded := false, tag := "", pkgPath := "", byteOffset := 0 }, { name := "Uses", type := 3, offset := 32, embedded := false, tag := "", pkgPath := "", byteOffset := 32 }, { name := "Gone", type := 4, offset := 33, embedded := false, tag := "", pkgPath := "", byteOffset := 40 }, by kernel_rfl, by decide, by decide, by decide, rfl, rfl, rfl, rfl, rfl, rfl⟩
theorem part105 (x : Ver) (w : World) : (part 34 x.enc.toArray 0).run Try.prog w = .ok (.agg (bk x.mat).toArray) w := by
  obtain ⟨i, hi⟩ : ∃ i, Try.prog.info? 34 = some i := Option.isSome_iff_exists.1 info34
  have hc := cells34
  have ht : x.enc.take 32 = bk x.mat := by
    have := bk_len x.mat
    rw [Ver.enc, List.take_append_of_le_length (by omega), List.take_of_length_le (by omega)]
  simp [part, isAgg, run_underlying Try.underlying34, run_sizeOf w hi, hc, ht]
theorem eqFields3 {P : Program} {w : World} {D : Nat} {xs ys : Array Value} {f0 f1 f2 : Field} (n0 : f0.name ≠ "_") (n1 : f1.name ≠ "_") (n2 : f2.name ≠ "_") {a0 b0 a1 b1 a2 b2 : Value} {r0 r1 r2 : Bool}
    (p0 : (part f0.type xs f0.offset).run P w = .ok a0 w) (q0 : (part f0.type ys f0.offset).run P w = .ok b0 w) (e0 : (Op.equalIn D f0.type a0 b0).run P w = .ok r0 w)
    (p1 : (part f1.type xs f1.offset).run P w = .ok a1 w) (q1 : (part f1.type ys f1.offset).run P w = .ok b1 w) (e1 : (Op.equalIn D f1.type a1 b1).run P w = .ok r1 w)
    (p2 : (part f2.type xs f2.offset).run P w = .ok a2 w) (q2 : (part f2.type ys f2.offset).run P w = .ok b2 w) (e2 : (Op.equalIn D f2.type a2 b2).run P w = .ok r2 w) :
    (Op.eqFields D xs ys [f0, f1, f2]).run P w = .ok (r0 && (r1 && r2)) w := by
  simp only [Op.eqFields, n0, n1, n2, ne_eq, not_false_eq_true, if_true, Sem.run_bind, p0, q0, e0, Result.andThen_ok]
  cases r0
  · simp
  · simp only [Bool.not_true, Bool.false_eq_true, if_false, Sem.run_bind, p1, q1, e1, Result.andThen_ok]
    cases r1
    · simp
    · simp only [Bool.not_true, Bool.false_eq_true, if_false, Sem.run_bind, p2, q2, e2, Result.andThen_ok]
      cases r2 <;> simp
theorem equalIn105 (d : Nat) (a b : Ver) (w : World) : (Op.equalIn (d + 2 + 1) 105 (.agg a.enc.toArray) (.agg b.enc.toArray)).run Try.prog w = .ok (decide (a = b)) w := by
  obtain ⟨f0, f1, f2, hf, n0, n1, n2, t0, t1, t2, o0, o1, o2⟩ := fields105
  have hab : (a = b) ↔ (a.mat = b.mat ∧ a.uses = b.uses ∧ a.gone = b.gone) := ⟨fun h => by rw [h]; exact ⟨rfl, rfl, rfl⟩, fun h => by cases a; cases b; simp_all⟩
  have hdd : decide (a = b) = (decide (a.mat = b.mat) && ((a.uses == b.uses) && (a.gone == b.gone))) := by
    rw [Bool.eq_iff_iff]; simp [hab]
  rw [run_equalIn_agg (P := Try.prog) w (d + 2) 105 a.enc.toArray b.enc.toArray und105 stood105, hf, hdd]
  refine eqFields3 n0 n1 n2 (a0 := .agg (bk a.mat).toArray) (b0 := .agg (bk b.mat).toArray) (a1 := .int .i64 a.uses) (b1 := .int .i64 b.uses) (a2 := .bool a.gone) (b2 := .bool b.gone) ?_ ?_ ?_ ?_ ?_ ?_ ?_ ?_ ?_
  · rw [t0, o0]; exact part105 a w
  · rw [t0, o0]; exact part105 b w
  · rw [t0]; exact equalIn34 d a.mat b.mat w
  · rw [t1, o1]; exact run_part_plain (P := Try.prog) w plain3 (by simpa using a.at_uses)
  · rw [t1, o1]; exact run_part_plain (P := Try.prog) w plain3 (by simpa using b.at_uses)
  · rw [t1]; exact run_equalIn_int (P := Try.prog) w (d + 1) 3 .i64 .i64 a.uses b.uses Try.underlying3
  · rw [t2, o2]; exact run_part_plain (P := Try.prog) w plain4 (by simpa using a.at_gone)
  · rw [t2, o2]; exact run_part_plain (P := Try.prog) w plain4 (by simpa using b.at_gone)
  · rw [t2]; exact run_equalIn_bool (P := Try.prog) w (d + 1) 4 a.gone b.gone Try.underlying4
theorem equal105 (a b : Ver) (w : World) : (Op.equal 105 (.agg a.enc.toArray) (.agg b.enc.toArray)).run Try.prog w = .ok (decide (a = b)) w := by
  unfold Op.equal Op.maxDepth
  exact equalIn105 9997 a b w
section
variable {ρ : Operand → Value} {w : World} {dst : Option Tmp} {ty : TypeId} {pos : String} {af : Array Edge} {gd : Option (Nat × Bool)}
theorem guard34 : Program.eqGuardType Try.prog Try.prog.depth 34 = false := by kernel_rfl
theorem guard105 : Program.eqGuardType Try.prog Try.prog.depth 105 = false := by kernel_rfl
theorem E.eql34 {x y : Operand} {t' : TypeId} {a b : K32} (hx : ρ x = .agg (bk a).toArray) (hy : ρ y = .agg (bk b).toArray) : Ev Try.prog ρ ⟨dst, .binOp .eql 34 x y t', ty, pos, af, gd⟩ w (.bool (decide (a = b))) := by
  simp [Ev, execOp, eqGuard, binOp, hx, hy, equal34, guard34]
theorem E.neq34 {x y : Operand} {t' : TypeId} {a b : K32} (hx : ρ x = .agg (bk a).toArray) (hy : ρ y = .agg (bk b).toArray) : Ev Try.prog ρ ⟨dst, .binOp .neq 34 x y t', ty, pos, af, gd⟩ w (.bool (!decide (a = b))) := by
  simp [Ev, execOp, eqGuard, binOp, hx, hy, equal34, guard34]
theorem E.eql105 {x y : Operand} {t' : TypeId} {a b : Ver} (hx : ρ x = .agg a.enc.toArray) (hy : ρ y = .agg b.enc.toArray) : Ev Try.prog ρ ⟨dst, .binOp .eql 105 x y t', ty, pos, af, gd⟩ w (.bool (decide (a = b))) := by
  simp [Ev, execOp, eqGuard, binOp, hx, hy, equal105, guard105]
theorem E.neq105 {x y : Operand} {t' : TypeId} {a b : Ver} (hx : ρ x = .agg a.enc.toArray) (hy : ρ y = .agg b.enc.toArray) : Ev Try.prog ρ ⟨dst, .binOp .neq 105 x y t', ty, pos, af, gd⟩ w (.bool (!decide (a = b))) := by
  simp [Ev, execOp, eqGuard, binOp, hx, hy, equal105, guard105]
end
end Go.Proofs.Ytjpjejldinpcnaa
