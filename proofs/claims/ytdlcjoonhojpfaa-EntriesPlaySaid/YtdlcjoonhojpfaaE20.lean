/- A call on a log that comes in, read. -/
import Derived.Test.YtdlcjoonhojpfaaE12
namespace Go.Proofs.Ytdlcjoonhojpfaa
open Go.ChangeShapes Go.WideShapes Go.ChangeAt Go.RowKit Go.SL Go.E17
set_option linter.unusedVariables false
set_option linter.unusedSimpArgs false
theorem cells46 : Try.prog.cellsOf 46 = 4 := by kernel_rfl
theorem cells44 : Try.prog.cellsOf 44 = 1 := by kernel_rfl
section
variable {H : Type} {enc : TypeId × Value → H} {W : World} {base : Nat} {spare : Nat → Bool} {held : Bool} {r : Reach} {b0 : Nat}
set_option maxRecDepth 100000 in
theorem read_lop {fuel : Nat} {cs : List Value} {y : DataW H × List MemPlace} (h : DataW.trod enc Try.prog W base spare held fuel 46 cs = some y) :
    ∃ (kd ix tm : Int) (Z : Option Addr) (l : List Ent) (c : Nat), cs = [.int .i64 kd, .int .i64 ix, .int .i64 tm, .slice Z l.length c] ∧ ((-9223372036854775808 ≤ kd ∧ kd ≤ 9223372036854775807) ∧ (-9223372036854775808 ≤ ix ∧ ix ≤ 9223372036854775807) ∧ (-9223372036854775808 ≤ tm ∧ tm ≤ 9223372036854775807)) ∧
      l.length ≤ c ∧ c ≤ maxLen ∧ Las (P0 W) 4 (.slice Z l.length c) l.length (flat l) ∧ EsLas (P0 W) l := by
  have hl := read_len Try.underlying46 h
  rw [cells46] at hl
  obtain ⟨v0, n0, z0, e0, t0⟩ := read_fld Try.underlying46 (i := 0) (o := 0) rfl rfl cells3 (by rw [cells46]; omega) h
  obtain ⟨v1, n1, z1, e1, t1⟩ := read_fld Try.underlying46 (i := 1) (o := 1) rfl rfl cells3 (by rw [cells46]; omega) h
  obtain ⟨v2, n2, z2, e2, t2⟩ := read_fld Try.underlying46 (i := 2) (o := 2) rfl rfl cells3 (by rw [cells46]; omega) h
  obtain ⟨v3, n3, z3, e3, t3⟩ := read_fld Try.underlying46 (i := 3) (o := 3) rfl rfl cells44 (by rw [cells46]; omega) h
  obtain ⟨k0, rfl, w0⟩ := read_int Try.underlying3 t0
  obtain ⟨k1, rfl, w1⟩ := read_int Try.underlying3 t1
  obtain ⟨k2, rfl, w2⟩ := read_int Try.underlying3 t2
  obtain ⟨Z, l, c, rfl, h1, h2, h3, h4⟩ := read_slice (Q := ELas (P0 W)) Try.underlying44 cells58 (by omega) Ent.enc_len (fun cs n z hz => read_ent hz) t3
  have r0 := wf_i64 w0
  have r1 := wf_i64 w1
  have r2 := wf_i64 w2
  refine ⟨k0, k1, k2, Z, l, c, ?_, ⟨r0, r1, r2⟩, h1, h2, h3, h4⟩
  clear h t0 t1 t2 t3
  obtain ⟨a0, a1, a2, a3, rfl⟩ := len4 hl
  simp only [List.getElem?_cons_zero, List.getElem?_cons_succ, Option.some.injEq] at e0 e1 e2 e3
  subst e0; subst e1; subst e2; subst e3
  rfl
set_option maxRecDepth 100000 in
theorem open_lop {v : Value} {d : DataW H} {ps : List MemPlace} (hv : Value.okWide Try.prog W r b0 46 v) (h : DataW.Trod enc Try.prog W base spare held 46 v d ps) :
    ∃ (kd ix tm : Int) (Z : Option Addr) (l : List Ent) (c : Nat), v = .agg #[.int .i64 kd, .int .i64 ix, .int .i64 tm, .slice Z l.length c] ∧ ((-9223372036854775808 ≤ kd ∧ kd ≤ 9223372036854775807) ∧ (-9223372036854775808 ≤ ix ∧ ix ≤ 9223372036854775807) ∧ (-9223372036854775808 ≤ tm ∧ tm ≤ 9223372036854775807)) ∧
      l.length ≤ c ∧ c ≤ maxLen ∧ Las (P0 W) 4 (.slice Z l.length c) l.length (flat l) ∧ EsLas (P0 W) l := by
  obtain ⟨cs, rfl, _⟩ := okWide_struct Try.underlying46 hv
  obtain ⟨fuel, hf⟩ := h
  obtain ⟨kd, ix, tm, Z, l, c, hcs, h1⟩ := read_lop hf
  refine ⟨kd, ix, tm, Z, l, c, ?_, h1⟩
  have : cs = #[.int .i64 kd, .int .i64 ix, .int .i64 tm, .slice Z l.length c] := by cases cs; simpa [Value.cells] using hcs
  rw [this]
end
end Go.Proofs.Ytdlcjoonhojpfaa
