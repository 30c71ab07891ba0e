/- Entries that come in, read. -/
import Derived.Test.YtdlcjoonhojpfaaE7
import Derived.Test.YtdlcjoonhojpfaaE9
namespace Go.Proofs.Ytdlcjoonhojpfaa
open Go.ChangeShapes Go.WideShapes Go.ChangeAt Go.RowKit Go.SL Go.E17
set_option linter.unusedVariables false
set_option linter.unusedSimpArgs false
theorem cells58 : Try.prog.cellsOf 58 = 4 := by kernel_rfl
theorem cells27 : Try.prog.cellsOf 27 = 1 := by kernel_rfl
theorem cells56 : Try.prog.cellsOf 56 = 1 := by kernel_rfl
theorem cells5 : Try.prog.cellsOf 5 = 1 := by kernel_rfl
theorem len4 {cs : List Value} (h : cs.length = 4) : ∃ a b c d, cs = [a, b, c, d] := by
  match cs, h with
  | [a, b, c, d], _ => exact ⟨a, b, c, d, rfl⟩
section
variable {H : Type} {enc : TypeId × Value → H} {W : World} {base : Nat} {spare : Nat → Bool} {held : Bool} {r : Reach} {b0 : Nat}
set_option maxRecDepth 100000 in
theorem read_ent {fuel : Nat} {cs : List Value} {y : DataW H × List MemPlace} (h : DataW.trod enc Try.prog W base spare held fuel 58 cs = some y) : ∃ x : Ent, cs = x.enc ∧ ELas (P0 W) x := by
  have hl := read_len Try.underlying58 h
  rw [cells58] at hl
  obtain ⟨v0, n0, z0, e0, t0⟩ := read_fld Try.underlying58 (i := 0) (o := 0) rfl rfl cells3 (by rw [cells58]; omega) h
  obtain ⟨v1, n1, z1, e1, t1⟩ := read_fld Try.underlying58 (i := 1) (o := 1) rfl rfl cells3 (by rw [cells58]; omega) h
  obtain ⟨v2, n2, z2, e2, t2⟩ := read_fld Try.underlying58 (i := 2) (o := 2) rfl rfl cells27 (by rw [cells58]; omega) h
  obtain ⟨v3, n3, z3, e3, t3⟩ := read_fld Try.underlying58 (i := 3) (o := 3) rfl rfl cells56 (by rw [cells58]; omega) h
  obtain ⟨k0, rfl, _⟩ := read_int Try.underlying3 t0
  obtain ⟨k1, rfl, _⟩ := read_int Try.underlying3 t1
  obtain ⟨X, ns, c, rfl, _, _, hX, _⟩ := read_bytes Try.underlying27 Try.underlying5 cells5 t2
  obtain ⟨Y, ms, d, rfl, _, _, hY, _⟩ := read_ints Try.underlying56 Try.underlying3 cells3 t3
  refine ⟨⟨k0, k1, X, c, ns, Y, d, ms⟩, ?_, hX, hY⟩
  clear h t0 t1 t2 t3
  obtain ⟨a0, a1, a2, a3, rfl⟩ := len4 hl
  simp only [List.getElem?_cons_zero, List.getElem?_cons_succ, Option.some.injEq] at e0 e1 e2 e3
  subst e0; subst e1; subst e2; subst e3
  rfl
set_option maxRecDepth 100000 in
theorem open_ents {v : Value} {d : DataW H} {ps : List MemPlace} (hv : Value.okWide Try.prog W r b0 44 v) (h : DataW.Trod enc Try.prog W base spare held 44 v d ps) :
    ∃ (X : Option Addr) (l : List Ent) (c : Nat), v = .slice X l.length c ∧ l.length ≤ c ∧ c ≤ maxLen ∧ Las (P0 W) 4 v l.length (flat l) ∧ EsLas (P0 W) l := by
  obtain ⟨a, n, c, rfl⟩ := okWide_slice Try.underlying44 hv
  obtain ⟨fuel, hf⟩ := h
  exact read_slice Try.underlying44 cells58 (by omega) Ent.enc_len (fun cs n z hz => read_ent hz) hf
end
end Go.Proofs.Ytdlcjoonhojpfaa
