/- What the quorum's laws are handed, read. -/
import Derived.Test.YtjagffnbobnofaaQ18
import Derived.Test.YtjagffnbobnofaaRows
import Derived.ChangeOld
namespace Go.Proofs.Ytjagffnbobnofaa
open Go.ChangeShapes Go.WideShapes Go.ChangeAt Go.RowKit Go.SL Go.Q18
open Go.ChangeMaps (open_string shut_string)
set_option linter.unusedVariables false
set_option linter.unusedSimpArgs false
theorem cells3 : Try.prog.cellsOf 3 = 1 := by kernel_rfl
theorem cells68 : Try.prog.cellsOf 68 = 2 := by kernel_rfl
theorem len2 {cs : List Value} (h : cs.length = 2) : ∃ u v, cs = [u, v] := by
  match cs, h with
  | [u, v], _ => exact ⟨u, v, rfl⟩
theorem okWide_arr {P : Program} {w : World} {r : Reach} {base : Nat} {t e : TypeId} {n : Nat} {v : Value} (ht : P.underlying t = some (.array n e)) (h : Value.okWide P w r base t v) : ∃ cs, v = .agg cs ∧ cs.size = P.cellsOf t := by
  simp only [Value.okWide, ht] at h
  obtain ⟨cs, h1, h2, _⟩ := h
  exact ⟨cs, h1, h2⟩
section
variable {H : Type} {enc : TypeId × Value → H} {W : World} {base : Nat} {spare : Nat → Bool} {held : Bool} {r : Reach} {b0 : Nat}
set_option maxRecDepth 100000 in
theorem read_pair {fuel : Nat} {cs : List Value} {y : DataW H × List MemPlace} (h : DataW.trod enc Try.prog W base spare held fuel 68 cs = some y) :
    ∃ a b : Int, cs = [.int .i64 a, .int .i64 b] ∧ (-9223372036854775808 ≤ a ∧ a ≤ 9223372036854775807) ∧ (-9223372036854775808 ≤ b ∧ b ≤ 9223372036854775807) := by
  obtain ⟨xs, m, _, _, hl, hx, h1⟩ := DataW.trod_array Try.underlying68 h
  rw [cells68] at hl
  obtain ⟨u, v, rfl⟩ : ∃ u v, cs = [u, v] := len2 hl
  · have t0 := h1 0 (by omega)
    have t1 := h1 1 (by omega)
    rw [cells3] at t0 t1
    have t0' : DataW.trod enc Try.prog W base spare held m 3 [u] = some xs[0] := by rw [List.getElem?_eq_getElem (by omega)] at t0; simpa using t0
    have t1' : DataW.trod enc Try.prog W base spare held m 3 [v] = some xs[1] := by rw [List.getElem?_eq_getElem (by omega)] at t1; simpa using t1
    obtain ⟨a, rfl, w0⟩ := read_int Try.underlying3 t0'
    obtain ⟨b, rfl, w1⟩ := read_int Try.underlying3 t1'
    exact ⟨a, b, rfl, wf_i64 w0, wf_i64 w1⟩
set_option maxRecDepth 100000 in
theorem open_pair {v : Value} {d : DataW H} {ps : List MemPlace} (hv : Value.okWide Try.prog W r b0 68 v) (h : DataW.Trod enc Try.prog W base spare held 68 v d ps) :
    ∃ a b : Int, v = .agg #[.int .i64 a, .int .i64 b] ∧ (-9223372036854775808 ≤ a ∧ a ≤ 9223372036854775807) ∧ (-9223372036854775808 ≤ b ∧ b ≤ 9223372036854775807) := by
  obtain ⟨cs, rfl, _⟩ := okWide_arr Try.underlying68 hv
  obtain ⟨fuel, hf⟩ := h
  obtain ⟨a, b, hcs, h1, h2⟩ := read_pair hf
  refine ⟨a, b, ?_, h1, h2⟩
  have : cs = #[.int .i64 a, .int .i64 b] := by cases cs; simpa [Value.cells] using hcs
  rw [this]
set_option maxRecDepth 100000 in
theorem open_i64 {v : Value} {d : DataW H} {ps : List MemPlace} (hv : Value.okWide Try.prog W r b0 3 v) (h : DataW.Trod enc Try.prog W base spare held 3 v d ps) : ∃ a : Int, v = .int .i64 a ∧ (-9223372036854775808 ≤ a ∧ a ≤ 9223372036854775807) := by
  obtain ⟨n, rfl⟩ := okWide_int Try.underlying3 hv
  obtain ⟨fuel, hf⟩ := h
  obtain ⟨k, e, w⟩ := read_int Try.underlying3 hf
  cases e
  exact ⟨n, rfl, wf_i64 w⟩
set_option maxRecDepth 100000 in
theorem open_row {v : Value} {d : DataW H} {ps : List MemPlace} (hv : Value.okWide Try.prog W r b0 58 v) (h : DataW.Trod enc Try.prog W base spare held 58 v d ps) :
    ∃ (X : Option Addr) (l : List Int) (c : Nat), v = .slice X l.length c ∧ l.length ≤ c ∧ c ≤ maxLen ∧ LI (P0 W) v l ∧ Fit l := by
  obtain ⟨a, n, c, rfl⟩ := okWide_slice Try.underlying58 hv
  obtain ⟨fuel, hf⟩ := h
  obtain ⟨X, l, c', e, h1, h2, h3, h4⟩ := read_ints Try.underlying58 Try.underlying3 cells3 hf
  exact ⟨X, l, c', e, h1, h2, by rw [ienc_map] at h3; exact h3, h4⟩
end
theorem own : ownKnob Try.prog.godebug = none := by kernel_rfl
theorem laidOut : laidOutB Try.prog = true := by kernel_rfl
end Go.Proofs.Ytjagffnbobnofaa
