/- EntriesBehind: whatever the numbers are, the law's function returns true, and writes nothing that was there. -/
import Derived.Test.YtdlcjoonhojpfaaE6
import Derived.Test.YtdlcjoonhojpfaaE7
import Derived.Test.YtdlcjoonhojpfaaRows
import Derived.ChangeOld
namespace Go.Proofs.Ytdlcjoonhojpfaa
open Go.ChangeShapes Go.WideShapes Go.ChangeAt Go.RowKit Go.SL Go.E17
open Go.ChangeMaps (open_string shut_string)
set_option linter.unusedVariables false
set_option linter.unusedSimpArgs false
theorem behind_calls (i0 i1 t0 t1 : Int) (h0 : -9223372036854775808 ≤ i0 ∧ i0 ≤ 9223372036854775807) (h1 : -9223372036854775808 ≤ i1 ∧ i1 ≤ 9223372036854775807) (W : World) :
    Calls Try.prog 6 #[.agg #[.int .i64 i0, .int .i64 i1], .agg #[.int .i64 t0, .int .i64 t1]] W fun e w => e = .returned (.bool true) ∧ Below W.heap.size W w :=
  Calls.mono (behind_walk (P0 W).le_refl i0 i1 t0 t1 h0 h1 (st0 W)) fun e w ⟨q, le, he, hs⟩ => ⟨he, below_of le hs⟩

set_option maxRecDepth 100000 in
theorem behind_lifted (os : Os) (started : os.Started) (H : Type) (enc : TypeId × Value → H) :
    ReturnsInHanded {} Try.checked os 6 .any (fun w args => Rows.entriesBehindSpec.pre6 enc Try.prog Try.f6 Rows.entriesBehindRow.domain false w args) (Rows.entriesBehindSpec.post enc Try.prog Try.f6 false true false false) := by
  refine returnsInHanded_of_change (C := Try.checked) own started (by kernel_rfl) Try.func6
    (ChangeSpec.witness6 (enc := enc) (C := Try.checked) false ⟨#[], #[.agg #[.int .i64 0, .int .i64 0], .agg #[.int .i64 0, .int .i64 0]], []⟩ 8 (by kernel_rfl) (by kernel_rfl) (by kernel_rfl) (by kernel_rfl)) ?_
  intro W base args ds gs before hval0 hW hcnd hsz
  have hval : ∀ (j : Nat) t v, Try.f6.params[j]? = some t → args[j]? = some v → Value.okWide Try.prog W .any base t v := hval0
  have hW' := hW
  obtain ⟨p, q, hA0, hV, rfl, hfz, hnd⟩ := hW
  have hA : DataW.TrodAll enc Try.prog W 0 (fun _ => true) true Try.f6.params.toList args.toList ds p := hA0
  rw [Try.params6] at hA hval
  obtain ⟨v0, vs0, d0, ds0, p0, q0, hargs, rfl, rfl, h0, r0⟩ := trodAll_cons hA
  obtain ⟨v1, vs1, d1, ds1, p1, q1, rfl, rfl, rfl, h1, r1⟩ := trodAll_cons r0
  obtain ⟨rfl, rfl, rfl⟩ := trodAll_nil r1
  obtain rfl : args = #[v0, v1] := by cases args; simp_all
  obtain ⟨rfl, rfl⟩ := trodVars_none hV
  have k0 := h0
  have lt0 : ∀ x ∈ p0, x.block < W.heap.size := by obtain ⟨m, hm⟩ := k0; exact DataW.trod_lt m _ _ _ hm
  have k1 := h1
  have lt1 : ∀ x ∈ p1, x.block < W.heap.size := by obtain ⟨m, hm⟩ := k1; exact DataW.trod_lt m _ _ _ hm
  obtain ⟨a0, b0, rfl, ha0, hb0⟩ := open_pair (hval 0 43 v0 rfl rfl) h0
  obtain ⟨a1, b1, rfl, ha1, hb1⟩ := open_pair (hval 1 43 v1 rfl rfl) h1
  clear hA0 hval0
  refine (behind_calls a0 b0 a1 b1 ha0 hb0 W).mono fun e W' ⟨he, bel⟩ => ?_
  subst he
  exact ⟨_, rfl, _, _, _, [], _, [], hW', trodAll_mk1 (shut_bool Try.underlying4 _), (trodAll_cons_mk (Below.trod laidOut (by kernel_rfl) (of_decide_eq_true (by kernel_rfl)) k0 bel lt0) (trodAll_cons_mk (Below.trod laidOut (by kernel_rfl) (of_decide_eq_true (by kernel_rfl)) k1 bel lt1) trodAll_mk0)), rfl, bel.frame _, fun h => by cases h⟩

theorem behind_over : Rows.entriesBehindRow.holds Try.pinned (OpenSpec.ofChange Rows.entriesBehindSpec) :=
  OpenClaim.holds_of_wide 6 Try.f6 rfl rfl rfl rfl rfl rfl rfl ⟨rfl, rfl, rfl, rfl, rfl⟩ rfl rfl rfl rfl rfl (by kernel_rfl) Try.func6 (by kernel_rfl)
    (of_decide_eq_true (by kernel_rfl)) (by unfold Func.isWrapper; first | (rw [if_pos (by decide +kernel)]; kernel_rfl) | (rw [if_neg (by decide +kernel)]; exact ⟨rfl, rfl⟩))
    (fun os started H enc _ => behind_lifted os started H enc)
theorem behind_proved : Rows.EntriesBehindSaid := behind_over
#print axioms behind_proved
end Go.Proofs.Ytdlcjoonhojpfaa
