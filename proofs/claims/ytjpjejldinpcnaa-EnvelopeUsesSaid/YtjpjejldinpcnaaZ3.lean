/- EnvelopeUses: whatever the input is, the law's function returns true, and writes nothing that was there. -/
import Derived.Test.YtjpjejldinpcnaaYB
import Derived.Test.YtjpjejldinpcnaaRO
import Derived.Test.YtjpjejldinpcnaaRows
import Derived.ChangeOld
namespace Go.Proofs.Ytjpjejldinpcnaa
open Go.ChangeShapes Go.WideShapes Go.ChangeAt Go.RowKit Go.SL
open Go.ChangeMaps (open_string shut_string)
set_option linter.unusedVariables false
set_option linter.unusedSimpArgs false
theorem own : ownKnob Try.prog.godebug = none := by kernel_rfl
theorem laidOut : laidOutB Try.prog = true := by kernel_rfl
theorem cl3 : Try.prog.cellsOf 3 = 1 := by kernel_rfl
theorem cl5 : Try.prog.cellsOf 5 = 1 := by kernel_rfl
theorem cl22 : Try.prog.cellsOf 22 = 2 := by kernel_rfl
theorem cl24 : Try.prog.cellsOf 24 = 12 := by kernel_rfl
theorem cl34 : Try.prog.cellsOf 34 = 32 := by kernel_rfl
theorem cl45 : Try.prog.cellsOf 45 = 64 := by kernel_rfl
theorem uses_calls {W : World} (k : List (BitVec 8)) (hk : k.length = 64) {Xb : Option Addr} {cb : Nat} (b : List (BitVec 8)) (hmb : b.length ≤ 9223372036854775807) (hSb : ∀ w H, St (P0 W) w (Emp :: H) → SL.Src w 1 (.slice Xb b.length cb) b.length (b.map bu8)) :
    Calls Try.prog 5 #[.agg (k.map bu8).toArray, .slice Xb b.length cb] W fun e w => e = .returned (.bool true) ∧ Below W.heap.size W w :=
  Calls.mono (EnvUses_C (p := P0 W) (A := Emp) (R := []) k hk b hmb hSb true (EnvUses_ok k b hk) ((st0 W).emp)) fun e w ⟨he, hs⟩ => ⟨he, below_of (P0 W).le_refl hs⟩

set_option maxRecDepth 100000 in
theorem uses_lifted (os : Os) (started : os.Started) (H : Type) (enc : TypeId × Value → H) :
    ReturnsInHanded {} Try.checked os 5 .any (fun w args => Rows.envelopeUsesSpec.pre6 enc Try.prog Try.f5 Rows.envelopeUsesRow.domain false w args) (Rows.envelopeUsesSpec.post enc Try.prog Try.f5 false true false false) := by
  refine returnsInHanded_of_change (C := Try.checked) own started (by kernel_rfl) Try.func5
    (ChangeSpec.witness6 (enc := enc) (C := Try.checked) false ⟨#[], #[.agg (Array.replicate 64 (.int .u8 0)), .slice none 0 0], []⟩ 8 (by kernel_rfl) (by kernel_rfl) (by kernel_rfl) (by kernel_rfl)) ?_
  intro W base args ds gs before hval0 hW hcnd hsz
  have hval : ∀ (j : Nat) t v, Try.f5.params[j]? = some t → args[j]? = some v → Value.okWide Try.prog W .any base t v := hval0
  have hW' := hW
  obtain ⟨p, q, hA0, hV, rfl, hfz, hnd⟩ := hW
  have hA : DataW.TrodAll enc Try.prog W 0 (fun _ => true) true Try.f5.params.toList args.toList ds p := hA0
  rw [Try.params5] at hA hval
  obtain ⟨v0, vs0, d0, ds0, p0, q0, hargs, rfl, rfl, h0, r0⟩ := trodAll_cons hA
  obtain ⟨v1, vs1, d1, ds1, p1, q1, rfl, rfl, rfl, h1, r1⟩ := trodAll_cons r0
  obtain ⟨rfl, rfl, rfl⟩ := trodAll_nil r1
  obtain rfl : args = #[v0, v1] := by cases args; simp_all
  obtain ⟨rfl, rfl⟩ := trodVars_none hV
  have k0 := h0
  have lt0 : ∀ x ∈ p0, x.block < W.heap.size := by obtain ⟨m, hm⟩ := k0; exact DataW.trod_lt m _ _ _ hm
  have k1 := h1
  have lt1 : ∀ x ∈ p1, x.block < W.heap.size := by obtain ⟨m, hm⟩ := k1; exact DataW.trod_lt m _ _ _ hm
  obtain ⟨l0, hl0, rfl⟩ := open_rows8 Try.underlying45 Try.underlying34 Try.underlying5 cl5 cl34 (by decide) cl45 (hval 0 45 v0 rfl rfl) h0
  obtain ⟨X1, l1, c1, rfl, hm1, hS1⟩ := open_bytes8 Try.underlying25 Try.underlying5 cl5 (hval 1 25 v1 rfl rfl) h1
  clear hA0 hval0
  refine (uses_calls l0 hl0 l1 hm1 hS1).mono fun e W' ⟨he, bel⟩ => ?_
  subst he
  exact ⟨_, rfl, _, _, _, [], _, [], hW', trodAll_mk1 (shut_bool Try.underlying4 _), (trodAll_cons_mk (Below.trod laidOut (by kernel_rfl) (of_decide_eq_true (by kernel_rfl)) k0 bel lt0) (trodAll_cons_mk (Below.trod laidOut (by kernel_rfl) (of_decide_eq_true (by kernel_rfl)) k1 bel lt1) trodAll_mk0)), rfl, bel.frame _, fun h => by cases h⟩

theorem uses_over : Rows.envelopeUsesRow.holds Try.pinned (OpenSpec.ofChange Rows.envelopeUsesSpec) :=
  OpenClaim.holds_of_wide 5 Try.f5 rfl rfl rfl rfl rfl rfl rfl ⟨rfl, rfl, rfl, rfl, rfl⟩ rfl rfl rfl rfl rfl (by kernel_rfl) Try.func5 (by kernel_rfl)
    (of_decide_eq_true (by kernel_rfl)) (by unfold Func.isWrapper; first | (rw [if_pos (by decide +kernel)]; kernel_rfl) | (rw [if_neg (by decide +kernel)]; exact ⟨rfl, rfl⟩))
    (fun os started H enc _ => uses_lifted os started H enc)
theorem uses_proved : Rows.EnvelopeUsesSaid := uses_over
#print axioms uses_proved
end Go.Proofs.Ytjpjejldinpcnaa
