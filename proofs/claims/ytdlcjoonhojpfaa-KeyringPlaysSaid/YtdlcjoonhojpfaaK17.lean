/- KeyringPlays: whatever the calls are, the law's function returns true, and writes nothing that was there. -/
import Derived.Test.YtdlcjoonhojpfaaK15
import Derived.Test.YtdlcjoonhojpfaaK16
import Derived.Test.YtdlcjoonhojpfaaRows
import Derived.ChangeOld
namespace Go.Proofs.Ytdlcjoonhojpfaa
open Go.ChangeShapes Go.WideShapes Go.ChangeAt Go.RowKit Go.SL Go.K13
open Go.ChangeMaps (open_string shut_string)
set_option linter.unusedVariables false
set_option linter.unusedSimpArgs false
theorem plays_calls {X : Option Addr} {c : Nat} {l : List OpM} {W : World} (hc : l.length ≤ c) (hm : c ≤ maxLen) (hL : Las (P0 W) 35 (.slice X l.length c) l.length (l.flatMap OpM.enc)) (hK : ∀ o ∈ l, o.Ok) :
    Calls Try.prog 12 #[.slice X l.length c] W fun e w => e = .returned (.bool true) ∧ Below W.heap.size W w :=
  Calls.mono (plays_walk (by simp only [maxLen] at hm; omega) hL hK (st0 W)) fun e w ⟨he, hs⟩ => ⟨he, below_of (P0 W).le_refl hs⟩

set_option maxRecDepth 100000 in
theorem plays_lifted (os : Os) (started : os.Started) (H : Type) (enc : TypeId × Value → H) :
    ReturnsInHanded {} Try.checked os 12 .any (fun w args => Rows.keyringPlaysSpec.pre6 enc Try.prog Try.f12 Rows.keyringPlaysRow.domain false w args) (Rows.keyringPlaysSpec.post enc Try.prog Try.f12 false true false false) := by
  refine returnsInHanded_of_change (C := Try.checked) own started (by kernel_rfl) Try.func12
    (ChangeSpec.witness6 (enc := enc) (C := Try.checked) false ⟨#[], #[.slice none 0 0], []⟩ 8 (by kernel_rfl) (by kernel_rfl) (by kernel_rfl) (by kernel_rfl)) ?_
  intro W base args ds gs before hval0 hW hcnd hsz
  have hval : ∀ (j : Nat) t v, Try.f12.params[j]? = some t → args[j]? = some v → Value.okWide Try.prog W .any base t v := hval0
  have hW' := hW
  obtain ⟨p, q, hA0, hV, rfl, hfz, hnd⟩ := hW
  have hA : DataW.TrodAll enc Try.prog W 0 (fun _ => true) true Try.f12.params.toList args.toList ds p := hA0
  rw [Try.params12] at hA hval
  obtain ⟨v0, vs0, d0, ds0, p0, q0, hargs, rfl, rfl, h0, r0⟩ := trodAll_cons hA
  obtain ⟨rfl, rfl, rfl⟩ := trodAll_nil r0
  obtain rfl : args = #[v0] := by cases args; simp_all
  obtain ⟨rfl, rfl⟩ := trodVars_none hV
  have k0 := h0
  have lt0 : ∀ x ∈ p0, x.block < W.heap.size := by obtain ⟨m, hm⟩ := k0; exact DataW.trod_lt m _ _ _ hm
  obtain ⟨X0, l0, c0, rfl, hlc0, hcm0, hL0, hK0⟩ := open_ops (hval 0 68 v0 rfl rfl) h0
  clear hA0 hval0
  refine (plays_calls hlc0 hcm0 hL0 hK0).mono fun e W' ⟨he, bel⟩ => ?_
  subst he
  exact ⟨_, rfl, _, _, _, [], _, [], hW', trodAll_mk1 (shut_bool Try.underlying4 _), (trodAll_cons_mk (Below.trod laidOut (by kernel_rfl) (of_decide_eq_true (by kernel_rfl)) k0 bel lt0) trodAll_mk0), rfl, bel.frame _, fun h => by cases h⟩

theorem plays_over : Rows.keyringPlaysRow.holds Try.pinned (OpenSpec.ofChange Rows.keyringPlaysSpec) :=
  OpenClaim.holds_of_wide 12 Try.f12 rfl rfl rfl rfl rfl rfl rfl ⟨rfl, rfl, rfl, rfl, rfl⟩ rfl rfl rfl rfl rfl (by kernel_rfl) Try.func12 (by kernel_rfl)
    (of_decide_eq_true (by kernel_rfl)) (by unfold Func.isWrapper; first | (rw [if_pos (by decide +kernel)]; kernel_rfl) | (rw [if_neg (by decide +kernel)]; exact ⟨rfl, rfl⟩))
    (fun os started H enc _ => plays_lifted os started H enc)
theorem plays_proved : Rows.KeyringPlaysSaid := plays_over
#print axioms plays_proved
end Go.Proofs.Ytdlcjoonhojpfaa
