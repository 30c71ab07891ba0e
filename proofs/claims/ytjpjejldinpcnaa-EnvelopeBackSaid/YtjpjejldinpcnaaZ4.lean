/- EnvelopeBack: whatever the input is, the law's function returns true, and writes nothing that was there. -/
import Derived.Test.YtjpjejldinpcnaaYC
import Derived.Test.YtjpjejldinpcnaaRO
import Derived.Test.YtjpjejldinpcnaaRows
import Derived.ChangeOld
namespace Go.Proofs.Ytjpjejldinpcnaa
open Go.ChangeShapes Go.WideShapes Go.ChangeAt Go.RowKit Go.SL
open Go.ChangeMaps (open_string shut_string)
set_option linter.unusedVariables false
set_option linter.unusedSimpArgs false
theorem own : ownKnob Try.prog.godebug = none := by kernel_rfl
theorem laidOut : laidOutB Try.prog = true := by kernel_rfl
theorem cl3 : Try.prog.cellsOf 3 = 1 := by kernel_rfl
theorem cl5 : Try.prog.cellsOf 5 = 1 := by kernel_rfl
theorem cl22 : Try.prog.cellsOf 22 = 2 := by kernel_rfl
theorem cl24 : Try.prog.cellsOf 24 = 12 := by kernel_rfl
theorem cl34 : Try.prog.cellsOf 34 = 32 := by kernel_rfl
theorem back_calls {W : World} {Xm : Option Addr} {cm : Nat} (n : Nat) (m : List (BitVec 8)) (hn : n ≤ 9223372036854775807) (hm : m.length = n * 32) (hSm : ∀ w H, St (P0 W) w (Emp :: H) → SL.Src w 32 (.slice Xm n cm) n (m.map bu8)) {Xb : Option Addr} {cb : Nat} (b : List (BitVec 8)) (hmb : b.length ≤ 9223372036854775807) (hSb : ∀ w H, St (P0 W) w (Emp :: H) → SL.Src w 1 (.slice Xb b.length cb) b.length (b.map bu8)) {Xd : Option Addr} {cd : Nat} (d : List (BitVec 8)) (hmd : d.length ≤ 9223372036854775807) (hSd : ∀ w H, St (P0 W) w (Emp :: H) → SL.Src w 1 (.slice Xd d.length cd) d.length (d.map bu8)) :
    Calls Try.prog 6 #[.slice Xm n cm, .slice Xb b.length cb, .slice Xd d.length cd] W fun e w => e = .returned (.bool true) ∧ Below W.heap.size W w :=
  Calls.mono (EnvBack_C (p := P0 W) (A := Emp) (R := []) n m hn hm hSm b hmb hSb d hmd hSd true (EnvBack_ok n m b d hm) ((st0 W).emp)) fun e w ⟨he, hs⟩ => ⟨he, below_of (P0 W).le_refl hs⟩

set_option maxRecDepth 100000 in
theorem back_lifted (os : Os) (started : os.Started) (H : Type) (enc : TypeId × Value → H) :
    ReturnsInHanded {} Try.checked os 6 .any (fun w args => Rows.envelopeBackSpec.pre6 enc Try.prog Try.f6 Rows.envelopeBackRow.domain false w args) (Rows.envelopeBackSpec.post enc Try.prog Try.f6 false true false false) := by
  refine returnsInHanded_of_change (C := Try.checked) own started (by kernel_rfl) Try.func6
    (ChangeSpec.witness6 (enc := enc) (C := Try.checked) false ⟨#[], #[.slice none 0 0, .slice none 0 0, .slice none 0 0], []⟩ 8 (by kernel_rfl) (by kernel_rfl) (by kernel_rfl) (by kernel_rfl)) ?_
  intro W base args ds gs before hval0 hW hcnd hsz
  have hval : ∀ (j : Nat) t v, Try.f6.params[j]? = some t → args[j]? = some v → Value.okWide Try.prog W .any base t v := hval0
  have hW' := hW
  obtain ⟨p, q, hA0, hV, rfl, hfz, hnd⟩ := hW
  have hA : DataW.TrodAll enc Try.prog W 0 (fun _ => true) true Try.f6.params.toList args.toList ds p := hA0
  rw [Try.params6] at hA hval
  obtain ⟨v0, vs0, d0, ds0, p0, q0, hargs, rfl, rfl, h0, r0⟩ := trodAll_cons hA
  obtain ⟨v1, vs1, d1, ds1, p1, q1, rfl, rfl, rfl, h1, r1⟩ := trodAll_cons r0
  obtain ⟨v2, vs2, d2, ds2, p2, q2, rfl, rfl, rfl, h2, r2⟩ := trodAll_cons r1
  obtain ⟨rfl, rfl, rfl⟩ := trodAll_nil r2
  obtain rfl : args = #[v0, v1, v2] := by cases args; simp_all
  obtain ⟨rfl, rfl⟩ := trodVars_none hV
  have k0 := h0
  have lt0 : ∀ x ∈ p0, x.block < W.heap.size := by obtain ⟨m, hm⟩ := k0; exact DataW.trod_lt m _ _ _ hm
  have k1 := h1
  have lt1 : ∀ x ∈ p1, x.block < W.heap.size := by obtain ⟨m, hm⟩ := k1; exact DataW.trod_lt m _ _ _ hm
  have k2 := h2
  have lt2 : ∀ x ∈ p2, x.block < W.heap.size := by obtain ⟨m, hm⟩ := k2; exact DataW.trod_lt m _ _ _ hm
  obtain ⟨X0, n0, l0, c0, rfl, hn0, hl0, hS0⟩ := open_rowslice8 Try.underlying48 Try.underlying34 Try.underlying5 cl5 cl34 (by decide) (hval 0 48 v0 rfl rfl) h0
  obtain ⟨X1, l1, c1, rfl, hm1, hS1⟩ := open_bytes8 Try.underlying25 Try.underlying5 cl5 (hval 1 25 v1 rfl rfl) h1
  obtain ⟨X2, l2, c2, rfl, hm2, hS2⟩ := open_bytes8 Try.underlying25 Try.underlying5 cl5 (hval 2 25 v2 rfl rfl) h2
  clear hA0 hval0
  refine (back_calls n0 l0 hn0 hl0 hS0 l1 hm1 hS1 l2 hm2 hS2).mono fun e W' ⟨he, bel⟩ => ?_
  subst he
  exact ⟨_, rfl, _, _, _, [], _, [], hW', trodAll_mk1 (shut_bool Try.underlying4 _), (trodAll_cons_mk (Below.trod laidOut (by kernel_rfl) (of_decide_eq_true (by kernel_rfl)) k0 bel lt0) (trodAll_cons_mk (Below.trod laidOut (by kernel_rfl) (of_decide_eq_true (by kernel_rfl)) k1 bel lt1) (trodAll_cons_mk (Below.trod laidOut (by kernel_rfl) (of_decide_eq_true (by kernel_rfl)) k2 bel lt2) trodAll_mk0))), rfl, bel.frame _, fun h => by cases h⟩

theorem back_over : Rows.envelopeBackRow.holds Try.pinned (OpenSpec.ofChange Rows.envelopeBackSpec) :=
  OpenClaim.holds_of_wide 6 Try.f6 rfl rfl rfl rfl rfl rfl rfl ⟨rfl, rfl, rfl, rfl, rfl⟩ rfl rfl rfl rfl rfl (by kernel_rfl) Try.func6 (by kernel_rfl)
    (of_decide_eq_true (by kernel_rfl)) (by unfold Func.isWrapper; first | (rw [if_pos (by decide +kernel)]; kernel_rfl) | (rw [if_neg (by decide +kernel)]; exact ⟨rfl, rfl⟩))
    (fun os started H enc _ => back_lifted os started H enc)
theorem back_proved : Rows.EnvelopeBackSaid := back_over
#print axioms back_proved
end Go.Proofs.Ytjpjejldinpcnaa
