/- EntriesFrom: whatever the base, the entries and the place are, the law's function returns true, and writes nothing that was there. -/
import Derived.Test.YtdlcjoonhojpfaaE16
import Derived.Test.YtdlcjoonhojpfaaE12
import Derived.Test.YtdlcjoonhojpfaaRows
import Derived.ChangeOld
namespace Go.Proofs.Ytdlcjoonhojpfaa
open Go.ChangeShapes Go.WideShapes Go.ChangeAt Go.RowKit Go.SL Go.E17
open Go.ChangeMaps (open_string shut_string)
set_option linter.unusedVariables false
set_option linter.unusedSimpArgs false
theorem from_calls {X : Option Addr} {c : Nat} {l : List Ent} {W : World} (i0 t0 k0 u : Int) (h0 : -9223372036854775808 ≤ i0 ∧ i0 ≤ 9223372036854775807) (h1 : -9223372036854775808 ≤ k0 ∧ k0 ≤ 9223372036854775807) (h2 : -9223372036854775808 ≤ u ∧ u ≤ 9223372036854775807) (hc : l.length ≤ c) (hm : c ≤ maxLen) (hL : Las (P0 W) 4 (.slice X l.length c) l.length (flat l)) (hE : EsLas (P0 W) l) :
    Calls Try.prog 7 #[.agg #[.int .i64 i0, .int .i64 t0], .slice X l.length c, .agg #[.int .i64 k0, .int .i64 u]] W fun e w => e = .returned (.bool true) ∧ Below W.heap.size W w :=
  Calls.mono (from_walk (P0 W).le_refl i0 t0 k0 u h0 h1 h2 (by simp only [maxLen] at hm; omega) hL hE (st0 W)) fun e w ⟨q, le, he, hs⟩ => ⟨he, below_of le hs⟩

set_option maxRecDepth 100000 in
theorem from_lifted (os : Os) (started : os.Started) (H : Type) (enc : TypeId × Value → H) :
    ReturnsInHanded {} Try.checked os 7 .any (fun w args => Rows.entriesFromSpec.pre6 enc Try.prog Try.f7 Rows.entriesFromRow.domain false w args) (Rows.entriesFromSpec.post enc Try.prog Try.f7 false true false false) := by
  refine returnsInHanded_of_change (C := Try.checked) own started (by kernel_rfl) Try.func7
    (ChangeSpec.witness6 (enc := enc) (C := Try.checked) false ⟨#[], #[.agg #[.int .i64 0, .int .i64 0], .slice none 0 0, .agg #[.int .i64 0, .int .i64 0]], []⟩ 8 (by kernel_rfl) (by kernel_rfl) (by kernel_rfl) (by kernel_rfl)) ?_
  intro W base args ds gs before hval0 hW hcnd hsz
  have hval : ∀ (j : Nat) t v, Try.f7.params[j]? = some t → args[j]? = some v → Value.okWide Try.prog W .any base t v := hval0
  have hW' := hW
  obtain ⟨p, q, hA0, hV, rfl, hfz, hnd⟩ := hW
  have hA : DataW.TrodAll enc Try.prog W 0 (fun _ => true) true Try.f7.params.toList args.toList ds p := hA0
  rw [Try.params7] at hA hval
  obtain ⟨v0, vs0, d0, ds0, p0, q0, hargs, rfl, rfl, h0, r0⟩ := trodAll_cons hA
  obtain ⟨v1, vs1, d1, ds1, p1, q1, rfl, rfl, rfl, h1, r1⟩ := trodAll_cons r0
  obtain ⟨v2, vs2, d2, ds2, p2, q2, rfl, rfl, rfl, h2, r2⟩ := trodAll_cons r1
  obtain ⟨rfl, rfl, rfl⟩ := trodAll_nil r2
  obtain rfl : args = #[v0, v1, v2] := by cases args; simp_all
  obtain ⟨rfl, rfl⟩ := trodVars_none hV
  have k0 := h0
  have lt0 : ∀ x ∈ p0, x.block < W.heap.size := by obtain ⟨m, hm⟩ := k0; exact DataW.trod_lt m _ _ _ hm
  have k1 := h1
  have lt1 : ∀ x ∈ p1, x.block < W.heap.size := by obtain ⟨m, hm⟩ := k1; exact DataW.trod_lt m _ _ _ hm
  have k2 := h2
  have lt2 : ∀ x ∈ p2, x.block < W.heap.size := by obtain ⟨m, hm⟩ := k2; exact DataW.trod_lt m _ _ _ hm
  obtain ⟨a0, b0, rfl, ha0, hb0⟩ := open_pair (hval 0 43 v0 rfl rfl) h0
  obtain ⟨X1, l1, c1, rfl, hlc1, hcm1, hL1, hE1⟩ := open_ents (hval 1 44 v1 rfl rfl) h1
  obtain ⟨a2, b2, rfl, ha2, hb2⟩ := open_pair (hval 2 43 v2 rfl rfl) h2
  clear hA0 hval0
  refine (from_calls a0 b0 a2 b2 ha0 ha2 hb2 hlc1 hcm1 hL1 hE1).mono fun e W' ⟨he, bel⟩ => ?_
  subst he
  exact ⟨_, rfl, _, _, _, [], _, [], hW', trodAll_mk1 (shut_bool Try.underlying4 _), (trodAll_cons_mk (Below.trod laidOut (by kernel_rfl) (of_decide_eq_true (by kernel_rfl)) k0 bel lt0) (trodAll_cons_mk (Below.trod laidOut (by kernel_rfl) (of_decide_eq_true (by kernel_rfl)) k1 bel lt1) (trodAll_cons_mk (Below.trod laidOut (by kernel_rfl) (of_decide_eq_true (by kernel_rfl)) k2 bel lt2) trodAll_mk0))), rfl, bel.frame _, fun h => by cases h⟩

theorem from_over : Rows.entriesFromRow.holds Try.pinned (OpenSpec.ofChange Rows.entriesFromSpec) :=
  OpenClaim.holds_of_wide 7 Try.f7 rfl rfl rfl rfl rfl rfl rfl ⟨rfl, rfl, rfl, rfl, rfl⟩ rfl rfl rfl rfl rfl (by kernel_rfl) Try.func7 (by kernel_rfl)
    (of_decide_eq_true (by kernel_rfl)) (by unfold Func.isWrapper; first | (rw [if_pos (by decide +kernel)]; kernel_rfl) | (rw [if_neg (by decide +kernel)]; exact ⟨rfl, rfl⟩))
    (fun os started H enc _ => from_lifted os started H enc)
theorem from_proved : Rows.EntriesFromSaid := from_over
#print axioms from_proved
end Go.Proofs.Ytdlcjoonhojpfaa
