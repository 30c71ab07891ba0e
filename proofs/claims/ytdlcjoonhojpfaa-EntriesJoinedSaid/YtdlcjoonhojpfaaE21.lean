/- EntriesJoined: whatever the base, the entries and the call are, the law's function returns true, and writes nothing that was there. -/
import Derived.Test.YtdlcjoonhojpfaaE19
import Derived.Test.YtdlcjoonhojpfaaE20
import Derived.Test.YtdlcjoonhojpfaaRows
import Derived.ChangeOld
namespace Go.Proofs.Ytdlcjoonhojpfaa
open Go.ChangeShapes Go.WideShapes Go.ChangeAt Go.RowKit Go.SL Go.E17
open Go.ChangeMaps (open_string shut_string)
set_option linter.unusedVariables false
set_option linter.unusedSimpArgs false
theorem joined_calls {X Z : Option Addr} {c d : Nat} {l z : List Ent} {W : World} (i0 t0 kd ix tm : Int) (h0 : -9223372036854775808 ≤ i0 ∧ i0 ≤ 9223372036854775807) (h1 : -9223372036854775808 ≤ ix ∧ ix ≤ 9223372036854775807) (hc : l.length ≤ c) (hm : c ≤ maxLen) (hd : z.length ≤ d) (hdm : d ≤ maxLen) (hL : Las (P0 W) 4 (.slice X l.length c) l.length (flat l)) (hE : EsLas (P0 W) l) (hL2 : Las (P0 W) 4 (.slice Z z.length d) z.length (flat z)) (hE2 : EsLas (P0 W) z) :
    Calls Try.prog 5 #[.agg #[.int .i64 i0, .int .i64 t0], .slice X l.length c, .agg #[.int .i64 kd, .int .i64 ix, .int .i64 tm, .slice Z z.length d]] W fun e w => e = .returned (.bool true) ∧ Below W.heap.size W w :=
  Calls.mono (joined_walk (P0 W).le_refl i0 t0 kd ix tm h0 h1 (by simp only [maxLen] at hm; omega) (by simp only [maxLen] at hdm; omega) hL hE hL2 hE2 (st0 W)) fun e w ⟨q, le, he, hs⟩ => ⟨he, below_of le hs⟩

set_option maxRecDepth 100000 in
theorem joined_lifted (os : Os) (started : os.Started) (H : Type) (enc : TypeId × Value → H) :
    ReturnsInHanded {} Try.checked os 5 .any (fun w args => Rows.entriesJoinedSpec.pre6 enc Try.prog Try.f5 Rows.entriesJoinedRow.domain false w args) (Rows.entriesJoinedSpec.post enc Try.prog Try.f5 false true false false) := by
  refine returnsInHanded_of_change (C := Try.checked) own started (by kernel_rfl) Try.func5
    (ChangeSpec.witness6 (enc := enc) (C := Try.checked) false ⟨#[], #[.agg #[.int .i64 0, .int .i64 0], .slice none 0 0, .agg #[.int .i64 0, .int .i64 0, .int .i64 0, .slice none 0 0]], []⟩ 8 (by kernel_rfl) (by kernel_rfl) (by kernel_rfl) (by kernel_rfl)) ?_
  intro W base args ds gs before hval0 hW hcnd hsz
  have hval : ∀ (j : Nat) t v, Try.f5.params[j]? = some t → args[j]? = some v → Value.okWide Try.prog W .any base t v := hval0
  have hW' := hW
  obtain ⟨p, q, hA0, hV, rfl, hfz, hnd⟩ := hW
  have hA : DataW.TrodAll enc Try.prog W 0 (fun _ => true) true Try.f5.params.toList args.toList ds p := hA0
  rw [Try.params5] at hA hval
  obtain ⟨v0, vs0, d0, ds0, p0, q0, hargs, rfl, rfl, h0, r0⟩ := trodAll_cons hA
  obtain ⟨v1, vs1, d1, ds1, p1, q1, rfl, rfl, rfl, h1, r1⟩ := trodAll_cons r0
  obtain ⟨v2, vs2, d2, ds2, p2, q2, rfl, rfl, rfl, h2, r2⟩ := trodAll_cons r1
  obtain ⟨rfl, rfl, rfl⟩ := trodAll_nil r2
  obtain rfl : args = #[v0, v1, v2] := by cases args; simp_all
  obtain ⟨rfl, rfl⟩ := trodVars_none hV
  have k0 := h0
  have lt0 : ∀ x ∈ p0, x.block < W.heap.size := by obtain ⟨m, hm⟩ := k0; exact DataW.trod_lt m _ _ _ hm
  have k1 := h1
  have lt1 : ∀ x ∈ p1, x.block < W.heap.size := by obtain ⟨m, hm⟩ := k1; exact DataW.trod_lt m _ _ _ hm
  have k2 := h2
  have lt2 : ∀ x ∈ p2, x.block < W.heap.size := by obtain ⟨m, hm⟩ := k2; exact DataW.trod_lt m _ _ _ hm
  obtain ⟨a0, b0, rfl, ha0, hb0⟩ := open_pair (hval 0 43 v0 rfl rfl) h0
  obtain ⟨X1, l1, c1, rfl, hlc1, hcm1, hL1, hE1⟩ := open_ents (hval 1 44 v1 rfl rfl) h1
  obtain ⟨kd2, ix2, tm2, Z2, z2, d2, rfl, ⟨hkd2, hix2, htm2⟩, hzc2, hdm2, hZ2, hEZ2⟩ := open_lop (hval 2 46 v2 rfl rfl) h2
  clear hA0 hval0
  refine (joined_calls a0 b0 kd2 ix2 tm2 ha0 hix2 hlc1 hcm1 hzc2 hdm2 hL1 hE1 hZ2 hEZ2).mono fun e W' ⟨he, bel⟩ => ?_
  subst he
  exact ⟨_, rfl, _, _, _, [], _, [], hW', trodAll_mk1 (shut_bool Try.underlying4 _), (trodAll_cons_mk (Below.trod laidOut (by kernel_rfl) (of_decide_eq_true (by kernel_rfl)) k0 bel lt0) (trodAll_cons_mk (Below.trod laidOut (by kernel_rfl) (of_decide_eq_true (by kernel_rfl)) k1 bel lt1) (trodAll_cons_mk (Below.trod laidOut (by kernel_rfl) (of_decide_eq_true (by kernel_rfl)) k2 bel lt2) trodAll_mk0))), rfl, bel.frame _, fun h => by cases h⟩

theorem joined_over : Rows.entriesJoinedRow.holds Try.pinned (OpenSpec.ofChange Rows.entriesJoinedSpec) :=
  OpenClaim.holds_of_wide 5 Try.f5 rfl rfl rfl rfl rfl rfl rfl ⟨rfl, rfl, rfl, rfl, rfl⟩ rfl rfl rfl rfl rfl (by kernel_rfl) Try.func5 (by kernel_rfl)
    (of_decide_eq_true (by kernel_rfl)) (by unfold Func.isWrapper; first | (rw [if_pos (by decide +kernel)]; kernel_rfl) | (rw [if_neg (by decide +kernel)]; exact ⟨rfl, rfl⟩))
    (fun os started H enc _ => joined_lifted os started H enc)
theorem joined_proved : Rows.EntriesJoinedSaid := joined_over
#print axioms joined_proved
end Go.Proofs.Ytdlcjoonhojpfaa
