/- EntriesPlay: whatever the base, the entries and the calls are, the law's function returns true, and writes nothing that was there. -/
import Derived.Test.YtdlcjoonhojpfaaE32
import Derived.Test.YtdlcjoonhojpfaaE20
import Derived.Test.YtdlcjoonhojpfaaRows
import Derived.ChangeOld
namespace Go.Proofs.Ytdlcjoonhojpfaa
open Go.ChangeShapes Go.WideShapes Go.ChangeAt Go.RowKit Go.SL Go.E17
open Go.ChangeMaps (open_string shut_string)
set_option linter.unusedVariables false
set_option linter.unusedSimpArgs false
section
variable {H : Type} {enc : TypeId × Value → H} {W : World} {base : Nat} {spare : Nat → Bool} {held : Bool} {r : Reach} {b0 : Nat}
set_option maxRecDepth 100000 in
theorem open_lops {v : Value} {d : DataW H} {ps : List MemPlace} (hv : Value.okWide Try.prog W r b0 98 v) (h : DataW.Trod enc Try.prog W base spare held 98 v d ps) :
    ∃ (X : Option Addr) (l : List LOp) (c : Nat), v = .slice X l.length c ∧ l.length ≤ c ∧ c ≤ maxLen ∧ Las (P0 W) 4 v l.length (l.flatMap LOp.enc) ∧ LsOk (P0 W) l := by
  obtain ⟨a, n, c, rfl⟩ := okWide_slice Try.underlying98 hv
  obtain ⟨fuel, hf⟩ := h
  exact read_slice Try.underlying98 cells46 (by omega) LOp.enc_len (fun cs n z hz => by
    obtain ⟨kd, ix, tm, Z, l, c, hcs, hr, h1, h2, h3, h4⟩ := read_lop hz
    have h5 : l.length ≤ 9223372036854775807 := by simp only [maxLen] at h2; omega
    exact ⟨⟨kd, ix, tm, Z, c, l⟩, hcs, hr, h5, h3, h4⟩) hf
end
theorem play_calls {X Z : Option Addr} {c d : Nat} {l : List Ent} {os : List LOp} {W : World} (i0 t0 : Int) (h0 : -9223372036854775808 ≤ i0 ∧ i0 ≤ 9223372036854775807) (hc : l.length ≤ c) (hm : c ≤ maxLen) (hd : os.length ≤ d) (hdm : d ≤ maxLen) (hL : Las (P0 W) 4 (.slice X l.length c) l.length (flat l)) (hE : EsLas (P0 W) l) (hO : Las (P0 W) 4 (.slice Z os.length d) os.length (os.flatMap LOp.enc)) (hK : LsOk (P0 W) os) :
    Calls Try.prog 13 #[.agg #[.int .i64 i0, .int .i64 t0], .slice X l.length c, .slice Z os.length d] W fun e w => e = .returned (.bool true) ∧ Below W.heap.size W w :=
  Calls.mono (play_walk (P0 W).le_refl i0 t0 h0 (by simp only [maxLen] at hm; omega) (by simp only [maxLen] at hdm; omega) hL hE hO hK (st0 W)) fun e w ⟨q, le, he, hs⟩ => ⟨he, below_of le hs⟩

set_option maxRecDepth 100000 in
theorem play_lifted (os : Os) (started : os.Started) (H : Type) (enc : TypeId × Value → H) :
    ReturnsInHanded {} Try.checked os 13 .any (fun w args => Rows.entriesPlaySpec.pre6 enc Try.prog Try.f13 Rows.entriesPlayRow.domain false w args) (Rows.entriesPlaySpec.post enc Try.prog Try.f13 false true false false) := by
  refine returnsInHanded_of_change (C := Try.checked) own started (by kernel_rfl) Try.func13
    (ChangeSpec.witness6 (enc := enc) (C := Try.checked) false ⟨#[], #[.agg #[.int .i64 0, .int .i64 0], .slice none 0 0, .slice none 0 0], []⟩ 8 (by kernel_rfl) (by kernel_rfl) (by kernel_rfl) (by kernel_rfl)) ?_
  intro W base args ds gs before hval0 hW hcnd hsz
  have hval : ∀ (j : Nat) t v, Try.f13.params[j]? = some t → args[j]? = some v → Value.okWide Try.prog W .any base t v := hval0
  have hW' := hW
  obtain ⟨p, q, hA0, hV, rfl, hfz, hnd⟩ := hW
  have hA : DataW.TrodAll enc Try.prog W 0 (fun _ => true) true Try.f13.params.toList args.toList ds p := hA0
  rw [Try.params13] at hA hval
  obtain ⟨v0, vs0, d0, ds0, p0, q0, hargs, rfl, rfl, h0, r0⟩ := trodAll_cons hA
  obtain ⟨v1, vs1, d1, ds1, p1, q1, rfl, rfl, rfl, h1, r1⟩ := trodAll_cons r0
  obtain ⟨v2, vs2, d2, ds2, p2, q2, rfl, rfl, rfl, h2, r2⟩ := trodAll_cons r1
  obtain ⟨rfl, rfl, rfl⟩ := trodAll_nil r2
  obtain rfl : args = #[v0, v1, v2] := by cases args; simp_all
  obtain ⟨rfl, rfl⟩ := trodVars_none hV
  have k0 := h0
  have lt0 : ∀ x ∈ p0, x.block < W.heap.size := by obtain ⟨m, hm⟩ := k0; exact DataW.trod_lt m _ _ _ hm
  have k1 := h1
  have lt1 : ∀ x ∈ p1, x.block < W.heap.size := by obtain ⟨m, hm⟩ := k1; exact DataW.trod_lt m _ _ _ hm
  have k2 := h2
  have lt2 : ∀ x ∈ p2, x.block < W.heap.size := by obtain ⟨m, hm⟩ := k2; exact DataW.trod_lt m _ _ _ hm
  obtain ⟨a0, b0, rfl, ha0, hb0⟩ := open_pair (hval 0 43 v0 rfl rfl) h0
  obtain ⟨X1, l1, c1, rfl, hlc1, hcm1, hL1, hE1⟩ := open_ents (hval 1 44 v1 rfl rfl) h1
  obtain ⟨X2, l2, c2, rfl, hlc2, hcm2, hL2, hE2⟩ := open_lops (hval 2 98 v2 rfl rfl) h2
  clear hA0 hval0
  refine (play_calls a0 b0 ha0 hlc1 hcm1 hlc2 hcm2 hL1 hE1 hL2 hE2).mono fun e W' ⟨he, bel⟩ => ?_
  subst he
  exact ⟨_, rfl, _, _, _, [], _, [], hW', trodAll_mk1 (shut_bool Try.underlying4 _), (trodAll_cons_mk (Below.trod laidOut (by kernel_rfl) (of_decide_eq_true (by kernel_rfl)) k0 bel lt0) (trodAll_cons_mk (Below.trod laidOut (by kernel_rfl) (of_decide_eq_true (by kernel_rfl)) k1 bel lt1) (trodAll_cons_mk (Below.trod laidOut (by kernel_rfl) (of_decide_eq_true (by kernel_rfl)) k2 bel lt2) trodAll_mk0))), rfl, bel.frame _, fun h => by cases h⟩

theorem play_over : Rows.entriesPlayRow.holds Try.pinned (OpenSpec.ofChange Rows.entriesPlaySpec) :=
  OpenClaim.holds_of_wide 13 Try.f13 rfl rfl rfl rfl rfl rfl rfl ⟨rfl, rfl, rfl, rfl, rfl⟩ rfl rfl rfl rfl rfl (by kernel_rfl) Try.func13 (by kernel_rfl)
    (of_decide_eq_true (by kernel_rfl)) (by unfold Func.isWrapper; first | (rw [if_pos (by decide +kernel)]; kernel_rfl) | (rw [if_neg (by decide +kernel)]; exact ⟨rfl, rfl⟩))
    (fun os started H enc _ => play_lifted os started H enc)
theorem play_proved : Rows.EntriesPlaySaid := play_over
#print axioms play_proved
end Go.Proofs.Ytdlcjoonhojpfaa
