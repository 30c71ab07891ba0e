/- SessionsApart: whatever the two numbers and the reply are, the law's function returns true, and writes nothing that was there. -/
import Derived.Test.YtdlcjoonhojpfaaT3
import Derived.Test.YtdlcjoonhojpfaaSL6
import Derived.Test.YtdlcjoonhojpfaaRows
import Derived.ChangeOld
namespace Go.Proofs.Ytdlcjoonhojpfaa
open Go.ChangeShapes Go.WideShapes Go.ChangeAt Go.RowKit Go.SL Go.S15
open Go.ChangeMaps (open_string shut_string)
set_option linter.unusedVariables false
set_option linter.unusedSimpArgs false
section
variable {H : Type} {enc : TypeId × Value → H} {W : World} {base : Nat} {spare : Nat → Bool} {held : Bool}
theorem cells29 : Try.prog.cellsOf 29 = 4 := by kernel_rfl
theorem cells26 : Try.prog.cellsOf 26 = 1 := by kernel_rfl
theorem cells27 : Try.prog.cellsOf 27 = 1 := by kernel_rfl
theorem cells3 : Try.prog.cellsOf 3 = 1 := by kernel_rfl
theorem cells5 : Try.prog.cellsOf 5 = 1 := by kernel_rfl
/-- a reply that came in -/
theorem read_reply {fuel : Nat} {cs : List Value} {y : DataW H × List MemPlace} (h : DataW.trod enc Try.prog W base spare held fuel 29 cs = some y) :
    ∃ (c0 c1 c2 : Int) (X : Option Addr) (ns : List Int) (c : Nat), cs = [.int .i64 c0, .int .i64 c1, .int .i64 c2, .slice X ns.length c] ∧ (ns.length ≤ c ∧ c ≤ maxLen) ∧ Las (P0 W) 1 (.slice X ns.length c) ns.length (bv ns) := by
  have hl := read_len Try.underlying29 h
  rw [cells29] at hl
  obtain ⟨v0, n0, z0, e0, t0⟩ := read_fld Try.underlying29 (i := 0) (o := 0) rfl rfl cells26 (by rw [cells29]; omega) h
  obtain ⟨v1, n1, z1, e1, t1⟩ := read_fld Try.underlying29 (i := 1) (o := 1) rfl rfl cells3 (by rw [cells29]; omega) h
  obtain ⟨v2, n2, z2, e2, t2⟩ := read_fld Try.underlying29 (i := 2) (o := 2) rfl rfl cells3 (by rw [cells29]; omega) h
  obtain ⟨v3, n3, z3, e3, t3⟩ := read_fld Try.underlying29 (i := 3) (o := 3) rfl rfl cells27 (by rw [cells29]; omega) h
  obtain ⟨c0, rfl, _⟩ := read_int Try.underlying26 t0
  obtain ⟨c1, rfl, _⟩ := read_int Try.underlying3 t1
  obtain ⟨c2, rfl, _⟩ := read_int Try.underlying3 t2
  obtain ⟨X, ns, c, rfl, h1, h2, h3, _⟩ := read_bytes Try.underlying27 Try.underlying5 cells5 t3
  refine ⟨c0, c1, c2, X, ns, c, ?_, ⟨h1, h2⟩, h3⟩
  match cs, hl, e0, e1, e2, e3 with
  | [a, b, c, d], _, e0, e1, e2, e3 => simp at e0 e1 e2 e3; rw [e0, e1, e2, e3]
end
theorem own : ownKnob Try.prog.godebug = none := by kernel_rfl
theorem laidOut : laidOutB Try.prog = true := by kernel_rfl
theorem apart_walk (a b c0 c1 c2 : Int) (X : Option Addr) (ns : List Int) (c : Nat) (W : World) (hL : Las (P0 W) 1 (.slice X ns.length c) ns.length (bv ns)) :
    Calls Try.prog 4 #[.int .i64 a, .int .i64 b, .agg #[.int .i64 c0, .int .i64 c1, .int .i64 c2, .slice X ns.length c]] W fun e w => e = .returned (.bool true) ∧ Below W.heap.size W w := by
  have fin : ∀ (e : Ending) (w : World), (∃ q, (P0 W).le q ∧ e = .returned (.bool true) ∧ St q w []) → e = .returned (.bool true) ∧ Below W.heap.size W w := fun e w ⟨q, le, he, hs⟩ => ⟨he, below_of le hs⟩
  have s0 := (st0 W).emp
  rcases Int.lt_or_le 0 a with ha | ha <;> rcases Int.lt_or_le 0 b with hbb | hbb
  · exact Calls.mono (apart_11 a b c0 c1 c2 hL (P0 W).le_refl ha hbb s0) fin
  · exact Calls.mono (apart_10 a b c0 c1 c2 hL (P0 W).le_refl ha hbb s0) fin
  · exact Calls.mono (apart_01 a b c0 c1 c2 hL (P0 W).le_refl ha hbb s0) fin
  · exact Calls.mono (apart_00 a b c0 c1 c2 hL (P0 W).le_refl ha hbb s0) fin

set_option maxRecDepth 100000 in
theorem apart_lifted (os : Os) (started : os.Started) (H : Type) (enc : TypeId × Value → H) :
    ReturnsInHanded {} Try.checked os 4 .any (fun w args => Rows.sessionsApartSpec.pre6 enc Try.prog Try.f4 Rows.sessionsApartRow.domain false w args) (Rows.sessionsApartSpec.post enc Try.prog Try.f4 false true false false) := by
  refine returnsInHanded_of_change (C := Try.checked) own started (by kernel_rfl) Try.func4
    (ChangeSpec.witness6 (enc := enc) (C := Try.checked) false ⟨#[], #[.int .i64 0, .int .i64 0, .agg #[.int .i64 0, .int .i64 0, .int .i64 0, .slice none 0 0]], []⟩ 8 (by kernel_rfl) (by kernel_rfl) (by kernel_rfl) (by kernel_rfl)) ?_
  intro W base args ds gs before hval0 hW hcnd hsz
  have hval : ∀ (j : Nat) t v, Try.f4.params[j]? = some t → args[j]? = some v → Value.okWide Try.prog W .any base t v := hval0
  have hW' := hW
  obtain ⟨p, q, hA0, hV, rfl, hfz, hnd⟩ := hW
  have hA : DataW.TrodAll enc Try.prog W 0 (fun _ => true) true Try.f4.params.toList args.toList ds p := hA0
  rw [Try.params4] at hA hval
  obtain ⟨v0, vs0, d0, ds0, p0, q0, hargs, rfl, rfl, h0, r0⟩ := trodAll_cons hA
  obtain ⟨v1, vs1, d1, ds1, p1, q1, rfl, rfl, rfl, h1, r1⟩ := trodAll_cons r0
  obtain ⟨v2, vs2, d2, ds2, p2, q2, rfl, rfl, rfl, h2, r2⟩ := trodAll_cons r1
  obtain ⟨rfl, rfl, rfl⟩ := trodAll_nil r2
  obtain rfl : args = #[v0, v1, v2] := by cases args; simp_all
  obtain ⟨rfl, rfl⟩ := trodVars_none hV
  obtain ⟨a0, rfl, rfl, rfl, w0⟩ := open_int Try.underlying3 (hval 0 3 v0 rfl rfl) h0
  obtain ⟨a1, rfl, rfl, rfl, w1⟩ := open_int Try.underlying3 (hval 1 3 v1 rfl rfl) h1
  have k2 := h2
  have lt2 : ∀ x ∈ p2, x.block < W.heap.size := by obtain ⟨m, hm⟩ := k2; exact DataW.trod_lt m _ _ _ hm
  obtain ⟨c0, c1, c2, X, ns, c, hv2, hL⟩ : ∃ (c0 c1 c2 : Int) (X : Option Addr) (ns : List Int) (c : Nat), v2 = .agg #[.int .i64 c0, .int .i64 c1, .int .i64 c2, .slice X ns.length c] ∧ Las (P0 W) 1 (.slice X ns.length c) ns.length (bv ns) := by
    obtain ⟨fuel, hf⟩ := h2
    obtain ⟨cs, rfl, _⟩ := okWide_struct Try.underlying29 (hval 2 29 v2 rfl rfl)
    obtain ⟨c0, c1, c2, X, ns, c, hcs, h3, h4⟩ := read_reply hf
    refine ⟨c0, c1, c2, X, ns, c, ?_, h4⟩
    · have : cs = #[.int .i64 c0, .int .i64 c1, .int .i64 c2, .slice X ns.length c] := by cases cs; simpa [Value.cells] using hcs
      rw [this]
  subst hv2
  clear hA0 hval0
  refine (apart_walk a0 a1 c0 c1 c2 X ns c W hL).mono fun e W' ⟨he, bel⟩ => ?_
  subst he
  exact ⟨_, rfl, _, _, _, [], _, [], hW', trodAll_mk1 (shut_bool Try.underlying4 _), (trodAll_cons_mk (shut_int Try.underlying3 w0) (trodAll_cons_mk (shut_int Try.underlying3 w1) (trodAll_cons_mk (Below.trod laidOut (by kernel_rfl) (of_decide_eq_true (by kernel_rfl)) k2 bel lt2) trodAll_mk0))), rfl, bel.frame _, fun h => by cases h⟩

theorem apart_over : Rows.sessionsApartRow.holds Try.pinned (OpenSpec.ofChange Rows.sessionsApartSpec) :=
  OpenClaim.holds_of_wide 4 Try.f4 rfl rfl rfl rfl rfl rfl rfl ⟨rfl, rfl, rfl, rfl, rfl⟩ rfl rfl rfl rfl rfl (by kernel_rfl) Try.func4 (by kernel_rfl)
    (of_decide_eq_true (by kernel_rfl)) (by unfold Func.isWrapper; first | (rw [if_pos (by decide +kernel)]; kernel_rfl) | (rw [if_neg (by decide +kernel)]; exact ⟨rfl, rfl⟩))
    (fun os started H enc _ => apart_lifted os started H enc)
theorem apart_proved : Rows.SessionsApartSaid := apart_over
#print axioms apart_proved
end Go.Proofs.Ytdlcjoonhojpfaa
