/- SessionsOnce: whatever the calls are, the law's function returns true, and writes nothing that was there. -/
import Derived.Test.YtdlcjoonhojpfaaT4
import Derived.Test.YtdlcjoonhojpfaaT5
namespace Go.Proofs.Ytdlcjoonhojpfaa
open Go.ChangeShapes Go.WideShapes Go.ChangeAt Go.RowKit Go.SL Go.S15
set_option linter.unusedVariables false
set_option linter.unusedSimpArgs false
section
variable {H : Type} {enc : TypeId × Value → H} {W : World} {base : Nat} {spare : Nat → Bool} {held : Bool}
theorem cells31 : Try.prog.cellsOf 31 = 7 := by kernel_rfl
/-- a call that came in -/
theorem read_op {fuel : Nat} {cs : List Value} {y : DataW H × List MemPlace} (h : DataW.trod enc Try.prog W base spare held fuel 31 cs = some y) :
    ∃ x : Op, cs = x.enc ∧ ((-9223372036854775808 ≤ x.kind ∧ x.kind ≤ 9223372036854775807) ∧ Las (P0 W) 1 (.slice x.X x.ns.length x.cap) x.ns.length (bv x.ns)) := by
  have hl := read_len Try.underlying31 h
  rw [cells31] at hl
  obtain ⟨v0, n0, z0, e0, t0⟩ := read_fld Try.underlying31 (i := 0) (o := 0) rfl rfl cells3 (by rw [cells31]; omega) h
  obtain ⟨v1, n1, z1, e1, t1⟩ := read_fld Try.underlying31 (i := 1) (o := 1) rfl rfl cells3 (by rw [cells31]; omega) h
  obtain ⟨v2, n2, z2, e2, t2⟩ := read_fld Try.underlying31 (i := 2) (o := 2) rfl rfl cells3 (by rw [cells31]; omega) h
  obtain ⟨n3, z3, t3⟩ := read_sub Try.underlying31 (i := 3) rfl h
  obtain ⟨k0, rfl, w0⟩ := read_int Try.underlying3 t0
  obtain ⟨k1, rfl, _⟩ := read_int Try.underlying3 t1
  obtain ⟨k2, rfl, _⟩ := read_int Try.underlying3 t2
  obtain ⟨c0, c1, c2, X, ns, c, hcs, h1, h2⟩ := read_reply t3
  have ww := wf_i64 w0
  refine ⟨⟨k0, k1, k2, c0, c1, c2, X, c, ns⟩, ?_, ww, h2⟩
  have hcs2 : (cs.drop 3).take (Try.prog.cellsOf 29) = [.int .i64 c0, .int .i64 c1, .int .i64 c2, .slice X ns.length c] := hcs
  rw [cells29] at hcs2
  clear hcs t0 t1 t2 t3 h h2 h1 w0
  match cs, hl, e0, e1, e2, hcs2 with
  | [a0, a1, a2, a3, a4, a5, a6], _, e0, e1, e2, hcs => simp at e0 e1 e2 hcs; simp [Op.enc, e0, e1, e2, hcs]
end

theorem once_calls {W : World} {X : Option Addr} {c : Nat} {os : List Op} (hO : Las (P0 W) 7 (.slice X os.length c) os.length (os.flatMap Op.enc)) (hK : OpsOk (P0 W) os) :
    Calls Try.prog 3 #[.slice X os.length c] W fun e w => e = .returned (.bool true) ∧ Below W.heap.size W w :=
  Calls.mono (once_walk hO hK (P0 W).le_refl (st0 W)) fun e w ⟨q, le, he, hs⟩ => ⟨he, below_of le hs⟩

set_option maxRecDepth 100000 in
theorem once_lifted (os : Os) (started : os.Started) (H : Type) (enc : TypeId × Value → H) :
    ReturnsInHanded {} Try.checked os 3 .any (fun w args => Rows.sessionsOnceSpec.pre6 enc Try.prog Try.f3 Rows.sessionsOnceRow.domain false w args) (Rows.sessionsOnceSpec.post enc Try.prog Try.f3 false true false false) := by
  refine returnsInHanded_of_change (C := Try.checked) own started (by kernel_rfl) Try.func3
    (ChangeSpec.witness6 (enc := enc) (C := Try.checked) false ⟨#[], #[.slice none 0 0], []⟩ 8 (by kernel_rfl) (by kernel_rfl) (by kernel_rfl) (by kernel_rfl)) ?_
  intro W base args ds gs before hval0 hW hcnd hsz
  have hval : ∀ (j : Nat) t v, Try.f3.params[j]? = some t → args[j]? = some v → Value.okWide Try.prog W .any base t v := hval0
  have hW' := hW
  obtain ⟨p, q, hA0, hV, rfl, hfz, hnd⟩ := hW
  have hA : DataW.TrodAll enc Try.prog W 0 (fun _ => true) true Try.f3.params.toList args.toList ds p := hA0
  rw [Try.params3] at hA hval
  obtain ⟨v0, vs0, d0, ds0, p0, q0, hargs, rfl, rfl, h0, r0⟩ := trodAll_cons hA
  obtain ⟨rfl, rfl, rfl⟩ := trodAll_nil r0
  obtain rfl : args = #[v0] := by cases args; simp_all
  obtain ⟨rfl, rfl⟩ := trodVars_none hV
  have k0 := h0
  have lt0 : ∀ x ∈ p0, x.block < W.heap.size := by obtain ⟨m, hm⟩ := k0; exact DataW.trod_lt m _ _ _ hm
  obtain ⟨X, os', c, rfl, _, _, hL, hK⟩ : ∃ (X : Option Addr) (xs : List Op) (c : Nat), v0 = .slice X xs.length c ∧ xs.length ≤ c ∧ c ≤ maxLen ∧ Las (P0 W) 7 v0 xs.length (xs.flatMap Op.enc) ∧ OpsOk (P0 W) xs := by
    obtain ⟨fuel, hf⟩ := h0
    obtain ⟨a, l, c, rfl⟩ := okWide_slice Try.underlying22 (hval 0 22 v0 rfl rfl)
    exact read_slice Try.underlying22 cells31 (by omega) Op.enc_len (fun cs n z hz => read_op hz) hf
  clear hA0 hval0
  refine (once_calls hL hK).mono fun e W' ⟨he, bel⟩ => ?_
  subst he
  exact ⟨_, rfl, _, _, _, [], _, [], hW', trodAll_mk1 (shut_bool Try.underlying4 _), (trodAll_cons_mk (Below.trod laidOut (by kernel_rfl) (of_decide_eq_true (by kernel_rfl)) k0 bel lt0) trodAll_mk0), rfl, bel.frame _, fun h => by cases h⟩

theorem once_over : Rows.sessionsOnceRow.holds Try.pinned (OpenSpec.ofChange Rows.sessionsOnceSpec) :=
  OpenClaim.holds_of_wide 3 Try.f3 rfl rfl rfl rfl rfl rfl rfl ⟨rfl, rfl, rfl, rfl, rfl⟩ rfl rfl rfl rfl rfl (by kernel_rfl) Try.func3 (by kernel_rfl)
    (of_decide_eq_true (by kernel_rfl)) (by unfold Func.isWrapper; first | (rw [if_pos (by decide +kernel)]; kernel_rfl) | (rw [if_neg (by decide +kernel)]; exact ⟨rfl, rfl⟩))
    (fun os started H enc _ => once_lifted os started H enc)
theorem once_proved : Rows.SessionsOnceSaid := once_over
#print axioms once_proved
end Go.Proofs.Ytdlcjoonhojpfaa
