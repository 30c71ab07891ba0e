/- KeyringOf: whatever the keys are, the law's function returns true, and writes nothing that was there. -/
import Derived.Test.YtdlcjoonhojpfaaK28
import Derived.Test.YtdlcjoonhojpfaaK16
import Derived.Test.YtdlcjoonhojpfaaRows
import Derived.ChangeOld
namespace Go.Proofs.Ytdlcjoonhojpfaa
open Go.ChangeShapes Go.WideShapes Go.ChangeAt Go.RowKit Go.SL Go.K13
open Go.ChangeMaps (open_string shut_string)
set_option linter.unusedVariables false
set_option linter.unusedSimpArgs false
section
variable {H : Type} {enc : TypeId × Value → H} {W : World} {base : Nat} {spare : Nat → Bool} {held : Bool} {r : Reach} {b0 : Nat}
theorem read_bool {t : TypeId} {fuel : Nat} {v : Value} {y : DataW H × List MemPlace} (ht : Try.prog.underlying t = some .bool) (h : DataW.trod enc Try.prog W base spare held fuel t [v] = some y) : ∃ b, v = .bool b := by
  obtain ⟨b, hcs, _⟩ := DataW.trod_bool ht h
  cases hcs; exact ⟨b, rfl⟩
set_option maxRecDepth 100000 in
theorem read_ver {fuel : Nat} {cs : List Value} {y : DataW H × List MemPlace} (h : DataW.trod enc Try.prog W base spare held fuel 86 cs = some y) : ∃ x : Ver, cs = x.enc := by
  have hl := read_len Try.underlying86 h
  rw [cl86] at hl
  obtain ⟨n0, z0, t0⟩ := read_sub Try.underlying86 (i := 0) rfl h
  obtain ⟨v1, n1, z1, e1, t1⟩ := read_fld Try.underlying86 (i := 1) (o := 32) rfl rfl cl3 (by rw [cl86]; omega) h
  obtain ⟨v2, n2, z2, e2, t2⟩ := read_fld Try.underlying86 (i := 2) (o := 33) rfl rfl cl4 (by rw [cl86]; omega) h
  obtain ⟨m, hm0⟩ := read_key t0
  obtain ⟨u, rfl, _⟩ := read_int Try.underlying3 t1
  obtain ⟨g, rfl⟩ := read_bool Try.underlying4 t2
  have hm : (cs.drop 0).take (Try.prog.cellsOf 74) = bk m := hm0
  rw [cl74, List.drop_zero] at hm
  clear h t0 t1 t2 hm0
  refine ⟨⟨m, u, g⟩, ?_⟩
  have h2 : (cs.drop 32).length = 2 := by rw [List.length_drop]; omega
  have hd : cs.drop 32 = [.int .i64 u, .bool g] := by
    apply List.ext_getElem?
    intro j
    rw [List.getElem?_drop]
    match j with
    | 0 => exact e1
    | 1 => exact e2
    | k + 2 => rw [List.getElem?_eq_none (by omega)]; rfl
  show cs = bk m ++ [.int .i64 u, .bool g]
  rw [← hm, ← hd, List.take_append_drop]
set_option maxRecDepth 100000 in
theorem read_ring {fuel : Nat} {cs : List Value} {y : DataW H × List MemPlace} (h : DataW.trod enc Try.prog W base spare held fuel 84 cs = some y) :
    ∃ x : RingM, cs = x.enc ∧ (Las (P0 W) 34 (.slice x.X x.vers.length x.c) x.vers.length (x.vers.flatMap Ver.enc) ∧ x.vers.length ≤ 9223372036854775807) := by
  have hl := read_len Try.underlying84 h
  rw [cl84] at hl
  obtain ⟨v0, n0, z0, e0, t0⟩ := read_fld Try.underlying84 (i := 0) (o := 0) rfl rfl cl4 (by rw [cl84]; omega) h
  obtain ⟨v1, n1, z1, e1, t1⟩ := read_fld Try.underlying84 (i := 1) (o := 1) rfl rfl cl82 (by rw [cl84]; omega) h
  obtain ⟨o, rfl⟩ := read_bool Try.underlying4 t0
  obtain ⟨X, l, c, rfl, h1, h2, h3, _⟩ := read_slice (Q := fun _ => True) Try.underlying82 cl86 (by omega) Ver.enc_len (fun cs n z hz => by obtain ⟨x, hx⟩ := read_ver hz; exact ⟨x, hx, trivial⟩) t1
  refine ⟨⟨o, X, c, l⟩, ?_, h3, ?_⟩
  · clear h t0 t1 h3
    match cs, hl, e0, e1 with
    | [a, b], _, e0, e1 => simp at e0 e1; rw [e0, e1]; rfl
  · simp only [maxLen] at h2; show l.length ≤ _; omega
set_option maxRecDepth 100000 in
theorem open_rings {v : Value} {d : DataW H} {ps : List MemPlace} (hv : Value.okWide Try.prog W r b0 71 v) (h : DataW.Trod enc Try.prog W base spare held 71 v d ps) :
    ∃ (X : Option Addr) (l : List RingM) (c : Nat), v = .slice X l.length c ∧ l.length ≤ c ∧ c ≤ maxLen ∧ Las (P0 W) 2 v l.length (l.flatMap RingM.enc) ∧ ∀ r ∈ l, (Las (P0 W) 34 (.slice r.X r.vers.length r.c) r.vers.length (r.vers.flatMap Ver.enc) ∧ r.vers.length ≤ 9223372036854775807) := by
  obtain ⟨a, n, c, rfl⟩ := okWide_slice Try.underlying71 hv
  obtain ⟨fuel, hf⟩ := h
  exact read_slice Try.underlying71 cl84 (by omega) RingM.enc_len (fun cs n z hz => read_ring hz) hf
end
theorem of_calls {X : Option Addr} {c : Nat} {l : List RingM} {W : World} (hc : l.length ≤ c) (hm : c ≤ maxLen) (hL : Las (P0 W) 2 (.slice X l.length c) l.length (l.flatMap RingM.enc)) (hK : ∀ r ∈ l, (Las (P0 W) 34 (.slice r.X r.vers.length r.c) r.vers.length (r.vers.flatMap Ver.enc) ∧ r.vers.length ≤ 9223372036854775807)) :
    Calls Try.prog 14 #[.slice X l.length c] W fun e w => e = .returned (.bool true) ∧ Below W.heap.size W w :=
  Calls.mono (of_walk hc hm hL (fun r hr => (hK r hr).1) (fun r hr => (hK r hr).2) (st0 W)) fun e w ⟨he, hs⟩ => ⟨he, below_of (P0 W).le_refl hs⟩

set_option maxRecDepth 100000 in
theorem of_lifted (os : Os) (started : os.Started) (H : Type) (enc : TypeId × Value → H) :
    ReturnsInHanded {} Try.checked os 14 .any (fun w args => Rows.keyringOfSpec.pre6 enc Try.prog Try.f14 Rows.keyringOfRow.domain false w args) (Rows.keyringOfSpec.post enc Try.prog Try.f14 false true false false) := by
  refine returnsInHanded_of_change (C := Try.checked) own started (by kernel_rfl) Try.func14
    (ChangeSpec.witness6 (enc := enc) (C := Try.checked) false ⟨#[], #[.slice none 0 0], []⟩ 8 (by kernel_rfl) (by kernel_rfl) (by kernel_rfl) (by kernel_rfl)) ?_
  intro W base args ds gs before hval0 hW hcnd hsz
  have hval : ∀ (j : Nat) t v, Try.f14.params[j]? = some t → args[j]? = some v → Value.okWide Try.prog W .any base t v := hval0
  have hW' := hW
  obtain ⟨p, q, hA0, hV, rfl, hfz, hnd⟩ := hW
  have hA : DataW.TrodAll enc Try.prog W 0 (fun _ => true) true Try.f14.params.toList args.toList ds p := hA0
  rw [Try.params14] at hA hval
  obtain ⟨v0, vs0, d0, ds0, p0, q0, hargs, rfl, rfl, h0, r0⟩ := trodAll_cons hA
  obtain ⟨rfl, rfl, rfl⟩ := trodAll_nil r0
  obtain rfl : args = #[v0] := by cases args; simp_all
  obtain ⟨rfl, rfl⟩ := trodVars_none hV
  have k0 := h0
  have lt0 : ∀ x ∈ p0, x.block < W.heap.size := by obtain ⟨m, hm⟩ := k0; exact DataW.trod_lt m _ _ _ hm
  obtain ⟨X0, l0, c0, rfl, hlc0, hcm0, hL0, hK0⟩ := open_rings (hval 0 71 v0 rfl rfl) h0
  clear hA0 hval0
  refine (of_calls hlc0 hcm0 hL0 hK0).mono fun e W' ⟨he, bel⟩ => ?_
  subst he
  exact ⟨_, rfl, _, _, _, [], _, [], hW', trodAll_mk1 (shut_bool Try.underlying4 _), (trodAll_cons_mk (Below.trod laidOut (by kernel_rfl) (of_decide_eq_true (by kernel_rfl)) k0 bel lt0) trodAll_mk0), rfl, bel.frame _, fun h => by cases h⟩

theorem of_over : Rows.keyringOfRow.holds Try.pinned (OpenSpec.ofChange Rows.keyringOfSpec) :=
  OpenClaim.holds_of_wide 14 Try.f14 rfl rfl rfl rfl rfl rfl rfl ⟨rfl, rfl, rfl, rfl, rfl⟩ rfl rfl rfl rfl rfl (by kernel_rfl) Try.func14 (by kernel_rfl)
    (of_decide_eq_true (by kernel_rfl)) (by unfold Func.isWrapper; first | (rw [if_pos (by decide +kernel)]; kernel_rfl) | (rw [if_neg (by decide +kernel)]; exact ⟨rfl, rfl⟩))
    (fun os started H enc _ => of_lifted os started H enc)
theorem of_proved : Rows.KeyringOfSaid := of_over
#print axioms of_proved
end Go.Proofs.Ytdlcjoonhojpfaa
