/- What the keyring's laws are handed, read. -/
import Derived.Test.YtdlcjoonhojpfaaK13
import Derived.Test.YtdlcjoonhojpfaaRows
import Derived.ChangeOld
namespace Go.Proofs.Ytdlcjoonhojpfaa
open Go.ChangeShapes Go.WideShapes Go.ChangeAt Go.RowKit Go.SL Go.K13
set_option linter.unusedVariables false
set_option linter.unusedSimpArgs false
theorem cl3 : Try.prog.cellsOf 3 = 1 := by kernel_rfl
theorem cl4 : Try.prog.cellsOf 4 = 1 := by kernel_rfl
theorem cl5 : Try.prog.cellsOf 5 = 1 := by kernel_rfl
theorem cl74 : Try.prog.cellsOf 74 = 32 := by kernel_rfl
theorem cl76 : Try.prog.cellsOf 76 = 35 := by kernel_rfl
theorem cl86 : Try.prog.cellsOf 86 = 34 := by kernel_rfl
theorem cl84 : Try.prog.cellsOf 84 = 2 := by kernel_rfl
theorem cl82 : Try.prog.cellsOf 82 = 1 := by kernel_rfl
theorem cl89 : Try.prog.cellsOf 89 = 64 := by kernel_rfl
theorem okWide_arr {P : Program} {w : World} {r : Reach} {base : Nat} {t e : TypeId} {n : Nat} {v : Value} (ht : P.underlying t = some (.array n e)) (h : Value.okWide P w r base t v) : ∃ cs, v = .agg cs ∧ cs.size = P.cellsOf t := by
  simp only [Value.okWide, ht] at h
  obtain ⟨cs, h1, h2, _⟩ := h
  exact ⟨cs, h1, h2⟩
def toI : Value → Int
  | .int _ n => n
  | _ => 0
theorem bytes_of {cs : List Value} (h : ∀ (j : Nat) (v : Value), cs[j]? = some v → ∃ n, v = .int .u8 n) : cs = bv (cs.map toI) := by
  induction cs with
  | nil => rfl
  | cons v cs ih =>
    obtain ⟨n, rfl⟩ := h 0 v rfl
    have h2 := ih (fun j u hu => h (j + 1) u (by simpa using hu))
    simp only [bv, List.map_cons, toI] at h2 ⊢
    rw [← h2]
section
variable {H : Type} {enc : TypeId × Value → H} {W : World} {base : Nat} {spare : Nat → Bool} {held : Bool} {r : Reach} {b0 : Nat}
set_option maxRecDepth 100000 in
theorem read_key {fuel : Nat} {cs : List Value} {y : DataW H × List MemPlace} (h : DataW.trod enc Try.prog W base spare held fuel 74 cs = some y) : ∃ m : K32, cs = bk m := by
  obtain ⟨xs, m, _, _, hl, hx, h1⟩ := DataW.trod_array Try.underlying74 h
  rw [cl74] at hl
  have hb : cs = bv (cs.map toI) := bytes_of fun j v hv => by
    have hj : j < cs.length := (List.getElem?_eq_some_iff.1 hv).1
    have t := h1 j (by omega)
    rw [cl5] at t
    have hd : (cs.drop (j * 1)).take 1 = [v] := by
      rw [Nat.mul_one, List.drop_eq_getElem_cons hj]
      rw [List.getElem?_eq_getElem hj] at hv
      simp only [Option.some.injEq] at hv
      simp [hv]
    rw [hd, List.getElem?_eq_getElem (by omega)] at t
    obtain ⟨n, rfl, _⟩ := read_int Try.underlying5 t
    exact ⟨n, rfl⟩
  exact ⟨⟨cs.map toI, by rw [List.length_map]; exact hl⟩, hb⟩
set_option maxRecDepth 100000 in
theorem read_op {fuel : Nat} {cs : List Value} {y : DataW H × List MemPlace} (h : DataW.trod enc Try.prog W base spare held fuel 76 cs = some y) : ∃ o : OpM, cs = o.enc ∧ o.Ok := by
  have hl := read_len Try.underlying76 h
  rw [cl76] at hl
  obtain ⟨v0, n0, z0, e0, t0⟩ := read_fld Try.underlying76 (i := 0) (o := 0) rfl rfl cl3 (by rw [cl76]; omega) h
  obtain ⟨v1, n1, z1, e1, t1⟩ := read_fld Try.underlying76 (i := 1) (o := 1) rfl rfl cl3 (by rw [cl76]; omega) h
  obtain ⟨v2, n2, z2, e2, t2⟩ := read_fld Try.underlying76 (i := 2) (o := 2) rfl rfl cl3 (by rw [cl76]; omega) h
  obtain ⟨n3, z3, t3⟩ := read_sub Try.underlying76 (i := 3) rfl h
  obtain ⟨k0, rfl, w0⟩ := read_int Try.underlying3 t0
  obtain ⟨k1, rfl, w1⟩ := read_int Try.underlying3 t1
  obtain ⟨k2, rfl, w2⟩ := read_int Try.underlying3 t2
  obtain ⟨m, hm0⟩ := read_key t3
  have hm : (cs.drop 3).take (Try.prog.cellsOf 74) = bk m := hm0
  rw [cl74] at hm
  clear hm0
  have r0 := wf_i64 w0
  have r1 := wf_i64 w1
  have r2 := wf_i64 w2
  clear h t0 t1 t2 t3
  refine ⟨⟨k0, k1, k2, m⟩, ?_, r0, r1, r2⟩
  obtain ⟨a0, l0, rfl⟩ := List.exists_cons_of_length_eq_add_one hl
  obtain ⟨a1, l1, rfl⟩ := List.exists_cons_of_length_eq_add_one (Nat.succ.inj hl)
  obtain ⟨a2, l2, rfl⟩ := List.exists_cons_of_length_eq_add_one (Nat.succ.inj (Nat.succ.inj hl))
  have hl2 : l2.length = 32 := by simp only [List.length_cons] at hl; omega
  have hm' : l2 = bk m := by
    have : (List.drop 3 (a0 :: a1 :: a2 :: l2)).take 32 = bk m := hm
    simpa [List.take_of_length_le (show l2.length ≤ 32 by omega)] using this
  simp only [List.getElem?_cons_zero, List.getElem?_cons_succ, Option.some.injEq] at e0 e1 e2
  subst e0; subst e1; subst e2; subst hm'
  rfl
set_option maxRecDepth 100000 in
theorem open_ops {v : Value} {d : DataW H} {ps : List MemPlace} (hv : Value.okWide Try.prog W r b0 68 v) (h : DataW.Trod enc Try.prog W base spare held 68 v d ps) :
    ∃ (X : Option Addr) (l : List OpM) (c : Nat), v = .slice X l.length c ∧ l.length ≤ c ∧ c ≤ maxLen ∧ Las (P0 W) 35 v l.length (l.flatMap OpM.enc) ∧ ∀ o ∈ l, o.Ok := by
  obtain ⟨a, n, c, rfl⟩ := okWide_slice Try.underlying68 hv
  obtain ⟨fuel, hf⟩ := h
  exact read_slice Try.underlying68 cl76 (by omega) OpM.enc_len (fun cs n z hz => read_op hz) hf
set_option maxRecDepth 100000 in
theorem open_key {v : Value} {d : DataW H} {ps : List MemPlace} (hv : Value.okWide Try.prog W r b0 74 v) (h : DataW.Trod enc Try.prog W base spare held 74 v d ps) : ∃ m : K32, v = .agg (bk m).toArray := by
  obtain ⟨cs, rfl, _⟩ := okWide_arr Try.underlying74 hv
  obtain ⟨fuel, hf⟩ := h
  obtain ⟨m, hcs⟩ := read_key hf
  refine ⟨m, ?_⟩
  have h2 : cs.toList = bk m := hcs
  rw [← h2]
set_option maxRecDepth 100000 in
theorem open_keys {v : Value} {d : DataW H} {ps : List MemPlace} (hv : Value.okWide Try.prog W r b0 89 v) (h : DataW.Trod enc Try.prog W base spare held 89 v d ps) : ∃ m0 m1 : K32, v = .agg (bk m0 ++ bk m1).toArray := by
  obtain ⟨cs, rfl, _⟩ := okWide_arr Try.underlying89 hv
  obtain ⟨fuel, hf⟩ := h
  obtain ⟨xs, m, _, _, hl, hx, h1⟩ := DataW.trod_array Try.underlying89 hf
  have t0 := h1 0 (by omega)
  have t1 := h1 1 (by omega)
  rw [cl74, List.getElem?_eq_getElem (by omega)] at t0 t1
  obtain ⟨m0, e0⟩ := read_key t0
  obtain ⟨m1, e1⟩ := read_key t1
  rw [cl89] at hl
  refine ⟨m0, m1, ?_⟩
  have hl' : cs.toList.length = 64 := hl
  have h2 : cs.toList = bk m0 ++ bk m1 := by
    have a0 : cs.toList.take 32 = bk m0 := e0
    have a1 : cs.toList.drop 32 = bk m1 := by
      have : (cs.toList.drop 32).take 32 = bk m1 := e1
      rwa [List.take_of_length_le (by rw [List.length_drop]; omega)] at this
    rw [← a0, ← a1, List.take_append_drop]
  rw [← h2]
set_option maxRecDepth 100000 in
theorem open_i64 {v : Value} {d : DataW H} {ps : List MemPlace} (hv : Value.okWide Try.prog W r b0 3 v) (h : DataW.Trod enc Try.prog W base spare held 3 v d ps) : ∃ a : Int, v = .int .i64 a ∧ (-9223372036854775808 ≤ a ∧ a ≤ 9223372036854775807) := by
  obtain ⟨n, rfl⟩ := okWide_int Try.underlying3 hv
  obtain ⟨fuel, hf⟩ := h
  obtain ⟨k, e, w⟩ := read_int Try.underlying3 hf
  cases e
  exact ⟨n, rfl, wf_i64 w⟩
end
theorem own : ownKnob Try.prog.godebug = none := by kernel_rfl
theorem laidOut : laidOutB Try.prog = true := by kernel_rfl
end Go.Proofs.Ytdlcjoonhojpfaa
