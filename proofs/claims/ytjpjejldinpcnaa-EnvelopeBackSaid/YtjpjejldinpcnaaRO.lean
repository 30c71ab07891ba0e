/- What a law is handed: bytes, rows of bytes, numbers. -/
import Derived.Test.YtjpjejldinpcnaaAW
import Derived.Test.YtjpjejldinpcnaaSL6
import Derived.ChangeOld
namespace Go.SL
open Go.ChangeShapes Go.WideShapes Go.ChangeAt Go.RowKit
set_option linter.unusedVariables false
set_option linter.unusedSimpArgs false
theorem okWide_arr {P : Program} {w : World} {r : Reach} {base : Nat} {t e : TypeId} {n : Nat} {v : Value} (ht : P.underlying t = some (.array n e)) (h : Value.okWide P w r base t v) : ∃ cs, v = .agg cs ∧ cs.size = P.cellsOf t := by
  simp only [Value.okWide, ht] at h
  obtain ⟨cs, h1, h2, _⟩ := h
  exact ⟨cs, h1, h2⟩
def AllB (cs : List Value) : Prop := ∀ (j : Nat) (v : Value), cs[j]? = some v → ∃ x : BitVec 8, v = bu8 x
theorem AllB.list {cs : List Value} (h : AllB cs) : ∃ l : List (BitVec 8), cs = l.map bu8 := by
  induction cs with
  | nil => exact ⟨[], rfl⟩
  | cons v cs ih =>
    obtain ⟨x, rfl⟩ := h 0 v rfl
    obtain ⟨l, rfl⟩ := ih (fun j u hu => h (j + 1) u (by simpa using hu))
    exact ⟨x :: l, rfl⟩
theorem bu8_of {n : Int} (h : 0 ≤ n ∧ n ≤ 255) : Value.int .u8 n = bu8 (BitVec.ofInt 8 n) := by
  unfold bu8
  congr 1
  rw [BitVec.toNat_ofInt]
  show n = ((n % 256).toNat : Int)
  omega
theorem bv_bu8 {ns : List Int} (h : ∀ n ∈ ns, 0 ≤ n ∧ n ≤ 255) : bv ns = (ns.map (BitVec.ofInt 8)).map bu8 := by
  rw [List.map_map]
  unfold bv
  exact List.map_congr_left fun n hn => bu8_of (h n hn)
section
variable {H : Type} {enc : TypeId × Value → H} {P : Program} {W : World} {base : Nat} {spare : Nat → Bool} {held : Bool} {r : Reach} {b0 : Nat}
theorem read_u8arr {N t e : Nat} {fuel : Nat} {cs : List Value} {y : DataW H × List MemPlace} (ht : P.underlying t = some (.array N e)) (he : P.underlying e = some (.int .u8)) (hc : P.cellsOf e = 1) (hcl : P.cellsOf t = N)
    (h : DataW.trod enc P W base spare held fuel t cs = some y) : cs.length = N ∧ AllB cs := by
  obtain ⟨xs, m, _, _, hl, hx, h1⟩ := DataW.trod_array ht h
  rw [hcl] at hl
  refine ⟨hl, fun j v hv => ?_⟩
  have hj : j < cs.length := (List.getElem?_eq_some_iff.1 hv).1
  have t := h1 j (by omega)
  rw [hc] at t
  have hd : (cs.drop (j * 1)).take 1 = [v] := by
    rw [Nat.mul_one, List.drop_eq_getElem_cons hj]
    rw [List.getElem?_eq_getElem hj] at hv
    simp only [Option.some.injEq] at hv
    simp [hv]
  rw [hd, List.getElem?_eq_getElem (by omega)] at t
  obtain ⟨n, rfl, hw⟩ := read_int he t
  exact ⟨_, bu8_of (bounds_u8 hw)⟩
theorem read_rows8 {M N t a e : Nat} {fuel : Nat} {cs : List Value} {y : DataW H × List MemPlace} (ht : P.underlying t = some (.array M a)) (ha : P.underlying a = some (.array N e)) (he : P.underlying e = some (.int .u8)) (hc : P.cellsOf e = 1) (hca : P.cellsOf a = N) (hN : 0 < N) (hcl : P.cellsOf t = M * N)
    (h : DataW.trod enc P W base spare held fuel t cs = some y) : cs.length = M * N ∧ AllB cs := by
  obtain ⟨xs, m, _, _, hl, hx, h1⟩ := DataW.trod_array ht h
  rw [hcl] at hl
  refine ⟨hl, fun j v hv => ?_⟩
  have hj : j < cs.length := (List.getElem?_eq_some_iff.1 hv).1
  have hi : j / N < M := Nat.div_lt_of_lt_mul (by rw [Nat.mul_comm, ← hl]; exact hj)
  have t := h1 (j / N) (by omega)
  rw [hca, List.getElem?_eq_getElem (by omega)] at t
  obtain ⟨_, hb⟩ := read_u8arr ha he hc hca t
  refine hb (j % N) v ?_
  have hm : j % N < N := Nat.mod_lt _ hN
  rw [List.getElem?_take, if_pos hm, List.getElem?_drop, Nat.mul_comm, Nat.div_add_mod]
  exact hv
theorem open_u8arr {N t e : Nat} {v : Value} {d : DataW H} {ps : List MemPlace} (ht : P.underlying t = some (.array N e)) (he : P.underlying e = some (.int .u8)) (hc : P.cellsOf e = 1) (hcl : P.cellsOf t = N)
    (hv : Value.okWide P W r b0 t v) (h : DataW.Trod enc P W base spare held t v d ps) : ∃ l : List (BitVec 8), l.length = N ∧ v = .agg (l.map bu8).toArray := by
  obtain ⟨cs, rfl, _⟩ := okWide_arr ht hv
  obtain ⟨fuel, hf⟩ := h
  obtain ⟨hl, hb⟩ := read_u8arr ht he hc hcl hf
  obtain ⟨l, hl2⟩ := hb.list
  have h2 : cs.toList = l.map bu8 := hl2
  refine ⟨l, ?_, ?_⟩
  · have : (l.map bu8).length = N := by rw [← hl2]; exact hl
    simpa using this
  · rw [← h2]
theorem open_rows8 {M N t a e : Nat} {v : Value} {d : DataW H} {ps : List MemPlace} (ht : P.underlying t = some (.array M a)) (ha : P.underlying a = some (.array N e)) (he : P.underlying e = some (.int .u8)) (hc : P.cellsOf e = 1) (hca : P.cellsOf a = N) (hN : 0 < N) (hcl : P.cellsOf t = M * N)
    (hv : Value.okWide P W r b0 t v) (h : DataW.Trod enc P W base spare held t v d ps) : ∃ l : List (BitVec 8), l.length = M * N ∧ v = .agg (l.map bu8).toArray := by
  obtain ⟨cs, rfl, _⟩ := okWide_arr ht hv
  obtain ⟨fuel, hf⟩ := h
  obtain ⟨hl, hb⟩ := read_rows8 ht ha he hc hca hN hcl hf
  obtain ⟨l, hl2⟩ := hb.list
  have h2 : cs.toList = l.map bu8 := hl2
  refine ⟨l, ?_, ?_⟩
  · have : (l.map bu8).length = M * N := by rw [← hl2]; exact hl
    simpa using this
  · rw [← h2]
theorem open_bytes8 {t e : Nat} {v : Value} {d : DataW H} {ps : List MemPlace} (ht : P.underlying t = some (.slice e)) (he : P.underlying e = some (.int .u8)) (hc : P.cellsOf e = 1)
    (hv : Value.okWide P W r b0 t v) (h : DataW.Trod enc P W base spare held t v d ps) : ∃ (X : Option Addr) (l : List (BitVec 8)) (c : Nat), v = .slice X l.length c ∧ l.length ≤ 9223372036854775807 ∧ ∀ w H, St (P0 W) w (Emp :: H) → Src w 1 (.slice X l.length c) l.length (l.map bu8) := by
  obtain ⟨a, n, c, rfl⟩ := okWide_slice ht hv
  obtain ⟨fuel, hf⟩ := h
  obtain ⟨X, ns, c', e1, h1, h2, h3, h4⟩ := read_bytes ht he hc hf
  rw [e1, bv_bu8 h4] at h3
  refine ⟨X, ns.map (BitVec.ofInt 8), c', by rw [List.length_map]; exact e1, by rw [List.length_map]; simp only [maxLen] at h2; omega, fun w H s => ?_⟩
  rw [List.length_map]
  exact Las.src h3 s
theorem open_rowslice8 {N t a e : Nat} {v : Value} {d : DataW H} {ps : List MemPlace} (ht : P.underlying t = some (.slice a)) (ha : P.underlying a = some (.array N e)) (he : P.underlying e = some (.int .u8)) (hc : P.cellsOf e = 1) (hca : P.cellsOf a = N) (hN : 0 < N)
    (hv : Value.okWide P W r b0 t v) (h : DataW.Trod enc P W base spare held t v d ps) : ∃ (X : Option Addr) (n : Nat) (l : List (BitVec 8)) (c : Nat), v = .slice X n c ∧ n ≤ 9223372036854775807 ∧ l.length = n * N ∧ ∀ w H, St (P0 W) w (Emp :: H) → Src w N (.slice X n c) n (l.map bu8) := by
  obtain ⟨x, n, c, rfl⟩ := okWide_slice ht hv
  obtain ⟨fuel, hf⟩ := h
  obtain ⟨X, xs, c', e1, h1, h2, h3, _⟩ := read_slice (α := {l : List (BitVec 8) // l.length = N}) (enc' := fun l => l.1.map bu8) (Q := fun _ => True) ht hca hN (fun l => by rw [List.length_map]; exact l.2) (fun cs n z hz => by
    obtain ⟨hl, hb⟩ := read_u8arr ha he hc hca hz
    obtain ⟨l, rfl⟩ := hb.list
    exact ⟨⟨l, by simpa using hl⟩, rfl, trivial⟩) hf
  rw [e1] at h3
  have hm : xs.flatMap (fun l => l.1.map bu8) = (xs.flatMap fun l => l.1).map bu8 := by rw [List.map_flatMap]
  refine ⟨X, xs.length, xs.flatMap (fun l => l.1), c', e1, by simp only [maxLen] at h2; omega, ?_, fun w H s => ?_⟩
  · have h5 := flat_len (f := fun l : {l : List (BitVec 8) // l.length = N} => l.1.map bu8) (sz := N) (fun l => by rw [List.length_map]; exact l.2) (l := xs)
    rw [hm, List.length_map] at h5; exact h5
  · rw [← hm]; exact Las.src h3 s
theorem open_i64s {t e : Nat} {v : Value} {d : DataW H} {ps : List MemPlace} (ht : P.underlying t = some (.array 2 e)) (he : P.underlying e = some (.int .i64)) (hc : P.cellsOf e = 1) (hcl : P.cellsOf t = 2)
    (hv : Value.okWide P W r b0 t v) (h : DataW.Trod enc P W base spare held t v d ps) : ∃ a b : Int, v = .agg ([a, b].map bi64).toArray ∧ (-9223372036854775808 ≤ a ∧ a ≤ 9223372036854775807) ∧ (-9223372036854775808 ≤ b ∧ b ≤ 9223372036854775807) := by
  obtain ⟨cs, rfl, _⟩ := okWide_arr ht hv
  obtain ⟨fuel, hf⟩ := h
  obtain ⟨xs, m, _, _, hl, hx, h1⟩ := DataW.trod_array ht hf
  have hl : cs.toList.length = 2 := by have h5 := hl; rw [hcl] at h5; exact h5
  have get : ∀ (j : Nat) (v : Value), cs.toList[j]? = some v → ∃ n, v = Value.int .i64 n ∧ (-9223372036854775808 ≤ n ∧ n ≤ 9223372036854775807) := by
    intro j v hv
    have hj : j < cs.toList.length := (List.getElem?_eq_some_iff.1 hv).1
    have t := h1 j (by omega)
    rw [hc] at t
    have hd : ((Value.agg cs).cells.toList.drop (j * 1)).take 1 = [v] := by
      show (cs.toList.drop (j * 1)).take 1 = [v]
      rw [Nat.mul_one, List.drop_eq_getElem_cons hj]
      rw [List.getElem?_eq_getElem hj] at hv
      simp only [Option.some.injEq] at hv
      simp [hv]
    rw [hd, List.getElem?_eq_getElem (by omega)] at t
    obtain ⟨n, rfl, hw⟩ := read_int he t
    exact ⟨n, rfl, wf_i64 hw⟩
  obtain ⟨a, l1, hl1⟩ := List.exists_cons_of_length_eq_add_one hl
  obtain ⟨b, l2, hl2⟩ := List.exists_cons_of_length_eq_add_one (show l1.length = 0 + 1 by rw [hl1] at hl; simpa using hl)
  have hl3 : l2 = [] := by
    rw [hl1, hl2] at hl; exact List.eq_nil_of_length_eq_zero (by simpa using hl)
  subst hl3; subst hl2
  obtain ⟨x, rfl, hx⟩ := get 0 a (by rw [hl1]; rfl)
  obtain ⟨y, rfl, hy⟩ := get 1 b (by rw [hl1]; rfl)
  refine ⟨x, y, ?_, hx, hy⟩
  have : cs = [Value.int .i64 x, Value.int .i64 y].toArray := by rw [← hl1]
  rw [this]; rfl
theorem open_int64 {t : Nat} {v : Value} {d : DataW H} {ps : List MemPlace} (ht : P.underlying t = some (.int .i64)) (hv : Value.okWide P W r b0 t v) (h : DataW.Trod enc P W base spare held t v d ps) : ∃ a : Int, v = .int .i64 a ∧ (-9223372036854775808 ≤ a ∧ a ≤ 9223372036854775807) := by
  obtain ⟨n, rfl⟩ := okWide_int ht hv
  obtain ⟨fuel, hf⟩ := h
  obtain ⟨k, e, w⟩ := read_int ht hf
  cases e
  exact ⟨n, rfl, wf_i64 w⟩
end
end Go.SL
