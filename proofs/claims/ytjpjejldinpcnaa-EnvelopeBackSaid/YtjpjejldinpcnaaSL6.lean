/- From the readings of the arguments to what lasts. -/
import Derived.Test.YtjpjejldinpcnaaSL5
import Derived.Deep.Slices
import Derived.Lib.SmallJoins
import Derived.OpenShut
import Derived.ProofKit
namespace Go.SL
open Go.RowKit Go.ChangeShapes Go.Joins Go.Deep
set_option linter.unusedVariables false
set_option linter.unusedSimpArgs false

/-- all that is there when the call begins lasts -/
def P0 (W : World) : Pers := ⟨fun k => W.heap[k]?, W.os, W.tape, W.output⟩
theorem st0 (W : World) : St (P0 W) W [] := ⟨none0, rfl, disj_none0 _, fun k o h => by rw [uni_none0] at h; exact h, rfl, rfl, rfl⟩
theorem below_of {W w : World} {q : Pers} {H : List Assn} (l : (P0 W).le q) (s : St q w H) : Below W.heap.size W w := by
  have hb : ∀ k o, W.heap[k]? = some o → w.heap[k]? = some o := fun k o h => s.pers (l.h k o h)
  obtain ⟨h, _, _, _, h1, h2, h3⟩ := s
  refine ⟨h1.trans l.os, h2.trans l.tape, h3.trans l.output, ?_, fun k hk => ?_⟩
  · rcases Nat.eq_zero_or_pos W.heap.size with h0 | h0
    · omega
    · obtain ⟨o, ho⟩ : ∃ o, W.heap[W.heap.size - 1]? = some o := ⟨W.heap[W.heap.size - 1], by simp⟩
      have := (Array.getElem?_eq_some_iff.1 (hb _ _ ho)).1
      omega
  · obtain ⟨o, ho⟩ : ∃ o, W.heap[k]? = some o := ⟨W.heap[k], by simp [hk]⟩
    rw [ho, hb k o ho]
section
variable {H : Type} {enc : TypeId × Value → H} {P : Program} {W : World} {base : Nat} {spare : Nat → Bool} {held : Bool}
theorem cells_block {a : Addr} {v : Value} (h : W.cell? a = some v) : ∃ cur e fr, W.heap[a.block]? = some (.cells cur e fr) ∧ a.spot = none ∧ cur[a.off]? = some v := by
  unfold World.cell? at h
  split at h
  · rename_i c e f hb
    cases hs : a.spot with
    | none => rw [hs] at h; exact ⟨c, e, f, hb, rfl, by simpa using h⟩
    | some x => rw [hs] at h; simp at h
  · cases h
/-- elements whose cells stand in the world at the beginning -/
theorem las_of {sz m c : Nat} {X : Option Addr} {xs : List Value} (hl : xs.length = m * sz) (hc : m ≤ c) (hX : m = 0 ∨ ∃ a, X = some a ∧ ∀ j u, xs[j]? = some u → W.cell? (a.add j) = some u) (hz : m = 0 ∨ 0 < sz) : Las (P0 W) sz (.slice X m c) m xs := by
  refine ⟨hl, X, c, rfl, hc, ?_⟩
  rcases hX with h | ⟨a, rfl, hcell⟩
  · exact .inl h
  · rcases Nat.eq_zero_or_pos m with h0 | h0
    · exact .inl h0
    · right
      have hp : 0 < xs.length := by rw [hl]; exact Nat.mul_pos h0 (hz.resolve_left (by omega))
      obtain ⟨b, o, spot⟩ := a
      have h1 := hcell 0 xs[0] (by simp [hp])
      obtain ⟨cur, e, fr, hb, hs, _⟩ := cells_block h1
      have hadd : (⟨b, o, spot⟩ : Addr).add 0 = ⟨b, o, spot⟩ := by simp [Addr.add]
      rw [hadd] at hb hs
      have hs' : spot = none := hs
      subst hs'
      refine ⟨b, o, cur, e, fr, rfl, hb, fun j u hu => ?_⟩
      have h2 := hcell j u hu
      rw [add_lit, cell_of_row W b (o + j) cur e fr hb] at h2
      exact h2
theorem read_bytes {t e : TypeId} {fuel : Nat} {v : Value} {y : DataW H × List MemPlace} (ht : P.underlying t = some (.slice e)) (he : P.underlying e = some (.int .u8)) (hc : P.cellsOf e = 1) (h : DataW.trod enc P W base spare held fuel t [v] = some y) :
    ∃ (X : Option Addr) (ns : List Int) (c : Nat), v = .slice X ns.length c ∧ ns.length ≤ c ∧ c ≤ maxLen ∧ Las (P0 W) 1 v ns.length (bv ns) ∧ ∀ n ∈ ns, 0 ≤ n ∧ n ≤ 255 := by
  rcases open_ints ht he hc h with ⟨hcs, _⟩ | ⟨a, len, cap, zs, hcs, _, hl, hm, hz, _, hcell, hw⟩
  · cases hcs
    exact ⟨none, [], 0, rfl, Nat.le_refl _, by simp [maxLen], las_of (by simp [bv]) (Nat.le_refl _) (.inl rfl) (.inl rfl), by simp⟩
  · cases hcs
    have hlz : (zs.take len).length = len := by rw [List.length_take, hz]; split <;> omega
    refine ⟨some a, zs.take len, cap, by rw [hlz], by omega, hm, ?_, ?_⟩
    · rw [hlz]
      refine las_of (by rw [bv_length, hlz, Nat.mul_one]) hl (.inr ⟨a, rfl, fun j u hu => ?_⟩) (.inr (by omega))
      have hj : j < (bv (zs.take len)).length := (List.getElem?_eq_some_iff.1 hu).1
      rw [bv_length, hlz] at hj
      have hjz : j < zs.length := by rw [hz]; split <;> omega
      rw [hcell j hjz]
      simp [bv, List.getElem?_take, hj, hjz] at hu
      rw [← hu]; simp [List.getD, hjz]
    · intro n hn
      have := hw n (List.mem_of_mem_take hn)
      exact bounds_u8 this
theorem read_ints {t e : TypeId} {fuel : Nat} {v : Value} {y : DataW H × List MemPlace} (ht : P.underlying t = some (.slice e)) (he : P.underlying e = some (.int .i64)) (hc : P.cellsOf e = 1) (h : DataW.trod enc P W base spare held fuel t [v] = some y) :
    ∃ (X : Option Addr) (ns : List Int) (c : Nat), v = .slice X ns.length c ∧ ns.length ≤ c ∧ c ≤ maxLen ∧ Las (P0 W) 1 v ns.length (ns.map (Value.int .i64)) ∧ ∀ n ∈ ns, -9223372036854775808 ≤ n ∧ n ≤ 9223372036854775807 := by
  rcases open_ints ht he hc h with ⟨hcs, _⟩ | ⟨a, len, cap, zs, hcs, _, hl, hm, hz, _, hcell, hw⟩
  · cases hcs
    exact ⟨none, [], 0, rfl, Nat.le_refl _, by simp [maxLen], las_of (by simp) (Nat.le_refl _) (.inl rfl) (.inl rfl), by simp⟩
  · cases hcs
    have hlz : (zs.take len).length = len := by rw [List.length_take, hz]; split <;> omega
    refine ⟨some a, zs.take len, cap, by rw [hlz], by omega, hm, ?_, ?_⟩
    · rw [hlz]
      refine las_of (by rw [List.length_map, hlz, Nat.mul_one]) hl (.inr ⟨a, rfl, fun j u hu => ?_⟩) (.inr (by omega))
      have hj : j < ((zs.take len).map (Value.int .i64)).length := (List.getElem?_eq_some_iff.1 hu).1
      rw [List.length_map, hlz] at hj
      have hjz : j < zs.length := by rw [hz]; split <;> omega
      rw [hcell j hjz]
      simp [List.getElem?_take, hj, hjz] at hu
      rw [← hu]; simp [List.getD, hjz]
    · intro n hn
      have := hw n (List.mem_of_mem_take hn)
      exact bounds_i64 this
/-- a slice of elements that each read -/
theorem read_slice {α : Type} {enc' : α → List Value} {Q : α → Prop} {sz : Nat} {t e : TypeId} {fuel : Nat} {v : Value} {y : DataW H × List MemPlace} (ht : P.underlying t = some (.slice e)) (hc : P.cellsOf e = sz) (hz : 0 < sz) (hsz : ∀ a, (enc' a).length = sz)
    (hd : ∀ cs n z, DataW.trod enc P W base spare held n e cs = some z → ∃ a, cs = enc' a ∧ Q a) (h : DataW.trod enc P W base spare held fuel t [v] = some y) :
    ∃ (X : Option Addr) (xs : List α) (c : Nat), v = .slice X xs.length c ∧ xs.length ≤ c ∧ c ≤ maxLen ∧ Las (P0 W) sz v xs.length (xs.flatMap enc') ∧ ∀ a ∈ xs, Q a := by
  rcases open_slice ht h with ⟨hcs, _⟩ | ⟨a, len, cap, m, n, D, Pl, hcs, _, hl, hm, hmm, _, hx⟩
  · cases hcs
    exact ⟨none, [], 0, rfl, Nat.le_refl _, by simp [maxLen], las_of (by simp) (Nat.le_refl _) (.inl rfl) (.inl rfl), by simp⟩
  · cases hcs
    have hlm : len ≤ m := by rw [hmm]; split <;> omega
    rw [hc] at hx
    obtain ⟨V, hV⟩ : ∃ V : Fin len → α, ∀ i : Fin len, W.cells? base (a.add (i.1 * sz)) sz = some (enc' (V i)) ∧ Q (V i) := by
      have : ∀ i : Fin len, ∃ x : α, W.cells? base (a.add (i.1 * sz)) sz = some (enc' x) ∧ Q x := fun i => by
        obtain ⟨cs', h1, h2⟩ := hx i.1 (by omega)
        obtain ⟨x, rfl, hq⟩ := hd _ _ _ h2
        exact ⟨x, h1, hq⟩
      exact ⟨fun i => (this i).choose, fun i => (this i).choose_spec⟩
    have hlen : (List.ofFn V).length = len := by simp
    refine ⟨some a, List.ofFn V, cap, by rw [hlen], by omega, hm, ?_, ?_⟩
    · rw [hlen]
      refine las_of (by rw [flat_len hsz, hlen]) hl (.inr ⟨a, rfl, fun j u hu => ?_⟩) (.inr hz)
      have hj : j < ((List.ofFn V).flatMap enc').length := (List.getElem?_eq_some_iff.1 hu).1
      rw [flat_len hsz, hlen] at hj
      have hi : j / sz < len := Nat.div_lt_of_lt_mul (by rw [Nat.mul_comm]; exact hj)
      obtain ⟨h1, _⟩ := hV ⟨j / sz, hi⟩
      have hr : j % sz < (enc' (V ⟨j / sz, hi⟩)).length := by rw [hsz]; exact Nat.mod_lt _ hz
      have h3 := flat_get (sz := sz) hsz (l := List.ofFn V) (i := j / sz) (a := V ⟨j / sz, hi⟩) (by simp [hi]) (List.getElem?_eq_getElem hr)
      have hdm : j / sz * sz + j % sz = j := by rw [Nat.mul_comm]; exact Nat.div_add_mod j sz
      rw [hdm, hu] at h3
      obtain ⟨_, hl2, h2⟩ := World.cells?_some h1
      have h4 := h2 (j % sz) (by rw [hsz] at hr; exact hr)
      rw [Addr.add_add, hdm, List.getElem?_eq_getElem hr, ← h3] at h4
      exact h4
    · intro x hx
      obtain ⟨i, rfl⟩ := List.mem_ofFn.1 hx
      exact (hV i).2
theorem read_int {t : TypeId} {k : IntKind} {fuel : Nat} {v : Value} {y : DataW H × List MemPlace} (ht : P.underlying t = some (.int k)) (h : DataW.trod enc P W base spare held fuel t [v] = some y) : ∃ n, v = .int k n ∧ (Lit.int k n).wf = true := by
  obtain ⟨n, hcs, _, hw⟩ := DataW.trod_int ht h
  cases hcs; exact ⟨n, rfl, hw⟩
theorem wf_i64 {n : Int} (h : (Lit.int .i64 n).wf = true) : -9223372036854775808 ≤ n ∧ n ≤ 9223372036854775807 := by
  exact bounds_i64 h
/-- a field of one cell -/
theorem read_fld {t : TypeId} {fs : Array Field} {f : Field} {i o : Nat} {fuel : Nat} {cs : List Value} {y : DataW H × List MemPlace} (ht : P.underlying t = some (.struct fs)) (hf : fs[i]? = some f) (ho : f.offset = o) (hc : P.cellsOf f.type = 1) (hlt : o < P.cellsOf t)
    (h : DataW.trod enc P W base spare held fuel t cs = some y) : ∃ v n z, cs[o]? = some v ∧ DataW.trod enc P W base spare held n f.type [v] = some z := by
  obtain ⟨xs, n, _, _, hl, hlen, hx⟩ := DataW.trod_struct ht h
  have h1 := hx i f hf
  rw [hc, ho] at h1
  have hoc : o < cs.length := by rw [hl]; exact hlt
  have h2 : (cs.drop o).take 1 = [cs[o]] := by
    rw [List.drop_eq_getElem_cons hoc]; rfl
  rw [h2] at h1
  have hi : i < xs.length := by rw [hlen]; exact (Array.getElem?_eq_some_iff.1 hf).1
  exact ⟨cs[o], n, xs[i], by simp [hoc], by rw [h1]; simp [hi]⟩
/-- a field that is a struct -/
theorem read_sub {t : TypeId} {fs : Array Field} {f : Field} {i : Nat} {fuel : Nat} {cs : List Value} {y : DataW H × List MemPlace} (ht : P.underlying t = some (.struct fs)) (hf : fs[i]? = some f)
    (h : DataW.trod enc P W base spare held fuel t cs = some y) : ∃ n z, DataW.trod enc P W base spare held n f.type ((cs.drop f.offset).take (P.cellsOf f.type)) = some z := by
  obtain ⟨xs, n, _, _, hl, hlen, hx⟩ := DataW.trod_struct ht h
  have hi : i < xs.length := by rw [hlen]; exact (Array.getElem?_eq_some_iff.1 hf).1
  exact ⟨n, xs[i], by rw [hx i f hf]; simp [hi]⟩
theorem read_len {t : TypeId} {fs : Array Field} {fuel : Nat} {cs : List Value} {y : DataW H × List MemPlace} (ht : P.underlying t = some (.struct fs)) (h : DataW.trod enc P W base spare held fuel t cs = some y) : cs.length = P.cellsOf t := by
  obtain ⟨xs, n, _, _, hl, _⟩ := DataW.trod_struct ht h
  exact hl
end
end Go.SL
