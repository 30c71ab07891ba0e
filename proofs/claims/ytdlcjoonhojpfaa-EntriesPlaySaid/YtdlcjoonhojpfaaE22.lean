/- The reference's log of entries, held; what both logs answer. -/
import Derived.Test.YtdlcjoonhojpfaaE18
import Derived.Test.YtdlcjoonhojpfaaE15
namespace Go.E17
open Go.RowKit Go.SL
set_option linter.unusedVariables false
set_option linter.unusedSimpArgs false
def RefB (p : Pers) (b : Nat) (i t : Int) (es : List Ent) : Assn := fun h => ∃ v, ((0 ≤ i ∧ i ≤ 1099511627776) ∧ es.length ≤ 1000000 ∧ EsOk p es) ∧ all [pt b (.cells #[.int .i64 i, .int .i64 t, v] 106), Own 58 4 v es.length (flat es)] h
section
variable {p q : Pers} {w : World} {R : List Assn} {b : Nat} {i t : Int} {es : List Ent}
theorem refOpen (s : St p w (RefB p b i t es :: R)) : ∃ X c, (0 ≤ i ∧ i ≤ 1099511627776) ∧ es.length ≤ 1000000 ∧ EsOk p es ∧ es.length ≤ c ∧ (0 < es.length → ∃ g, X = some ⟨g, 0, none⟩) ∧
    St p w (pt b (.cells #[.int .i64 i, .int .i64 t, .slice X es.length c] 106) :: Own 58 4 (.slice X es.length c) es.length (flat es) :: R) := by
  obtain ⟨v, s⟩ := St.ex (A := fun v h => ((0 ≤ i ∧ i ≤ 1099511627776) ∧ es.length ≤ 1000000 ∧ EsOk p es) ∧ all [pt b (.cells #[.int .i64 i, .int .i64 t, v] 106), Own 58 4 v es.length (flat es)] h) s
  obtain ⟨⟨h1, h2, h3⟩, s⟩ := St.iff (c := (0 ≤ i ∧ i ≤ 1099511627776) ∧ es.length ≤ 1000000 ∧ EsOk p es) s
  have s1 := s.split
  obtain ⟨X, c, rfl, hc, _, _, hX⟩ := (s1.take (.there .here)).shape
  exact ⟨X, c, h1, h2, h3, hc, hX, s1⟩
theorem refClose {v : Value} (h1 : 0 ≤ i ∧ i ≤ 1099511627776) (h2 : es.length ≤ 1000000) (h3 : EsOk p es) (s : St p w (pt b (.cells #[.int .i64 i, .int .i64 t, v] 106) :: Own 58 4 v es.length (flat es) :: R)) : St p w (RefB p b i t es :: R) :=
  (St.join (l := [pt b (.cells #[.int .i64 i, .int .i64 t, v] 106), Own 58 4 v es.length (flat es)]) s).weaken fun x hx => ⟨v, ⟨h1, h2, h3⟩, hx⟩
theorem refLe (l : p.le q) (s : St q w (RefB p b i t es :: R)) : St q w (RefB q b i t es :: R) :=
  s.weaken fun x ⟨v, ⟨h1, h2, h3⟩, hx⟩ => ⟨v, ⟨h1, h2, h3.le l⟩, hx⟩
end
def zeroE : Ent := ⟨0, 0, none, 0, [], none, 0, []⟩
theorem zeroE_ok {p : Pers} : EOk p zeroE := ⟨⟨rfl, none, 0, rfl, Nat.le_refl _, .inl rfl⟩, ⟨rfl, none, 0, rfl, Nat.le_refl _, .inl rfl⟩, by simp [zeroE], by simp [zeroE]⟩
def atX (i : Int) (es : List Ent) (k : Int) : Ent := if i < k ∧ k ≤ i + (es.length : Nat) then es.getD (k - (i + 1)).toNat zeroE else zeroE
def atE (i : Int) (es : List Ent) (k : Int) : Int := if i < k ∧ k ≤ i + (es.length : Nat) then 0 else 170
theorem atX_in {i k : Int} {es : List Ent} {x : Ent} (h : i < k ∧ k ≤ i + (es.length : Nat)) (hx : es[(k - (i + 1)).toNat]? = some x) : atX i es k = x := by
  unfold atX; rw [if_pos h]; simp [List.getD, hx]
theorem atX_out {i k : Int} {es : List Ent} (h : ¬ (i < k ∧ k ≤ i + (es.length : Nat))) : atX i es k = zeroE := by unfold atX; rw [if_neg h]
theorem atE_in {i k : Int} {es : List Ent} (h : i < k ∧ k ≤ i + (es.length : Nat)) : atE i es k = 0 := by unfold atE; rw [if_pos h]
theorem atE_out {i k : Int} {es : List Ent} (h : ¬ (i < k ∧ k ≤ i + (es.length : Nat))) : atE i es k = 170 := by unfold atE; rw [if_neg h]
theorem termT_atX {i t k : Int} {es : List Ent} (h : k ≠ i) : termT i t (ts es) k = (atX i es k).term := by
  by_cases hr : i < k ∧ k ≤ i + (es.length : Nat)
  · have hlt : (k - (i + 1)).toNat < es.length := by omega
    rw [termT_in hr.1 hr.2 (List.getElem?_eq_getElem hlt), atX_in hr (List.getElem?_eq_getElem hlt)]
  · rw [termT_out h hr, atX_out hr]; rfl
theorem termE_atE {i k : Int} {es : List Ent} (h : k ≠ i) : termE i (ts es) k = atE i es k := by
  by_cases hr : i < k ∧ k ≤ i + (es.length : Nat)
  · rw [termE_in hr.1 hr.2, atE_in hr]
  · rw [termE_out h hr, atE_out hr]
/-- what two logs that look alike answer looks alike -/
theorem atX_view {i k : Int} {es ys : List Ent} (h : vs es = vs ys) : (atX i es k).view = (atX i ys k).view := by
  have hl := vs_len h
  unfold atX
  rw [hl]
  split
  · rename_i hr
    have h1 : (k - (i + 1)).toNat < es.length := by omega
    have h2 : (k - (i + 1)).toNat < ys.length := by omega
    have h3 : (vs es)[(k - (i + 1)).toNat]? = (vs ys)[(k - (i + 1)).toNat]? := by rw [h]
    simp only [vs, List.getElem?_map, List.getElem?_eq_getElem h1, List.getElem?_eq_getElem h2, Option.map_some, Option.some.injEq] at h3
    simp [List.getD, h1, h2, h3]
  · rfl
theorem atE_len {i k : Int} {es ys : List Ent} (h : es.length = ys.length) : atE i es k = atE i ys k := by unfold atE; rw [h]
theorem atX_ok {p : Pers} {i k : Int} {es : List Ent} (h : EsOk p es) : EOk p (atX i es k) := by
  unfold atX
  split
  · rename_i hr
    have h1 : (k - (i + 1)).toNat < es.length := by omega
    simp only [List.getD, List.getElem?_eq_getElem h1, Option.getD_some]
    exact h _ (List.getElem_mem _)
  · exact zeroE_ok
end Go.E17
