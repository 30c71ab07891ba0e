/- Rows of ints: held, and told. -/
import Derived.Test.YtjagffnbobnofaaSK
namespace Go.Q18
open Go.RowKit Go.SL
set_option linter.unusedVariables false
set_option linter.unusedSimpArgs false
def ienc (n : Int) : List Value := [.int .i64 n]
theorem ienc_len (n : Int) : (ienc n).length = 1 := rfl
theorem ienc_ones (l : List Int) : ∀ u ∈ l.flatMap ienc, u.oneCell' = true := by
  intro u hu
  obtain ⟨a, _, h⟩ := List.mem_flatMap.1 hu
  rw [List.mem_singleton.1 h]; rfl
theorem ienc_map (l : List Int) : l.map (Value.int .i64) = l.flatMap ienc := by
  induction l with
  | nil => rfl
  | cons a l ih => rw [List.map_cons, List.flatMap_cons, ih]; rfl
theorem ienc_flen (l : List Int) : (l.flatMap ienc).length = l.length := by rw [flat_len ienc_len, Nat.mul_one]
theorem ienc_take (l : List Int) (k : Nat) : (l.flatMap ienc).take k = (l.take k).flatMap ienc := by rw [← ienc_map, ← ienc_map, List.map_take]
theorem ienc_drop (l : List Int) (k : Nat) : (l.flatMap ienc).drop k = (l.drop k).flatMap ienc := by rw [← ienc_map, ← ienc_map, List.map_drop]
def I64 (n : Int) : Prop := -9223372036854775808 ≤ n ∧ n ≤ 9223372036854775807
def Fit (l : List Int) : Prop := ∀ n ∈ l, I64 n
/-- an assertion that tells a row of ints -/
def TI (p : Pers) (A : Assn) (v : Value) (zs : List Int) : Prop := ∀ w H, St p w (A :: H) → Src w 1 v zs.length (zs.flatMap ienc)
section
variable {p : Pers} {w : World} {H : List Assn} {A : Assn} {X : Option Addr} {c : Nat} {zs : List Int} {v : Value}
theorem src_place {sz n : Nat} {xs : List Value} (h : ∀ w H, St p w (A :: H) → Src w sz (.slice X n c) n xs) (s : St p w (A :: H)) (h0 : 0 < n) : ∃ b o, X = some ⟨b, o, none⟩ ∧ ∀ {w H}, St p w (A :: H) → ∀ j u, xs[j]? = some u → w.cell? ⟨b, o + j, none⟩ = some u := by
  obtain ⟨_, X1, c1, he, _, h1 | ⟨b, o, hX, _⟩⟩ := h _ _ s
  · omega
  · cases he
    refine ⟨b, o, hX, fun {w H} s2 => ?_⟩
    obtain ⟨_, X2, c2, he2, _, h2 | ⟨b2, o2, hX2, hcell⟩⟩ := h _ _ s2
    · omega
    · cases he2
      rw [hX] at hX2; cases hX2
      exact hcell
theorem TI.place (hA : TI p A (.slice X zs.length c) zs) (s : St p w (A :: H)) (h0 : 0 < zs.length) : ∃ b o, X = some ⟨b, o, none⟩ ∧ ∀ {w H}, St p w (A :: H) → ∀ j u, (zs.flatMap ienc)[j]? = some u → w.cell? ⟨b, o + j, none⟩ = some u :=
  src_place hA s h0
theorem TI.shape (hA : TI p A v zs) (s : St p w (A :: H)) : ∃ X c, v = .slice X zs.length c ∧ zs.length ≤ c := by
  obtain ⟨_, X, c, he, hc, _⟩ := hA _ _ s
  exact ⟨X, c, he, hc⟩
theorem TI.take (k : Nat) (hA : TI p A (.slice X zs.length c) zs) (hk : k ≤ zs.length) : TI p A (.slice X k c) (zs.take k) := fun w H s => by
  have h3 := (hA w H s).take hk
  rw [Nat.mul_one, ienc_take] at h3
  have hl : (zs.take k).length = k := by rw [List.length_take]; omega
  rw [hl]; exact h3
theorem own_TI {n : Nat} (hn : n = zs.length) : TI p (Own 3 1 v n (zs.flatMap ienc)) v zs := fun w H s => by
  have := Own.src s
  rwa [hn] at this
theorem las_TI {n : Nat} (hn : n = zs.length) (h : Las p 1 v n (zs.map (Value.int .i64))) : TI p Emp v zs := fun w H s => by
  have := h.src s
  rwa [hn, ienc_map] at this
end
/-! ### what the functions tell -/
def okFrom : Int → List Int → Bool
  | _, [] => true
  | last, n :: r => (decide (last < n) && decide (n ≤ 7)) && okFrom n r
def checkI (zs : List Int) : Int := if okFrom 0 zs = true ∧ zs ≠ [] then 0 else 192
theorem okFrom_lt : ∀ {zs : List Int} {last : Int}, okFrom last zs = true → ∀ n ∈ zs, last < n ∧ n ≤ 7
  | [], _, _, n, h => by cases h
  | m :: r, last, h, n, hn => by
    simp only [okFrom, Bool.and_eq_true, decide_eq_true_eq] at h
    obtain ⟨⟨h1, h2⟩, h3⟩ := h
    rcases List.mem_cons.1 hn with rfl | h4
    · exact ⟨h1, h2⟩
    · have := okFrom_lt h3 n h4; omega
theorem okFrom_len : ∀ {zs : List Int} {last : Int}, okFrom last zs = true → last ≤ 7 → (zs.length : Int) ≤ 7 - last
  | [], _, _, h => by simp; omega
  | m :: r, last, h, _ => by
    simp only [okFrom, Bool.and_eq_true, decide_eq_true_eq] at h
    obtain ⟨⟨h1, h2⟩, h3⟩ := h
    have := okFrom_len h3 h2
    simp only [List.length_cons]; omega
theorem okFrom_weak : ∀ {zs : List Int} {a b : Int}, okFrom b zs = true → a ≤ b → okFrom a zs = true
  | [], _, _, _, _ => rfl
  | m :: r, a, b, h, hab => by
    simp only [okFrom, Bool.and_eq_true, decide_eq_true_eq] at h ⊢
    exact ⟨⟨by omega, h.1.2⟩, h.2⟩
/-- the rest behind j, from what stands ahead of it -/
def prevOf (zs : List Int) (j : Nat) : Int := if j = 0 then 0 else zs.getD (j - 1) 0
theorem okFrom_step {zs : List Int} {j : Nat} {x : Int} (hx : zs[j]? = some x) (last : Int) : okFrom last (zs.drop j) = ((decide (last < x) && decide (x ≤ 7)) && okFrom x (zs.drop (j + 1))) := by
  obtain ⟨hj, he⟩ := List.getElem?_eq_some_iff.1 hx
  rw [List.drop_eq_getElem_cons hj, he]; rfl
end Go.Q18
