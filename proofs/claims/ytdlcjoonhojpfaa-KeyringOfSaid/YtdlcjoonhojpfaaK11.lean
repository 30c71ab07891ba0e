/- What tells a row of rings: held rows, and others. -/
import Derived.Test.YtdlcjoonhojpfaaK6
namespace Go.K13
open Go.RowKit Go.SL
set_option linter.unusedVariables false
set_option linter.unusedSimpArgs false
def RowsR (v : Value) (rs : List RingM) : Assn := all (Own 84 2 v rs.length (rs.flatMap RingM.enc) :: rs.map RowOf)
/-- an assertion that tells a row of rings -/
def Tells13 (p : Pers) (A : Assn) (v : Value) (rs : List RingM) : Prop := ∀ w H, St p w (A :: H) → Src w 2 v rs.length (rs.flatMap RingM.enc) ∧ ∀ r ∈ rs, Src w 34 (.slice r.X r.vers.length r.c) r.vers.length (r.vers.flatMap Ver.enc)
section
variable {p : Pers} {w : World} {R H : List Assn} {e b : Nat} {ks : RK} {rs : List RingM} {v : Value} {A : Assn} {X : Option Addr} {c : Nat}
theorem rowsR (s : St p w (RowsV v ks :: R)) : ∃ rs : List RingM, rs.map RingM.view = ks ∧ St p w (RowsR v rs :: R) := by
  obtain ⟨rs, s⟩ := St.ex (A := fun (rs : List RingM) h => rs.map RingM.view = ks ∧ all (Own 84 2 v ks.length (rs.flatMap RingM.enc) :: rs.map RowOf) h) s
  obtain ⟨h1, s⟩ := St.iff (c := rs.map RingM.view = ks) s
  refine ⟨rs, h1, ?_⟩
  have hl : ks.length = rs.length := by rw [← h1, List.length_map]
  rw [hl] at s; exact s
theorem rowsB (h1 : rs.map RingM.view = ks) (s : St p w (RowsR v rs :: R)) : St p w (RowsV v ks :: R) := by
  have hl : ks.length = rs.length := by rw [← h1, List.length_map]
  exact s.weaken fun x hx => ⟨rs, h1, by rw [hl]; exact hx⟩
theorem rowTells : ∀ {rs : List RingM} {L : List Assn}, St p w (rs.map RowOf ++ L) → ∀ r ∈ rs, Src w 34 (.slice r.X r.vers.length r.c) r.vers.length (r.vers.flatMap Ver.enc) := by
  intro rs L s r hr
  obtain ⟨i, hi⟩ := List.getElem?_of_mem hr
  exact Own.src (e := 86) (show St p w (Own 86 34 _ _ _ :: _) from s.take (rowTake hi))
theorem rowsR_tells : Tells13 p (RowsR v rs) v rs := fun w H s => by
  have s1 : St p w (Own 84 2 v rs.length (rs.flatMap RingM.enc) :: rs.map RowOf ++ H) := St.split (l := Own 84 2 v rs.length (rs.flatMap RingM.enc) :: rs.map RowOf) s
  exact ⟨Own.src s1, rowTells (L := H) s1.drop⟩
theorem las_tells13 (h1 : Las p 2 v rs.length (rs.flatMap RingM.enc)) (h2 : ∀ r ∈ rs, Las p 34 (.slice r.X r.vers.length r.c) r.vers.length (r.vers.flatMap Ver.enc)) : Tells13 p Emp v rs := fun w H s => ⟨h1.src s, fun r hr => (h2 r hr).src s⟩
theorem src_place {sz n : Nat} {xs : List Value} (h : ∀ w H, St p w (A :: H) → Src w sz (.slice X n c) n xs) (s : St p w (A :: H)) (h0 : 0 < n) : ∃ b o, X = some ⟨b, o, none⟩ ∧ ∀ {w H}, St p w (A :: H) → ∀ j u, xs[j]? = some u → w.cell? ⟨b, o + j, none⟩ = some u := by
  obtain ⟨_, X1, c1, he, _, h1 | ⟨b, o, hX, _⟩⟩ := h _ _ s
  · omega
  · cases he
    refine ⟨b, o, hX, fun {w H} s2 => ?_⟩
    obtain ⟨_, X2, c2, he2, _, h2 | ⟨b2, o2, hX2, hcell⟩⟩ := h _ _ s2
    · omega
    · cases he2
      rw [hX] at hX2; cases hX2
      exact hcell
theorem Tells13.place (hA : Tells13 p A (.slice X rs.length c) rs) (s : St p w (A :: H)) (h0 : 0 < rs.length) : ∃ b o, X = some ⟨b, o, none⟩ ∧ ∀ {w H}, St p w (A :: H) → ∀ j u, (rs.flatMap RingM.enc)[j]? = some u → w.cell? ⟨b, o + j, none⟩ = some u :=
  src_place (fun w H s => (hA w H s).1) s h0
theorem Tells13.row (hA : Tells13 p A v rs) {i : Nat} {o : Bool} {Y : Option Addr} {d : Nat} {vs : List Ver} (hr : rs[i]? = some ⟨o, Y, d, vs⟩) : ∀ w H, St p w (A :: H) → Src w 34 (.slice Y vs.length d) vs.length (vs.flatMap Ver.enc) :=
  fun w H s => (hA w H s).2 _ (List.mem_of_getElem? hr)
theorem Tells13.shape (hA : Tells13 p A v rs) (s : St p w (A :: H)) : ∃ X c, v = .slice X rs.length c ∧ rs.length ≤ c := by
  obtain ⟨_, X, c, he, hc, _⟩ := (hA _ _ s).1
  exact ⟨X, c, he, hc⟩
theorem Tells13.rowPlace (hA : Tells13 p A v rs) {i : Nat} {o : Bool} {Y : Option Addr} {d : Nat} {vs : List Ver} (hr : rs[i]? = some ⟨o, Y, d, vs⟩) (s : St p w (A :: H)) (h0 : 0 < vs.length) : ∃ b o, Y = some ⟨b, o, none⟩ ∧ ∀ {w H}, St p w (A :: H) → ∀ j u, (vs.flatMap Ver.enc)[j]? = some u → w.cell? ⟨b, o + j, none⟩ = some u :=
  src_place (hA.row hr) s h0
/-- one ring of a row of rings, laid open, all else in a frame -/
theorem ringOpenF {m i : Nat} {o : Bool} {vs : List Ver} (hm : ks.length = m) (s : St p w (RowsV (.slice X m c) ks :: R)) (hk : ks[i]? = some (o, vs)) : ∃ (rs : List RingM) (g : Nat) (Y : Option Addr) (d : Nat) (F : List Assn), X = some ⟨g, 0, none⟩ ∧ m ≤ c ∧ c ≤ maxLen ∧
    (0 < vs.length → ∃ gr, Y = some ⟨gr, 0, none⟩) ∧ rs[i]? = some ⟨o, Y, d, vs⟩ ∧
    St p w (Own 84 2 (.slice (some ⟨g, 0, none⟩) m c) m (rs.flatMap RingM.enc) :: Own 86 34 (.slice Y vs.length d) vs.length (vs.flatMap Ver.enc) :: F) ∧
    (∀ {q : Pers} {w' : World} {o' : Bool} {vs' : List Ver}, vs'.length = vs.length → St q w' (Own 84 2 (.slice (some ⟨g, 0, none⟩) m c) m ((rs.set i ⟨o', Y, d, vs⟩).flatMap RingM.enc) :: Own 86 34 (.slice Y vs.length d) vs.length (vs'.flatMap Ver.enc) :: F) → St q w' (RowsV (.slice (some ⟨g, 0, none⟩) m c) (ks.set i (o', vs')) :: R)) := by
  subst hm
  obtain ⟨rs, g, c', Y, d, l, he, hc, hm, hd, hdm, hY, hr, s1, same, turn⟩ := ringOpen s hk
  cases he
  refine ⟨rs, g, Y, d, l ++ R, rfl, hc, hm, hY, hr, s1, fun {q w' o' vs'} hl s2 => turn (o' := o') (Y' := Y) (d' := d) (vs' := vs') ?_⟩
  have e1 : (rs.set i ⟨o', Y, d, vs'⟩).flatMap RingM.enc = (rs.set i ⟨o', Y, d, vs⟩).flatMap RingM.enc := by
    have := flat_same (f := RingM.enc) (l := rs.set i ⟨o', Y, d, vs⟩) (i := i) (a := ⟨o', Y, d, vs⟩) (a' := ⟨o', Y, d, vs'⟩) (set_at hr) (by simp only [RingM.enc, hl])
    rwa [List.set_set] at this
  rw [e1]
  show St q w' (_ :: Own 86 34 (.slice Y vs'.length d) vs'.length (vs'.flatMap Ver.enc) :: _)
  rw [hl]; exact s2
/-- a row that grows, beside something else -/
theorem rowsGrow {m : Nat} (hm : ks.length = m) (s : St p w (RowsV (.slice X m c) ks :: A :: R)) : ∃ (rs' : List RingM) (R' : List Assn), m ≤ c ∧ c ≤ maxLen ∧
    St p w (Own 84 2 (.slice X m c) m (rs'.flatMap RingM.enc) :: A :: R') ∧
    (∀ {q : Pers} {w' : World} {v' : Value} {o : Bool} {Y : Option Addr} {d : Nat} {vs : List Ver}, St q w' (Own 84 2 v' (m + 1) (rs'.flatMap RingM.enc ++ [.bool o, .slice Y vs.length d]) :: Own 86 34 (.slice Y vs.length d) vs.length (vs.flatMap Ver.enc) :: A :: R') → St q w' (RowsV v' (ks ++ [(o, vs)]) :: A :: R)) := by
  subst hm
  obtain ⟨rs, X', c', he, hv, hc, hm, hX, s⟩ := rowsOpen s
  cases he
  refine ⟨rs, rs.map RowOf ++ R, hc, hm, (s.take (.there (Del.mid _))).take (.there .here), fun s2 => ?_⟩
  have s4 := (((s2.take (.there (.there .here))).give (.there (.there (Del.mid _)))))
  exact rowsMore hv s4
end
end Go.K13
