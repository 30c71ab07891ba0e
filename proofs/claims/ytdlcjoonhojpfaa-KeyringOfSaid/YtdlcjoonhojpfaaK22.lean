/- What stays of keys, whatever is called. -/
import Derived.Test.YtdlcjoonhojpfaaK13
namespace Go.K13
open Go.RowKit Go.SL
set_option linter.unusedVariables false
set_option linter.unusedSimpArgs false
structure Stay (x y : Ver) : Prop where
  gone : x.gone = true → y.gone = true
  mat : y.gone = false → x.mat = y.mat
  le : x.uses ≤ y.uses
  one : y.uses ≤ x.uses + 1
  most : y.uses ≤ 16
  pos : 0 ≤ x.uses
def StayV (vs vs' : List Ver) : Prop := vs.length ≤ vs'.length ∧ ∀ (b : Nat) (x : Ver), vs[b]? = some x → ∃ y, vs'[b]? = some y ∧ Stay x y
def StayK (ks ks' : RK) : Prop := ks.length ≤ ks'.length ∧ ∀ (a : Nat) (o : Bool) (vs : List Ver), ks[a]? = some (o, vs) → ∃ o' vs', ks'[a]? = some (o', vs') ∧ StayV vs vs'
theorem stay_same {x : Ver} (h : VOk x) : Stay x x := ⟨id, fun _ => rfl, Int.le_refl _, by omega, h.2, h.1⟩
theorem stayV_same {vs : List Ver} (h : ROk vs) : StayV vs vs := ⟨Nat.le_refl _, fun b x hx => ⟨x, hx, stay_same (h.ver hx)⟩⟩
theorem stayV_set {vs : List Ver} (h : ROk vs) {j : Nat} {x y : Ver} (hj : vs[j]? = some x) (hs : Stay x y) : StayV vs (vs.set j y) := by
  refine ⟨by rw [List.length_set]; exact Nat.le_refl _, fun b z hz => ?_⟩
  by_cases hb : j = b
  · subst hb
    rw [hj] at hz; cases hz
    exact ⟨y, set_at hj, hs⟩
  · exact ⟨z, by rw [List.getElem?_set_ne hb]; exact hz, stay_same (h.ver hz)⟩
theorem stayV_more {vs : List Ver} (h : ROk vs) (l : List Ver) : StayV vs (vs ++ l) := by
  refine ⟨by simp, fun b z hz => ⟨z, ?_, stay_same (h.ver hz)⟩⟩
  rw [List.getElem?_append_left (List.getElem?_eq_some_iff.1 hz).1]; exact hz
theorem stayK_same {ks : RK} (h : KOk ks) : StayK ks ks := ⟨Nat.le_refl _, fun a o vs ha => ⟨o, vs, ha, stayV_same (h.row ha)⟩⟩
theorem stayK_set {ks : RK} (h : KOk ks) {i : Nat} {o o' : Bool} {vs vs' : List Ver} (hi : ks[i]? = some (o, vs)) (hs : StayV vs vs') : StayK ks (ks.set i (o', vs')) := by
  refine ⟨by rw [List.length_set]; exact Nat.le_refl _, fun a o1 vs1 ha => ?_⟩
  by_cases hb : i = a
  · subst hb
    rw [hi] at ha; cases ha
    exact ⟨o', vs', set_at hi, hs⟩
  · exact ⟨o1, vs1, by rw [List.getElem?_set_ne hb]; exact ha, stayV_same (h.row ha)⟩
theorem stayK_more {ks : RK} (h : KOk ks) (l : RK) : StayK ks (ks ++ l) := by
  refine ⟨by simp, fun a o vs ha => ⟨o, vs, ?_, stayV_same (h.row ha)⟩⟩
  rw [List.getElem?_append_left (List.getElem?_eq_some_iff.1 ha).1]; exact ha
theorem stay_create {ks : RK} (h : KOk ks) (m : K32) : StayK ks (kCreate ks m).2.2 := by
  unfold kCreate; split
  · exact stayK_same h
  · exact stayK_more h _
theorem stay_rotate {ks : RK} (h : KOk ks) (id : Int) (m : K32) : StayK ks (kRotate ks id m).2.2 := by
  unfold kRotate
  cases hk : ring ks id with
  | none => exact stayK_same h
  | some r =>
    obtain ⟨o, vs⟩ := r
    obtain ⟨_, _, hi⟩ := ring_some hk
    show StayK ks (rRotate ks id o vs m).2.2
    unfold rRotate; split
    · exact stayK_same h
    · exact stayK_set h hi (stayV_more (h.row hi) _)
theorem stay_switch {ks : RK} (h : KOk ks) (id : Int) (on : Bool) : StayK ks (kSwitch ks id on).2 := by
  unfold kSwitch
  cases hk : ring ks id with
  | none => exact stayK_same h
  | some r =>
    obtain ⟨o, vs⟩ := r
    obtain ⟨_, _, hi⟩ := ring_some hk
    exact stayK_set h hi (stayV_same (h.row hi))
theorem stay_destroy {ks : RK} (h : KOk ks) (id n : Int) : StayK ks (kDestroy ks id n).2 := by
  unfold kDestroy
  cases hk : ring ks id with
  | none => exact stayK_same h
  | some r =>
    obtain ⟨o, vs⟩ := r
    obtain ⟨_, _, hi⟩ := ring_some hk
    cases hx : ver vs n with
    | none => simp only [hx]; exact stayK_same h
    | some x =>
      obtain ⟨_, _, hj⟩ := ver_some hx
      simp only [hx]
      unfold rDestroy; split
      · exact stayK_same h
      · have hv := (h.row hi).ver hj
        exact stayK_set h hi (stayV_set (h.row hi) hj ⟨fun _ => rfl, (fun h => by cases h), Int.le_refl _, by show x.uses ≤ x.uses + 1; omega, hv.2, hv.1⟩)
theorem use_ok {ks : RK} {id : Int} (h : ((kUse ks id).2.2.2.1 == 0) = true) : ∃ vs x, ring ks id = some (false, vs) ∧ vs[vs.length - 1]? = some x ∧ x.gone = false ∧ x.uses < 16 ∧ kUse ks id = (((vs.length : Nat) : Int), x.uses, x.mat, 0, ks.set (id - 1).toNat (false, vs.set (vs.length - 1) ⟨x.mat, x.uses + 1, x.gone⟩)) := by
  unfold kUse at h ⊢
  cases hk : ring ks id with
  | none => rw [hk] at h; cases h
  | some r =>
    obtain ⟨o, vs⟩ := r
    rw [hk] at h
    simp only at h ⊢
    cases hx : vs[vs.length - 1]? with
    | none => rw [hx] at h; cases h
    | some x =>
      rw [hx] at h
      simp only at h ⊢
      unfold rUse at h ⊢
      cases o
      · rw [if_neg (by decide)] at h ⊢
        cases hg : x.gone
        · rw [hg, if_neg (by decide)] at h
          by_cases hu : 16 ≤ x.uses
          · rw [if_pos hu] at h; cases h
          · rw [if_neg (by decide), if_neg hu]
            exact ⟨vs, x, rfl, hx, hg, by omega, by rw [hg]⟩
        · rw [hg, if_pos rfl] at h; cases h
      · rw [if_pos rfl] at h; cases h
theorem stay_use {ks : RK} (h : KOk ks) (id : Int) : StayK ks (kUse ks id).2.2.2.2 := by
  by_cases h0 : ((kUse ks id).2.2.2.1 == 0) = true
  · obtain ⟨vs, x, hk, hx, hg, hu, he⟩ := use_ok h0
    obtain ⟨_, _, hi⟩ := ring_some hk
    rw [he]
    have hv := (h.row hi).ver hx
    exact stayK_set h hi (stayV_set (h.row hi) hx ⟨fun h => h, fun _ => rfl, by show x.uses ≤ x.uses + 1; omega, Int.le_refl _, by show x.uses + 1 ≤ 16; omega, hv.1⟩)
  · have : (kUse ks id).2.2.2.2 = ks := by
      revert h0
      unfold kUse
      cases hk : ring ks id with
      | none => intro _; rfl
      | some r =>
        obtain ⟨o, vs⟩ := r
        simp only
        cases hx : vs[vs.length - 1]? with
        | none => intro _; rfl
        | some x =>
          simp only
          unfold rUse
          split
          · intro _; rfl
          · split
            · intro _; rfl
            · split
              · intro _; rfl
              · intro h; exact absurd rfl h
    rw [this]; exact stayK_same h
theorem row_of {rs : List RingM} {ks : RK} {i : Nat} {o : Bool} {vs : List Ver} (hv : rs.map RingM.view = ks) (hk : ks[i]? = some (o, vs)) : ∃ Y d, rs[i]? = some ⟨o, Y, d, vs⟩ := by
  rw [← hv, List.getElem?_map, Option.map_eq_some_iff] at hk
  obtain ⟨⟨o1, Y, d, vs1⟩, hr, he⟩ := hk
  cases he
  exact ⟨Y, d, hr⟩
end Go.K13
