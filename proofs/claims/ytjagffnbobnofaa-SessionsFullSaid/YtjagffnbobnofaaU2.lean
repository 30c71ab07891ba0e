/- The calls on a table of sessions, by plain lists. -/
import Derived.Test.YtjagffnbobnofaaU1
import Derived.Test.YtjagffnbobnofaaS15M
namespace Go.Proofs.Ytjagffnbobnofaa
open Go.RowKit Go.SL Go.S15
set_option linter.unusedVariables false
set_option linter.unusedSimpArgs false
attribute [local irreducible] Go.SL.St

def SeatV (p : Pers) (x : Int × Int × Rp) (v : Value) : Prop :=
  ∃ X c, v = .agg #[.int .i64 x.1, .int .i64 x.2.1, .int .i64 x.2.2.c, .int .i64 x.2.2.a, .int .i64 x.2.2.b, .slice X x.2.2.bs.length c] ∧ Las p 1 (.slice X x.2.2.bs.length c) x.2.2.bs.length (bv x.2.2.bs) ∧ x.2.2.bs.length ≤ 140737488355328
def TR (p : Pers) : List (Int × Value) → Ses → Prop
  | [], [] => True
  | q :: ks, x :: L => q.1 = x.1 ∧ SeatV p x q.2 ∧ TR p ks L
  | _, _ => False
theorem SeatV.le {p q : Pers} {x : Int × Int × Rp} {v : Value} (h : SeatV p x v) (l : p.le q) : SeatV q x v := by
  obtain ⟨X, c, rfl, hl, hb⟩ := h; exact ⟨X, c, rfl, hl.le l, hb⟩
theorem TR.le {p q : Pers} (l : p.le q) : ∀ {ks : List (Int × Value)} {L : Ses}, TR p ks L → TR q ks L
  | [], [], _ => trivial
  | _ :: _, _ :: _, h => ⟨h.1, h.2.1.le l, TR.le l h.2.2⟩
  | [], _ :: _, h => h.elim
  | _ :: _, [], h => h.elim
theorem TR.length {p : Pers} : ∀ {ks : List (Int × Value)} {L : Ses}, TR p ks L → ks.length = L.length
  | [], [], _ => rfl
  | _ :: _, _ :: _, h => congrArg (· + 1) h.2.2.length
  | [], _ :: _, h => h.elim
  | _ :: _, [], h => h.elim
theorem aget_cons (q : Int × Value) (ks : List (Int × Value)) (k : Int) : aget (q :: ks) k = if q.1 = k then some q.2 else aget ks k := by
  by_cases h : q.1 = k
  · simp [aget, h]
  · have : (q.1 == k) = false := by simpa using h
    simp [aget, h, this]
theorem TR.none {p : Pers} {id : Int} : ∀ {ks : List (Int × Value)} {L : Ses}, TR p ks L → lget L id = none → aget ks id = none
  | [], [], _, _ => rfl
  | q :: ks, x :: L, h, hg => by
    unfold lget at hg
    rw [aget_cons]
    split at hg
    · cases hg
    · rename_i hx
      rw [if_neg (by rw [h.1]; exact hx)]
      exact TR.none h.2.2 hg
  | [], _ :: _, h, _ => h.elim
  | _ :: _, [], h, _ => h.elim
theorem TR.some {p : Pers} {id : Int} {s : Int × Rp} : ∀ {ks : List (Int × Value)} {L : Ses}, TR p ks L → lget L id = some s → ∃ v, aget ks id = some v ∧ SeatV p (id, s) v
  | [], [], _, hg => by cases hg
  | q :: ks, x :: L, h, hg => by
    unfold lget at hg
    rw [aget_cons]
    split at hg
    · rename_i hx
      cases hg
      refine ⟨q.2, by rw [if_pos (by rw [h.1]; exact hx)], ?_⟩
      have := h.2.1
      rw [← hx]; exact this
    · rename_i hx
      rw [if_neg (by rw [h.1]; exact hx)]
      exact TR.some h.2.2 hg
  | [], _ :: _, h, _ => h.elim
  | _ :: _, [], h, _ => h.elim
theorem TR.put {p : Pers} {id : Int} {s : Int × Rp} {v : Value} (hv : SeatV p (id, s) v) : ∀ {ks : List (Int × Value)} {L : Ses}, TR p ks L → TR p (aput ks id v) (lput L id s)
  | [], [], _ => ⟨rfl, hv, trivial⟩
  | q :: ks, x :: L, h => by
    unfold aput lput
    by_cases hx : x.1 = id
    · rw [if_pos (by rw [h.1]; exact hx), if_pos hx]; exact ⟨rfl, hv, h.2.2⟩
    · rw [if_neg (by rw [h.1]; exact hx), if_neg hx]; exact ⟨h.1, h.2.1, TR.put hv h.2.2⟩
  | [], _ :: _, h => h.elim
  | _ :: _, [], h => h.elim
theorem TR.del {p : Pers} {id : Int} : ∀ {ks : List (Int × Value)} {L : Ses}, TR p ks L → TR p (adel ks id) (ldel L id)
  | [], [], _ => trivial
  | q :: ks, x :: L, h => by
    unfold adel ldel
    by_cases hx : x.1 = id
    · rw [if_pos (by rw [h.1]; exact hx), if_pos hx]; exact h.2.2
    · rw [if_neg (by rw [h.1]; exact hx), if_neg hx]; exact ⟨h.1, h.2.1, TR.del h.2.2⟩
  | [], _ :: _, h => h.elim
  | _ :: _, [], h => h.elim

/-- a table of sessions, held -/
def Tab (p : Pers) (t : Nat) (L : Ses) (next : Int) : Assn := fun h => ∃ mm ks, TR p ks L ∧ all [pt t (.cells #[.map (some mm), .int .i64 next] 73), MapI mm ks] h
section
variable {p : Pers} {w : World} {R : List Assn} {t : Nat} {L : Ses} {next : Int}
theorem tabOpen (s : St p w (Tab p t L next :: R)) : ∃ mm ks, TR p ks L ∧ St p w (pt t (.cells #[.map (some mm), .int .i64 next] 73) :: MapI mm ks :: R) := by
  obtain ⟨mm, s⟩ := St.ex (A := fun mm h => ∃ ks, TR p ks L ∧ all [pt t (.cells #[.map (some mm), .int .i64 next] 73), MapI mm ks] h) s
  obtain ⟨ks, s⟩ := St.ex (A := fun ks h => TR p ks L ∧ all [pt t (.cells #[.map (some mm), .int .i64 next] 73), MapI mm ks] h) s
  obtain ⟨hT, s⟩ := St.iff (c := TR p ks L) s
  exact ⟨mm, ks, hT, s.split⟩
theorem tabClose {mm : Nat} {ks : List (Int × Value)} (hT : TR p ks L) (s : St p w (pt t (.cells #[.map (some mm), .int .i64 next] 73) :: MapI mm ks :: R)) : St p w (Tab p t L next :: R) :=
  (St.join (l := [pt t (.cells #[.map (some mm), .int .i64 next] 73), MapI mm ks]) s).weaken fun x hx => ⟨mm, ks, hT, hx⟩
theorem tabLe {q : Pers} (l : p.le q) (s : St q w (Tab p t L next :: R)) : St q w (Tab q t L next :: R) :=
  s.weaken fun x ⟨mm, ks, hT, hx⟩ => ⟨mm, ks, hT.le l, hx⟩

theorem New_L (hst : St p w R) : Calls Try.prog 13 #[] w fun e w => ∃ t, e = .returned (.pointer (some ⟨t, 0, none⟩)) ∧ St p w (Tab p t [] 1 :: R) :=
  Calls.mono (sess_New hst) (by rintro _ w ⟨b, m, rfl, hst⟩; exact ⟨b, rfl, tabClose (mm := m) (ks := []) trivial hst⟩)
theorem Open_L (hn : 1 ≤ next ∧ next ≤ 1099511627776) (hst : St p w (Tab p t L next :: R)) :
    Calls Try.prog 15 #[.pointer (some ⟨t, 0, none⟩)] w fun e w => e = .returned (.tuple #[.int .i64 (openA L next), .int .i64 (openE L next)]) ∧ St p w (Tab p t (openL L next) (openN L next) :: R) := by
  obtain ⟨mm, ks, hT, s⟩ := tabOpen hst
  refine Calls.mono (sess_Open t mm ks next hn s) ?_
  rintro _ w ⟨ks', next', a, er, rfl, hO, s⟩
  have hl := hT.length
  unfold OpenR at hO
  by_cases hf : openFull L next = true
  · have hf' : (ks.length : Int) ≥ 8 ∨ next ≥ 1099511627776 := by
      unfold openFull at hf; rw [Bool.or_eq_true, decide_eq_true_eq, decide_eq_true_eq] at hf; rw [hl]; exact hf
    rw [if_pos hf'] at hO
    obtain ⟨e1, e2, e3, e4⟩ := hO
    rw [e1, e2] at s
    rw [e3, e4]
    rw [show openA L next = 0 from if_pos hf, show openE L next = 134 from if_pos hf, show openL L next = L from if_pos hf, show openN L next = next from if_pos hf]
    exact ⟨rfl, tabClose hT s⟩
  · have hf' : ¬ ((ks.length : Int) ≥ 8 ∨ next ≥ 1099511627776) := by
      unfold openFull at hf; rw [Bool.or_eq_true, decide_eq_true_eq, decide_eq_true_eq] at hf; rw [hl]; exact hf
    rw [if_neg hf'] at hO
    obtain ⟨e1, e2, e3, e4⟩ := hO
    rw [e1, e2] at s
    rw [e3, e4]
    rw [show openA L next = next from if_neg hf, show openE L next = 0 from if_neg hf, show openL L next = lput L next (0, Rp.zero) from if_neg hf, show openN L next = next + 1 from if_neg hf]
    exact ⟨rfl, tabClose (hT.put ⟨none, 0, rfl, ⟨rfl, none, 0, rfl, Nat.le_refl _, .inl rfl⟩, by simp [Rp.zero]⟩) s⟩
theorem Expire_L (id : Int) (hst : St p w (Tab p t L next :: R)) :
    Calls Try.prog 16 #[.pointer (some ⟨t, 0, none⟩), .int .i64 id] w fun e w => e = .returned (.int .i64 (expE L id)) ∧ St p w (Tab p t (expL L id) next :: R) := by
  obtain ⟨mm, ks, hT, s⟩ := tabOpen hst
  unfold expE expL
  cases hg : lget L id with
  | none => exact Calls.mono (sess_Expire_no t mm ks next id 0 (hT.none hg) s) (by rintro _ w ⟨rfl, s⟩; exact ⟨rfl, tabClose hT s⟩)
  | some x =>
    obtain ⟨v, hv, X, c, rfl, hl, hb⟩ := hT.some hg
    exact Calls.mono (sess_Expire_yes _ _ _ _ t mm ks next id 0 hv hl hb s) (by rintro _ w ⟨rfl, s⟩; exact ⟨rfl, tabClose hT.del s⟩)
theorem Ask_L (id seq : Int) (hst : St p w (Tab p t L next :: R)) :
    Calls Try.prog 21 #[.pointer (some ⟨t, 0, none⟩), .int .i64 id, .int .i64 seq] w fun e w => ∃ v, e = .returned (.tuple #[.agg #[.int .i64 (askR L id seq).c, .int .i64 (askR L id seq).a, .int .i64 (askR L id seq).b, v], .bool (askS L id seq), .int .i64 (askE L id seq)]) ∧
      (askR L id seq).bs.length ≤ 140737488355328 ∧ St p w (Own 5 1 v (askR L id seq).bs.length (bv (askR L id seq).bs) :: Tab p t L next :: R) := by
  obtain ⟨mm, ks, hT, s⟩ := tabOpen hst
  unfold askE askS askR
  cases hg : lget L id with
  | none => exact Calls.mono (sess_Ask_no t mm ks next id seq (hT.none hg) s) (by rintro _ w ⟨rfl, s⟩; exact ⟨_, rfl, by simp [Rp.zero], (tabClose hT s).ownNil none⟩)
  | some x =>
    obtain ⟨v, hv, X, c, rfl, hl, hb⟩ := hT.some hg
    simp only
    by_cases h1 : seq < max 1 x.1
    · simp only [if_pos h1]
      exact Calls.mono (sess_Ask_old _ _ _ _ t mm ks next id seq hv hl hb h1 s) (by rintro _ w ⟨rfl, s⟩; exact ⟨_, rfl, by simp [Rp.zero], (tabClose hT s).ownNil none⟩)
    · simp only [if_neg h1]
      by_cases h2 : seq = x.1
      · simp only [if_pos h2, h2, decide_true]
        rw [h2] at h1
        exact Calls.mono (sess_Ask_same _ _ _ _ t mm ks next id x.1 hv hl hb h1 rfl s) (by
          rintro _ w ⟨u, rfl, _, s⟩
          exact ⟨u, rfl, hb, (tabClose hT (s.take (.there .here) |>.take (.there (.there .here)) |>.take (.there .here))).take (.there .here)⟩)
      · simp only [if_neg h2, h2, decide_false]
        exact Calls.mono (sess_Ask_new _ _ _ _ t mm ks next id seq hv hl hb h1 h2 s) (by rintro _ w ⟨rfl, s⟩; exact ⟨_, rfl, by simp [Rp.zero], (tabClose hT s).ownNil none⟩)
theorem Done_L {A : Assn} {Y : Option Addr} {d : Nat} (id seq r0 r1 r2 : Int) (ms : List Int) (hA : ∀ w H, St p w (A :: H) → Src w 1 (.slice Y ms.length d) ms.length (bv ms)) (hb2 : ms.length ≤ 140737488355328) (hst : St p w (Tab p t L next :: A :: R)) :
    Calls Try.prog 25 #[.pointer (some ⟨t, 0, none⟩), .int .i64 id, .int .i64 seq, .agg #[.int .i64 r0, .int .i64 r1, .int .i64 r2, .slice Y ms.length d]] w fun e w => ∃ q, p.le q ∧ e = .returned (.int .i64 (doneE L id seq)) ∧
      St q w (Tab q t (doneL L id seq ⟨r0, r1, r2, ms⟩) next :: A :: R) := by
  obtain ⟨mm, ks, hT, s⟩ := tabOpen hst
  unfold doneE doneL
  cases hg : lget L id with
  | none => exact Calls.mono (sess_Done_no hA hb2 r0 r1 r2 t mm ks next id seq (hT.none hg) s) (by rintro _ w ⟨rfl, s⟩; exact ⟨p, p.le_refl, rfl, tabClose hT s⟩)
  | some x =>
    obtain ⟨v, hv, X, c, rfl, hl, hb⟩ := hT.some hg
    simp only
    by_cases h1 : seq ≤ x.1
    · simp only [if_pos h1]
      exact Calls.mono (sess_Done_old _ _ _ _ hA hb2 r0 r1 r2 t mm ks next id seq hv hl hb h1 s) (by rintro _ w ⟨rfl, s⟩; exact ⟨p, p.le_refl, rfl, tabClose hT s⟩)
    · simp only [if_neg h1]
      exact Calls.mono (sess_Done_new _ _ _ _ hA hb2 r0 r1 r2 t mm ks next id seq hv hl hb h1 s) (by
        rintro _ w ⟨q, Z, z, le, rfl, hz, s⟩
        exact ⟨q, le, rfl, tabClose ((hT.le le).put ⟨Z, z, rfl, hz, hb2⟩) s⟩)

/-! the same, what is told and left under any other spelling -/
theorem Open_C {L' : Ses} {n' a e : Int} (hL : openL L next = L') (hN : openN L next = n') (ha : openA L next = a) (he : openE L next = e) (hn : 1 ≤ next ∧ next ≤ 1099511627776) (hst : St p w (Tab p t L next :: R)) :
    Calls Try.prog 15 #[.pointer (some ⟨t, 0, none⟩)] w fun e' w => e' = .returned (.tuple #[.int .i64 a, .int .i64 e]) ∧ St p w (Tab p t L' n' :: R) := by
  subst hL; subst hN; subst ha; subst he; exact Open_L hn hst
theorem Expire_C {L' : Ses} {e : Int} (id : Int) (hL : expL L id = L') (he : expE L id = e) (hst : St p w (Tab p t L next :: R)) :
    Calls Try.prog 16 #[.pointer (some ⟨t, 0, none⟩), .int .i64 id] w fun e' w => e' = .returned (.int .i64 e) ∧ St p w (Tab p t L' next :: R) := by
  subst hL; subst he; exact Expire_L id hst
theorem Ask_C {r : Rp} {sn : Bool} {e : Int} (id seq : Int) (hr : askR L id seq = r) (hs : askS L id seq = sn) (he : askE L id seq = e) (hst : St p w (Tab p t L next :: R)) :
    Calls Try.prog 21 #[.pointer (some ⟨t, 0, none⟩), .int .i64 id, .int .i64 seq] w fun e' w => ∃ v, e' = .returned (.tuple #[.agg #[.int .i64 r.c, .int .i64 r.a, .int .i64 r.b, v], .bool sn, .int .i64 e]) ∧
      r.bs.length ≤ 140737488355328 ∧ St p w (Own 5 1 v r.bs.length (bv r.bs) :: Tab p t L next :: R) := by
  subst hr; subst hs; subst he; exact Ask_L id seq hst
theorem Done_C {A : Assn} {Y : Option Addr} {d : Nat} {L' : Ses} {e : Int} (id seq r0 r1 r2 : Int) (ms : List Int) (hL : doneL L id seq ⟨r0, r1, r2, ms⟩ = L') (he : doneE L id seq = e) (hA : ∀ w H, St p w (A :: H) → Src w 1 (.slice Y ms.length d) ms.length (bv ms)) (hb2 : ms.length ≤ 140737488355328) (hst : St p w (Tab p t L next :: A :: R)) :
    Calls Try.prog 25 #[.pointer (some ⟨t, 0, none⟩), .int .i64 id, .int .i64 seq, .agg #[.int .i64 r0, .int .i64 r1, .int .i64 r2, .slice Y ms.length d]] w fun e' w => ∃ q, p.le q ∧ e' = .returned (.int .i64 e) ∧
      St q w (Tab q t L' next :: A :: R) := by
  subst hL; subst he; exact Done_L id seq r0 r1 r2 ms hA hb2 hst
end
end Go.Proofs.Ytjagffnbobnofaa
