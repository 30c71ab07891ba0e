/- Regions that leave their order open: each load is taken first where nobody writes its cell before it is read. Returns. -/
import Derived.Test.YtjpjejldinpcnaaSL3
import Derived.Deep.RegionHeld3
namespace Go.SL
open Go.RowKit
set_option linter.unusedVariables false
set_option linter.unusedSimpArgs false

/-- may one of the soft operations come up behind number j? -/
def needs (ops : Array Oper) (soft : List Nat) (j : Nat) : Bool :=
  soft.any fun k => k != j && !((ops[j]?).any fun o => o.after.any fun e => Region.binds .any e && e.on == k)
def wpC (P : Program) (ops : Array Oper) (soft : List Nat) (S : World → Prop) (Q : Exit → Act → World → Prop) : Nat → Array Bool → Act → World → Prop
  | 0, listed, a, w => Region.ready .any ops listed = [] ∧ Q .normal a w
  | f + 1, listed, a, w => (Region.ready .any ops listed = [] → Q .normal a w) ∧
      ∀ i ∈ Region.ready .any ops listed, wpOp P ops Q i (fun a' w' => (needs ops soft i = true → S w') ∧ wpC P ops soft S Q f (listed.setIfInBounds i true) a' w') a w
section
variable {P : Program} {ops : Array Oper} {soft : List Nat} {S : World → Prop} {Q : Exit → Act → World → Prop}
theorem wpC_any : ∀ (f : Nat) (listed : Array Bool) (a : Act) (w : World), wpC P ops soft S Q f listed a w → wpAny P .any ops Q f listed a w
  | 0, _, _, _, h => h
  | f + 1, _, _, _, h => ⟨h.1, fun i hi => wpOp_mono (fun a w k => wpC_any f _ a w k.2) (h.2 i hi)⟩
theorem needs_of {i j : Nat} {oj : Oper} (hs : i ∈ soft) (hij : i ≠ j) (hj : ops[j]? = some oj) (hno : ∀ e ∈ oj.after, Region.binds .any e = true → e.on ≠ i) : needs ops soft j = true := by
  unfold needs
  rw [List.any_eq_true]
  refine ⟨i, hs, ?_⟩
  have h1 : (i != j) = true := by simpa using hij
  have h2 : (oj.after.any fun e => Region.binds .any e && e.on == i) = false := by
    cases hb : oj.after.any fun e => Region.binds .any e && e.on == i with
    | false => rfl
    | true =>
      obtain ⟨e, he, hc⟩ := Array.any_eq_true'.1 hb
      simp only [Bool.and_eq_true, beq_iff_eq] at hc
      exact absurd hc.2 (hno e he hc.1)
  simp [h1, hj, h2]
theorem wpC_first {i : Nat} {oi : Oper} {v : Value} (hi : ops[i]? = some oi) (hso : i ∈ soft) (hsel : Region.noSelect ops = true) (hQ : ∀ c a w, Q (.panic c) (a.put oi.dst v) w → Q (.panic c) a w) :
    ∀ (f : Nat) (listed : Array Bool) (a : Act) (w : World), (∀ j oj, ops[j]? = some oj → j ≠ i → listed.getD j true = false → (∀ e ∈ oj.after, Region.binds .any e = true → e.on ≠ i) → oi.apart ops oj = true) →
      i ∈ Region.ready .any ops listed → YieldsIf P ops S oi v a → S w → wpC P ops soft S Q f (listed.setIfInBounds i true) (a.put oi.dst v) w → wpC P ops soft S Q (f + 1) listed a w := by
  have sel := fun j o cs b (ho : ops[j]? = some o) => Region.noSelect_spec hsel j o cs b ho
  intro f
  induction f with
  | zero =>
    intro listed a w _ hr hy hS H
    refine ⟨fun h0 => absurd hr (by rw [h0]; exact List.not_mem_nil), fun j hj => ?_⟩
    rcases Decidable.em (j = i) with e | e
    · subst e; exact hy.wpOp hi hS ⟨fun _ => hS, H⟩
    · exact absurd (ready_mono hj e) (by rw [H.1]; exact List.not_mem_nil)
  | succ f ih =>
    intro listed a w hap hr hy hS H
    refine ⟨fun h0 => absurd hr (by rw [h0]; exact List.not_mem_nil), fun j hj => ?_⟩
    rcases Decidable.em (j = i) with e | e
    · subst e; exact hy.wpOp hi hS ⟨fun _ => hS, H⟩
    · obtain ⟨hjl, oj, hoj, hall⟩ := mem_ready.1 hj
      have hil := (mem_ready.1 hr).1
      have hno : ∀ e ∈ oj.after, Region.binds .any e = true → e.on ≠ i := by
        intro e he hb heq
        have h1 := hall e he hb
        rw [heq] at h1
        rcases Nat.lt_or_ge i listed.size with h' | h'
        · simp [h'] at hil h1; rw [hil] at h1; cases h1
        · simp [Array.getElem?_eq_none h'] at h1
      have h2 := wpOp_putIf hoj (hap j oj hoj e hjl hno) (fun cs b => sel i oi cs b hi) (fun cs b => sel j oj cs b hoj) hQ hy (H.2 j (ready_mono hj e))
      have hn : needs ops soft j = true := needs_of hso (Ne.symm e) hoj hno
      refine wpOp_mono (fun a' w' k => ⟨k.2.1, ih (listed.setIfInBounds j true) a' w' ?_ (ready_mono hr (Ne.symm e)) k.1 (k.2.1 hn) ?_⟩) h2
      · intro m om hm hmi hml hmo
        refine hap m om hm hmi ?_ hmo
        rcases Decidable.em (j = m) with q | q
        · subst q; exact hjl
        · rw [getD_set_ne true q] at hml; exact hml
      · rw [Array.setIfInBounds_comm _ _ e]; exact k.2.2
end

/-- a region that leaves its order open, over frames that are functions -/
def RD (P : Program) (n : Nat) (ops : Array Oper) (soft : List Nat) (S : World → Prop) (Q : Exit → Fr → World → Prop) (f : Nat) (listed : Array Bool) (τ : Fr) (w : World) : Prop :=
  wpC P ops soft S (NoPanic (On n Q)) f listed (AF n τ) w
section
variable {P : Program} {n : Nat} {ops : Array Oper} {soft : List Nat} {S : World → Prop} {Q : Exit → Fr → World → Prop} {f : Nat} {listed : Array Bool} {τ : Fr} {w : World} {p : Pers} {H : List Assn}
theorem CW.regionD {id : Nat} (soft : List Nat) (S : World → Prop) (hm : P.follows .mixedOrders = true)
    (h : RD P n ops soft S Q ops.size (Array.replicate ops.size false) τ w.drew) : CW P n (.region id ops true) Q τ w :=
  wp_region_noPanic (wp_region_any hm (wpC_any _ _ _ _ h))
/-- number i is taken first -/
theorem RD.take (i : Nat) {oi : Oper} {v : Value} (hi : ops[i]? = some oi) (hc : (Region.noSelect ops && soft.contains i && Region.free .any ops listed i && (Region.ready .any ops listed).contains i) = true)
    (hw : Wd n ops oi τ true) (hx : ∀ w, S w → Ev P (AF n τ).eval oi w v) (hS : S w) (h : RD P n ops soft S Q f (listed.setIfInBounds i true) (upo τ oi.dst v) w) : RD P n ops soft S Q (f + 1) listed τ w := by
  simp only [Bool.and_eq_true] at hc
  obtain ⟨⟨⟨h1, h2⟩, h3⟩, h4⟩ := hc
  refine wpC_first hi (by simpa using h2) h1 (fun c a w hp => hp) f listed (AF n τ) w (fun j oj hj hne hun hno => Region.free_spec hi h3 j oj hj hne hun hno) (by simpa using h4) (.inl ⟨hw, hx⟩) hS ?_
  rw [AF_put]; exact h
/-- .. one that is not carried out -/
theorem RD.pass (i : Nat) {oi : Oper} (hi : ops[i]? = some oi) (hc : (Region.noSelect ops && soft.contains i && Region.free .any ops listed i && (Region.ready .any ops listed).contains i) = true)
    (hw : Wd n ops oi τ false) (hS : S w) (h : RD P n ops soft S Q f (listed.setIfInBounds i true) (upo τ oi.dst undef) w) : RD P n ops soft S Q (f + 1) listed τ w := by
  simp only [Bool.and_eq_true] at hc
  obtain ⟨⟨⟨h1, h2⟩, h3⟩, h4⟩ := hc
  refine wpC_first hi (by simpa using h2) h1 (fun c a w hp => hp) f listed (AF n τ) w (fun j oj hj hne hun hno => Region.free_spec hi h3 j oj hj hne hun hno) (by simpa using h4) (.inr ⟨hw, rfl⟩) hS ?_
  rw [AF_put]; exact h
theorem RD.hardOp {i : Nat} {oi : Oper} (hi : ops[i]? = some oi) (hw : Wd n ops oi τ true) (hh : Hd P n oi τ w fun v w' => (needs ops soft i = true → S w') ∧ RD P n ops soft S Q f (listed.setIfInBounds i true) (upo τ oi.dst v) w') :
    wpOp P ops (NoPanic (On n Q)) i (fun a' w' => (needs ops soft i = true → S w') ∧ wpC P ops soft S (NoPanic (On n Q)) f (listed.setIfInBounds i true) a' w') (AF n τ) w := by
  unfold wpOp
  simp only [hi]
  rw [if_pos (show Region.wanted oi (yielded ops (AF n τ).tmps) = true from hw)]
  refine .inl (Oper.wp_mono ?_ (hh _))
  rintro a w ⟨v, rfl, h1, h2⟩; exact ⟨h1, h2⟩
/-- number i alone may come up -/
theorem RD.only (i : Nat) {oi : Oper} (hi : ops[i]? = some oi) (hc : Region.ready .any ops listed = [i]) (hw : Wd n ops oi τ true)
    (hh : Hd P n oi τ w fun v w' => (needs ops soft i = true → S w') ∧ RD P n ops soft S Q f (listed.setIfInBounds i true) (upo τ oi.dst v) w') : RD P n ops soft S Q (f + 1) listed τ w := by
  unfold RD wpC
  refine ⟨fun h => (by rw [hc] at h; cases h), fun j hj => ?_⟩
  rw [hc] at hj
  obtain rfl : j = i := by simpa using hj
  exact RD.hardOp hi hw hh
theorem RD.two (i j : Nat) {oi oj : Oper} (hi : ops[i]? = some oi) (hj : ops[j]? = some oj) (hc : Region.ready .any ops listed = [i, j]) (hw : Wd n ops oi τ true) (hw2 : Wd n ops oj τ true)
    (hh : Hd P n oi τ w fun v w' => (needs ops soft i = true → S w') ∧ RD P n ops soft S Q f (listed.setIfInBounds i true) (upo τ oi.dst v) w')
    (hh2 : Hd P n oj τ w fun v w' => (needs ops soft j = true → S w') ∧ RD P n ops soft S Q f (listed.setIfInBounds j true) (upo τ oj.dst v) w') : RD P n ops soft S Q (f + 1) listed τ w := by
  unfold RD wpC
  refine ⟨fun h => (by rw [hc] at h; cases h), fun k hk => ?_⟩
  rw [hc] at hk
  rcases (show k = i ∨ k = j by simpa using hk) with rfl | rfl
  · exact RD.hardOp hi hw hh
  · exact RD.hardOp hj hw2 hh2
theorem RD.fin {K : Fr → World → Prop} (hc : Region.ready .any ops listed = []) (F : Fr → Prop) (hF : F τ) (h : ∀ τ, F τ → K τ w) : RD P n ops soft S (Th K Q) f listed τ w := by
  have hn : NoPanic (On n (Th K Q)) .normal (AF n τ) w := ⟨τ, rfl, h τ hF⟩
  cases f with
  | zero => exact ⟨hc, hn⟩
  | succ f => exact ⟨fun _ => hn, by rw [hc]; intro i hi; cases hi⟩
theorem RD.gen (F : Fr → Prop) (hF : F τ) (h : ∀ τ, F τ → RD P n ops soft S Q f listed τ w) : RD P n ops soft S Q f listed τ w := h τ hF
theorem RD.done (hc : Region.ready .any ops listed = []) (h : Q .normal τ w) : RD P n ops soft S Q f listed τ w := by
  cases f with
  | zero => exact ⟨hc, τ, rfl, h⟩
  | succ f => exact ⟨fun _ => ⟨τ, rfl, h⟩, by rw [hc]; intro i hi; cases hi⟩

/-! ### returns -/
/-- what a result variable holds -/
inductive Rv (P : Program) (n : Nat) (τ : Fr) (w : World) : List ResultVar → List Value → Prop
  | nil : Rv P n τ w [] []
  | tmp {t : Tmp} {v : Value} {rs : List ResultVar} {vs : List Value} (h : (AF n τ).eval (.tmp t) = v) (r : Rv P n τ w rs vs) : Rv P n τ w (.tmp t :: rs) (v :: vs)
  | cell {t : Tmp} {ty : TypeId} {d : TypeDesc} {b : Nat} {cs : Array Value} {e : TypeId} {fr : Nat × Nat} {rs : List ResultVar} {vs : List Value} (h : (AF n τ).eval (.tmp t) = .pointer (some ⟨b, 0, none⟩)) (hb : w.heap[b]? = some (.cells cs e fr))
      (hu : P.underlying ty = some d) (hd : (match d with | .struct _ | .array _ _ => true | _ => false) = true) (hz : (P.info? ty).map (·.size) = some cs.size) (r : Rv P n τ w rs vs) : Rv P n τ w (.cell t ty :: rs) (.agg cs :: vs)
  | one {t : Tmp} {ty : TypeId} {d : TypeDesc} {b : Nat} {v : Value} {e : TypeId} {fr : Nat × Nat} {rs : List ResultVar} {vs : List Value} (h : (AF n τ).eval (.tmp t) = .pointer (some ⟨b, 0, none⟩)) (hb : w.heap[b]? = some (.cells #[v] e fr))
      (hu : P.underlying ty = some d) (hd : (match d with | .struct _ | .array _ _ => true | _ => false) = false) (r : Rv P n τ w rs vs) : Rv P n τ w (.cell t ty :: rs) (v :: vs)
def rvSem (tmps : Array Value) : ResultVar → Sem Value
  | .tmp t => pure (tmps.getD t undef)
  | .cell a t => do loadVar t (← asAddr (tmps.getD a undef))
theorem rv_tmp {t : Tmp} {v : Value} (h : (AF n τ).eval (.tmp t) = v) : (rvSem (AF n τ).tmps (.tmp t)).run P w = .ok v w := by
  have h' : (AF n τ).tmps.getD t undef = v := h
  simp only [rvSem, h']; rfl
theorem rv_cell {t : Tmp} {ty : TypeId} {a : Addr} {v : Value} (h : (AF n τ).eval (.tmp t) = .pointer (some a)) (hl : (loadVar ty a).run P w = .ok v w) : (rvSem (AF n τ).tmps (.cell t ty)).run P w = .ok v w := by
  have h' : (AF n τ).tmps.getD t undef = .pointer (some a) := h
  simp only [rvSem, h', asAddr]; simp [hl]
theorem Rv.run {rs : List ResultVar} {vs : List Value} (h : Rv P n τ w rs vs) : (rs.mapM (rvSem (AF n τ).tmps)).run P w = .ok vs w := by
  induction h with
  | nil => rfl
  | tmp h r ih => simp only [List.mapM_cons, Sem.run_bind, Sem.run_pure, Result.andThen_ok, rv_tmp (P := P) (w := w) h, ih]
  | cell h hb hu hd hz r ih => simp only [List.mapM_cons, Sem.run_bind, Sem.run_pure, Result.andThen_ok, rv_cell h (run_loadVar_row (P := P) w _ _ _ _ _ _ hb hu hd hz), ih]
  | @one t ty d b v e fr rs vs h hb hu hd r ih =>
    have hagg : (isAgg ty).run P w = .ok false w := by
      unfold isAgg
      rw [Sem.run_bind, run_underlying hu w]
      cases d <;> simp_all
    have hc : w.cell? ⟨b, 0, none⟩ = some v := by simp [World.cell?, hb]
    have hl : (loadVar ty ⟨b, 0, none⟩).run P w = .ok v w := by simp [loadVar, Sem.run_bind, hagg, hc]
    simp only [List.mapM_cons, Sem.run_bind, Sem.run_pure, Result.andThen_ok, rv_cell h hl, ih]
theorem results_eq (fn : Func) (tmps : Array Value) : results fn tmps = (do let vs ← fn.results.mapM (rvSem tmps); pure (if h : vs.size = 1 then vs[0] else .tuple vs)) := rfl
theorem ret1 {fn : Func} {R : Ending → World → Prop} {rv : ResultVar} {v : Value} (hr : fn.results = #[rv]) (h : Rv P n τ w [rv] [v]) (hR : R (.returned v) w) : bodyPost P fn R .ret (AF n τ) w := by
  refine ⟨rfl, v, ?_, hR⟩
  have := h.run
  rw [results_eq, hr, Array.mapM_eq_mapM_toList]
  simp only [map_eq_pure_bind, Sem.run_bind, this, Result.andThen_ok, Sem.run_pure]
  simp
theorem retN {fn : Func} {R : Ending → World → Prop} {rs : List ResultVar} {vs : List Value} (hr : fn.results.toList = rs) (h : Rv P n τ w rs vs) (hl : vs.length ≠ 1) (hR : R (.returned (.tuple vs.toArray)) w) : bodyPost P fn R .ret (AF n τ) w := by
  refine ⟨rfl, .tuple vs.toArray, ?_, hR⟩
  have := h.run
  rw [results_eq, Array.mapM_eq_mapM_toList, hr]
  simp only [map_eq_pure_bind, Sem.run_bind, this, Result.andThen_ok, Sem.run_pure]
  simp [hl]
end
end Go.SL
