/- Sessions, as plain lists: what the calls on a table of sessions tell, and what they leave. -/
namespace Go.S15
structure Rp where
  c : Int
  a : Int
  b : Int
  bs : List Int
def Rp.zero : Rp := ⟨0, 0, 0, []⟩
abbrev Ses := List (Int × Int × Rp)
def lget : Ses → Int → Option (Int × Rp)
  | [], _ => none
  | x :: L, k => if x.1 = k then some x.2 else lget L k
def lput : Ses → Int → Int × Rp → Ses
  | [], k, v => [(k, v)]
  | x :: L, k, v => if x.1 = k then (k, v) :: L else x :: lput L k v
def ldel : Ses → Int → Ses
  | [], _ => []
  | x :: L, k => if x.1 = k then L else x :: ldel L k
def openFull (L : Ses) (next : Int) : Bool := decide ((L.length : Int) ≥ 8) || decide (next ≥ 1099511627776)
def openL (L : Ses) (next : Int) : Ses := if openFull L next then L else lput L next (0, Rp.zero)
def openN (L : Ses) (next : Int) : Int := if openFull L next then next else next + 1
def openA (L : Ses) (next : Int) : Int := if openFull L next then 0 else next
def openE (L : Ses) (next : Int) : Int := if openFull L next then 134 else 0
def expL (L : Ses) (id : Int) : Ses := match lget L id with | none => L | some _ => ldel L id
def expE (L : Ses) (id : Int) : Int := match lget L id with | none => 150 | some _ => 0
def askE (L : Ses) (id seq : Int) : Int := match lget L id with | none => 150 | some s => if seq < max 1 s.1 then 151 else 0
def askS (L : Ses) (id seq : Int) : Bool := match lget L id with | none => false | some s => if seq < max 1 s.1 then false else decide (seq = s.1)
def askR (L : Ses) (id seq : Int) : Rp := match lget L id with | none => Rp.zero | some s => if seq < max 1 s.1 then Rp.zero else if seq = s.1 then s.2 else Rp.zero
def doneE (L : Ses) (id seq : Int) : Int := match lget L id with | none => 150 | some s => if seq ≤ s.1 then 151 else 0
def doneL (L : Ses) (id seq : Int) (r : Rp) : Ses := match lget L id with | none => L | some s => if seq ≤ s.1 then L else lput L id (seq, r)

/-- every number is there once, and no last number is below 0 -/
structure Ok (L : Ses) : Prop where
  once : (L.map (·.1)).Nodup
  pos : ∀ x ∈ L, 0 ≤ x.2.1
theorem keys_put (L : Ses) (k : Int) (v : Int × Rp) : ∀ j, j ∈ (lput L k v).map (·.1) → j = k ∨ j ∈ L.map (·.1) := by
  induction L with
  | nil => intro j h; simp [lput] at h; exact .inl h
  | cons x L ih =>
    intro j h
    unfold lput at h
    split at h
    · rename_i hx
      simp only [List.map_cons, List.mem_cons] at h ⊢
      rcases h with h | h
      · exact .inl h
      · exact .inr (.inr h)
    · simp only [List.map_cons, List.mem_cons] at h ⊢
      rcases h with h | h
      · exact .inr (.inl h)
      · rcases ih j h with h | h
        · exact .inl h
        · exact .inr (.inr h)
theorem keys_del (L : Ses) (k : Int) : ∀ j, j ∈ (ldel L k).map (·.1) → j ∈ L.map (·.1) := by
  induction L with
  | nil => intro j h; exact h
  | cons x L ih =>
    intro j h
    unfold ldel at h
    split at h
    · exact List.mem_cons_of_mem _ h
    · simp only [List.map_cons, List.mem_cons] at h ⊢
      rcases h with h | h
      · exact .inl h
      · exact .inr (ih j h)
theorem nodup_put {L : Ses} (h : (L.map (·.1)).Nodup) (k : Int) (v : Int × Rp) : ((lput L k v).map (·.1)).Nodup := by
  induction L with
  | nil => simp [lput]
  | cons x L ih =>
    simp only [List.map_cons, List.nodup_cons] at h
    unfold lput
    split
    · rename_i hx
      simp only [List.map_cons, List.nodup_cons]
      rw [← hx]; exact h
    · rename_i hx
      simp only [List.map_cons, List.nodup_cons]
      refine ⟨fun hm => ?_, ih h.2⟩
      rcases keys_put L k v _ hm with q | q
      · exact hx q
      · exact h.1 q
theorem nodup_del {L : Ses} (h : (L.map (·.1)).Nodup) (k : Int) : ((ldel L k).map (·.1)).Nodup := by
  induction L with
  | nil => exact h
  | cons x L ih =>
    simp only [List.map_cons, List.nodup_cons] at h
    unfold ldel
    split
    · exact h.2
    · simp only [List.map_cons, List.nodup_cons]
      exact ⟨fun hm => h.1 (keys_del L k _ hm), ih h.2⟩
theorem lget_none {L : Ses} {k : Int} : lget L k = none ↔ k ∉ L.map (·.1) := by
  induction L with
  | nil => simp [lget]
  | cons x L ih =>
    unfold lget
    split
    · rename_i hx; simp [hx]
    · rename_i hx
      rw [ih]; simp only [List.map_cons, List.mem_cons, not_or]
      exact ⟨fun q => ⟨fun e => hx e.symm, q⟩, fun q => q.2⟩
theorem lget_del {L : Ses} (h : (L.map (·.1)).Nodup) (k : Int) : lget (ldel L k) k = none := by
  induction L with
  | nil => rfl
  | cons x L ih =>
    simp only [List.map_cons, List.nodup_cons] at h
    unfold ldel
    split
    · rename_i hx
      rw [lget_none, ← hx]; exact h.1
    · rename_i hx
      unfold lget
      rw [if_neg hx]; exact ih h.2
theorem lget_put (L : Ses) (k : Int) (v : Int × Rp) : lget (lput L k v) k = some v := by
  induction L with
  | nil => simp [lput, lget]
  | cons x L ih =>
    unfold lput
    split
    · simp [lget]
    · rename_i hx
      unfold lget
      rw [if_neg hx]; exact ih
theorem mem_put {L : Ses} {k : Int} {v : Int × Rp} : ∀ x, x ∈ lput L k v → x = (k, v) ∨ x ∈ L := by
  induction L with
  | nil => intro x h; simp [lput] at h; exact .inl h
  | cons y L ih =>
    intro x h
    unfold lput at h
    split at h
    · simp only [List.mem_cons] at h ⊢
      rcases h with h | h
      · exact .inl h
      · exact .inr (.inr h)
    · simp only [List.mem_cons] at h ⊢
      rcases h with h | h
      · exact .inr (.inl h)
      · rcases ih x h with h | h
        · exact .inl h
        · exact .inr (.inr h)
theorem mem_del {L : Ses} {k : Int} : ∀ x, x ∈ ldel L k → x ∈ L := by
  induction L with
  | nil => intro x h; exact h
  | cons y L ih =>
    intro x h
    unfold ldel at h
    split at h
    · exact List.mem_cons_of_mem _ h
    · simp only [List.mem_cons] at h ⊢
      rcases h with h | h
      · exact .inl h
      · exact .inr (ih x h)
theorem lget_mem {L : Ses} {k : Int} {s : Int × Rp} (h : lget L k = some s) : (k, s) ∈ L := by
  induction L with
  | nil => cases h
  | cons y L ih =>
    unfold lget at h
    split at h
    · rename_i hx
      cases h
      rw [← hx]; exact List.mem_cons_self
    · exact List.mem_cons_of_mem _ (ih h)
theorem Ok.nil : Ok [] := ⟨by simp, by simp⟩
theorem Ok.put {L : Ses} (o : Ok L) (k : Int) {q : Int} {r : Rp} (hq : 0 ≤ q) : Ok (lput L k (q, r)) :=
  ⟨nodup_put o.once _ _, fun x hx => by rcases mem_put x hx with rfl | h; · exact hq
                                        · exact o.pos x h⟩
theorem Ok.del {L : Ses} (o : Ok L) (k : Int) : Ok (ldel L k) := ⟨nodup_del o.once _, fun x hx => o.pos x (mem_del x hx)⟩
theorem Ok.exp {L : Ses} (o : Ok L) (k : Int) : Ok (expL L k) := by
  unfold expL; cases lget L k with
  | none => exact o
  | some _ => exact o.del k
theorem Ok.done {L : Ses} (o : Ok L) (k q : Int) (r : Rp) : Ok (doneL L k q r) := by
  unfold doneL
  cases h : lget L k with
  | none => exact o
  | some s =>
    simp only
    split
    · exact o
    · rename_i hq
      have := o.pos _ (lget_mem h)
      exact o.put k (by simp only at this; omega)
theorem exp_askE {L : Ses} (o : Ok L) (k q : Int) : askE (expL L k) k q = 150 := by
  unfold askE expL
  cases h : lget L k with
  | none => simp only [h]
  | some s => simp only [lget_del o.once]
theorem done_get {L : Ses} {k q : Int} {r : Rp} (o : Ok L) (h : doneE L k q = 0) : lget (doneL L k q r) k = some (q, r) ∧ 1 ≤ q := by
  unfold doneE at h
  unfold doneL
  cases hg : lget L k with
  | none => rw [hg] at h; cases h
  | some s =>
    rw [hg] at h
    simp only at h ⊢
    split at h
    · cases h
    · rename_i hq
      rw [if_neg hq]
      have := o.pos _ (lget_mem hg)
      simp only at this
      exact ⟨lget_put _ _ _, by omega⟩
theorem done_askR {L : Ses} {k q : Int} {r : Rp} (o : Ok L) (h : doneE L k q = 0) : askR (doneL L k q r) k q = r := by
  obtain ⟨h1, h2⟩ := done_get (r := r) o h
  unfold askR; rw [h1]; simp only; rw [if_neg (by omega)]; simp
theorem done_askS {L : Ses} {k q : Int} {r : Rp} (o : Ok L) (h : doneE L k q = 0) : askS (doneL L k q r) k q = true := by
  obtain ⟨h1, h2⟩ := done_get (r := r) o h
  unfold askS; rw [h1]; simp only; rw [if_neg (by omega)]; simp
theorem done_askE {L : Ses} {k q : Int} {r : Rp} (o : Ok L) (h : doneE L k q = 0) : askE (doneL L k q r) k q = 0 := by
  obtain ⟨h1, h2⟩ := done_get (r := r) o h
  unfold askE; rw [h1]; simp only; rw [if_neg (by omega)]
theorem done_doneE {L : Ses} {k q : Int} {r : Rp} (o : Ok L) (h : doneE L k q = 0) : doneE (doneL L k q r) k q = 151 := by
  obtain ⟨h1, h2⟩ := done_get (r := r) o h
  unfold doneE; rw [h1]; simp only; rw [if_pos (by omega)]
theorem done_doneL {L : Ses} {k q : Int} {r r' : Rp} (o : Ok L) (h : doneE L k q = 0) : doneL (doneL L k q r) k q r' = doneL L k q r := by
  obtain ⟨h1, h2⟩ := done_get (r := r) o h
  generalize doneL L k q r = M at *
  unfold doneL; rw [h1]; simp only; rw [if_pos (by omega)]
end Go.S15
