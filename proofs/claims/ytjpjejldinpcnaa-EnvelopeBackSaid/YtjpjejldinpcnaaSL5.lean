/- Maps by whole numbers; reading what is held. -/
import Derived.Test.YtjpjejldinpcnaaSL4
import Derived.MapKept
namespace Go.SL
open Go.RowKit
set_option linter.unusedVariables false
set_option linter.unusedSimpArgs false

section
variable {p : Pers} {w : World} {H H' : List Assn}
theorem St.cell {b : Nat} {c : Array Value} {e : TypeId} {fr : Nat × Nat} {j : Nat} {v : Value} (s : St p w H) (d : Del (pt b (.cells c e fr)) H H') (h : c[j]? = some v) : w.cell? ⟨b, j, none⟩ = some v := by
  rw [cell_of_row w b j c e fr (s.blockAt d)]; exact h
theorem St.ocell {e : TypeId} {sz b n c j : Nat} {xs : List Value} {v : Value} (s : St p w H) (d : Del (Own e sz (.slice (some ⟨b, 0, none⟩) n c) n xs) H H') (h : xs[j]? = some v) : w.cell? ⟨b, j, none⟩ = some v := by
  obtain ⟨hl, X, c', he, hc, h0 | ⟨b', o, hX, hcell⟩⟩ := Own.src (s.take d)
  · subst h0; have : xs = [] := List.eq_nil_of_length_eq_zero (by simpa using hl)
    subst this; simp at h
  · cases he; cases hX
    have := hcell j v h
    rwa [Nat.zero_add] at this
theorem St.pcell {b : Nat} {c : Array Value} {e : TypeId} {fr : Nat × Nat} {j : Nat} {v : Value} (s : St p w H) (hp : p.h b = some (.cells c e fr)) (h : c[j]? = some v) : w.cell? ⟨b, j, none⟩ = some v := by
  rw [cell_of_row w b j c e fr (s.pers hp)]; exact h
/-- the shape of a held slice; and where it lies, if it is not empty -/
theorem St.shape {e : TypeId} {sz n : Nat} {v : Value} {xs : List Value} (s : St p w (Own e sz v n xs :: H)) : ∃ X c, v = .slice X n c ∧ n ≤ c ∧ c ≤ maxLen ∧ xs.length = n * sz ∧ (0 < n → ∃ b, X = some ⟨b, 0, none⟩) := by
  obtain ⟨hl, ⟨A, rfl, rfl, _⟩ | ⟨g, cap, cur, rfl, hp, hn, hc, hs, hx⟩⟩ := s.ownOpen
  · exact ⟨A, 0, rfl, Nat.le_refl _, by simp [maxLen], hl, fun h => absurd h (by omega)⟩
  · exact ⟨_, cap, rfl, hn, hc, hl, fun _ => ⟨g, rfl⟩⟩
theorem St.cellsAt {e : TypeId} {sz b n c o : Nat} {xs ys : List Value} (s : St p w H) (d : Del (Own e sz (.slice (some ⟨b, 0, none⟩) n c) n xs) H H') (h : ∀ j v, ys[j]? = some v → xs[o + j]? = some v) :
    ∀ j v, ys[j]? = some v → w.cell? ⟨b, o + j, none⟩ = some v := fun j v hv => s.ocell d (h j v hv)
theorem St.cellsIn {b o : Nat} {c : Array Value} {e : TypeId} {fr : Nat × Nat} {ys : List Value} (s : St p w H) (d : Del (pt b (.cells c e fr)) H H') (h : (c.toList.drop o).take ys.length = ys) :
    ∀ j v, ys[j]? = some v → w.cell? ⟨b, o + j, none⟩ = some v := fun j v hv => s.cell d (by
      rw [← h, List.getElem?_take] at hv
      split at hv
      · simpa using hv
      · cases hv)
end

/-! ### a map by ints -/
def MapI (b : Nat) (ks : List (Int × Value)) : Assn := fun h => ∃ es clock, pt b (.map es clock) h ∧ es.toList.map (fun e => (e.key, e.val)) = (ks.map fun q => (Value.int .i64 q.1, q.2)) ∧ MapKept.Stamped es clock
def aget (ks : List (Int × Value)) (k : Int) : Option Value := (ks.find? fun q => q.1 == k).map (·.2)
def aput : List (Int × Value) → Int → Value → List (Int × Value)
  | [], k, v => [(k, v)]
  | q :: r, k, v => if q.1 = k then (k, v) :: r else q :: aput r k v
def adel : List (Int × Value) → Int → List (Int × Value)
  | [], _ => []
  | q :: r, k => if q.1 = k then r else q :: adel r k
section
variable {P : Program} {p : Pers} {w : World} {H H' : List Assn}
theorem St.mapOpen {b : Nat} {ks : List (Int × Value)} (s : St p w (MapI b ks :: H)) : ∃ es clock, St p w (pt b (.map es clock) :: H) ∧ es.toList.map (fun e => (e.key, e.val)) = (ks.map fun q => (Value.int .i64 q.1, q.2)) ∧ MapKept.Stamped es clock := by
  obtain ⟨h, ⟨x, y, d, e', ⟨es, cl, hp, he⟩, hy⟩, r⟩ := s
  exact ⟨es, cl, ⟨h, ⟨x, y, d, e', hp, hy⟩, r⟩, he⟩
theorem St.mapClose {b clock : Nat} {es : Array MapEntry} {ks : List (Int × Value)} (s : St p w (pt b (.map es clock) :: H)) (he : es.toList.map (fun e => (e.key, e.val)) = ks.map fun q => (Value.int .i64 q.1, q.2)) (hs : MapKept.Stamped es clock := by exact MapKept.stamped_empty _) : St p w (MapI b ks :: H) :=
  s.weaken fun x hx => ⟨es, clock, hx, he, hs⟩
theorem findNow_ints (k : Int) : ∀ (l : List MapEntry) (ks : List (Int × Value)) (i : Nat), l.map (fun e => (e.key, e.val)) = ks.map (fun q => (Value.int .i64 q.1, q.2)) →
    Instr.findNow (.int .i64) (.int .i64 k) l i = some ((ks.findIdx? fun q => q.1 == k).map fun j => (i + j, ((aget ks k).getD undef))) := by
  intro l
  induction l with
  | nil => intro ks i h; cases ks with
    | nil => rfl
    | cons q r => simp at h
  | cons e l ih =>
    intro ks i h
    cases ks with
    | nil => simp at h
    | cons q r =>
      simp only [List.map_cons, List.cons.injEq, Prod.mk.injEq] at h
      obtain ⟨⟨hk, hv⟩, hr⟩ := h
      have hs : Instr.sameNow (.int .i64) (.int .i64 k) e.key = some (k == q.1) := by rw [hk]; simp [Instr.sameNow]
      unfold Instr.findNow
      rw [hs]
      by_cases hq : k = q.1
      · subst hq
        simp [List.findIdx?_cons, aget, hv]
      · have h1 : (k == q.1) = false := by simpa using hq
        have h2 : (q.1 == k) = false := by simpa using fun h => hq h.symm
        rw [h1]
        simp only [ih r (i + 1) hr, List.findIdx?_cons, h2, aget, List.find?_cons]
        cases (r.findIdx? fun q => q.1 == k) <;> simp [Nat.add_assoc, Nat.add_comm 1]
theorem aget_some {ks : List (Int × Value)} {k : Int} : (aget ks k).isSome = (ks.findIdx? fun q => q.1 == k).isSome := by
  rw [Bool.eq_iff_iff]; simp [aget, List.findIdx?_isSome, List.find?_isSome]
theorem checkKey_int {t : TypeId} (ht : P.underlying t = some (.int .i64)) (em : Bool) (k : Int) : (Instr.checkKey em 10000 t (.int .i64 k)).run P w = .ok () w := by
  show (Instr.checkKey em (9999 + 1) t (.int .i64 k)).run P w = .ok () w
  unfold Instr.checkKey
  rw [Sem.run_bind, run_underlying ht w]
  rfl
theorem findKey_ints {t : TypeId} (ht : P.underlying t = some (.int .i64)) {es : Array MapEntry} {ks : List (Int × Value)} (he : es.toList.map (fun e => (e.key, e.val)) = ks.map fun q => (Value.int .i64 q.1, q.2)) (k : Int) :
    (Instr.findKey t (.int .i64 k) es.toList).run P w = .ok ((ks.findIdx? fun q => q.1 == k).map fun j => (j, ((aget ks k).getD undef))) w := by
  unfold Instr.findKey
  rw [Sem.run_bind, run_underlying ht w]
  simp [findNow_ints k es.toList ks 0 he]
variable {n : Nat} {τ : Fr} {dst : Option Tmp} {ty : TypeId} {pos : String} {af : Array Edge} {gd : Option (Nat × Bool)} {K : Value → World → Prop}
theorem run_getObj_map {b clock : Nat} {es : Array MapEntry} (hb : w.heap[b]? = some (.map es clock)) : (getObj b).run P w = .ok (.map es clock) w := by simp [getObj, Sem.run, hb]
theorem E.lookup {ρ : Operand → Value} {x y : Operand} {t kt et : TypeId} {b : Nat} {ks : List (Int × Value)} {k : Int} {z : Value} (ht : P.underlying t = some (.map kt et)) (hk : P.underlying kt = some (.int .i64)) (hz : (P.info? et).bind (·.zero) = some z)
    (hx : ρ x = .map (some b)) (hy : ρ y = .int .i64 k) (s : St p w H) (d : Del (MapI b ks) H H') : Ev P ρ ⟨dst, .lookup t x y true, ty, pos, af, gd⟩ w (.tuple #[(aget ks k).getD z, .bool (aget ks k).isSome]) := by
  obtain ⟨es, cl, s2, he, hstm⟩ := (s.take d).mapOpen
  have hg := run_getObj_map (P := P) s2.block
  have hf := findKey_ints (P := P) (w := w) hk he k
  have hc := checkKey_int (P := P) (w := w) hk es.isEmpty k
  have hzv : (zeroValue et).run P w = .ok z w := by
    cases hq : P.info? et with
    | none => simp [hq] at hz
    | some i => have : i.zero = some z := by simpa [hq] using hz
                simp [zeroValue, typeInfo, hq, this]
  have hs := aget_some (ks := ks) (k := k)
  cases hi : ks.findIdx? fun q => q.1 == k with
  | none =>
    rw [hi] at hs hf
    have hn : aget ks k = none := by simpa using hs
    simp [Ev, execOp, Instr.lookup, run_underlying ht, hx, hy, hg, hc, hf, hzv, hn]
  | some j =>
    rw [hi] at hs hf
    obtain ⟨v, hv⟩ := Option.isSome_iff_exists.1 (by simpa using hs)
    simp [Ev, execOp, Instr.lookup, run_underlying ht, hx, hy, hg, hc, hf, hv]
theorem E.lookupN {ρ : Operand → Value} {x y : Operand} {t kt et : TypeId} {b : Nat} {ks : List (Int × Value)} {k : Int} {z : Value} (hg : aget ks k = none) (ht : P.underlying t = some (.map kt et)) (hk : P.underlying kt = some (.int .i64)) (hz : (P.info? et).bind (·.zero) = some z)
    (hx : ρ x = .map (some b)) (hy : ρ y = .int .i64 k) (s : St p w H) (d : Del (MapI b ks) H H') : Ev P ρ ⟨dst, .lookup t x y true, ty, pos, af, gd⟩ w (.tuple #[z, .bool false]) := by
  have q := E.lookup (dst := dst) (ty := ty) (pos := pos) (af := af) (gd := gd) ht hk hz hx hy s d
  rw [hg] at q; exact q
theorem E.lookupS {ρ : Operand → Value} {x y : Operand} {t kt et : TypeId} {b : Nat} {ks : List (Int × Value)} {k : Int} {z v : Value} (hg : aget ks k = some v) (ht : P.underlying t = some (.map kt et)) (hk : P.underlying kt = some (.int .i64)) (hz : (P.info? et).bind (·.zero) = some z)
    (hx : ρ x = .map (some b)) (hy : ρ y = .int .i64 k) (s : St p w H) (d : Del (MapI b ks) H H') : Ev P ρ ⟨dst, .lookup t x y true, ty, pos, af, gd⟩ w (.tuple #[v, .bool true]) := by
  have q := E.lookup (dst := dst) (ty := ty) (pos := pos) (af := af) (gd := gd) ht hk hz hx hy s d
  rw [hg] at q; exact q
theorem E.lenMap {ρ : Operand → Value} {x : Operand} {t kt et : TypeId} {b : Nat} {ks : List (Int × Value)} (ht : P.underlying t = some (.map kt et)) (hx : ρ x = .map (some b)) (s : St p w H) (d : Del (MapI b ks) H H') :
    Ev P ρ ⟨dst, .call ⟨.builtin .len, #[x], #[t]⟩, ty, pos, af, gd⟩ w (.int .i64 ks.length) := by
  obtain ⟨es, cl, s2, he, hstm⟩ := (s.take d).mapOpen
  have hg := run_getObj_map (P := P) s2.block
  have hl : es.size = ks.length := by have := congrArg List.length he; simpa using this
  simp [Ev, execOp, resolve, invoke, builtin, Builtin.len_, run_underlying ht, hx, goInt, hg, hl]
theorem map_erase {α β : Type} (f : α → β) : ∀ (l : List α) (i : Nat), (l.eraseIdx i).map f = (l.map f).eraseIdx i
  | [], _ => rfl
  | _ :: _, 0 => rfl
  | _ :: l, i + 1 => congrArg _ (map_erase f l i)
theorem aput_none {ks : List (Int × Value)} {k : Int} (v : Value) (h : ks.findIdx? (fun q => q.1 == k) = none) : aput ks k v = ks ++ [(k, v)] := by
  induction ks with
  | nil => rfl
  | cons q r ih =>
    rw [List.findIdx?_eq_none_iff] at h ih
    have h1 : ¬ q.1 = k := by simpa using h q (List.mem_cons_self)
    simp only [aput, if_neg h1, List.cons_append]
    rw [ih fun x hx => h x (List.mem_cons_of_mem _ hx)]
theorem aput_some {ks : List (Int × Value)} {k : Int} (v : Value) : ∀ {j : Nat}, ks.findIdx? (fun q => q.1 == k) = some j → aput ks k v = ks.set j (k, v) := by
  induction ks with
  | nil => intro j h; simp at h
  | cons q r ih =>
    intro j h
    rw [List.findIdx?_cons] at h
    by_cases h1 : q.1 = k
    · have : (q.1 == k) = true := by simpa using h1
      simp [this] at h; subst h
      simp [aput, h1]
    · have : (q.1 == k) = false := by simpa using h1
      simp [this] at h
      obtain ⟨i, hi, rfl⟩ := h
      simp [aput, h1, ih hi]
theorem adel_eq {ks : List (Int × Value)} {k : Int} : adel ks k = (match ks.findIdx? (fun q => q.1 == k) with | some j => ks.eraseIdx j | none => ks) := by
  induction ks with
  | nil => rfl
  | cons q r ih =>
    by_cases h1 : q.1 = k
    · simp [adel, h1, List.findIdx?_cons]
    · have h2 : (q.1 == k) = false := by simpa using h1
      simp only [adel, if_neg h1, List.findIdx?_cons, h2, ih]
      cases r.findIdx? (fun q => q.1 == k) <;> simp
theorem run_setObj_map {b clock : Nat} {es : Array MapEntry} {o : Obj} (hb : w.heap[b]? = some (.map es clock)) : (setObj b o).run P w = .ok () { w with heap := w.heap.setIfInBounds b o } := by simp [setObj, Sem.run, hb]
theorem St.putObj {b : Nat} {o o' : Obj} (s : St p w (pt b o :: H)) : St p { w with heap := w.heap.setIfInBounds b o' } (pt b o' :: H) :=
  s.turn (by have := (Array.getElem?_eq_some_iff.1 s.block).1; simp [this]) (fun k hk => by simp [Array.getElem?_setIfInBounds_ne (Ne.symm hk)]) rfl rfl rfl
theorem H.mapUpdate {x y z : Operand} {t kt et : TypeId} {b : Nat} {ks : List (Int × Value)} {k : Int} {v : Value} (ht : P.underlying t = some (.map kt et)) (hk : P.underlying kt = some (.int .i64))
    (hx : (AF n τ).eval x = .map (some b)) (hy : (AF n τ).eval y = .int .i64 k) (hz : (AF n τ).eval z = v) (s : St p w H) (d : Rep (MapI b ks) (MapI b (aput ks k v)) H H')
    (h : ∀ w', St p w' H' → K undef w') : Hd P n ⟨dst, .mapUpdate t x y z, ty, pos, af, gd⟩ τ w K := by
  obtain ⟨m, d1, d2⟩ := d.dels
  obtain ⟨es, cl, s2, he, hstm⟩ := (s.take d1).mapOpen
  have hg := run_getObj_map (P := P) s2.block
  have hf := findKey_ints (P := P) (w := w) hk he k
  have hc := checkKey_int (P := P) (w := w) hk false k
  have hs := fun o => run_setObj_map (P := P) (o := o) s2.block
  have hl : es.size = ks.length := by have := congrArg List.length he; simpa using this
  cases hi : ks.findIdx? fun q => q.1 == k with
  | none =>
    rw [hi] at hf
    refine Hd.skip (w' := { w with heap := w.heap.setIfInBounds b (.map (es.push { key := .int .i64 k, val := v, born := cl }) (cl + 1)) }) ?_ (h _ (St.give ((s2.putObj).mapClose ?_ ?_) d2))
    · simp [execOp, Instr.mapUpdate, run_underlying ht, hx, hy, hz, hg, hc, hf, hs]
    · rw [aput_none v hi]; simp [he]
    · refine MapKept.stamped_push hstm fun x hx e => ?_
      obtain ⟨i, hi1, hi2⟩ := List.getElem_of_mem hx
      have h3 := congrArg (fun l => l[i]?) he
      have hik : i < ks.length := by rw [Array.length_toList] at hi1; omega
      simp only [List.getElem?_map, List.getElem?_eq_getElem hi1, List.getElem?_eq_getElem hik, Option.map_some, Option.some.injEq, Prod.mk.injEq] at h3
      rw [List.findIdx?_eq_none_iff] at hi
      have h4 := hi _ (List.getElem_mem hik)
      rw [hi2, e] at h3
      have h5 := h3.1
      simp only [Value.int.injEq, true_and] at h5
      rw [← h5] at h4; simp at h4
  | some j =>
    rw [hi] at hf
    have hj : j < ks.length := by have := (List.findIdx?_eq_some_iff_getElem.1 hi).1; exact this
    have hkj : ks[j].1 = k := by have := (List.findIdx?_eq_some_iff_getElem.1 hi).2.1; simpa using this
    have hje : j < es.size := by omega
    have hke : es[j].key = .int .i64 k := by
      have := congrArg (fun l => l[j]?) he
      simp [hje, hj] at this
      rw [this.1, hkj]
    have hsb : Instr.sameBits 10000 (.int .i64 k) (.int .i64 k) = true := by simp [Instr.sameBits]
    have hks : (Instr.keyThatStays (.int .i64 k) (.int .i64 k)).run P w = .ok (.int .i64 k) w := by simp [Instr.keyThatStays, hsb]
    refine Hd.skip (w' := { w with heap := w.heap.setIfInBounds b (.map (es.modify j fun e => { e with key := .int .i64 k, val := v }) cl) }) ?_ (h _ (St.give ((s2.putObj).mapClose ?_ ?_) d2))
    · simp [execOp, Instr.mapUpdate, run_underlying ht, hx, hy, hz, hg, hc, hf, hs, hje, hke, hks]
    · rw [aput_some v hi]
      apply List.ext_getElem
      · simp [hl]
      · intro i h1 h2
        simp at h1 h2
        have := congrArg (fun l => l[i]?) he
        simp [h1, h2] at this
        by_cases hij : j = i
        · subst hij; simp
        · simp [Array.getElem_modify, hij, this, List.getElem_set]
    · refine MapKept.stamped_modify hstm j _ (fun _ _ => rfl) fun e he1 he2 => ?_
      rw [Array.getElem?_eq_getElem hje] at he2; cases he2; exact hke.symm
theorem H.delete {x y : Operand} {t u kt et : TypeId} {b : Nat} {ks : List (Int × Value)} {k : Int} (ht : P.underlying t = some (.map kt et)) (hk : P.underlying kt = some (.int .i64))
    (hx : (AF n τ).eval x = .map (some b)) (hy : (AF n τ).eval y = .int .i64 k) (s : St p w H) (d : Rep (MapI b ks) (MapI b (adel ks k)) H H')
    (h : ∀ w', St p w' H' → K (.tuple #[]) w') : Hd P n ⟨dst, .call ⟨.builtin .delete, #[x, y], #[t, u]⟩, ty, pos, af, gd⟩ τ w K := by
  obtain ⟨m, d1, d2⟩ := d.dels
  obtain ⟨es, cl, s2, he, hstm⟩ := (s.take d1).mapOpen
  have hg := run_getObj_map (P := P) s2.block
  have hf := findKey_ints (P := P) (w := w) hk he k
  have hc := checkKey_int (P := P) (w := w) hk es.isEmpty k
  have hs := fun o => run_setObj_map (P := P) (o := o) s2.block
  have hl : es.size = ks.length := by have := congrArg List.length he; simpa using this
  cases hi : ks.findIdx? fun q => q.1 == k with
  | none =>
    rw [hi] at hf
    refine Hd.value (v := .tuple #[]) (w' := { w with heap := w.heap.setIfInBounds b (.map es cl) }) ?_ (h _ (St.give ((s2.putObj).mapClose ?_ ?_) d2))
    · simp [execOp, resolve, invoke, builtin, Builtin.delete_, run_underlying ht, hx, hy, hg, hc, hf, hs]
    · rw [adel_eq, hi]; exact he
    · exact hstm
  | some j =>
    rw [hi] at hf
    have hj : j < ks.length := (List.findIdx?_eq_some_iff_getElem.1 hi).1
    have hje : j < es.size := by omega
    refine Hd.value (v := .tuple #[]) (w' := { w with heap := w.heap.setIfInBounds b (.map (es.eraseIdxIfInBounds j) cl) }) ?_ (h _ (St.give ((s2.putObj).mapClose ?_ ?_) d2))
    · simp [execOp, resolve, invoke, builtin, Builtin.delete_, run_underlying ht, hx, hy, hg, hc, hf, hs]
    · rw [adel_eq, hi]
      simp only [Array.eraseIdxIfInBounds, hje, dif_pos, Array.toList_eraseIdx]
      rw [map_erase, he, map_erase]
    · exact MapKept.stamped_erase hstm j
end

section
variable {p : Pers} {w : World} {H : List Assn}
theorem Src.nil0 {sz m n c : Nat} {xs : List Value} (h : Src w sz (.slice none m c) n xs) : m = 0 ∧ n = 0 ∧ xs = [] := by
  obtain ⟨hl, X, c', he, hc, h0 | ⟨b, o, hX, _⟩⟩ := h
  · cases he; subst h0
    exact ⟨rfl, rfl, List.eq_nil_of_length_eq_zero (by simpa using hl)⟩
  · cases he; cases hX
theorem Src.len {sz m n c : Nat} {X : Option Addr} {xs : List Value} (h : Src w sz (.slice X m c) n xs) : m = n ∧ n ≤ c ∧ xs.length = n * sz := by
  obtain ⟨hl, X', c', he, hc, _⟩ := h
  cases he; exact ⟨rfl, hc, hl⟩
/-- nothing -/
def Emp : Assn := fun h => h = none0
theorem St.emp (s : St p w H) : St p w (Emp :: H) := s.none0
/-- elements that last: told by the lasting part alone -/
def Las (p : Pers) (sz : Nat) (x : Value) (m : Nat) (xs : List Value) : Prop :=
  xs.length = m * sz ∧ ∃ X c, x = .slice X m c ∧ m ≤ c ∧ (m = 0 ∨ ∃ b o cur e fr, X = some ⟨b, o, none⟩ ∧ p.h b = some (.cells cur e fr) ∧ ∀ j u, xs[j]? = some u → cur[o + j]? = some u)
theorem Las.src {sz m : Nat} {x : Value} {xs : List Value} (l : Las p sz x m xs) (s : St p w H) : Src w sz x m xs := by
  obtain ⟨hl, X, c, rfl, hc, h0 | ⟨b, o, cur, e, fr, rfl, hp, hcell⟩⟩ := l
  · exact ⟨hl, X, c, rfl, hc, .inl h0⟩
  · exact ⟨hl, _, c, rfl, hc, .inr ⟨b, o, rfl, fun j u hu => s.pcell hp (hcell j u hu)⟩⟩
theorem Las.le {q : Pers} {sz m : Nat} {x : Value} {xs : List Value} (l : Las p sz x m xs) (h : p.le q) : Las q sz x m xs := by
  obtain ⟨hl, X, c, rfl, hc, h0 | ⟨b, o, cur, e, fr, rfl, hp, hcell⟩⟩ := l
  · exact ⟨hl, X, c, rfl, hc, .inl h0⟩
  · exact ⟨hl, _, c, rfl, hc, .inr ⟨b, o, cur, e, fr, rfl, h.h _ _ hp, hcell⟩⟩
/-- a held row lasts from now on -/
theorem St.ownKeep {e : TypeId} {sz n : Nat} {v : Value} {xs : List Value} (s : St p w (Own e sz v n xs :: H)) : ∃ q, p.le q ∧ Las q sz v n xs ∧ St q w H := by
  obtain ⟨hl, ⟨A, rfl, rfl, s2⟩ | ⟨g, cap, cur, rfl, s2, hn, hc, hs, hx⟩⟩ := s.ownOpen
  · exact ⟨p, p.le_refl, ⟨hl, A, 0, rfl, Nat.le_refl _, .inl rfl⟩, s2⟩
  · obtain ⟨q, le, hq, s3⟩ := s2.keepPt
    refine ⟨q, le, ⟨hl, _, cap, rfl, hn, .inr ⟨g, 0, cur, e, _, rfl, hq, fun j u hu => ?_⟩⟩, s3⟩
    rw [Nat.zero_add]
    rw [← hx, List.getElem?_take] at hu
    split at hu
    · simpa using hu
    · cases hu
end
/-! ### bytes -/
def bv (ns : List Int) : List Value := ns.map (Value.int .u8)
def bstr (ns : List Int) : ByteArray := ns.foldl (fun r n => r.push (UInt8.ofNat n.toNat)) ByteArray.empty
theorem bv_one (ns : List Int) : ∀ u ∈ bv ns, u.oneCell' = true := by
  intro u hu; simp only [bv, List.mem_map] at hu; obtain ⟨n, _, rfl⟩ := hu; rfl
theorem bv_length (ns : List Int) : (bv ns).length = ns.length := by simp [bv]
theorem bv_take (ns : List Int) (k : Nat) : (bv ns).take k = bv (ns.take k) := by simp [bv]
section
variable {P : Program} {ρ : Operand → Value} {w : World} {dst : Option Tmp} {ty : TypeId} {pos : String} {af : Array Edge} {gd : Option (Nat × Bool)}
theorem E.bytesStr {x : Operand} {src dt e : TypeId} {v : Value} {m : Nat} {ns : List Int} (hs : P.underlying src = some (.slice e)) (he : P.underlying e = some (.int .u8)) (hd : P.underlying dt = some .string)
    (hx : ρ x = v) (hsrc : Src w 1 v m (bv ns)) : Ev P ρ ⟨dst, .convert src dt x, ty, pos, af, gd⟩ w (.string (bstr ns)) := by
  obtain ⟨hl, X, c, rfl, hc, h⟩ := hsrc
  have hr : (Conv.bytesToString (.slice X m c)).run P w = .ok (.string (bstr ns)) w := by
    rcases h with rfl | ⟨b, o, rfl, hcell⟩
    · have hn : ns = [] := by have : ns.length = 0 := by simpa [bv] using hl
                              exact List.eq_nil_of_length_eq_zero this
      subst hn
      cases X with
      | none => rfl
      | some a => exact run_bytesToString w a 0 c [] rfl
    · refine run_bytesToString w _ m c ns ?_
      have hm : m = (bv ns).length := by omega
      rw [hm]
      exact run_loadCells_list (P := P) w ⟨b, o, none⟩ (bv ns) (fun j v hv => by rw [add_lit]; exact hcell j v hv)
  simp [Ev, execOp, hx, run_convert_bytes_string w src dt e X m c hs he hd, hr]
theorem E.eqlStr {x y : Operand} {t t' : TypeId} {a b : ByteArray} (hx : ρ x = .string a) (hy : ρ y = .string b) : Ev P ρ ⟨dst, .binOp .eql t x y t', ty, pos, af, gd⟩ w (.bool (a.toList == b.toList)) := by
  simp [Ev, execOp, eqGuard, binOp, Op.stringOp, hx, hy]
theorem E.neqStr {x y : Operand} {t t' : TypeId} {a b : ByteArray} (hx : ρ x = .string a) (hy : ρ y = .string b) : Ev P ρ ⟨dst, .binOp .neq t x y t', ty, pos, af, gd⟩ w (.bool (!(a.toList == b.toList))) := by
  simp [Ev, execOp, eqGuard, binOp, Op.stringOp, hx, hy]
theorem Src.take {sz m c k : Nat} {X : Option Addr} {xs : List Value} (h : Src w sz (.slice X m c) m xs) (hk : k ≤ m) : Src w sz (.slice X k c) k (xs.take (k * sz)) := by
  obtain ⟨hl, X', c', he, hc, h2⟩ := h
  cases he
  refine ⟨by rw [List.length_take, hl]; exact Nat.min_eq_left (Nat.mul_le_mul_right _ hk), X, c, rfl, by omega, ?_⟩
  rcases h2 with rfl | ⟨b, o, rfl, hcell⟩
  · exact .inl (by omega)
  · exact .inr ⟨b, o, rfl, fun j u hu => hcell j u (by rw [List.getElem?_take] at hu; split at hu; · exact hu
                                                       · cases hu)⟩
theorem Src.someOf {sz m c : Nat} {X : Option Addr} {xs : List Value} (h : Src w sz (.slice X m c) m xs) (hm : 0 < m) : ∃ b o, X = some ⟨b, o, none⟩ := by
  obtain ⟨hl, X', c', he, hc, h2 | ⟨b, o, rfl, _⟩⟩ := h
  · omega
  · cases he; exact ⟨b, o, rfl⟩
end
section
variable {p : Pers} {w : World} {H : List Assn}
theorem flat_get {α : Type} {f : α → List Value} {sz : Nat} (hf : ∀ a, (f a).length = sz) : ∀ {l : List α} {i : Nat} {a : α}, l[i]? = some a → ∀ {j : Nat} {u : Value}, (f a)[j]? = some u → (l.flatMap f)[i * sz + j]? = some u
  | [], i, a, h, _, _, _ => by simp at h
  | x :: l, 0, a, h, j, u, hu => by
    simp at h; subst h
    have hj : j < (f x).length := (List.getElem?_eq_some_iff.1 hu).1
    rw [List.flatMap_cons, Nat.zero_mul, Nat.zero_add, List.getElem?_append_left hj]; exact hu
  | x :: l, i + 1, a, h, j, u, hu => by
    simp at h
    have := flat_get hf (l := l) h hu
    rw [List.flatMap_cons, List.getElem?_append_right (by rw [hf, Nat.add_mul]; omega), hf]
    rw [show (i + 1) * sz + j - sz = i * sz + j by rw [Nat.add_mul]; omega]
    exact this
theorem flat_len {α : Type} {f : α → List Value} {sz : Nat} (hf : ∀ a, (f a).length = sz) (l : List α) : (l.flatMap f).length = l.length * sz := by
  induction l with
  | nil => simp
  | cons a l ih => rw [List.flatMap_cons, List.length_append, hf, ih, List.length_cons, Nat.add_mul]; omega
/-- where the elements that last lie -/
theorem Las.place {sz m c : Nat} {X : Option Addr} {xs : List Value} (l : Las p sz (.slice X m c) m xs) (h : 0 < m) : ∃ b o, X = some ⟨b, o, none⟩ ∧ ∀ {w H}, St p w H → ∀ j u, xs[j]? = some u → w.cell? ⟨b, o + j, none⟩ = some u := by
  obtain ⟨hl, X', c', he, hc, h0 | ⟨b, o, cur, e, fr, rfl, hp, hcell⟩⟩ := l
  · omega
  · cases he
    exact ⟨b, o, rfl, fun s j u hu => s.pcell hp (hcell j u hu)⟩
end
end Go.SL
