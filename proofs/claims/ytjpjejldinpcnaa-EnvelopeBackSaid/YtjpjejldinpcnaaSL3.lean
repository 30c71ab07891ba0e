/- Operations that turn the memory that is held: new blocks, stores, appends, maps, calls. -/
import Derived.Test.YtjpjejldinpcnaaSL2
namespace Go.SL
open Go.RowKit
set_option linter.unusedVariables false
set_option linter.unusedSimpArgs false

section
variable {P : Program} {n : Nat} {τ : Fr} {w : World} {dst : Option Tmp} {ty : TypeId} {pos : String} {af : Array Edge} {gd : Option (Nat × Bool)} {K : Value → World → Prop} {p : Pers} {H H' : List Assn}

theorem H.alloc {e : TypeId} {z : Value} (hz : (P.info? e).bind (·.zero) = some z) (s : St p w H) (h : ∀ b w', St p w' (pt b (.cells z.cells e) :: H) → K (.pointer (some ⟨b, 0, none⟩)) w') :
    Hd P n ⟨dst, .alloc e, ty, pos, af, gd⟩ τ w K := by
  cases hq : P.info? e with
  | none => simp [hq] at hz
  | some i =>
    have hi : i.zero = some z := by simpa [hq] using hz
    refine Hd.value (v := .pointer (some ⟨w.heap.size, 0, none⟩)) (w' := w.alloc (.cells z.cells e)) ?_ (h _ _ (s.alloc _))
    simp [execOp, Instr.alloc, zeroValue, typeInfo, hq, hi, newVar, newRow]
theorem H.box {e : TypeId} {x : Operand} {v : Value} (hx : (Act.eval (AF n τ)) x = v) (s : St p w H) (h : ∀ b w', St p w' (pt b (.cells v.cells e) :: H) → K (.pointer (some ⟨b, 0, none⟩)) w') :
    Hd P n ⟨dst, .box e x, ty, pos, af, gd⟩ τ w K := by
  refine Hd.value (v := .pointer (some ⟨w.heap.size, 0, none⟩)) (w' := w.alloc (.cells v.cells e)) ?_ (h _ _ (s.alloc _))
  simp [execOp, Instr.box, hx, newVar, newRow]
theorem H.buildSlice {t e : TypeId} {len : Nat} {ps : Array (Nat × Operand)} {vs : Array (Nat × Value)} {cs : Array Value} (hp : (ps.map fun (i, x) => (i, (Act.eval (AF n τ)) x)) = vs)
    (hr : ∀ w, (Instr.buildSlice t len vs).run P w = .ok (.slice (some ⟨w.heap.size, 0, none⟩) len len) (w.alloc (.cells cs e)))
    (s : St p w H) (h : ∀ b w', St p w' (pt b (.cells cs e) :: H) → K (.slice (some ⟨b, 0, none⟩) len len) w') : Hd P n ⟨dst, .buildSlice t len ps, ty, pos, af, gd⟩ τ w K := by
  refine Hd.value (v := .slice (some ⟨w.heap.size, 0, none⟩) len len) (w' := w.alloc (.cells cs e)) ?_ (h _ _ (s.alloc _))
  subst hp
  have h' : (Instr.buildSlice t len (Array.map (fun x => (x.fst, (Act.eval (AF n τ)) x.snd)) ps)).run P w = _ := hr w
  simp [execOp, h']
theorem H.makeMap {t : TypeId} (s : St p w H) (h : ∀ b w', St p w' (pt b (.map #[] 0) :: H) → K (.map (some b)) w') : Hd P n ⟨dst, .makeMap t none, ty, pos, af, gd⟩ τ w K := by
  refine Hd.value (v := .map (some w.heap.size)) (w' := w.alloc (.map #[] 0)) ?_ (h _ _ (s.alloc _))
  have := run_makeMap (P := P) t w
  simp [execOp, this]

/-- cells laid over others, from o on -/
def over (c : Array Value) (o : Nat) (l : List Value) : Array Value := (c.toList.take o ++ l ++ c.toList.drop (o + l.length)).toArray
theorem St.over {b : Nat} {c : Array Value} {e : TypeId} (s : St p w (pt b (.cells c e) :: H)) (o : Nat) (l : List Value) : St p (w.setRow b (over c o l)) (pt b (.cells (SL.over c o l) e) :: H) :=
  s.turn (setRow_heap w b c _ e _ s.block) (fun k hk => setRow_other w b k _ hk) rfl rfl rfl
theorem run_store_over {t : TypeId} {b o : Nat} {c : Array Value} {e : TypeId} {v : Value} (hb : w.heap[b]? = some (.cells c e)) (hz : (P.info? t).map (·.size) = some v.cells.size) (ho : o + v.cells.size ≤ c.size)
    (h1 : ∀ u ∈ v.cells.toList, u.oneCell' = true) : (Instr.storeAt t (.pointer (some ⟨b, o, none⟩)) v).run P w = .ok () (w.setRow b (over c o v.cells.toList)) := by
  cases hq : P.info? t with
  | none => simp [hq] at hz
  | some i =>
    have hi : i.size = v.cells.size := by simpa [hq] using hz
    have hs := run_storeCells_at P b o e v.cells.toList 0 c w hb (by simpa using ho) h1
    simp only [Nat.add_zero] at hs
    simp [Instr.storeAt, Instr.sureAddr, storeVar, sizeOf, typeInfo, hq, hi, hs, over]
theorem H.store {t : TypeId} {x y : Operand} {b o : Nat} {c : Array Value} {e : TypeId} {v : Value} {c' : Array Value} (hx : (Act.eval (AF n τ)) x = .pointer (some ⟨b, o, none⟩)) (hy : (Act.eval (AF n τ)) y = v)
    (s : St p w H) (hr : Rep (pt b (.cells c e)) (pt b (.cells c' e)) H H') (hz : (P.info? t).map (·.size) = some v.cells.size) (ho : o + v.cells.size ≤ c.size)
    (h1 : ∀ u ∈ v.cells.toList, u.oneCell' = true) (hc : over c o v.cells.toList = c') (h : ∀ w', St p w' H' → K undef w') : Hd P n ⟨dst, .store t x y, ty, pos, af, gd⟩ τ w K := by
  obtain ⟨m, d1, d2⟩ := hr.dels
  have s1 := s.take d1
  subst hc
  refine Hd.skip (w' := w.setRow b (over c o v.cells.toList)) ?_ (h _ ((s1.over o v.cells.toList).give d2))
  have := run_store_over (P := P) (t := t) s1.block hz ho h1
  simp [execOp, hx, hy, this]

/-! ### calls -/
theorem H.call {k : FuncId} {fn : Func} {f : Operand} {xs : Array Operand} {ts : Array TypeId} {as cap : Array Value} (hf : (Act.eval (AF n τ)) f = .func (.func k) #[] cap) (hfn : P.funcs[k]? = some fn) (hnm : (fn.name == "runtime.NumGoroutine") = false)
    (hb : fn.body.isNone = false) (ha : xs.map (Act.eval (AF n τ)) = as) (h : Calls P k (as ++ cap) w fun e w' => ∃ v, e = .returned v ∧ K v w') : Hd P n ⟨dst, .call ⟨.value f, xs, ts⟩, ty, pos, af, gd⟩ τ w K := by
  refine Hd.enter (f := k) (args := as ++ cap) (w' := w) ?_ h
  have h1 : ¬ fn.name = "runtime.NumGoroutine" := by simpa using hnm
  have h2 : ¬ fn.body = none := by intro e; rw [e] at hb; cases hb
  simp [execOp, resolve, hf, Deferred.ofValue, invoke, callFunc, hfn, h1, h2, ha]
theorem H.call0 {k : FuncId} {fn : Func} {xs : Array Operand} {ts : Array TypeId} {as : Array Value} (hfn : P.funcs[k]? = some fn) (hnm : (fn.name == "runtime.NumGoroutine") = false)
    (hb : fn.body.isNone = false) (ha : xs.map (Act.eval (AF n τ)) = as) (h : Calls P k as w fun e w' => ∃ v, e = .returned v ∧ K v w') : Hd P n ⟨dst, .call ⟨.value (.func k), xs, ts⟩, ty, pos, af, gd⟩ τ w K :=
  H.call (cap := #[]) rfl hfn hnm hb ha (by rw [Array.append_empty]; exact h)
theorem map0 {r : Operand → Value} : (#[] : Array Operand).map r = #[] := by simp
theorem map1 {r : Operand → Value} {x : Operand} {v : Value} (h : r x = v) : #[x].map r = #[v] := by simp [h]
theorem map2 {r : Operand → Value} {x y : Operand} {v u : Value} (h : r x = v) (h2 : r y = u) : #[x, y].map r = #[v, u] := by simp [h, h2]
theorem map3 {r : Operand → Value} {x y z : Operand} {v u t : Value} (h : r x = v) (h2 : r y = u) (h3 : r z = t) : #[x, y, z].map r = #[v, u, t] := by simp [h, h2, h3]
theorem map4 {r : Operand → Value} {x y z a : Operand} {v u t s : Value} (h : r x = v) (h2 : r y = u) (h3 : r z = t) (h4 : r a = s) : #[x, y, z, a].map r = #[v, u, t, s] := by simp [h, h2, h3, h4]
theorem map5 {r : Operand → Value} {x y z a b : Operand} {v u t s q : Value} (h : r x = v) (h2 : r y = u) (h3 : r z = t) (h4 : r a = s) (h5 : r b = q) : #[x, y, z, a, b].map r = #[v, u, t, s, q] := by simp [h, h2, h3, h4, h5]

theorem bld1 {r : Operand → Value} {i0 : Nat} {x0 : Operand} {v0 : Value} (h0 : r x0 = v0) : (#[(i0, x0)] : Array (Nat × Operand)).map (fun (i, x) => (i, r x)) = #[(i0, v0)] := by simp [h0]
theorem bld2 {r : Operand → Value} {i0 : Nat} {x0 : Operand} {v0 : Value} {i1 : Nat} {x1 : Operand} {v1 : Value} (h0 : r x0 = v0) (h1 : r x1 = v1) : (#[(i0, x0), (i1, x1)] : Array (Nat × Operand)).map (fun (i, x) => (i, r x)) = #[(i0, v0), (i1, v1)] := by simp [h0, h1]
theorem bld3 {r : Operand → Value} {i0 : Nat} {x0 : Operand} {v0 : Value} {i1 : Nat} {x1 : Operand} {v1 : Value} {i2 : Nat} {x2 : Operand} {v2 : Value} (h0 : r x0 = v0) (h1 : r x1 = v1) (h2 : r x2 = v2) : (#[(i0, x0), (i1, x1), (i2, x2)] : Array (Nat × Operand)).map (fun (i, x) => (i, r x)) = #[(i0, v0), (i1, v1), (i2, v2)] := by simp [h0, h1, h2]
theorem bld4 {r : Operand → Value} {i0 : Nat} {x0 : Operand} {v0 : Value} {i1 : Nat} {x1 : Operand} {v1 : Value} {i2 : Nat} {x2 : Operand} {v2 : Value} {i3 : Nat} {x3 : Operand} {v3 : Value} (h0 : r x0 = v0) (h1 : r x1 = v1) (h2 : r x2 = v2) (h3 : r x3 = v3) : (#[(i0, x0), (i1, x1), (i2, x2), (i3, x3)] : Array (Nat × Operand)).map (fun (i, x) => (i, r x)) = #[(i0, v0), (i1, v1), (i2, v2), (i3, v3)] := by simp [h0, h1, h2, h3]
theorem bld5 {r : Operand → Value} {i0 : Nat} {x0 : Operand} {v0 : Value} {i1 : Nat} {x1 : Operand} {v1 : Value} {i2 : Nat} {x2 : Operand} {v2 : Value} {i3 : Nat} {x3 : Operand} {v3 : Value} {i4 : Nat} {x4 : Operand} {v4 : Value} (h0 : r x0 = v0) (h1 : r x1 = v1) (h2 : r x2 = v2) (h3 : r x3 = v3) (h4 : r x4 = v4) : (#[(i0, x0), (i1, x1), (i2, x2), (i3, x3), (i4, x4)] : Array (Nat × Operand)).map (fun (i, x) => (i, r x)) = #[(i0, v0), (i1, v1), (i2, v2), (i3, v3), (i4, v4)] := by simp [h0, h1, h2, h3, h4]
theorem bld6 {r : Operand → Value} {i0 : Nat} {x0 : Operand} {v0 : Value} {i1 : Nat} {x1 : Operand} {v1 : Value} {i2 : Nat} {x2 : Operand} {v2 : Value} {i3 : Nat} {x3 : Operand} {v3 : Value} {i4 : Nat} {x4 : Operand} {v4 : Value} {i5 : Nat} {x5 : Operand} {v5 : Value} (h0 : r x0 = v0) (h1 : r x1 = v1) (h2 : r x2 = v2) (h3 : r x3 = v3) (h4 : r x4 = v4) (h5 : r x5 = v5) : (#[(i0, x0), (i1, x1), (i2, x2), (i3, x3), (i4, x4), (i5, x5)] : Array (Nat × Operand)).map (fun (i, x) => (i, r x)) = #[(i0, v0), (i1, v1), (i2, v2), (i3, v3), (i4, v4), (i5, v5)] := by simp [h0, h1, h2, h3, h4, h5]
theorem bld7 {r : Operand → Value} {i0 : Nat} {x0 : Operand} {v0 : Value} {i1 : Nat} {x1 : Operand} {v1 : Value} {i2 : Nat} {x2 : Operand} {v2 : Value} {i3 : Nat} {x3 : Operand} {v3 : Value} {i4 : Nat} {x4 : Operand} {v4 : Value} {i5 : Nat} {x5 : Operand} {v5 : Value} {i6 : Nat} {x6 : Operand} {v6 : Value} (h0 : r x0 = v0) (h1 : r x1 = v1) (h2 : r x2 = v2) (h3 : r x3 = v3) (h4 : r x4 = v4) (h5 : r x5 = v5) (h6 : r x6 = v6) : (#[(i0, x0), (i1, x1), (i2, x2), (i3, x3), (i4, x4), (i5, x5), (i6, x6)] : Array (Nat × Operand)).map (fun (i, x) => (i, r x)) = #[(i0, v0), (i1, v1), (i2, v2), (i3, v3), (i4, v4), (i5, v5), (i6, v6)] := by simp [h0, h1, h2, h3, h4, h5, h6]

/-! ### slices that are held -/
/-- v is a slice of n elements of sz cells each, xs, and its row is held -/
def Own (e : TypeId) (sz : Nat) (v : Value) (n : Nat) (xs : List Value) : Assn := fun h =>
  xs.length = n * sz ∧ ((∃ A, v = .slice A 0 0 ∧ n = 0 ∧ h = none0) ∨
    ∃ g cap cur, v = .slice (some ⟨g, 0, none⟩) n cap ∧ pt g (.cells cur e) h ∧ n ≤ cap ∧ cap ≤ maxLen ∧ cur.size = cap * sz ∧ cur.toList.take (n * sz) = xs)
theorem St.none0 (s : St p w H) : St p w ((fun h => h = none0) :: H) := by
  obtain ⟨h, ha, r⟩ := s
  exact ⟨h, ⟨SL.none0, h, fun _ => .inl rfl, (none0_uni h).symm, rfl, ha⟩, r⟩
theorem St.ownNil {e : TypeId} {sz : Nat} (A : Option Addr) (s : St p w H) : St p w (Own e sz (.slice A 0 0) 0 [] :: H) :=
  s.none0.weaken fun x hx => ⟨by simp, .inl ⟨A, rfl, rfl, hx⟩⟩
theorem St.ownNew {e : TypeId} {sz g n cap : Nat} {cur : Array Value} {xs : List Value} (s : St p w (pt g (.cells cur e) :: H)) (hn : n ≤ cap) (hc : cap ≤ maxLen) (hs : cur.size = cap * sz) (hx : cur.toList.take (n * sz) = xs) :
    St p w (Own e sz (.slice (some ⟨g, 0, none⟩) n cap) n xs :: H) :=
  s.weaken fun x hx' => ⟨by rw [← hx, List.length_take, Array.length_toList, hs]; exact Nat.min_eq_left (Nat.mul_le_mul_right _ hn), .inr ⟨g, cap, cur, rfl, hx', hn, hc, hs, hx⟩⟩
/-- the held row laid open -/
theorem St.ownOpen {e : TypeId} {sz : Nat} {v : Value} {n : Nat} {xs : List Value} (s : St p w (Own e sz v n xs :: H)) : xs.length = n * sz ∧
    ((∃ A, v = .slice A 0 0 ∧ n = 0 ∧ St p w H) ∨ ∃ g cap cur, v = .slice (some ⟨g, 0, none⟩) n cap ∧ St p w (pt g (.cells cur e) :: H) ∧ n ≤ cap ∧ cap ≤ maxLen ∧ cur.size = cap * sz ∧ cur.toList.take (n * sz) = xs) := by
  obtain ⟨h, ⟨x, y, d, e', ⟨hl, hx⟩, hy⟩, r⟩ := s
  refine ⟨hl, ?_⟩
  rcases hx with ⟨A, rfl, rfl, rfl⟩ | ⟨g, cap, cur, rfl, hp, r2⟩
  · rw [none0_uni] at e'; subst e'
    exact .inl ⟨A, rfl, rfl, _, hy, r⟩
  · exact .inr ⟨g, cap, cur, rfl, ⟨h, ⟨x, y, d, e', hp, hy⟩, r⟩, r2⟩
/-- what a slice's first m elements are, wherever they lie -/
def Src (w : World) (sz : Nat) (x : Value) (m : Nat) (xs : List Value) : Prop :=
  xs.length = m * sz ∧ ∃ X c, x = .slice X m c ∧ m ≤ c ∧ (m = 0 ∨ ∃ b o, X = some ⟨b, o, none⟩ ∧ ∀ j u, xs[j]? = some u → w.cell? ⟨b, o + j, none⟩ = some u)
theorem Own.src {e : TypeId} {sz : Nat} {v : Value} {n : Nat} {xs : List Value} (s : St p w (Own e sz v n xs :: H)) : Src w sz v n xs := by
  obtain ⟨hl, ⟨A, rfl, rfl, _⟩ | ⟨g, cap, cur, rfl, hp, hn, hc, hs, hx⟩⟩ := s.ownOpen
  · exact ⟨hl, A, 0, rfl, Nat.le_refl _, .inl rfl⟩
  · refine ⟨hl, _, cap, rfl, hn, .inr ⟨g, 0, rfl, fun j u hu => ?_⟩⟩
    have hb := hp.block
    rw [Nat.zero_add, cell_of_row w g j cur e (0, 0) hb]
    rw [← hx, List.getElem?_take] at hu
    split at hu
    · simpa using hu
    · cases hu
def isNil : Value → Bool
  | .slice none _ _ => true
  | _ => false
theorem run_append_zero {t e : TypeId} {i : TypeInfo} (ht : P.underlying t = some (.slice e)) (hi : P.info? e = some i) (A : Option Addr) (sLen sCap : Nat) (h : sLen ≤ sCap) (X : Option Addr) (c : Nat) :
    (Builtin.append_ #[t, t] ty #[.slice A sLen sCap, .slice X 0 c]).run P w = .ok (.slice A sLen sCap) w := by
  cases X <;> cases A <;> simp [Builtin.append_, run_underlying ht, sizeOf, typeInfo, hi, Builtin.lenOf, Builtin.firstCells, loadCells, loadCellsFrom, h, storeCells]
theorem run_append_grow0 {t e : TypeId} {i : TypeInfo} {z : Value} (ht : P.underlying t = some (.slice e)) (hi : P.info? e = some i) (hz : i.zero = some z) (A : Option Addr)
    (a : Addr) (m c : Nat) (news : List Value) (hl : news.length = m * i.size) (hnews : ∀ j v, news[j]? = some v → w.cell? (a.add j) = some v) (h0 : 0 < m) (h63 : (m : Int) ≤ 9223372036854775807) (h48 : m * i.bytes ≤ 140737488355328) :
    (Builtin.append_ #[t, t] ty #[.slice A 0 0, .slice (some a) m c]).run P w =
      .ok (.slice (some ⟨w.heap.size, 0, none⟩) m (grownCap w m 0 e)) (w.drew.alloc (.cells (news.toArray ++ Builtin.zeroCells z.cells (grownCap w m 0 e - m)) e)) := by
  cases A with
  | none => exact run_append_nil (P := P) w t ty e i z ht hi hz a m c news hl hnews h0 h63 (by omega)
  | some b =>
    have := run_append_grow (P := P) w t ty e i z ht hi hz b 0 0 [] (by simp) (by simp) a m c news hl hnews (by omega) (by omega) (growslice_fits (by omega) (by simpa using h48))
    simpa using this
theorem H.append {x y : Operand} {t e : TypeId} {z : Value} {sz bytes : Nat} {s0 x0 : Value} {k m : Nat} {xs news : List Value} (ht : P.underlying t = some (.slice e))
    (hi : (P.info? e).map (fun i => (i.zero, i.size, i.bytes)) = some (some z, sz, bytes)) (hzs : z.cells.size = sz) (hx : (Act.eval (AF n τ)) x = s0) (hy : (Act.eval (AF n τ)) y = x0)
    (s : St p w H) (hd : Del (Own e sz s0 k xs) H H') (hsrc : Src w sz x0 m news) (h1 : ∀ u ∈ news, u.oneCell' = true) (hfit : (k + m) * bytes ≤ 140737488355328) (h63 : k + m ≤ maxLen)
    (h : ∀ v w', (isNil v = true ↔ isNil s0 = true ∧ m = 0) → St p w' (Own e sz v (k + m) (xs ++ news) :: H') → K v w') : Hd P n ⟨dst, .call ⟨.builtin .append, #[x, y], #[t, t]⟩, ty, pos, af, gd⟩ τ w K := by
  obtain ⟨i, hq, hz0, hz1, hz2⟩ := info_parts hi
  subst hz1; subst hz2
  have h63' : ((k + m : Nat) : Int) ≤ 9223372036854775807 := by simp only [maxLen] at h63; omega
  have go : ∀ v w', (Builtin.append_ #[t, t] ty #[s0, x0]).run P w = .ok v w' → K v w' → Hd P n ⟨dst, .call ⟨.builtin .append, #[x, y], #[t, t]⟩, ty, pos, af, gd⟩ τ w K := by
    intro v w' hr hk
    refine Hd.value (v := v) (w' := w') ?_ hk
    simp [execOp, resolve, invoke, builtin, hx, hy, hr]
  have s1 := s.take hd
  obtain ⟨hlx, hX⟩ := s1.ownOpen
  obtain ⟨hln, X, c, rfl, hmc, hS⟩ := hsrc
  have grown : ∀ (s2 : St p w H') (old : Nat), old < k + m → St p (w.drew.alloc (.cells (xs.toArray ++ news.toArray ++ Builtin.zeroCells z.cells (grownCap w (k + m) old e - (k + m))) e))
      (Own e i.size (.slice (some ⟨w.heap.size, 0, none⟩) (k + m) (grownCap w (k + m) old e)) (k + m) (xs ++ news) :: H') := by
    intro s2 old ho
    have hge := grownCap_ge w (k + m) old e
    have hcm : grownCap w (k + m) old e ≤ maxLen := grownCap_le_maxLen w (k + m) old e h63
    have hlen : (xs ++ news).length = (k + m) * i.size := by rw [List.length_append, hlx, hln, Nat.add_mul]
    have s3 := (s2.drew).alloc (.cells (xs.toArray ++ news.toArray ++ Builtin.zeroCells z.cells (grownCap w (k + m) old e - (k + m))) e)
    refine s3.ownNew hge hcm ?_ ?_
    · simp only [Array.size_append, List.size_toArray, size_zeroCells, hzs, hlx, hln, ← Nat.add_mul]
      congr 1
      omega
    · simp only [Array.toList_append, List.append_assoc]
      rw [← List.append_assoc, ← hlen]
      exact List.take_left
  rcases hX with ⟨A, rfl, rfl, s2⟩ | ⟨g, cap, cur, rfl, s2, hnc, hcm, hcs, htake⟩
  · have hxs : xs = [] := List.eq_nil_of_length_eq_zero (by simpa using hlx)
    subst hxs
    by_cases hm : m = 0
    · subst hm
      have hn : news = [] := List.eq_nil_of_length_eq_zero (by simpa using hln)
      subst hn
      exact go _ _ (run_append_zero ht hq A 0 0 (Nat.le_refl _) X c) (h _ _ (by simp) (by simpa using s2.ownNil A))
    · obtain ⟨b, o, rfl, hcell⟩ := hS.resolve_left hm
      have hr := run_append_grow0 (P := P) (w := w) (ty := ty) ht hq hz0 A ⟨b, o, none⟩ m c news hln (fun j v hv => by rw [add_lit]; exact hcell j v hv) (by omega) (by omega) (by simpa using hfit)
      have hg := grown s2 0 (by omega)
      simp only [Nat.zero_add, List.nil_append, Array.empty_append] at hg ⊢
      exact go _ _ hr (h _ _ (by simp [isNil, hm]) (by simpa using hg))
  · by_cases hm : m = 0
    · subst hm
      have hn : news = [] := List.eq_nil_of_length_eq_zero (by simpa using hln)
      subst hn
      exact go _ _ (run_append_zero ht hq _ k cap hnc X c) (h _ _ (by simp [isNil]) (by simpa using s1))
    · obtain ⟨b, o, rfl, hcell⟩ := hS.resolve_left hm
      have hcell' : ∀ j v, news[j]? = some v → w.cell? ((⟨b, o, none⟩ : Addr).add j) = some v := fun j v hv => by rw [add_lit]; exact hcell j v hv
      by_cases hroom : k + m ≤ cap
      · have hfit' : k * i.size + news.length ≤ cur.size := by rw [hln, hcs, ← Nat.add_mul]; exact Nat.mul_le_mul_right _ hroom
        have hr := run_append_room (P := P) w t ty e i ht hq g k cap cur s2.block ⟨b, o, none⟩ m c news hln hcell' h1 hroom hfit'
        refine go _ _ hr (h _ _ (by simp [isNil]) ((s2.over (k * i.size) news).ownNew hroom hcm ?_ ?_))
        · simp only [SL.over, List.size_toArray, List.length_append, List.length_take, List.length_drop, Array.length_toList]
          omega
        · have hlen : (xs ++ news).length = (k + m) * i.size := by rw [List.length_append, hlx, hln, Nat.add_mul]
          simp only [SL.over]
          rw [htake, ← hlen]
          exact List.take_left
      · have holds : ∀ j u, xs[j]? = some u → w.cell? ((⟨g, 0, none⟩ : Addr).add j) = some u := fun j u hu => by
          rw [add_lit, Nat.zero_add, cell_of_row w g j cur e (0, 0) s2.block]
          rw [← htake, List.getElem?_take] at hu
          split at hu
          · simpa using hu
          · cases hu
        have hr := run_append_grow (P := P) w t ty e i z ht hq hz0 ⟨g, 0, none⟩ k cap xs hlx holds ⟨b, o, none⟩ m c news hln hcell' (by omega) h63' (growslice_fits (by omega) hfit)
        exact go _ _ hr (h _ _ (by simp [isNil]) (grown s2.drop cap (by omega)))
end
end Go.SL
