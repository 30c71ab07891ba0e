/- Rows that are put together out of their elements. -/
import Derived.Test.YtifokhheojnipaaGreatDoorG3
set_option linter.unusedVariables false
set_option linter.unusedSimpArgs false
set_option linter.unnecessarySimpa false
namespace Go.GX
open Go.RowKit Go.SL
set_option linter.unusedVariables false
set_option linter.unusedSimpArgs false
set_option linter.unnecessarySimpa false

noncomputable def idxOk : List Nat → Nat → Bool
  | [], _ => true
  | i :: l, j => Nat.beq i j && idxOk l (j + 1)
theorem fold_set : ∀ (ps : List (Nat × Value)) (j0 : Nat) (segs : List (List Value)), idxOk (ps.map (·.1)) j0 = true → segs.length = j0 + ps.length → ps.foldl (fun (sg : List (List Value)) (p : Nat × Value) => sg.set p.1 p.2.cells.toList) segs = segs.take j0 ++ ps.map fun p => p.2.cells.toList := by
  intro ps
  induction ps with
  | nil => intro j0 segs _ h; simp only [List.foldl_nil, List.map_nil, List.append_nil]; rw [List.take_of_length_le (by simp at h; omega)]
  | cons p ps ih =>
    intro j0 segs hi h
    simp only [List.map_cons, idxOk, Bool.and_eq_true] at hi
    have := Nat.eq_of_beq_eq_true hi.1
    simp only [List.length_cons] at h
    rw [List.foldl_cons, ih (j0 + 1) _ hi.2 (by rw [List.length_set]; omega), this]
    have hlt : j0 < segs.length := by omega
    have e1 : segs.set j0 p.2.cells.toList = segs.take j0 ++ p.2.cells.toList :: segs.drop (j0 + 1) := by
      rw [List.set_eq_take_append_cons_drop, if_pos hlt]
    have hl : (segs.take j0).length = j0 := by rw [List.length_take]; omega
    have e2 : (segs.set j0 p.2.cells.toList).take (j0 + 1) = segs.take j0 ++ [p.2.cells.toList] := by
      rw [e1, show segs.take j0 ++ p.2.cells.toList :: segs.drop (j0 + 1) = (segs.take j0 ++ [p.2.cells.toList]) ++ segs.drop (j0 + 1) by simp]
      have : j0 + 1 = (segs.take j0 ++ [p.2.cells.toList]).length := by rw [List.length_append, hl]; rfl
      rw [this, List.take_left]
    rw [e2]; simp
theorem chunk (sz : Nat) : ∀ (n : Nat) (l : List Value), l.length = n * sz → ∃ segs : List (List Value), segs.length = n ∧ (∀ s ∈ segs, s.length = sz) ∧ segs.flatten = l := by
  intro n
  induction n with
  | zero => intro l h; exact ⟨[], rfl, fun s h => (by cases h), (List.eq_nil_of_length_eq_zero (by simpa using h)).symm⟩
  | succ n ih =>
    intro l h
    rw [Nat.add_mul, Nat.one_mul] at h
    obtain ⟨segs, h1, h2, h3⟩ := ih (l.drop sz) (by rw [List.length_drop]; omega)
    refine ⟨l.take sz :: segs, by simp [h1], ?_, by simp [h3]⟩
    intro s hs
    rcases List.mem_cons.1 hs with rfl | hs
    · rw [List.length_take]; omega
    · exact h2 s hs
theorem flat_len {sz : Nat} : ∀ {segs : List (List Value)}, (∀ s ∈ segs, s.length = sz) → segs.flatten.length = segs.length * sz := by
  intro segs
  induction segs with
  | nil => intro _; simp
  | cons a l ih => intro h; rw [List.flatten_cons, List.length_append, h a (List.mem_cons_self ..), ih fun s hs => h s (List.mem_cons_of_mem _ hs), List.length_cons, Nat.add_mul, Nat.one_mul]; omega
theorem run_row {P : Program} {t e : TypeId} {sz : Nat} {z : Value} {ps : Array (Nat × Value)} {bytes : Nat} (ht : P.underlying t = some (.slice e)) (hi : (P.info? e).map (fun i => (i.zero, i.size, i.bytes)) = some (some z, sz, bytes)) (hs : ¬ ps.size * sz > 2 ^ 24)
    (hx : idxOk (ps.toList.map (·.1)) 0 = true) (hc : ∀ p ∈ ps.toList, p.2.cells.size = sz) (w : World) :
    (Instr.buildSlice t ps.size ps).run P w = .ok (.slice (some ⟨w.heap.size, 0, none⟩) ps.size ps.size) (w.alloc (.cells ((ps.toList.map fun p => p.2.cells.toList).flatten.toArray) e)) := by
  obtain ⟨i, hq, hz0, hz1, hz2⟩ := info_parts hi
  have fl : ∀ (A : Array Value), A.size = ps.size * sz → Instr.fill (fun i => some (i * sz, sz)) A ps.toList = some (ps.toList.map fun p => p.2.cells.toList).flatten.toArray := by
    intro A hA
    obtain ⟨segs, h1, h2, h3⟩ := chunk sz ps.size A.toList (by simpa using hA)
    have hA' : A = segs.flatten.toArray := by rw [h3]
    rw [hA', fill_segs ps.toList segs, fold_set _ 0 _ hx (by simpa using h1)]
    · simp
    · intro i s hi
      have hm : s ∈ segs := List.mem_of_getElem? hi
      rw [h2 s hm, flat_len (sz := sz) fun s hs => h2 s (List.mem_of_mem_take hs), List.length_take]
      have := (List.getElem?_eq_some_iff.1 hi).1
      rw [Nat.min_eq_left (by omega)]
    · intro p hp
      have hlt : p.1 < ps.toList.length := by
        have : ∀ (l : List (Nat × Value)) (j : Nat), idxOk (l.map (·.1)) j = true → ∀ p ∈ l, p.1 < j + l.length := by
          intro l
          induction l with
          | nil => intro j _ p hp; cases hp
          | cons a l ih =>
            intro j hj p hp
            simp only [List.map_cons, idxOk, Bool.and_eq_true] at hj
            have := Nat.eq_of_beq_eq_true hj.1
            rcases List.mem_cons.1 hp with rfl | hp
            · simp; omega
            · have := ih (j + 1) hj.2 p hp; simp; omega
        have := this ps.toList 0 hx p hp
        omega
      have hls : p.1 < segs.length := by rw [h1]; simpa using hlt
      exact ⟨segs[p.1], List.getElem?_eq_getElem hls, by rw [hc p hp, h2 _ (List.getElem_mem hls)]⟩
  rcases Nat.eq_zero_or_pos (ps.size * sz) with h0 | h0
  · have := fl ((Array.range (ps.size * i.size)).map fun x => ((#[] : Array Value))[x % 0]!) (by simp [hz1])
    simp only [hz1] at this
    simp [Instr.buildSlice, run_underlying ht, sizeOf, typeInfo, hq, hz1, hs, h0, newRow] at this ⊢
    simp [this]
  · have hne : ¬ ps.size * sz = 0 := by omega
    have := fl ((Array.range (ps.size * sz)).map (z.cells[· % z.cells.size]!)) (by simp)
    simp [Instr.buildSlice, run_underlying ht, sizeOf, typeInfo, zeroValue, hq, hz0, hz1, hs, hne, this, newRow]
noncomputable def outAll (t : Ty) : SV → SS → Option (List t.T × SS)
  | .nl, s => some ([], s)
  | .pr a b, s => match outV 30 s a t with
    | some (x, s1) => match outAll t b s1 with
      | some (l, s2) => some (x :: l, s2)
      | none => none
    | none => none
  | _, _ => none
theorem outAll_ok {w : World} {t : Ty} : ∀ {c : SV} {s : SS} {l : List t.T} {s' : SS}, outAll t c s = some (l, s') → ∀ {K : Kn} {X : List Assn} {vs : List Value}, Nx K s → c.dn K .l vs → St K.p w (asns K s.hp ++ (X ++ [Exact K.F])) →
    l.length = vs.length ∧ (∀ v ∈ vs, v.cells.size = t.w) ∧ ∃ K', K.le K' ∧ (K'.E = K.E ∧ K'.nx = K.nx) ∧ Nx K' s' ∧ St K'.p w (asns K' s'.hp ++ ((CatA (fun x c => OA K'.p.h t x c) l (vs.map fun v => v.cells.toList).flatten :: X) ++ [Exact K'.F])) := by
  intro c
  induction c with
  | nl =>
    intro s l s' h K X vs hn hd st
    cases h
    have : vs = [] := hd
    subst this
    refine ⟨rfl, fun v h => (by cases h), K, Kn.le.refl _, ⟨rfl, rfl⟩, hn, ?_⟩
    exact (st.none0.weaken (B := CatA (fun x c => OA K.p.h t x c) [] []) fun x hx => ⟨hx, rfl⟩).give (Del.mid _)
  | pr a b iha ihb =>
    intro s l s' h K X vs hn hd st
    obtain ⟨v, d, rfl, hv, hd'⟩ := hd
    simp only [outAll] at h
    split at h <;> try (cases h; done)
    rename_i y s1 hout
    split at h <;> try (cases h; done)
    rename_i z2 s2 hz
    cases h
    obtain ⟨⟨K1, le1, hE1, hx1, st1⟩, ha⟩ := (out_ok 30).1 hout st hv
    have hsz : v.cells.size = t.w := by
      have := st1.take (Del.mid (A := OA K1.p.h t y v.cells.toList) (l2 := X ++ [Exact K.F]) _)
      obtain ⟨hh, ⟨p, q, _, _, ho, _⟩, _⟩ := this
      have := OA.len ho
      simpa using this
    have st1' : St K1.p w (asns K1 s1.hp ++ ((OA K1.p.h t y v.cells.toList :: X) ++ [Exact K1.F])) := by
      rw [le1.F]; exact st1
    have hn1 : Nx K1 s1 := ⟨by rw [hx1, hE1.2]; exact hn.eq, fun k hk => by rw [hE1.1]; rw [hE1.2] at hk; exact hn.no k hk⟩
    obtain ⟨hl, hszs, K2, le2, hE2, hn2, st2⟩ := ihb hz hn1 (SV.mono le1 hd') st1'
    refine ⟨by simp [hl], fun u hu => (by rcases List.mem_cons.1 hu with rfl | hu; exact hsz; exact hszs u hu), K2, le1.trans le2, ⟨hE2.1.trans hE1.1, hE2.2.trans hE1.2⟩, hn2, ?_⟩
    have q3 := st2.perm (l' := OA K1.p.h t y v.cells.toList :: CatA (fun x c => OA K2.p.h t x c) z2 (d.map fun v => v.cells.toList).flatten :: (asns K2 s'.hp ++ (X ++ [Exact K2.F]))) (by
      simp only [List.append_assoc, List.cons_append]
      exact (List.perm_middle.trans (List.Perm.cons _ List.perm_middle)).trans (List.Perm.swap _ _ _))
    have q4 := q3.weaken (B := OA K2.p.h t y v.cells.toList) fun h q => OA.sub le2.p.h q
    have q5 := (St.mksep q4).weaken (B := CatA (fun x c => OA K2.p.h t x c) (y :: z2) ((v :: d).map fun v => v.cells.toList).flatten) (fun h q => ⟨v.cells.toList, (d.map fun v => v.cells.toList).flatten, by simp, q⟩)
    exact q5.give (Del.mid _)
  | _ => intro s l s' h; cases h
section
variable {P : Program} {n : Nat} {τ : Fr} {w : World} {β : Type} {dst : Option Tmp} {ty : TypeId} {pos : String} {af : Array Edge} {gd' : Option (Nat × Bool)} {K : Kn} {s : SS} {k : SV → SS → Option β} {r : β} {ρ : Rho} {T : TB}
noncomputable def opRow (T : TB) (ρ : Rho) (s : SS) (t len : Nat) (ps : List (Nat × Operand)) (k : SV → SS → Option β) : Option β := match tg T t with
  | some ti => match ti.desc with
    | .slice e => match tg T e with
      | some ei => bif Nat.beq ei.size ei.ty.w && Nat.beq ps.length len && idxOk (ps.map (·.1)) 0 && Nat.ble (len * ei.size) 16777216 && Nat.ble len 16777216 then (match mapS ρ (ps.map (·.2)) with
        | some c => match outAll ei.ty c s with
          | some (l, s1) => k (.vr s1.nx) (add1 s1 (.row e ei.ty l))
          | none => none
        | none => none) else none
      | none => none
    | _ => none
  | none => none
theorem opRow_ok (hT : T.ok P) (hρ : RhoOk K ρ (AF n τ).eval) (i : Inv K s w) {t len : Nat} {ps : Array (Nat × Operand)} (h : opRow T ρ s t len ps.toList k = some r) : OpR P n ⟨dst, .buildSlice t len ps, ty, pos, af, gd'⟩ τ w K k r := by
  unfold opRow at h
  split at h <;> try (cases h; done)
  rename_i ti hti
  have hd := (tg_ok hT hti).desc
  split at h <;> try (cases h; done)
  rename_i e hdd
  rw [hdd] at hd
  split at h <;> try (cases h; done)
  rename_i ei hei
  have ok := tg_ok hT hei
  cases hq : Nat.beq ei.size ei.ty.w && Nat.beq ps.toList.length len && idxOk (ps.toList.map (·.1)) 0 && Nat.ble (len * ei.size) 16777216 && Nat.ble len 16777216 with
  | false => rw [hq, cond_false] at h; cases h
  | true =>
  rw [hq, cond_true] at h
  simp only [Bool.and_eq_true] at hq
  obtain ⟨⟨⟨⟨q1, q2⟩, q3⟩, q4⟩, q5⟩ := hq
  have hln := Nat.le_of_ble_eq_true q5
  have hw := Nat.eq_of_beq_eq_true q1
  have hlen := Nat.eq_of_beq_eq_true q2
  have hsm := Nat.le_of_ble_eq_true q4
  split at h <;> try (cases h; done)
  rename_i c hc
  split at h <;> try (cases h; done)
  rename_i l s1 hl
  obtain ⟨hll, hszs, K1, le1, hE1, hn1, st1⟩ := outAll_ok (X := []) hl i.nx (mapS_ok hρ hc) i.st
  generalize hps : (ps.map fun (i, x) => (i, (AF n τ).eval x)) = qs
  have hqs : qs.toList = ps.toList.map fun p => (p.1, (AF n τ).eval p.2) := by rw [← hps]; simp
  have hsize : qs.size = len := by rw [← hlen, ← hps]; simp
  subst hsize
  have hvs : (List.map (AF n τ).eval (List.map (fun x => x.2) ps.toList)) = qs.toList.map (·.2) := by rw [hqs]; simp [List.map_map, Function.comp_def]
  rw [hvs] at hll hszs st1
  have run := fun w => run_row (P := P) (t := t) (e := e) (sz := ei.size) (z := ei.z) (ps := qs) (bytes := ei.bytes) hd ok.info (by omega) (by rw [hqs]; simpa [List.map_map, Function.comp_def] using q3) (fun p hp => by
    rw [hszs p.2 (List.mem_map.2 ⟨p, hp, rfl⟩), hw]) w
  refine Go.SL.H.buildSlice hps run st1 fun b w' st2 => ?_
  have hcs : (qs.toList.map fun p => p.2.cells.toList).flatten = ((qs.toList.map (·.2)).map fun v => v.cells.toList).flatten := by rw [List.map_map]; rfl
  rw [hcs] at st2
  generalize hys : ((qs.toList.map (·.2)).map fun v => v.cells.toList).flatten = ys at st2
  have hyl : ys.length = l.length * ei.ty.w := by
    have := st2.perm (l' := CatA (fun x c => OA K1.p.h ei.ty x c) l ys :: (pt b (.cells ys.toArray e) :: (asns K1 s1.hp ++ [Exact K1.F]))) (by
      simp only [List.append_nil, List.append_assoc, List.cons_append, List.nil_append]
      exact (List.Perm.cons _ List.perm_middle).trans (List.Perm.swap _ _ _))
    obtain ⟨hh, ⟨p, q, _, _, ho, _⟩, _⟩ := this
    exact CatA.len (fun _ _ _ => OA.len) ho
  have hlq : l.length = qs.size := by rw [hll]; simp
  have st3 : St K1.p w' (Own e ei.ty.w (.slice (some ⟨b, 0, none⟩) qs.size qs.size) qs.size ys :: (asns K1 s1.hp ++ ([CatA (fun x c => OA K1.p.h ei.ty x c) l ys] ++ [Exact K1.F]))) := by
    exact st2.ownNew (Nat.le_refl _) (Nat.le_trans hln (by decide)) (by simp [hyl, hlq]) (List.take_of_length_le (by simp [hyl, hlq]))
  have st4 : St K1.p w' ((EN.row e ei.ty l).asn (K1.name (.slice (some ⟨b, 0, none⟩) qs.size qs.size)) K1.nx :: (asns K1 s1.hp ++ ([] ++ [Exact K1.F]))) := by
    have q1 := St.perm st3 (l' := Own e ei.ty.w (.slice (some ⟨b, 0, none⟩) qs.size qs.size) qs.size ys :: CatA (fun x c => OA K1.p.h ei.ty x c) l ys :: (asns K1 s1.hp ++ [Exact K1.F])) (List.Perm.cons _ List.perm_middle)
    exact St.mkex _ (St.mkex ys (St.mkiff Kn.name_eq (St.mksep (by rw [hlq]; exact q1))))
  obtain ⟨le, i'⟩ := Inv2.name hn1 st4
  exact ⟨.vr s1.nx, _, _, le1.trans le, i'.inv, ⟨_, _, _, by rw [hn1.eq]; exact Kn.name_eq, rfl⟩, h⟩
end
end Go.GX
namespace Go.GX
open Go.RowKit Go.SL
set_option linter.unusedVariables false
set_option linter.unusedSimpArgs false
set_option linter.unnecessarySimpa false
noncomputable def bytesS (s : SS) (a : SV) : Option (List (BitVec 8)) := match a with
  | .nilS => some []
  | a => match slS s a with
    | some (.own _ _ t l) => castT (.fz t) (.fz .u8) l
    | some (.fro t l) => castT (.fz t) (.fz .u8) l
    | some (.bor t l) => castT (.fz t) (.fz .u8) l
    | _ => none
theorem cat_u8 {m : Mem} : ∀ {l : List (BitVec 8)} {ys : List Value}, Cat (fun (x : BitVec 8) c => DenT m .u8 x c) l ys → ys = l.map bu8 := by
  intro l
  induction l with
  | nil => intro ys h; exact h
  | cons x l ih =>
    intro ys h
    obtain ⟨a, b, rfl, h1, h2⟩ := h
    rw [ih h2, show a = [_] from h1]; rfl
theorem bytesS_ok {K : Kn} {s : SS} {w : World} (i : Inv K s w) {a : SV} {l : List (BitVec 8)} {v : Value} (h : bytesS s a = some l) (hd : a.den K v) : SL.Src w 1 v l.length (l.map bu8) := by
  unfold bytesS at h
  split at h
  · cases h
    have : v = .slice none 0 0 := by have q : [v] = [_] := hd; simpa using q
    subst this
    exact ⟨by simp, none, 0, rfl, Nat.le_refl _, .inl rfl⟩
  · split at h <;> try (cases h; done)
    · rename_i id e t l' hsl
      obtain ⟨e1, hc⟩ := castT_eq h
      cases e1; cases hc
      obtain ⟨⟨X, c, hv, hc⟩, hE, hg⟩ := slS_ok i hsl hd
      obtain ⟨u, sta⟩ := (i.take hg).ex
      obtain ⟨xs, stb⟩ := sta.ex
      obtain ⟨hu, stc⟩ := stb.iff
      rw [hE] at hu; cases hu
      have st2 := stc.sep
      have hsr := Own.src st2
      rw [catA_pure (S := fun x c => DenT K.p.h .u8 x c) (fun x c => oa_pure _ .u8 rfl x c)] at st2
      obtain ⟨hcat, _⟩ := st2.swap.pu
      rw [cat_u8 hcat] at hsr
      exact hsr
    · rename_i t l' hsl
      obtain ⟨e1, hc⟩ := castT_eq h
      cases e1; cases hc
      obtain ⟨_, hden⟩ := slS_ok i hsl hd
      obtain ⟨ys, h1, h2⟩ := fz_src i.st.memP hden
      rw [cat_u8 h2] at h1
      exact h1
    · rename_i t l' hsl
      obtain ⟨e1, hc⟩ := castT_eq h
      cases e1; cases hc
      obtain ⟨_, hden⟩ := slS_ok i hsl hd
      obtain ⟨ys, h1, h2⟩ := fz_src i.memR hden
      rw [cat_u8 h2] at h1
      exact h1
/-- the bytes of a slice, or of a piece -/
noncomputable def bytesK {β : Type} (s : SS) (a : SV) (k : List (BitVec 8) → Option β) : Option β := match a with
  | .vw id pa m => vwC s id pa m .u8 k
  | a => match bytesS s a with
    | some l => k l
    | none => none
theorem slm_src {M m : Mem} {w : World} (hM : ∀ k o, M k = some o → w.heap[k]? = some o) {t : Ty} {l : List t.T} {v : Value} (h : SlM M m t l v) : ∃ ys, SL.Src w t.w v l.length ys ∧ Cat (fun x c => DenT m t x c) l ys := by
  obtain ⟨X, c, rfl, hc, h0⟩ := h
  cases l with
  | nil => exact ⟨[], ⟨by simp, X, c, rfl, hc, .inl rfl⟩, rfl⟩
  | cons x l =>
    obtain ⟨b, o, ds, rfl, ⟨cs, e, f, hb, hj⟩, hcat⟩ := h0.resolve_left (by simp)
    refine ⟨ds, ⟨Cat.length (fun x c h => DenT.length h) hcat, _, c, rfl, hc, .inr ⟨b, o, rfl, fun j u hu => ?_⟩⟩, hcat⟩
    rw [cell_of_row w b (o + j) cs e f (hM _ _ hb)]
    exact hj j u hu
theorem vw_src {β : Type} {K : Kn} {s : SS} {w : World} (i : Inv K s w) {id : Nat} {pa : List Step} {m : Nat} {t : Ty} {k : List t.T → Option β} {r : β} {v : Value} (hx : (SV.vw id pa m).den K v) (h : vwC s id pa m t k = some r) :
    ∃ l ys, SL.Src w t.w v l.length ys ∧ Cat (fun x c => DenT K.p.h t x c) l ys ∧ l.length = m ∧ t.pure = true ∧ k l = some r := by
  have i0 := i.st
  obtain ⟨h0, ha, hdj, hheap, _⟩ := i0
  obtain ⟨l, hsl, hlm, hp, hk⟩ := vw_den (M := hm w) hdj ha (fun k o q => hheap k o q) hx h
  obtain ⟨ys, h1, h2⟩ := slm_src (w := w) (fun _ _ h => h) hsl
  exact ⟨l, ys, h1, h2, hlm, hp, hk⟩
theorem bytesK_ok {β : Type} {K : Kn} {s : SS} {w : World} (i : Inv K s w) {a : SV} {k : List (BitVec 8) → Option β} {r : β} {v : Value} (h : bytesK s a k = some r) (hd : a.den K v) : ∃ l, SL.Src w 1 v l.length (l.map bu8) ∧ k l = some r := by
  unfold bytesK at h
  split at h
  · obtain ⟨l, ys, h1, h2, _, _, hk⟩ := vw_src i hd h
    rw [cat_u8 h2] at h1
    exact ⟨l, h1, hk⟩
  · split at h <;> try (cases h; done)
    rename_i l hl
    exact ⟨l, bytesS_ok i hl hd, h⟩
section
variable {P : Program} {n : Nat} {τ : Fr} {w : World} {β : Type} {dst : Option Tmp} {ty : TypeId} {pos : String} {af : Array Edge} {gd' : Option (Nat × Bool)} {K : Kn} {s : SS} {k : SV → SS → Option β} {r : β} {ρ : Rho} {T : TB}
noncomputable def isStrB (T : TB) (src dt : Nat) : Bool := match tg T src, tg T dt with
  | some i1, some i2 => match i1.desc, i2.desc with
    | .slice _, .string => true
    | _, _ => false
  | _, _ => false
noncomputable def opStrB (T : TB) (ρ : Rho) (s : SS) (src dt : Nat) (x : Operand) (k : SV → SS → Option β) : Option β := match ρ x, tg T src, tg T dt with
  | some a, some i1, some i2 => match i1.desc, i2.desc with
    | .slice e, .string => match tg T e with
      | some ei => match ei.desc with
        | .int .u8 => bytesK s a fun l => k (.d .str l) s
        | _ => none
      | none => none
    | _, _ => none
  | _, _, _ => none
theorem opStrB_ev (hT : T.ok P) (hρ : RhoOk K ρ (AF n τ).eval) (i : Inv K s w) {src dt : Nat} {x : Operand} (h : opStrB T ρ s src dt x k = some r) : ∃ v sv, sv.den K v ∧ k sv s = some r ∧ Ev P (AF n τ).eval ⟨dst, .convert src dt x, ty, pos, af, gd'⟩ w v := by
  unfold opStrB at h
  split at h <;> try (cases h; done)
  rename_i a i1 i2 ha h1 h2
  have hd1 := (tg_ok hT h1).desc
  have hd2 := (tg_ok hT h2).desc
  split at h <;> try (cases h; done)
  rename_i e hq1 hq2
  rw [hq1] at hd1; rw [hq2] at hd2
  split at h <;> try (cases h; done)
  rename_i ei hei
  have hd3 := (tg_ok hT hei).desc
  split at h <;> try (cases h; done)
  rename_i hq3
  rw [hq3] at hd3
  obtain ⟨l, hsrc, h⟩ := bytesK_ok i h (hρ _ _ ha)
  exact ⟨_, .d .str l, ⟨_, rfl, rfl⟩, h, E.strB hd1 hd3 hd2 rfl hsrc⟩
theorem opStrB_ok (hT : T.ok P) (hρ : RhoOk K ρ (AF n τ).eval) (i : Inv K s w) {src dt : Nat} {x : Operand} (h : opStrB T ρ s src dt x k = some r) : OpR P n ⟨dst, .convert src dt x, ty, pos, af, gd'⟩ τ w K k r := by
  obtain ⟨v, sv, hd, hk, he⟩ := opStrB_ev (dst := dst) (ty := ty) (pos := pos) (af := af) (gd' := gd') hT hρ i h
  exact OpR.soft he i hd hk
/-- bytes that last, as a string: at any time -/
noncomputable def opStrH (T : TB) (ρ : Rho) (s : SS) (src dt : Nat) (x : Operand) (k : SV → SS → Option β) : Option β := match ρ x, tg T src, tg T dt with
  | some (.d (.fz .u8) l), some i1, some i2 => (match i1.desc, i2.desc with
    | .slice e, .string => (match tg T e with
      | some ei => (match ei.desc with
        | .int .u8 => k (.d .str l) s
        | _ => none)
      | none => none)
    | _, _ => none)
  | _, _, _ => none
theorem opStrH_ok (hT : T.ok P) (hρ : RhoOk K ρ (AF n τ).eval) {src dt : Nat} {x : Operand} (h : opStrH T ρ s src dt x k = some r) :
    ∃ v sv, sv.den K v ∧ k sv s = some r ∧ ∀ w', sub K.rd (hm w') → Ev P (AF n τ).eval ⟨dst, .convert src dt x, ty, pos, af, gd'⟩ w' v := by
  unfold opStrH at h
  split at h <;> try (cases h; done)
  rename_i l i1 i2 ha h1 h2
  have hd1 := (tg_ok hT h1).desc
  have hd2 := (tg_ok hT h2).desc
  split at h <;> try (cases h; done)
  rename_i e hq1 hq2
  rw [hq1] at hd1; rw [hq2] at hd2
  split at h <;> try (cases h; done)
  rename_i ei hei
  have hd3 := (tg_ok hT hei).desc
  split at h <;> try (cases h; done)
  rename_i hq3
  rw [hq3] at hd3
  obtain ⟨v, hv, hden⟩ := hρ _ _ ha
  have hden' : DenT K.p.h (.fz .u8) l [v] := hden
  obtain ⟨X, c, e1, hc, h0⟩ := hden'
  have hvx : (AF n τ).eval x = v := by simpa using hv
  have hvs : v = .slice X l.length c := by simpa using e1
  refine ⟨_, .d .str l, ⟨_, rfl, rfl⟩, h, fun w' hr => ?_⟩
  obtain ⟨ys, hs, hcat⟩ := slm_src (M := K.p.h) (m := K.p.h) (w := w') (fun q o hq => hr q o (uni_some.2 (.inl hq))) (t := .u8) (l := l) (v := (AF n τ).eval x) ⟨X, c, by rw [hvx]; exact hvs, hc, h0⟩
  rw [cat_u8 hcat] at hs
  exact E.strB hd1 hd3 hd2 rfl hs
end
end Go.GX
namespace Go.GX
open Go.RowKit Go.SL
set_option linter.unusedVariables false
set_option linter.unusedSimpArgs false
set_option linter.unnecessarySimpa false

noncomputable def Segs {α : Type} (R : α → List Value → Prop) (l : List α) (segs : List (List Value)) : Prop := segs.length = l.length ∧ ∀ (i : Nat) (x : α) (s : List Value), l[i]? = some x → segs[i]? = some s → R x s
theorem cat_segs {α : Type} {R : α → List Value → Prop} : ∀ {l : List α} {cs : List Value}, Cat R l cs → ∃ segs : List (List Value), cs = segs.flatten ∧ Segs R l segs := by
  intro l
  induction l with
  | nil => intro cs h; exact ⟨[], h, rfl, fun i x s h => by simp at h⟩
  | cons x l ih =>
    intro cs h
    obtain ⟨a, b, rfl, h1, h2⟩ := h
    obtain ⟨segs, rfl, hl, hs⟩ := ih h2
    refine ⟨a :: segs, by simp, by simp [hl], fun i y s hy hs' => ?_⟩
    cases i with
    | zero => cases hy; cases hs'; exact h1
    | succ i => exact hs i y s (by simpa using hy) (by simpa using hs')
theorem segs_cat {α : Type} {R : α → List Value → Prop} : ∀ {l : List α} {segs : List (List Value)}, Segs R l segs → Cat R l segs.flatten := by
  intro l
  induction l with
  | nil => intro segs h; rw [List.eq_nil_of_length_eq_zero h.1]; rfl
  | cons x l ih =>
    intro segs h
    cases segs with
    | nil => cases h.1
    | cons a segs =>
      exact ⟨a, segs.flatten, by simp, h.2 0 x a rfl rfl, ih ⟨by simpa using h.1, fun i y s hy hs => h.2 (i + 1) y s (by simpa using hy) (by simpa using hs)⟩⟩
theorem Segs.set {α : Type} {R : α → List Value → Prop} {l : List α} {segs : List (List Value)} (h : Segs R l segs) {i : Nat} {x : α} {s : List Value} (hx : R x s) : Segs R (l.set i x) (segs.set i s) := by
  refine ⟨by simp [h.1], fun j y u hy hu => ?_⟩
  rw [List.getElem?_set] at hy hu
  split at hy
  · rename_i e
    rw [if_pos e] at hu
    split at hy <;> cases hy
    split at hu <;> cases hu
    exact hx
  · rename_i e
    rw [if_neg e] at hu
    exact h.2 j y u hy hu
section
variable {P : Program} {n : Nat} {τ : Fr} {w : World} {β : Type} {dst : Option Tmp} {ty : TypeId} {pos : String} {af : Array Edge} {gd' : Option (Nat × Bool)} {K : Kn} {s : SS} {k : SV → SS → Option β} {r : β} {ρ : Rho} {T : TB}
noncomputable def setA (ρ : Rho) (t : Ty) (m : Nat) : List (Nat × Operand) → List t.T → Option (List t.T)
  | [], l => some l
  | (i, x) :: ps, l => match ρ x with
    | some (.d t' y) => match castT t' t y with
      | some z => bif Nat.blt i m then setA ρ t m ps (l.set i z) else none
      | none => none
    | _ => none
theorem setA_ok {e : Operand → Value} (hρ : RhoOk K ρ e) {t : Ty} {m : Nat} : ∀ {ps : List (Nat × Operand)} {l l' : List t.T} {segs : List (List Value)}, setA ρ t m ps l = some l' → l.length = m → Segs (fun x c => DenT K.p.h t x c) l segs →
    l'.length = m ∧ Segs (fun x c => DenT K.p.h t x c) l' ((ps.map fun p => (p.1, e p.2)).foldl (fun (sg : List (List Value)) (p : Nat × Value) => sg.set p.1 p.2.cells.toList) segs) ∧ ∀ p ∈ ps, p.1 < m ∧ (e p.2).cells.size = t.w := by
  intro ps
  induction ps with
  | nil => intro l l' segs h hl hs; cases h; exact ⟨hl, hs, fun p hp => by cases hp⟩
  | cons a ps ih =>
    obtain ⟨i, x⟩ := a
    intro l l' segs h hl hs
    simp only [setA] at h
    split at h <;> try (cases h; done)
    rename_i t' y hy
    split at h <;> try (cases h; done)
    rename_i z hz
    obtain ⟨e1, hc⟩ := castT_eq hz
    cases e1; cases hc
    cases hb : Nat.blt i m with
    | false => rw [hb, cond_false] at h; cases h
    | true =>
    rw [hb, cond_true] at h
    have hlt : i < m := by simpa [Nat.blt_eq] using hb
    obtain ⟨v, ev, hd⟩ := hρ _ _ hy
    have ev' : e x = v := by simpa using ev
    have hcells := hd.cells.1
    rw [← ev'] at hcells
    obtain ⟨h1, h2, h3⟩ := ih h (by rw [List.length_set]; exact hl) (hs.set (i := i) hcells)
    refine ⟨h1, h2, fun p hp => ?_⟩
    rcases List.mem_cons.1 hp with rfl | hp
    · exact ⟨hlt, by have := DenT.length hcells; simpa using this⟩
    · exact h3 p hp
noncomputable def pBuildA (T : TB) (ρ : Rho) (s : SS) (t : Nat) (ps : List (Nat × Operand)) (k : SV → SS → Option β) : Option β := match tg T t with
  | some i => match i.desc with
    | .array m e => match tg T e with
      | some ei => match i.zc with
        | .dat (.arr m' t') l => bif Nat.beq m m' && Nat.beq ei.size t'.w && t'.pure then (match setA ρ t' m ps l with
          | some l' => k (.d (.arr m' t') l') s
          | none => none) else none
        | _ => none
      | none => none
    | _ => none
  | none => none
theorem pBuildA_ok (hT : T.ok P) (hρ : RhoOk K ρ (AF n τ).eval) (i : Inv K s w) {t : Nat} {ps : Array (Nat × Operand)} (h : pBuildA T ρ s t ps.toList k = some r) : PureR P n ⟨dst, .build t ps, ty, pos, af, gd'⟩ τ w K k r := by
  unfold pBuildA at h
  split at h <;> try (cases h; done)
  rename_i ti hti
  have ok := tg_ok hT hti
  split at h <;> try (cases h; done)
  rename_i m e hdd
  split at h <;> try (cases h; done)
  rename_i ei hei
  have oke := tg_ok hT hei
  split at h <;> try (cases h; done)
  rename_i m' t' l hzc
  cases hq : Nat.beq m m' && Nat.beq ei.size t'.w && t'.pure with
  | false => rw [hq, cond_false] at h; cases h
  | true =>
  rw [hq, cond_true] at h
  simp only [Bool.and_eq_true] at hq
  obtain ⟨⟨q1, q2⟩, q3⟩ := hq
  have hm := Nat.eq_of_beq_eq_true q1; subst hm
  have hw := Nat.eq_of_beq_eq_true q2
  split at h <;> try (cases h; done)
  rename_i l' hl'
  have hz : OA K.p.h (.arr m t') l ti.z.cells.toList none0 := by
    have := ren_ok (K := K) ok.ren
    rw [hzc] at this; exact this
  rw [oa_pure _ (.arr m t') q3] at hz
  obtain ⟨_, hlen, hcat⟩ := hz
  obtain ⟨segs, hcs, hsg⟩ := cat_segs hcat
  obtain ⟨h1, h2, h3⟩ := setA_ok hρ hl' hlen hsg
  have hsl : ∀ s ∈ segs, s.length = ei.size := by
    intro s hs
    obtain ⟨j, hj⟩ := List.mem_iff_getElem?.1 hs
    have hjl : j < l.length := by rw [← hsg.1]; exact (List.getElem?_eq_some_iff.1 hj).1
    rw [hw]; exact DenT.length (hsg.2 j l[j] s (List.getElem?_eq_getElem hjl) hj)
  generalize hfin : ((ps.toList.map fun p => (p.1, (AF n τ).eval p.2)).foldl (fun (sg : List (List Value)) (p : Nat × Value) => sg.set p.1 p.2.cells.toList) segs) = fin at h2
  have hden : DenT K.p.h (.arr m t') l' fin.flatten := ⟨h1, segs_cat h2⟩
  refine PureR.mk (sv := .d (.arr m t') l') (v := .agg fin.flatten.toArray) i h ⟨_, rfl, fin.flatten, rfl, hden⟩ fun w' => ?_
  refine E.build (vs := ps.map fun (i, x) => (i, (AF n τ).eval x)) rfl (run_build w' t _ _ ?_)
  have hd := ok.desc
  rw [hdd] at hd
  have e1 : (ps.map fun (i, x) => (i, (AF n τ).eval x)).toList = ps.toList.map fun p => (p.1, (AF n τ).eval p.2) := by simp
  have e2 : ti.z.cells = segs.flatten.toArray := by rw [← hcs]
  have hi1 := ok.info
  have hi2 := oke.info
  unfold Program.built
  cases hq1 : P.info? t with
  | none => rw [hq1] at hi1; cases hi1
  | some it =>
    cases hq2 : P.info? e with
    | none => rw [hq2] at hi2; cases hi2
    | some ie =>
      rw [hq1] at hi1; rw [hq2] at hi2
      simp only [Option.map_some, Option.some.injEq, Prod.mk.injEq] at hi1 hi2
      simp only [hd, hi1.1, hi2.2.1, hq2]
      rw [e1, e2, fill_segs, hfin]
      · intro j sg hj
        have hm : sg ∈ segs := List.mem_of_getElem? hj
        rw [hsl sg hm, flat_len (sz := ei.size) fun s hs => hsl s (List.mem_of_mem_take hs), List.length_take]
        have := (List.getElem?_eq_some_iff.1 hj).1
        rw [Nat.min_eq_left (by omega)]
      · intro p hp
        obtain ⟨q, hq, rfl⟩ := List.mem_map.1 hp
        obtain ⟨g1, g2⟩ := h3 q hq
        have hls : q.1 < segs.length := by rw [hsg.1, hlen]; exact g1
        exact ⟨segs[q.1], List.getElem?_eq_getElem hls, by rw [g2, hsl _ (List.getElem_mem hls), hw]⟩
noncomputable def isArr (T : TB) (t : Nat) : Bool := match tg T t with
  | some i => match i.desc with
    | .array _ _ => true
    | _ => false
  | none => false
noncomputable def pBuildX (T : TB) (ρ : Rho) (s : SS) (t : Nat) (ps : List (Nat × Operand)) (k : SV → SS → Option β) : Option β := bif isArr T t then pBuildA T ρ s t ps k else pBuild T ρ s t ps k
theorem pBuildX_ok (hT : T.ok P) (hρ : RhoOk K ρ (AF n τ).eval) (i : Inv K s w) {t : Nat} {ps : Array (Nat × Operand)} (h : pBuildX T ρ s t ps.toList k = some r) : PureR P n ⟨dst, .build t ps, ty, pos, af, gd'⟩ τ w K k r := by
  unfold pBuildX at h
  cases hb : isArr T t with
  | true => rw [hb, cond_true] at h; exact pBuildA_ok hT hρ i h
  | false => rw [hb, cond_false] at h; exact pBuild_ok hT hρ i h
end
end Go.GX
namespace Go.GX
open Go.RowKit Go.SL
set_option linter.unusedVariables false
set_option linter.unusedSimpArgs false
set_option linter.unnecessarySimpa false
theorem cat_zeros {m : Mem} : ∀ (n : Nat), Cat (fun (x : BitVec 8) c => DenT m .u8 x c) (List.replicate n 0#8) (List.replicate n (.int .u8 0)) := by
  intro n
  induction n with
  | zero => rfl
  | succ n ih => exact ⟨[.int .u8 0], List.replicate n (.int .u8 0), rfl, rfl, ih⟩
section
variable {P : Program} {n : Nat} {τ : Fr} {w : World} {β : Type} {dst : Option Tmp} {ty : TypeId} {pos : String} {af : Array Edge} {gd' : Option (Nat × Bool)} {K : Kn} {s : SS} {k : SV → SS → Option β} {r : β} {ρ : Rho} {T : TB}
/-- few enough for any memory, and less -/
noncomputable def few9 (a b : Nat) : Prop := a + b ≤ 1000000000
instance (a b : Nat) : Decidable (few9 a b) := inferInstanceAs (Decidable (_ ≤ _))
noncomputable def opAppZ (T : TB) (ρ : Rho) (s : SS) (t tn : Nat) (x y : Operand) (k : SV → SS → Option β) : Option β := match ρ x, ρ y, tg T t, tg T tn with
  | some a, some b, some ti, some tj => match ti.desc, tj.desc with
    | .slice e, .int _ => match tg T e with
      | some ei => match ei.z with
        | .int .u8 0 => bif Nat.beq ei.size 1 && Nat.ble ei.bytes 32768 then
          natK b fun m => appTo s a e .u8 fun l s2 => gd (few9 l.length m) (k (.vr s2.nx) (add1 s2 (.row e .u8 (l ++ List.replicate m 0#8)))) else none
        | _ => none
      | none => none
    | _, _ => none
  | _, _, _, _ => none
theorem opAppZ_ok (hT : T.ok P) (hρ : RhoOk K ρ (AF n τ).eval) (i : Inv K s w) {t tn : Nat} {x y : Operand} (h : opAppZ T ρ s t tn x y k = some r) : OpR P n ⟨dst, .call ⟨.builtin .append, #[x, y], #[t, tn]⟩, ty, pos, af, gd'⟩ τ w K k r := by
  unfold opAppZ at h
  split at h <;> try (cases h; done)
  rename_i a b ti tj ha hb hti htj
  have hx := hρ _ _ ha
  have hy := hρ _ _ hb
  have hd := (tg_ok hT hti).desc
  have hd2 := (tg_ok hT htj).desc
  split at h <;> try (cases h; done)
  rename_i e kn hdd hdn
  rw [hdd] at hd; rw [hdn] at hd2
  split at h <;> try (cases h; done)
  rename_i ei hei
  have ok := tg_ok hT hei
  split at h <;> try (cases h; done)
  rename_i hz
  cases hq : Nat.beq ei.size 1 && Nat.ble ei.bytes 32768 with
  | false => rw [hq, cond_false] at h; cases h
  | true =>
  rw [hq, cond_true] at h
  simp only [Bool.and_eq_true] at hq
  have hw := Nat.eq_of_beq_eq_true hq.1
  have hbytes := Nat.le_of_ble_eq_true hq.2
  obtain ⟨m, kk, hm, h⟩ := natK_ok h hy
  obtain ⟨l, s2, xs, hn2, st2, h⟩ := appTo_ok (X := [Exact K.F]) h i.nx i.st hx
  obtain ⟨hfew, hk⟩ := gd_some h
  have hfew' : l.length + m ≤ 1000000000 := hfew
  have hfit : (l.length + m) * ei.bytes ≤ 140737488355328 := Nat.le_trans (Nat.mul_le_mul hfew' hbytes) (by decide)
  have hfit2 : m * ei.bytes ≤ 140737488355328 := Nat.le_trans (Nat.mul_le_mul (Nat.le_trans (Nat.le_add_left _ _) hfew') hbytes) (by decide)
  have hinfo := ok.info
  rw [hw, hz] at hinfo
  refine Go.SL.H.appendZ (z := .int .u8 0) (bytes := ei.bytes) hd hd2 hinfo rfl rfl rfl hm rfl st2 .here hfit hfit2 hfew' fun v w' st3 => ?_
  have q1 := St.perm st3 (l' := CatA (fun (x : BitVec 8) c => OA K.p.h .u8 x c) l xs :: Own e 1 v (l.length + m) (xs ++ List.replicate m (.int .u8 0)) :: (asns K s2.hp ++ [Exact K.F])) (List.Perm.swap _ _ _)
  have q2 := q1.weaken (B := CatA (fun (x : BitVec 8) c => OA K.p.h .u8 x c) (l ++ List.replicate m 0#8) (xs ++ List.replicate m (.int .u8 0))) (fun h hc => by
    have := CatA.append hc (catA_mk (m := K.p.h) (t := .u8) rfl (cat_zeros m)) (disj_none0 h)
    rwa [uni_none0] at this)
  have st4 : St K.p w' ((EN.row e .u8 (l ++ List.replicate m 0#8)).asn (K.name v) K.nx :: (asns K s2.hp ++ ([] ++ [Exact K.F]))) :=
    St.mkex v (St.mkex (xs ++ List.replicate m (.int .u8 0)) (St.mkiff Kn.name_eq (St.mksep (by rw [List.length_append, List.length_replicate]; exact q2.swap))))
  have hv : ∃ Y c, v = .slice Y (l ++ List.replicate m 0#8).length c := by
    obtain ⟨hh, hall, _⟩ := id st3
    obtain ⟨p, q, _, _, hc, _⟩ := hall
    obtain ⟨Y, c, e⟩ := own_slice hc
    exact ⟨Y, c, by rw [List.length_append, List.length_replicate]; exact e⟩
  obtain ⟨Y, c, hv⟩ := hv
  obtain ⟨le, i'⟩ := Inv2.name hn2 st4
  exact ⟨.vr s2.nx, _, _, le, i'.inv, ⟨Y, _, c, by rw [hn2.eq, ← hv]; exact Kn.name_eq, by rw [hv]⟩, hk⟩
end
end Go.GX
namespace Go.GX
open Go.RowKit Go.SL
set_option linter.unusedVariables false
set_option linter.unusedSimpArgs false

theorem seg_view {K : Kn} {M m : Mem} {t : Ty} {l : List t.T} {u : Value} {id lo n c : Nat} {pa : List Step} {X : Option Addr} (hu : K.E id = some u) (h : SlM M m t l u) (hX : n = 0 ∨ ∃ u b, K.E id = some u ∧ Base u b ∧ X = some ⟨b, pOff pa, none⟩) (ho : pOff pa = lo * t.w) (hl : lo + n ≤ l.length) (hc : n ≤ c) : SlM M m t ((l.drop lo).take n) (.slice X n c) := by
  rcases Nat.eq_zero_or_pos n with h0 | h0
  · subst h0; exact slm_nil
  · obtain ⟨X', c', e2, hc', h0'⟩ := h
    obtain ⟨b', o, ds, rfl, hat, hcat⟩ := h0'.resolve_left (by omega)
    obtain ⟨u2, b, hE, hB, rfl⟩ := hX.resolve_left (by omega)
    rw [hu] at hE; cases hE
    subst e2
    have hB' : (⟨b', o, none⟩ : Addr) = ⟨b, 0, none⟩ := hB
    cases hB'
    exact fz_seg hat hcat hl hc (.inr (by rw [ho]; simp))
section
variable {P : Program} {n : Nat} {τ : Fr} {w : World} {β : Type} {dst : Option Tmp} {ty : TypeId} {pos : String} {af : Array Edge} {gd' : Option (Nat × Bool)} {K : Kn} {s : SS} {k : SV → SS → Option β} {r : β} {ρ : Rho} {T : TB}
/-- a piece, or a row, lasts from now on -/
noncomputable def nrm (s : SS) (a : SV) (k : SV → SS → Option β) : Option β := match a with
  | .vw id pa m => (match lastI pa with
    | some (p, lo, z) => (match hget s.hp id with
      | some (.row _ t l) => (match p with
        | [] => bif Nat.beq z t.w && t.pure then gd (lo + m ≤ l.length) (k (.d (.fz t) ((l.drop lo).take m)) { s with hp := (id, .fro t l) :: hdel s.hp id }) else none
        | _ => none)
      | some (.fro t l) => (match p with
        | [] => bif Nat.beq z t.w then gd (lo + m ≤ l.length) (k (.d (.fz t) ((l.drop lo).take m)) s) else none
        | _ => none)
      | some (.blk _ (.dat t0 x)) => bif t0.pure then getL t0 x p fun a y => (match a, y with
          | .arr _ t', l => bif Nat.beq z t'.w then gd (lo + m ≤ List.length l) (k (.d (.fz t') ((List.drop lo l).take m)) { s with hp := hdel s.hp id }) else none
          | _, _ => none) else none
      | _ => none)
    | none => none)
  | a => frz s a k
theorem nrm_ok {a : SV} {v : Value} (h : nrm s a k = some r) (i : Inv K s w) (hd : a.den K v) : ∃ K' s' a', K.le K' ∧ Inv K' s' w ∧ a'.den K' v ∧ k a' s' = some r := by
  unfold nrm at h
  split at h
  · rename_i id pa m
    obtain ⟨X, c, e, hc, hX, _⟩ := hd
    have e' : v = .slice X m c := by simpa using e
    subst e'
    split at h <;> try (cases h; done)
    rename_i p lo z hp
    have hoff := lastI_ok hp
    split at h <;> try (cases h; done)
    · rename_i e0 t l hg
      split at h <;> try (cases h; done)
      cases hb : Nat.beq z t.w && t.pure with
      | false => rw [hb, cond_false] at h; cases h
      | true =>
      rw [hb, cond_true] at h
      simp only [Bool.and_eq_true] at hb
      have hz := Nat.eq_of_beq_eq_true hb.1
      obtain ⟨hl, hk⟩ := gd_some h
      obtain ⟨K', le, hEE, ⟨u, hu, hden⟩, s2⟩ := row_freeze hb.2 (i.take hg)
      have hseg := seg_view (K := K) hu (SlM.of hden) hX (by rw [hoff, hz]; simp [pOff]) hl hc
      refine ⟨K', _, .d (.fz t) ((l.drop lo).take m), le, ⟨?_, ?_⟩, ⟨_, rfl, hseg.den fun _ _ h => h⟩, hk⟩
      · rw [le.F]
        exact St.mkpu ⟨_, by rw [hEE.1]; exact hu, hden⟩ (St.asns le s2)
      · exact ⟨by rw [hEE.2]; exact i.nx.eq, fun k hk => by rw [hEE.1]; rw [hEE.2] at hk; exact i.nx.no k hk⟩
    · rename_i t l hg
      split at h <;> try (cases h; done)
      cases hb : Nat.beq z t.w with
      | false => rw [hb, cond_false] at h; cases h
      | true =>
      rw [hb, cond_true] at h
      have hz := Nat.eq_of_beq_eq_true hb
      obtain ⟨hl, hk⟩ := gd_some h
      obtain ⟨⟨u, hu, hden⟩, _⟩ := (i.take hg).pu
      have hseg := seg_view (K := K) hu (SlM.of hden) hX (by rw [hoff, hz]; simp [pOff]) hl hc
      exact ⟨K, s, .d (.fz t) ((l.drop lo).take m), Kn.le.refl _, i, ⟨_, rfl, hseg.den fun _ _ h => h⟩, hk⟩
    · rename_i e0 t0 x hg
      cases hpu : t0.pure with
      | false => rw [hpu, cond_false] at h; cases h
      | true =>
      rw [hpu, cond_true] at h
      obtain ⟨b, sta⟩ := (i.take hg).ex
      obtain ⟨cs, stb⟩ := sta.ex
      obtain ⟨hE, stc⟩ := stb.iff
      have std := stc.sep
      have std' : St K.p w (pt b (.cells cs.toArray e0) :: OA K.p.h t0 x cs :: (asns K (hdel s.hp id) ++ [Exact K.F])) := std
      rw [oa_pure _ _ hpu] at std'
      obtain ⟨hden, ste⟩ := std'.swap.pu
      obtain ⟨q, leq, hq, stf⟩ := ste.keepPt
      have le := Kn.grow_le leq stf
      obtain ⟨a, y, d1, d2, d3, rfl, hl1, hdy, hk⟩ := getL_ok hden h
      split at hk <;> try (cases hk; done)
      rename_i n' t' l
      cases hb : Nat.beq z t'.w with
      | false => rw [hb, cond_false] at hk; cases hk
      | true =>
      rw [hb, cond_true] at hk
      have hz := Nat.eq_of_beq_eq_true hb
      obtain ⟨hl, hk⟩ := gd_some hk
      refine ⟨K.grow q, { s with hp := hdel s.hp id }, .d (.fz t') ((List.drop lo l).take m), le, ⟨St.asns (l := hdel s.hp id) (R := [Exact K.F]) le stf, i.nx.eq, i.nx.no⟩, ⟨_, rfl, ?_⟩, hk⟩
      have hat : At q.h b (pOff p) d2 := by
        refine ⟨_, _, _, hq, fun j v hj => ?_⟩
        have hlt := (List.getElem?_eq_some_iff.1 hj).1
        rw [List.getElem?_toArray, ← hl1, List.getElem?_append_right (by omega), List.getElem?_append_left (by omega), ← hj]
        congr 1; omega
      have hcat : Cat (fun x c => DenT q.h t' x c) l d2 := Cat.mono (fun x c h => DenT.sub leq.h h) hdy.2
      refine (fz_seg hat hcat hl hc ?_).den fun _ _ h => h
      rcases hX with hm | ⟨u2, b2, hE2, hB, rfl⟩
      · exact .inl hm
      · rw [hE] at hE2; cases hE2
        have hB' : (⟨b, 0, none⟩ : Addr) = ⟨b2, 0, none⟩ := hB
        cases hB'
        exact .inr (by rw [hoff, hz])
  · exact frz_ok h i hd

/-! ### slices as arrays -/
/-- a piece of a block -/
noncomputable def vwB (s : SS) : SV → Bool
  | .vw id _ _ => (match hget s.hp id with
    | some (.blk _ _) => true
    | _ => false)
  | _ => false
noncomputable def pArrP (T : TB) (ρ : Rho) (s : SS) (t : Nat) (x : Operand) (k : SV → SS → Option β) : Option β := match ρ x, tg T t with
  | some a, some ti => match ti.desc with
    | .array m e => match tg T e with
      | some ei => bif vwB s a then (match a with
        | .vw id pa q => (match lastI pa with
          | some (_, _, z) => bif Nat.beq ei.size z && Nat.ble 1 m then gd (m ≤ q) (k (.ptr id pa) s) else none
          | none => none)
        | _ => none) else nrm s a fun a s => match slS s a with
        | some (.fro t' l) => bif Nat.beq ei.size t'.w && Nat.ble 1 m then gd (m ≤ l.length) (k (.dp (.arr m t') (l.take m)) s) else none
        | some (.bor t' l) => bif Nat.beq ei.size t'.w && Nat.ble 1 m then gd (m ≤ l.length) (k (.bp (.arr m t') (l.take m)) s) else none
        | _ => none
      | none => none
    | _ => none
  | _, _ => none
theorem E.arrP {e : Operand → Value} {x : Operand} {t el : TypeId} {m b o l c : Nat} (ht : P.underlying t = some (.array m el)) (hx : e x = .slice (some ⟨b, o, none⟩) l c) (hm : m ≤ l) : Ev P e ⟨dst, .sliceToArrayPointer t x, ty, pos, af, gd'⟩ w (.pointer (some ⟨b, o, none⟩)) := by
  have : ¬ l < m := by omega
  simp [Ev, execOp, Instr.arrayAt, run_underlying ht, hx, this]
theorem pre_arr {M m : Mem} {t : Ty} {l : List t.T} {q : Nat} {v : Value} {X : Option Addr} {c : Nat} (hv : v = .slice X l.length c) (h : DenT m (.fz t) l [v]) (h1 : 1 ≤ q) (hq : q ≤ l.length) : ∃ b o a, X = some ⟨b, o, none⟩ ∧ At m b o a ∧ DenT m (.arr q t) (l.take q) a := by
  subst hv
  obtain ⟨X', c', e, hc, h0⟩ := h
  cases e
  obtain ⟨b, o, ds, rfl, hat, hcat⟩ := h0.resolve_left (by omega)
  rw [← List.take_append_drop q l] at hcat
  obtain ⟨a, b', rfl, ha, _⟩ := Cat.split hcat
  have := At.mid (c1 := []) hat
  exact ⟨b, o, a, rfl, this, by rw [List.length_take]; omega, ha⟩
theorem pArrP_ok (hT : T.ok P) (hρ : RhoOk K ρ (AF n τ).eval) (i : Inv K s w) {t : Nat} {x : Operand} (h : pArrP T ρ s t x k = some r) : PureR P n ⟨dst, .sliceToArrayPointer t x, ty, pos, af, gd'⟩ τ w K k r := by
  unfold pArrP at h
  split at h <;> try (cases h; done)
  rename_i a ti ha hti
  have hx := hρ _ _ ha
  have hd := (tg_ok hT hti).desc
  split at h <;> try (cases h; done)
  rename_i m e hdd
  rw [hdd] at hd
  split at h <;> try (cases h; done)
  rename_i ei hei
  cases hvb : vwB s a with
  | true =>
    rw [hvb, cond_true] at h
    split at h <;> try (cases h; done)
    rename_i id pa q
    split at h <;> try (cases h; done)
    rename_i p0 lo z hp
    cases hb : Nat.beq ei.size z && Nat.ble 1 m with
    | false => rw [hb, cond_false] at h; cases h
    | true =>
    rw [hb, cond_true] at h
    simp only [Bool.and_eq_true] at hb
    have h1 := Nat.le_of_ble_eq_true hb.2
    obtain ⟨hle, h⟩ := gd_some h
    obtain ⟨X, c, e, hc, hX, _⟩ := hx
    obtain ⟨u, b, hE, hB, rfl⟩ := hX.resolve_left (by omega)
    have e' : (AF n τ).eval x = .slice (some ⟨b, pOff pa, none⟩) q c := by simpa using e
    exact PureR.mk i h ⟨u, b, hE, hB, rfl⟩ fun w' => E.arrP hd e' hle
  | false =>
  rw [hvb, cond_false] at h
  obtain ⟨K1, s1, a1, le1, i1, hx1, h⟩ := nrm_ok h i hx
  refine PureR.le le1 ?_
  split at h <;> try (cases h; done)
  · rename_i t' l hsl
    obtain ⟨⟨X, c, hv, hc⟩, hden⟩ := slS_ok i1 hsl hx1
    cases hb : Nat.beq ei.size t'.w && Nat.ble 1 m with
    | false => rw [hb, cond_false] at h; cases h
    | true =>
    rw [hb, cond_true] at h
    simp only [Bool.and_eq_true] at hb
    obtain ⟨hle, h⟩ := gd_some h
    obtain ⟨b, o, a, rfl, hat, hda⟩ := pre_arr (M := K1.p.h) hv hden (Nat.le_of_ble_eq_true hb.2) hle
    exact PureR.mk i1 h ⟨b, o, a, rfl, hat, hda⟩ fun w' => E.arrP hd hv hle
  · rename_i t' l hsl
    obtain ⟨⟨X, c, hv, hc⟩, hden⟩ := slS_ok i1 hsl hx1
    cases hb : Nat.beq ei.size t'.w && Nat.ble 1 m with
    | false => rw [hb, cond_false] at h; cases h
    | true =>
    rw [hb, cond_true] at h
    simp only [Bool.and_eq_true] at hb
    obtain ⟨hle, h⟩ := gd_some h
    obtain ⟨b, o, a, rfl, hat, hda⟩ := pre_arr (M := K1.rd) hv hden (Nat.le_of_ble_eq_true hb.2) hle
    exact PureR.mk i1 h ⟨b, o, a, rfl, hat, hda⟩ fun w' => E.arrP hd hv hle

/-! ### a new slice of nothing: x[:0:0] -/
noncomputable def zeroS : SV → Bool
  | .d .int z => decide (z = 0)
  | _ => false
noncomputable def slcS : SV → Bool
  | .vr _ | .vw _ _ _ | .nilS | .d (.fz _) _ | .bd (.fz _) _ => true
  | _ => false
theorem slcS_ok {x : SV} {v : Value} (h : slcS x = true) (hd : x.den K v) : ∃ X l c, v = .slice X l c ∧ l ≤ c ∨ v = .slice X l c := by
  cases x <;> simp only [slcS, Bool.false_eq_true] at h
  case vr id => obtain ⟨X, m, c, _, e⟩ := hd; exact ⟨X, m, c, .inr (by simpa using e)⟩
  case vw id pa m => obtain ⟨X, c, e, _⟩ := hd; exact ⟨X, m, c, .inr (by simpa using e)⟩
  case nilS => exact ⟨none, 0, 0, .inr (by have q : [v] = [_] := hd; simpa using q)⟩
  case d t l =>
    cases t <;> simp only [Bool.false_eq_true] at h
    obtain ⟨v', e, hd⟩ := hd
    obtain ⟨X, c, e2, _⟩ := hd
    exact ⟨X, _, c, .inr (by have q : [v] = [v'] := e; have q2 : [v'] = [_] := e2; rw [q2] at q; simpa using q)⟩
  case bd t l =>
    cases t <;> simp only [Bool.false_eq_true] at h
    obtain ⟨v', e, hd⟩ := hd
    obtain ⟨X, c, e2, _⟩ := hd
    exact ⟨X, _, c, .inr (by have q : [v] = [v'] := e; have q2 : [v'] = [_] := e2; rw [q2] at q; simpa using q)⟩
theorem zeroS_ok {x : SV} {v : Value} (h : zeroS x = true) (hd : x.den K v) : v = .int .i64 0 := by
  cases x <;> simp only [zeroS, Bool.false_eq_true] at h
  rename_i t z
  cases t <;> simp only [Bool.false_eq_true] at h
  obtain ⟨v', e, hd⟩ := hd
  have h0 : z = 0 := by simpa using h
  subst h0
  have q : [v] = [v'] := e
  have q2 : [v'] = [_] := hd
  rw [q2] at q; simpa using q
noncomputable def pSlice0 (T : TB) (ρ : Rho) (s : SS) (t : Nat) (x hi mx : Operand) (k : SV → SS → Option β) : Option β := match ρ x, ρ hi, ρ mx, tg T t with
  | some a, some h, some m, some ti => match ti.desc with
    | .slice e => match tg T e with
      | some ei => bif slcS a && zeroS h && zeroS m then k (.vr s.nx) (add1 s (.row e ei.ty [])) else none
      | none => none
    | _ => none
  | _, _, _, _ => none
theorem pSlice0_ok (hT : T.ok P) (hρ : RhoOk K ρ (AF n τ).eval) (i : Inv K s w) {t : Nat} {x hi mx : Operand} (h : pSlice0 T ρ s t x hi mx k = some r) : PureR P n ⟨dst, .slice t x none (some hi) (some mx), ty, pos, af, gd'⟩ τ w K k r := by
  unfold pSlice0 at h
  split at h <;> try (cases h; done)
  rename_i a hv mv ti ha hh hm hti
  have hx := hρ _ _ ha
  have hd := (tg_ok hT hti).desc
  split at h <;> try (cases h; done)
  rename_i e hdd
  rw [hdd] at hd
  split at h <;> try (cases h; done)
  rename_i ei hei
  have hes := (tg_ok hT hei).size
  cases hb : slcS a && zeroS hv && zeroS mv with
  | false => rw [hb, cond_false] at h; cases h
  | true =>
  rw [hb, cond_true] at h
  simp only [Bool.and_eq_true] at hb
  obtain ⟨X, l, c, hxe⟩ := slcS_ok hb.1.1 hx
  have hxe : (AF n τ).eval x = .slice X l c := by rcases hxe with h | h; exact h.1; exact h
  have he1 := zeroS_ok hb.1.2 (hρ _ _ hh)
  have he2 := zeroS_ok hb.2 (hρ _ _ hm)
  have st : St K.p w ((EN.row e ei.ty []).asn (K.name (.slice X 0 0)) K.nx :: (asns K s.hp ++ ([] ++ [Exact K.F]))) := by
    refine St.mkex (.slice X 0 0) (St.mkex [] (St.mkiff Kn.name_eq (St.mksep ?_)))
    have s1 : St K.p w (CatA (fun x c => OA K.p.h ei.ty x c) [] [] :: (asns K s.hp ++ [Exact K.F])) := i.st.none0.weaken fun h q => ⟨q, rfl⟩
    exact s1.ownNil X
  obtain ⟨le, i'⟩ := Inv2.name i.nx st
  refine ⟨.slice X 0 0, .vr s.nx, _, _, le, i'.inv, ?_, h, fun w' => ?_⟩
  · exact ⟨X, 0, 0, by rw [i.nx.eq]; exact Kn.name_eq, rfl⟩
  · cases hq : P.info? e with
    | none => rw [hq] at hes; cases hes
    | some q => simp [Ev, execOp, Instr.sliceAt, run_underlying hd, Instr.slice, Instr.sliceBounds, Instr.sliceBound, asIntOf, hxe, sizeOf, typeInfo, hq, he1, he2]

/-! ### elements of arrays -/
noncomputable def pIndexX (T : TB) (ρ : Rho) (s : SS) (t : Nat) (x y : Operand) (k : SV → SS → Option β) : Option β := match ρ x, ρ y, tg T t with
  | some (.d (.arr m t') l), some z, some ti => match ti.desc with
    | .array m' e => match tg T e with
      | some ei => bif Nat.beq ei.size t'.w && Nat.beq m m' && (t'.agg == aggD ei.desc) then natK z fun j => bnd (l[j]?) fun y => k (.d t' y) s else none
      | none => none
    | _ => none
  | _, _, _ => pIndexStr T ρ s t x y k
theorem E.indexArr {e : Operand → Value} {x y : Operand} {t el : TypeId} {m j sz : Nat} {kk : IntKind} {d : TypeDesc} {c1 c2 c3 : List Value} (ht : P.underlying t = some (.array m el)) (he : P.underlying el = some d) (hz : (P.info? el).map (·.size) = some sz) (hx : e x = .agg (c1 ++ (c2 ++ c3)).toArray) (hy : e y = .int kk (j : Int)) (hj : j < m) (h1 : c1.length = j * sz) (h2 : c2.length = sz)
    {v : Value} (hv : v.cells.toList = c2) (ha : aggV v = aggD d) : Ev P e ⟨dst, .index t x y, ty, pos, af, gd'⟩ w v := by
  cases hq : P.info? el with
  | none => simp [hq] at hz
  | some q =>
    have hsz : q.size = sz := by simpa [hq] using hz
    have hagg : (isAgg el).run P w = .ok (aggD d) w := by
      unfold isAgg
      rw [Sem.run_bind, run_underlying he w]
      cases d <;> rfl
    have h3 : ((j : Nat) : Int) < m := by omega
    have hex : (c1 ++ (c2 ++ c3)).toArray.extract (j * sz) (j * sz + sz) = c2.toArray := by
      rw [← h1, ← h2]
      simp [List.extract_toArray, List.extract_eq_take_drop]
    cases hd : aggD d with
    | true =>
      rw [hd] at ha hagg
      cases v <;> simp only [aggV, Bool.false_eq_true] at ha
      rename_i cs
      have hcs : cs = c2.toArray := by
        have : cs.toList = c2 := hv
        rw [← this]
      subst hcs
      simp [Ev, execOp, Instr.index, asIntOf, run_underlying ht, hx, hy, h3, sizeOf, typeInfo, hq, hsz, part, hagg, hex, hj]
      rw [← h1, ← h2]; simp
    | false =>
      rw [hd] at ha hagg
      have hv1 : v.cells.toList = [v] := by cases v <;> first | rfl | cases ha
      rw [hv1] at hv
      subst hv
      have hs1 : sz = 1 := by simpa using h2.symm
      subst hs1
      have hget : (c1 ++ ([v] ++ c3))[j]? = some v := by
        rw [List.getElem?_append_right (by omega)]
        simp [h1]
      have hget' : (c1 ++ v :: c3)[j]? = some v := hget
      simp [Ev, execOp, Instr.index, asIntOf, run_underlying ht, hx, hy, h3, sizeOf, typeInfo, hq, hsz, part, hagg, hj, hget']
theorem pIndexX_ok (hT : T.ok P) (hρ : RhoOk K ρ (AF n τ).eval) (i : Inv K s w) {t : Nat} {x y : Operand} (h : pIndexX T ρ s t x y k = some r) : PureR P n ⟨dst, .index t x y, ty, pos, af, gd'⟩ τ w K k r := by
  unfold pIndexX at h
  split at h
  · rename_i m t' l z ti ha hz hti
    have hx := hρ _ _ ha
    have hd := (tg_ok hT hti).desc
    split at h <;> try (cases h; done)
    rename_i m' e hdd
    rw [hdd] at hd
    split at h <;> try (cases h; done)
    rename_i ei hei
    cases hb : Nat.beq ei.size t'.w && Nat.beq m m' && (t'.agg == aggD ei.desc) with
    | false => rw [hb, cond_false] at h; cases h
    | true =>
    rw [hb, cond_true] at h
    simp only [Bool.and_eq_true, beq_iff_eq] at hb
    obtain ⟨⟨hb1, hb2⟩, hb3⟩ := hb
    have hw := Nat.eq_of_beq_eq_true hb1
    have := Nat.eq_of_beq_eq_true hb2; subst this
    obtain ⟨j, kk, hy, h⟩ := natK_ok h (hρ _ _ hz)
    obtain ⟨y', hy', hk⟩ := bnd_some h
    obtain ⟨v', e', hdv⟩ := hx
    have hvv : (AF n τ).eval x = v' := by simpa using e'
    obtain ⟨cs, rfl, hln, hcat⟩ : ∃ cs : List Value, v' = .agg cs.toArray ∧ DenT K.p.h (.arr m t') l cs := hdv
    obtain ⟨c1, c2, c3, rfl, hl, hdy⟩ := Cat.at (fun x c h => DenT.length h) hcat hy'
    obtain ⟨u, hu1, hu2, hu3⟩ := VD.mk hdy
    refine PureR.mk i hk ⟨u, rfl, hu1⟩ fun w' => ?_
    have hlt := (List.getElem?_eq_some_iff.1 hy').1
    refine E.indexArr hd (tg_ok hT hei).desc (tg_ok hT hei).size hvv hy (by omega) (by rw [hl, hw]) (by rw [DenT.length hdy, hw]) hu2 (by rw [hu3, hb3])
  · exact pIndexStr_ok hT hρ i h

/-! ### bytes laid over others -/
noncomputable def ovl {α : Type} (l : List α) (o : Nat) (s : List α) : List α := l.take o ++ s ++ l.drop (o + s.length)
theorem ovl_len {α : Type} {l s : List α} {o : Nat} (h : o + s.length ≤ l.length) : (ovl l o s).length = l.length := by
  simp only [ovl, List.length_append, List.length_take, List.length_drop]; omega
theorem ovl_map {α γ : Type} (f : α → γ) (l : List α) (o : Nat) (s : List α) : (ovl l o s).map f = ovl (l.map f) o (s.map f) := by
  simp [ovl, List.map_take, List.map_drop]
theorem u8_cat {m : Mem} : ∀ (l : List (BitVec 8)), Cat (fun (x : BitVec 8) c => DenT m .u8 x c) l (l.map bu8) := by
  intro l
  induction l with
  | nil => rfl
  | cons x l ih => exact ⟨[bu8 x], l.map bu8, rfl, rfl, ih⟩
noncomputable def cpyTo (s : SS) (e0 : Nat) (id : Nat) (pa : List Step) (m : Nat) (src : List (BitVec 8)) (k : SS → Option β) : Option β := match lastI pa with
  | some (p, lo, z) => bif Nat.beq z 1 then (match hget s.hp id with
    | some (.row e t l) => (match p with
      | [] => (match castT (.vec e t) (.vec e0 .u8) l with
        | some y => gd (lo + m ≤ List.length y) (k { s with hp := (id, .row e0 .u8 (ovl y lo (src.take m))) :: hdel s.hp id })
        | none => none)
      | _ => none)
    | some (.blk e c) => (match nav c p with
      | some (.dat t0 x, g, r) => bif t0.pure then getL t0 x r fun a y => (match a, y with
        | .arr n' .u8, l => gd (lo + m ≤ List.length l) (updL t0 x r (.arr n' .u8) (ovl l lo (src.take m)) fun x' => k { s with hp := (id, .blk e (g (.dat t0 x'))) :: hdel s.hp id })
        | _, _ => none) else none
      | _ => none)
    | _ => none) else none
  | none => none
noncomputable def opCopy (T : TB) (ρ : Rho) (s : SS) (dT : Nat) (x y : Operand) (k : SV → SS → Option β) : Option β := match ρ x, ρ y, tg T dT with
  | some a, some b, some ti => match ti.desc with
    | .slice e => match tg T e with
      | some ei => bif Nat.beq ei.size 1 then bytesK s b fun src => (match a with
        | .vw id pa m => gd (0 < m) (cpyTo s e id pa m src fun s' => k (.d .int ((min src.length m : Nat) : Int)) s')
        | .vr id => (match hget s.hp id with
          | some (.row _ _ l) => gd (0 < l.length) (cpyTo s e id [.i 0 1] l.length src fun s' => k (.d .int ((min src.length l.length : Nat) : Int)) s')
          | _ => none)
        | _ => none) else none
      | none => none
    | _ => none
  | _, _, _ => none
theorem bu8_one (l : List (BitVec 8)) : ∀ u ∈ l.map bu8, u.oneCell' = true := by
  intro u hu
  obtain ⟨x, _, rfl⟩ := List.mem_map.1 hu
  rfl
theorem cpyTo_ok {id m e0 : Nat} {pa : List Step} {src : List (BitVec 8)} {k' : SS → Option β} (h : cpyTo s e0 id pa m src k' = some r) (i : Inv K s w) {X : Option Addr} {c : Nat} {x y : Operand} {dT sT : TypeId} (hu : P.underlying dT = some (.slice e0)) (hz : (P.info? e0).map (·.size) = some 1)
    (hx : (AF n τ).eval x = .slice X m c) (hX : ∃ u b, K.E id = some u ∧ Base u b ∧ X = some ⟨b, pOff pa, none⟩) (hm : 0 < m) (hsrc : SL.Src w 1 ((AF n τ).eval y) src.length (src.map bu8)) {k : SV → SS → Option β} (hk : ∀ s', k' s' = some r → k (.d .int ((min src.length m : Nat) : Int)) s' = some r) :
    OpR P n ⟨dst, .call ⟨.builtin .copy, #[x, y], #[dT, sT]⟩, ty, pos, af, gd'⟩ τ w K k r := by
  obtain ⟨u, b, hE, hB, rfl⟩ := hX
  have h1 := bu8_one src
  have hst : (src.map bu8).take m = (src.take m).map bu8 := by rw [List.map_take]
  have hstl : ((src.take m).map bu8).length = (src.take m).length := by simp
  have hsm : (src.take m).length ≤ m := by rw [List.length_take]; omega
  unfold cpyTo at h
  split at h <;> try (cases h; done)
  rename_i p lo z hp
  have hoff := lastI_ok hp
  cases hz1 : Nat.beq z 1 with
  | false => rw [hz1, cond_false] at h; cases h
  | true =>
  rw [hz1, cond_true] at h
  have := Nat.eq_of_beq_eq_true hz1; subst this
  split at h <;> try (cases h; done)
  · rename_i e t l hg
    split at h <;> try (cases h; done)
    split at h <;> try (cases h; done)
    rename_i y0 hy0
    obtain ⟨e1, e2⟩ := castT_eq hy0
    cases e1; cases e2
    obtain ⟨hle, h⟩ := gd_some h
    obtain ⟨u', sta⟩ := (i.take hg).ex
    obtain ⟨xs, stb⟩ := sta.ex
    obtain ⟨hE', stc⟩ := stb.iff
    rw [hE] at hE'; cases hE'
    have std := stc.sep
    rw [catA_pure (S := fun x c => DenT K.p.h .u8 x c) (fun x c => oa_pure _ .u8 rfl x c)] at std
    obtain ⟨hcat, ste⟩ := (std.take (.there .here)).pu
    have hxs := cat_u8 hcat
    subst hxs
    have hsl : ∃ X' c', u = .slice X' l.length c' := by obtain ⟨_, ⟨_, _, _, _, q, _⟩, _⟩ := ste; exact own_slice q
    obtain ⟨X', c', rfl⟩ := hsl
    have hX' : X' = some ⟨b, 0, none⟩ := by
      cases X' with
      | none => cases hB
      | some a => rw [show a = _ from hB]
    subst hX'
    refine Go.SL.H.copyOwn (L' := (ovl l lo (src.take m)).map bu8) hu hz hx rfl ste .here (by have hle' : lo + m ≤ l.length := hle; omega) hsrc h1 (by rw [hoff]; simp only [pOff]; have hle' : lo + m ≤ l.length := hle; omega) ?_ fun w' st' => ⟨.d .int ((min src.length m : Nat) : Int), _, K, Kn.le.refl _, ⟨?_, i.nx.hp⟩, ⟨_, rfl, rfl⟩, hk _ h⟩
    · have hle' : lo + m ≤ l.length := hle
      refine ⟨?_, ?_⟩
      · rw [hst, hstl, hoff]; simp only [pOff, List.length_map]; omega
      · rw [hst, ovl_map, hoff]; simp [ovl, pOff]
    · show St K.p w' ((EN.row e0 .u8 (ovl l lo (src.take m))).asn K id :: (asns K (hdel s.hp id) ++ [Exact K.F]))
      have hlen : (ovl l lo (src.take m)).length = l.length := ovl_len (by have hle' : lo + m ≤ l.length := hle; omega)
      refine St.mkex _ (St.mkex ((ovl l lo (src.take m)).map bu8) (St.mkiff hE (St.mksep ?_)))
      rw [catA_pure (S := fun x c => DenT K.p.h .u8 x c) (fun x c => oa_pure _ .u8 rfl x c), hlen]
      exact (St.mkpu (u8_cat _) st').swap
  · rename_i e ct hg
    split at h <;> try (cases h; done)
    rename_i t0 x0 g rr hn
    cases hpu : t0.pure with
    | false => rw [hpu, cond_false] at h; cases h
    | true =>
    rw [hpu, cond_true] at h
    obtain ⟨b', sta⟩ := (i.take hg).ex
    obtain ⟨cs, stb⟩ := sta.ex
    obtain ⟨hE', stc⟩ := stb.iff
    rw [hE] at hE'; cases hE'
    cases hB
    obtain ⟨o, ho, hctx⟩ := nav_ok (K := K) hn
    obtain ⟨c1, c2, c3, F, rfl, hl, st1, hback⟩ := hctx.st stc.sep.swap
    have st1' : St K.p w (OA K.p.h t0 x0 c2 :: F :: pt b (.cells (c1 ++ (c2 ++ c3)).toArray e) :: (asns K (hdel s.hp id) ++ [Exact K.F])) := st1
    rw [oa_pure _ t0 hpu] at st1'
    obtain ⟨hden, st2⟩ := st1'.pu
    obtain ⟨a, y1, d1, d2, d3, rfl, hl1, hdy, h⟩ := getL_ok hden h
    split at h <;> try (cases h; done)
    rename_i n' l
    obtain ⟨hle, h⟩ := gd_some h
    have hle' : lo + m ≤ l.length := hle
    have hd2 := cat_u8 hdy.2
    subst hd2
    have hlen : (ovl l lo (src.take m)).length = l.length := ovl_len (by omega)
    have hvd : DenT K.p.h (.arr n' .u8) (ovl l lo (src.take m)) ((ovl l lo (src.take m)).map bu8) := ⟨by rw [hlen]; exact hdy.1, u8_cat _⟩
    obtain ⟨x', ⟨f1, f2, f3, he, hf1, hf2, hdx⟩, hk'⟩ := updL_ok hvd hden h
    have hff1 : f1 = d1 := (List.append_inj he.symm (by rw [hf1, hl1])).1
    subst hff1
    have he2 := List.append_cancel_left he
    have hff2 : f3 = d3 := (List.append_inj he2.symm (by rw [hf2]; simp [hlen])).2
    subst hff2
    refine Go.SL.H.copyL (L := c1 ++ ((f1 ++ (l.map bu8 ++ f3)) ++ c3)) (L' := c1 ++ ((f1 ++ ((ovl l lo (src.take m)).map bu8 ++ f3)) ++ c3)) hu hz hx rfl st2 (.there .here) hsrc h1 ?_ ?_ fun w' st' => ⟨.d .int ((min src.length m : Nat) : Int), _, K, Kn.le.refl _, ⟨?_, i.nx.hp⟩, ⟨_, rfl, rfl⟩, hk _ hk'⟩
    · rw [hoff, ho]; simp only [List.length_append, List.length_map, ← hl, ← hl1, Nat.mul_one]; omega
    · refine ⟨?_, ?_⟩
      · rw [hst, hstl, hoff, ho]; simp only [List.length_append, List.length_map, ← hl, ← hl1, Nat.mul_one]; omega
      · rw [hst, ovl_map, hoff, ho, ← hl, ← hl1]
        simp only [ovl, Nat.mul_one, hstl]
        have t1 : ∀ (A B C : List Value) (q : Nat), q ≤ B.length → (A ++ (B ++ C)).take (A.length + q) = A ++ B.take q := by
          intro A B C q hq
          rw [List.take_append, List.take_of_length_le (by omega), Nat.add_sub_cancel_left, List.take_append_of_le_length hq]
        have t2 : ∀ (A B C : List Value) (q : Nat), q ≤ B.length → (A ++ (B ++ C)).drop (A.length + q) = B.drop q ++ C := by
          intro A B C q hq
          rw [List.drop_append, List.drop_of_length_le (by omega), Nat.add_sub_cancel_left, List.drop_append_of_le_length hq, List.nil_append]
        have e1 : c1 ++ ((f1 ++ (l.map bu8 ++ f3)) ++ c3) = (c1 ++ f1) ++ (l.map bu8 ++ (f3 ++ c3)) := by simp [List.append_assoc]
        have e2 : c1.length + f1.length + lo = (c1 ++ f1).length + lo := by simp
        have e3 : c1.length + f1.length + lo + (src.take m).length = (c1 ++ f1).length + (lo + (src.take m).length) := by simp [Nat.add_assoc]
        rw [e1, e3, e2, t1 _ _ _ _ (by simp; omega), t2 _ _ _ _ (by simp; omega)]
        simp [List.append_assoc]
    · have hca : CA K (.dat t0 x') (f1 ++ ((ovl l lo (src.take m)).map bu8 ++ f3)) none0 := by
        show OA _ _ _ _ _; rw [oa_pure _ t0 hpu]; exact ⟨rfl, hdx⟩
      have st7 := Go.SL.St.ca0 hca st'
      have st8 := hback K (Kn.le.refl _) _ _ _ _ _ st7
      show St K.p w' ((EN.blk e (g (.dat t0 x'))).asn K id :: (asns K (hdel s.hp id) ++ [Exact K.F]))
      exact St.mkex b (St.mkex _ (St.mkiff hE (St.mksep st8.swap)))
theorem opCopy_ok (hT : T.ok P) (hρ : RhoOk K ρ (AF n τ).eval) (i : Inv K s w) {dT sT : Nat} {x y : Operand} (h : opCopy T ρ s dT x y k = some r) : OpR P n ⟨dst, .call ⟨.builtin .copy, #[x, y], #[dT, sT]⟩, ty, pos, af, gd'⟩ τ w K k r := by
  unfold opCopy at h
  split at h <;> try (cases h; done)
  rename_i a b ti ha hb hti
  have hx := hρ _ _ ha
  have hd := (tg_ok hT hti).desc
  split at h <;> try (cases h; done)
  rename_i e hdd
  rw [hdd] at hd
  split at h <;> try (cases h; done)
  rename_i ei hei
  have hes := (tg_ok hT hei).size
  cases hz1 : Nat.beq ei.size 1 with
  | false => rw [hz1, cond_false] at h; cases h
  | true =>
  rw [hz1, cond_true] at h
  rw [Nat.eq_of_beq_eq_true hz1] at hes
  obtain ⟨src, hsrc, h2⟩ := bytesK_ok i h (hρ _ _ hb)
  clear h
  split at h2 <;> try (cases h2; done)
  · rename_i id pa m
    obtain ⟨hm, h⟩ := gd_some h2
    obtain ⟨X, c, e', hc, hX, _⟩ := hx
    have e1 : (AF n τ).eval x = .slice X m c := by simpa using e'
    exact cpyTo_ok h i hd hes e1 (hX.resolve_left (by omega)) hm hsrc fun s' q => q
  · rename_i id
    split at h2 <;> try (cases h2; done)
    rename_i e0 t0 l hg
    obtain ⟨hm, h⟩ := gd_some h2
    obtain ⟨X, m, c, hE, e'⟩ := hx
    have e1 : (AF n τ).eval x = .slice X m c := by simpa using e'
    obtain ⟨u', sta⟩ := (i.take hg).ex
    obtain ⟨xs, stb⟩ := sta.ex
    obtain ⟨hE', stc⟩ := stb.iff
    rw [hE] at hE'; cases hE'
    obtain ⟨_, ⟨A, he, hk0, _⟩ | ⟨g, cap, cur, he, _⟩⟩ := stc.sep.ownOpen
    · omega
    · cases he
      exact cpyTo_ok h i hd hes e1 ⟨_, g, hE, rfl, by simp [pOff]⟩ hm hsrc fun s' q => q
end
end Go.GX
