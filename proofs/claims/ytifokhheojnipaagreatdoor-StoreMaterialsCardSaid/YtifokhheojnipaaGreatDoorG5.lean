/- Maps by whole numbers. -/
import Derived.Test.YtifokhheojnipaaGreatDoorG4
import Derived.Test.YtifokhheojnipaaGreatDoorG2
set_option linter.unusedVariables false
set_option linter.unusedSimpArgs false
set_option linter.unnecessarySimpa false
namespace Go.GX
open Go.RowKit Go.SL
set_option linter.unusedVariables false
set_option linter.unusedSimpArgs false
set_option linter.unnecessarySimpa false

theorem cells_eq {u v : Value} (hc : u.cells.toList = v.cells.toList) (h : aggV u = aggV v) : u = v := by
  cases hv : aggV v with
  | true =>
    rw [hv] at h
    cases u <;> simp only [aggV, Bool.false_eq_true] at h
    cases v <;> simp only [aggV, Bool.false_eq_true] at hv
    rename_i c1 c2
    have : c1.toList = c2.toList := hc
    rw [Array.toList_inj.1 this]
  | false =>
    rw [hv] at h
    cases u <;> simp only [aggV, Bool.true_eq_false] at h <;> cases v <;> simp only [aggV, Bool.true_eq_false] at hv <;> simpa [Value.cells] using hc
noncomputable def mget {α : Type} : List (Int × α) → Int → Option α
  | [], _ => none
  | (q, x) :: r, k => bif decide (q = k) then some x else mget r k
noncomputable def mput {α : Type} : List (Int × α) → Int → α → List (Int × α)
  | [], k, v => [(k, v)]
  | (q, x) :: r, k, v => bif decide (q = k) then (k, v) :: r else (q, x) :: mput r k v
noncomputable def mdel {α : Type} : List (Int × α) → Int → List (Int × α)
  | [], _ => []
  | (q, x) :: r, k => bif decide (q = k) then r else (q, x) :: mdel r k
section
variable {m : Mem} {t : Ty}
theorem MRel.len : ∀ {l : List (Int × t.T)} {ks : List (Int × Value)}, MRel m t l ks → ks.length = l.length := by
  intro l
  induction l with
  | nil => intro ks h; cases ks with
    | nil => rfl
    | cons _ _ => exact h.elim
  | cons a l ih =>
    obtain ⟨k, x⟩ := a
    intro ks h
    cases ks with
    | nil => exact h.elim
    | cons q ks => obtain ⟨_, _, h3⟩ := h; simp [ih h3]
theorem aget_cons (q : Int × Value) (r : List (Int × Value)) (k : Int) : aget (q :: r) k = bif decide (q.1 = k) then some q.2 else aget r k := by
  unfold aget
  rw [List.find?_cons]
  by_cases h : q.1 = k
  · simp [h]
  · have : (q.1 == k) = false := by simpa using h
    simp [h, this]
theorem MRel.get (k : Int) : ∀ {l : List (Int × t.T)} {ks : List (Int × Value)}, MRel m t l ks → (mget l k = none ∧ aget ks k = none) ∨ ∃ x v, mget l k = some x ∧ aget ks k = some v ∧ VD m t x v := by
  intro l
  induction l with
  | nil => intro ks h; cases ks with
    | nil => exact .inl ⟨rfl, rfl⟩
    | cons _ _ => exact h.elim
  | cons a l ih =>
    obtain ⟨q, x⟩ := a
    intro ks h
    cases ks with
    | nil => exact h.elim
    | cons p ks =>
      obtain ⟨q', v⟩ := p
      obtain ⟨rfl, h2, h3⟩ := h
      rw [aget_cons]
      simp only [mget]
      cases hb : decide (q = k) with
      | true => exact .inr ⟨x, v, by rw [cond_true], by rw [cond_true], h2⟩
      | false => rw [cond_false, cond_false]; exact ih h3
theorem MRel.put (k : Int) {y : t.T} {u : Value} (hy : VD m t y u) : ∀ {l : List (Int × t.T)} {ks : List (Int × Value)}, MRel m t l ks → MRel m t (mput l k y) (aput ks k u) := by
  intro l
  induction l with
  | nil => intro ks h; cases ks with
    | nil => exact ⟨rfl, hy, trivial⟩
    | cons _ _ => exact h.elim
  | cons a l ih =>
    obtain ⟨q, x⟩ := a
    intro ks h
    cases ks with
    | nil => exact h.elim
    | cons p ks =>
      obtain ⟨q', v⟩ := p
      obtain ⟨rfl, h2, h3⟩ := h
      simp only [mput, aput]
      by_cases hb : q = k
      · simp only [hb, decide_true, cond_true, if_true]; exact ⟨rfl, hy, h3⟩
      · simp only [hb, decide_false, cond_false, if_false]; exact ⟨rfl, h2, ih h3⟩
theorem MRel.del (k : Int) : ∀ {l : List (Int × t.T)} {ks : List (Int × Value)}, MRel m t l ks → MRel m t (mdel l k) (adel ks k) := by
  intro l
  induction l with
  | nil => intro ks h; cases ks with
    | nil => trivial
    | cons _ _ => exact h.elim
  | cons a l ih =>
    obtain ⟨q, x⟩ := a
    intro ks h
    cases ks with
    | nil => exact h.elim
    | cons p ks =>
      obtain ⟨q', v⟩ := p
      obtain ⟨rfl, h2, h3⟩ := h
      simp only [mdel, adel]
      by_cases hb : q = k
      · simp only [hb, decide_true, cond_true, if_true]; exact h3
      · simp only [hb, decide_false, cond_false, if_false]; exact ⟨rfl, h2, ih h3⟩
end
section
variable {P : Program} {n : Nat} {τ : Fr} {w : World} {β : Type} {dst : Option Tmp} {ty : TypeId} {pos : String} {af : Array Edge} {gd' : Option (Nat × Bool)} {K : Kn} {s : SS} {k : SV → SS → Option β} {r : β} {ρ : Rho} {T : TB}
/-- a map's type: by whole numbers -/
noncomputable def mapD (T : TB) (t : Nat) : Option Nat := match tg T t with
  | some ti => match ti.desc with
    | .map kt et => match tg T kt with
      | some ki => match ki.desc with
        | .int .i64 => some et
        | _ => none
      | none => none
    | _ => none
  | none => none
theorem mapD_ok (hT : T.ok P) {t et : Nat} (h : mapD T t = some et) : ∃ kt, P.underlying t = some (.map kt et) ∧ P.underlying kt = some (.int .i64) := by
  unfold mapD at h
  split at h <;> try (cases h; done)
  rename_i ti hti
  split at h <;> try (cases h; done)
  rename_i kt et' hd
  split at h <;> try (cases h; done)
  rename_i ki hki
  split at h <;> try (cases h; done)
  rename_i hkd
  cases h
  refine ⟨kt, ?_, ?_⟩
  · rw [(tg_ok hT hti).desc, hd]
  · rw [(tg_ok hT hki).desc, hkd]
noncomputable def intS : SV → Option Int
  | .d .int z | .bd .int z => some z
  | _ => none
theorem intS_ok {x : SV} {z : Int} {v : Value} (h : intS x = some z) (hd : x.den K v) : v = .int .i64 z := by
  unfold intS at h
  split at h <;> try (cases h; done)
  all_goals
    cases h
    obtain ⟨v', e, hd⟩ := hd
    have q : [v] = [v'] := e
    have q2 : [v'] = [_] := hd
    rw [q2] at q; simpa using q
noncomputable def mpS (s : SS) (a : SV) : Option (Nat × (t : Ty) × List (Int × t.T)) := match a with
  | .mp id => match hget s.hp id with
    | some (.map t l) => some (id, ⟨t, l⟩)
    | _ => none
  | _ => none
theorem mpS_ok2 (i : Inv K s w) {x : SV} {id : Nat} {t : Ty} {l : List (Int × t.T)} {v : Value} (h : mpS s x = some (id, ⟨t, l⟩)) (hd : x.den K v) : ∃ b ks, v = .map (some b) ∧ K.E id = some (.map (some b)) ∧ t.pure = true ∧ MRel K.p.h t l ks ∧ hget s.hp id = some (.map t l) ∧ St K.p w (MapI b ks :: (asns K (hdel s.hp id) ++ [Exact K.F])) := by
  unfold mpS at h
  split at h <;> try (cases h; done)
  rename_i id'
  split at h <;> try (cases h; done)
  rename_i t' l' hg
  cases h
  obtain ⟨b, hE, e⟩ := hd
  obtain ⟨b', st1⟩ := (i.take hg).ex
  obtain ⟨ks, st2⟩ := st1.ex
  obtain ⟨⟨hE', hp⟩, st3⟩ := st2.iff
  rw [hE] at hE'; cases hE'
  obtain ⟨hr, st4⟩ := (st3.sep.take (.there .here)).pu
  exact ⟨b, ks, by simpa using e, hE, hp, hr, hg, st4⟩
noncomputable def opMakeMap (T : TB) (s : SS) (t : Nat) (k : SV → SS → Option β) : Option β := match mapD T t with
  | some et => match tg T et with
    | some ei => bif ei.ty.pure then k (.mp s.nx) (add1 s (.map ei.ty [])) else none
    | none => none
  | none => none
theorem opMakeMap_ok (hT : T.ok P) (i : Inv K s w) {t : Nat} (h : opMakeMap T s t k = some r) : OpR P n ⟨dst, .makeMap t none, ty, pos, af, gd'⟩ τ w K k r := by
  unfold opMakeMap at h
  split at h <;> try (cases h; done)
  rename_i et het
  split at h <;> try (cases h; done)
  rename_i ei hei
  cases hp : ei.ty.pure with
  | false => rw [hp, cond_false] at h; cases h
  | true =>
  rw [hp, cond_true] at h
  refine Go.SL.H.makeMap i.st fun b w' st => ?_
  have st1 : St K.p w' (MapI b [] :: (asns K s.hp ++ [Exact K.F])) := Go.SL.St.mapClose (es := #[]) (ks := []) st rfl
  have st2 : St K.p w' ((EN.map ei.ty []).asn (K.name (.map (some b))) K.nx :: (asns K s.hp ++ ([] ++ [Exact K.F]))) := by
    refine St.mkex b (St.mkex [] (St.mkiff ⟨Kn.name_eq, hp⟩ (St.mksep ?_)))
    exact (St.mkpu (c := MRel K.p.h ei.ty [] []) trivial st1).swap
  obtain ⟨le, i'⟩ := Inv2.name i.nx st2
  exact ⟨.mp s.nx, _, _, le, i'.inv, ⟨b, by rw [i.nx.eq]; exact Kn.name_eq, rfl⟩, h⟩
noncomputable def pLenM (T : TB) (ρ : Rho) (s : SS) (x : Operand) (t : Nat) (k : SV → SS → Option β) : Option β := match ρ x, mapD T t with
  | some a, some _ => match mpS s a with
    | some (_, ⟨_, l⟩) => k (.d .int (l.length : Int)) s
    | none => none
  | _, _ => none
theorem opLenM_ok (hT : T.ok P) (hρ : RhoOk K ρ (AF n τ).eval) (i : Inv K s w) {x : Operand} {t : Nat} (h : pLenM T ρ s x t k = some r) : OpR P n ⟨dst, .call ⟨.builtin .len, #[x], #[t]⟩, ty, pos, af, gd'⟩ τ w K k r := by
  unfold pLenM at h
  split at h <;> try (cases h; done)
  rename_i a et ha het
  obtain ⟨kt, h1, h2⟩ := mapD_ok hT het
  split at h <;> try (cases h; done)
  rename_i id t' l hm
  obtain ⟨b, ks, hv, hE, hp, hr, hg, st⟩ := mpS_ok2 i hm (hρ _ _ ha)
  refine OpR.soft (v := .int .i64 (ks.length : Int)) (sv := .d .int (l.length : Int)) (E.lenMap h1 hv st .here) i ⟨_, rfl, ?_⟩ h
  rw [hr.len]; rfl
/-- what stands at a key; is there any? -/
noncomputable def opLookup (T : TB) (ρ : Rho) (s : SS) (t : Nat) (x y : Operand) (k : SV → SS → Option β) : Option β := match ρ x, ρ y, mapD T t with
  | some a, some z, some et => match tg T et, intS z, mpS s a with
    | some ei, some z, some (_, ⟨t', l⟩) => match CT.ldp ei.zc with
      | (some zv, _) => bif (zv.agg == aggV ei.z) && (match zv.wd.1 with | some m => Nat.beq m ei.size | none => false) then ob (mget l z) (k (.tup (.pr zv (.pr (.d .bool false) .nl))) s) fun u => k (.tup (.pr (.d t' u) (.pr (.d .bool true) .nl))) s else none
      | _ => none
    | _, _, _ => none
  | _, _, _ => none
theorem opLookup_ok (hT : T.ok P) (hρ : RhoOk K ρ (AF n τ).eval) (i : Inv K s w) {x y : Operand} {t : Nat} (h : opLookup T ρ s t x y k = some r) : OpR P n ⟨dst, .lookup t x y true, ty, pos, af, gd'⟩ τ w K k r := by
  unfold opLookup at h
  split at h <;> try (cases h; done)
  rename_i a z et ha hz het
  obtain ⟨kt, h1, h2⟩ := mapD_ok hT het
  split at h <;> try (cases h; done)
  rename_i ei zi id t' l hei hzi hm
  have hy := intS_ok hzi (hρ _ _ hz)
  obtain ⟨b, ks, hv, hE, hp, hr, hg, st⟩ := mpS_ok2 i hm (hρ _ _ ha)
  have ok := tg_ok hT hei
  have hzz : (P.info? et).bind (·.zero) = some ei.z := by
    have := ok.info
    cases hq : P.info? et with
    | none => rw [hq] at this; cases this
    | some q => rw [hq] at this; simp at this ⊢; exact this.1
  split at h <;> try (cases h; done)
  rename_i zv zv2 hzv
  have hzv1 : ei.zc.ldp.1 = some zv := by rw [hzv]
  obtain ⟨uz, hu1, hu2, hu3⟩ := (ld_ok (K := K) (ren_ok ok.ren)).1 zv hzv1
  cases hb : (zv.agg == aggV ei.z) && (match zv.wd.1 with | some m => Nat.beq m ei.size | none => false) with
  | false => rw [hb, cond_false] at h; cases h
  | true =>
  rw [hb, cond_true] at h
  simp only [Bool.and_eq_true, beq_iff_eq] at hb
  have hag : aggV uz = aggV ei.z := by
    rw [← hb.1]
    obtain ⟨hb1, hb2⟩ := hb
    split at hb2
    · rename_i m hm'
      exact agg_ok hu1 hm'
    · cases hb2
  have huz : uz = ei.z := cells_eq hu2 hag
  subst huz
  rcases hr.get zi with ⟨g1, g2⟩ | ⟨x0, v0, g1, g2, g3⟩
  · rcases ob_some h with ⟨_, hk⟩ | ⟨y0, hy0, _⟩
    · refine OpR.soft (E.lookupN g2 h1 h2 hzz hv hy st .here) i ?_ hk
      exact ⟨_, rfl, _, _, rfl, hu1, _, _, rfl, ⟨_, rfl, rfl⟩, rfl⟩
    · rw [g1] at hy0; cases hy0
  · rcases ob_some h with ⟨hn, _⟩ | ⟨y0, hy0, hk⟩
    · rw [g1] at hn; cases hn
    · rw [g1] at hy0; cases hy0
      refine OpR.soft (E.lookupS g2 h1 h2 hzz hv hy st .here) i ?_ hk
      exact ⟨_, rfl, _, _, rfl, ⟨_, rfl, g3⟩, _, _, rfl, ⟨_, rfl, rfl⟩, rfl⟩
/-- .. of one that is there -/
noncomputable def opLookup1 (T : TB) (ρ : Rho) (s : SS) (t : Nat) (x y : Operand) (k : SV → SS → Option β) : Option β := match ρ x, ρ y, mapD T t with
  | some a, some z, some et => match tg T et, intS z, mpS s a with
    | some _, some z, some (_, ⟨t', l⟩) => bnd (mget l z) fun u => k (.d t' u) s
    | _, _, _ => none
  | _, _, _ => none
theorem E.lookupP {p : Pers} {H H' : List Assn} {e : Operand → Value} {x y : Operand} {t kt et : TypeId} {b : Nat} {ks : List (Int × Value)} {k : Int} {z v : Value} (hg : aget ks k = some v) (ht : P.underlying t = some (.map kt et)) (hk : P.underlying kt = some (.int .i64)) (hz : (P.info? et).bind (·.zero) = some z)
    (hx : e x = .map (some b)) (hy : e y = .int .i64 k) (s : St p w H) (d : Del (MapI b ks) H H') : Ev P e ⟨dst, .lookup t x y false, ty, pos, af, gd'⟩ w v := by
  obtain ⟨es, cl, s2, he, _⟩ := (s.take d).mapOpen
  have hg2 := Go.SL.run_getObj_map (P := P) s2.block
  have hf := findKey_ints (P := P) (w := w) hk he k
  have hc := checkKey_int (P := P) (w := w) hk es.isEmpty k
  have hs := aget_some (ks := ks) (k := k)
  rw [hg] at hs
  cases hi : ks.findIdx? fun q => q.1 == k with
  | none => rw [hi] at hs; simp at hs
  | some j =>
    rw [hi] at hf
    simp [Ev, execOp, Instr.lookup, run_underlying ht, hx, hy, hg2, hc, hf, hg]
theorem opLookup1_ok (hT : T.ok P) (hρ : RhoOk K ρ (AF n τ).eval) (i : Inv K s w) {x y : Operand} {t : Nat} (h : opLookup1 T ρ s t x y k = some r) : OpR P n ⟨dst, .lookup t x y false, ty, pos, af, gd'⟩ τ w K k r := by
  unfold opLookup1 at h
  split at h <;> try (cases h; done)
  rename_i a z et ha hz het
  obtain ⟨kt, h1, h2⟩ := mapD_ok hT het
  split at h <;> try (cases h; done)
  rename_i ei zi id t' l hei hzi hm
  have hy := intS_ok hzi (hρ _ _ hz)
  obtain ⟨b, ks, hv, hE, hp, hr, hg, st⟩ := mpS_ok2 i hm (hρ _ _ ha)
  have ok := tg_ok hT hei
  have hzz : (P.info? et).bind (·.zero) = some ei.z := by
    have := ok.info
    cases hq : P.info? et with
    | none => rw [hq] at this; cases this
    | some q => rw [hq] at this; simp at this ⊢; exact this.1
  obtain ⟨u, hu, hk⟩ := bnd_some h
  rcases hr.get zi with ⟨g1, g2⟩ | ⟨x0, v0, g1, g2, g3⟩
  · rw [g1] at hu; cases hu
  · rw [g1] at hu; cases hu
    exact OpR.soft (sv := .d t' u) (E.lookupP g2 h1 h2 hzz hv hy st .here) i ⟨_, rfl, g3⟩ hk
noncomputable def opMapPut (T : TB) (ρ : Rho) (s : SS) (t : Nat) (x y z : Operand) (k : SV → SS → Option β) : Option β := match ρ x, ρ y, ρ z, mapD T t with
  | some a, some b, some v, some _ => match intS b, mpS s a with
    | some q, some (id, ⟨t', l⟩) => match outV 30 { s with hp := hdel s.hp id } v t' with
      | some (u, s1) => k .un { s1 with hp := (id, .map t' (mput l q u)) :: s1.hp }
      | none => none
    | _, _ => none
  | _, _, _, _ => none
theorem opMapPut_ok (hT : T.ok P) (hρ : RhoOk K ρ (AF n τ).eval) (i : Inv K s w) {x y z : Operand} {t : Nat} (h : opMapPut T ρ s t x y z k = some r) : OpR P n ⟨dst, .mapUpdate t x y z, ty, pos, af, gd'⟩ τ w K k r := by
  unfold opMapPut at h
  split at h <;> try (cases h; done)
  rename_i a b v et ha hb hv het
  obtain ⟨kt, h1, h2⟩ := mapD_ok hT het
  split at h <;> try (cases h; done)
  rename_i q id t' l hq hm
  have hy := intS_ok hq (hρ _ _ hb)
  obtain ⟨bk, ks, hvv, hE, hp, hr, hg, st⟩ := mpS_ok2 i hm (hρ _ _ ha)
  split at h <;> try (cases h; done)
  rename_i u s1 hout
  have st1 : St K.p w (asns K (hdel s.hp id) ++ ([MapI bk ks] ++ [Exact K.F])) := st.give (Del.mid _)
  obtain ⟨K1, le, hEE, hnx, hvd, st2, hag⟩ := outP_ok hout hp i.nx.hp st1 (hρ _ _ hv)
  have st3 : St K1.p w (MapI bk ks :: (asns K1 s1.hp ++ [Exact K1.F])) := st2.take (Del.mid _)
  refine OpR.le le (Go.SL.H.mapUpdate h1 h2 hvv hy rfl st3 .here fun w' st4 => ⟨.un, { s1 with hp := (id, .map t' (mput l q u)) :: s1.hp }, K1, Kn.le.refl _, ⟨?_, hnx.hp⟩, rfl, h⟩)
  have hvD : VD K1.p.h t' u ((AF n τ).eval z) := by
    have hd := hvd
    unfold VD
    cases hq2 : t'.agg with
    | true =>
      rw [hq2] at hag
      generalize (AF n τ).eval z = zz at *
      cases zz <;> simp only [aggV, Bool.false_eq_true] at hag
      rename_i cs
      exact ⟨cs.toList, by simp, hd⟩
    | false =>
      rw [hq2] at hag
      have : ((AF n τ).eval z).cells.toList = [(AF n τ).eval z] := by
        generalize (AF n τ).eval z = zz at *
        cases zz <;> first | rfl | cases hag
      rw [this] at hd; exact hd
  show St K1.p w' ((EN.map t' (mput l q u)).asn K1 id :: (asns K1 s1.hp ++ [Exact K1.F]))
  refine St.mkex bk (St.mkex (aput ks q ((AF n τ).eval z)) (St.mkiff ⟨by rw [hEE]; exact hE, hp⟩ (St.mksep ?_)))
  exact (St.mkpu ((MRel.sub le.p.h hr).put q hvD) st4).swap
noncomputable def opMapDel (T : TB) (ρ : Rho) (s : SS) (t : Nat) (x y : Operand) (k : SV → SS → Option β) : Option β := match ρ x, ρ y, mapD T t with
  | some a, some b, some _ => match intS b, mpS s a with
    | some q, some (id, ⟨t', l⟩) => k (.tup .nl) { s with hp := (id, .map t' (mdel l q)) :: hdel s.hp id }
    | _, _ => none
  | _, _, _ => none
theorem opMapDel_ok (hT : T.ok P) (hρ : RhoOk K ρ (AF n τ).eval) (i : Inv K s w) {x y : Operand} {t u : Nat} (h : opMapDel T ρ s t x y k = some r) : OpR P n ⟨dst, .call ⟨.builtin .delete, #[x, y], #[t, u]⟩, ty, pos, af, gd'⟩ τ w K k r := by
  unfold opMapDel at h
  split at h <;> try (cases h; done)
  rename_i a b et ha hb het
  obtain ⟨kt, h1, h2⟩ := mapD_ok hT het
  split at h <;> try (cases h; done)
  rename_i q id t' l hq hm
  have hy := intS_ok hq (hρ _ _ hb)
  obtain ⟨bk, ks, hvv, hE, hp, hr, hg, st⟩ := mpS_ok2 i hm (hρ _ _ ha)
  refine Go.SL.H.delete h1 h2 hvv hy st .here fun w' st4 => ⟨.tup .nl, _, K, Kn.le.refl _, ⟨?_, i.nx.hp⟩, ⟨[], rfl, rfl⟩, h⟩
  show St K.p w' ((EN.map t' (mdel l q)).asn K id :: (asns K (hdel s.hp id) ++ [Exact K.F]))
  refine St.mkex bk (St.mkex (adel ks q) (St.mkiff ⟨hE, hp⟩ (St.mksep ?_)))
  exact (St.mkpu (hr.del q) st4).swap
end
end Go.GX
namespace Go.GX
open Go.RowKit Go.SL
set_option linter.unusedVariables false
set_option linter.unusedSimpArgs false
set_option linter.unnecessarySimpa false

/-- both come to the same -/
noncomputable def bth0 {β : Type} (x y : Option β) : Option β := by classical exact if x = y then x else none
noncomputable def bthO : {f : (β : Type) → Option β → Option β → Option β // f = fun β x y => bth0 x y} := Classical.choice ⟨⟨_, rfl⟩⟩
@[irreducible] noncomputable def bth {β : Type} (x y : Option β) : Option β := bthO.1 β x y
theorem bth_eq {β : Type} (x y : Option β) : bth x y = bth0 x y := by unfold bth; rw [bthO.2]
theorem bth_some {β : Type} {x y : Option β} {r : β} (h : bth x y = some r) : x = some r ∧ y = some r := by
  rw [bth_eq] at h; unfold bth0 at h
  split at h
  · rename_i e; exact ⟨h, e ▸ h⟩
  · cases h
@[simp] theorem bth_self {β : Type} (x : Option β) : bth x x = x := by rw [bth_eq]; unfold bth0; simp
/-- of a slice that is empty it is not known whether it is nil: both must come to the same -/
noncomputable def nlqO : {f : (β : Type) → Bool → Option β → Option β → Option β // f = fun β e x y => cond e (bth x y) y} := Classical.choice ⟨⟨_, rfl⟩⟩
@[irreducible] noncomputable def nlq {β : Type} (e : Bool) (x y : Option β) : Option β := nlqO.1 β e x y
theorem nlq_eq {β : Type} (e : Bool) (x y : Option β) : nlq e x y = cond e (bth x y) y := by unfold nlq; rw [nlqO.2]
theorem nlq_some {β : Type} {e : Bool} {x y : Option β} {r : β} (h : nlq e x y = some r) : y = some r ∧ (e = true → x = some r) := by
  rw [nlq_eq] at h
  cases e with
  | false => exact ⟨h, fun e => by cases e⟩
  | true => exact ⟨(bth_some h).2, fun _ => (bth_some h).1⟩
@[simp] theorem nlq_self {β : Type} (e : Bool) (x : Option β) : nlq e x x = x := by rw [nlq_eq]; cases e <;> simp
@[simp] theorem nlq_f {β : Type} (x y : Option β) : nlq false x y = y := by rw [nlq_eq]; rfl
@[simp] theorem nlq_t {β : Type} (x y : Option β) : nlq true x y = bth x y := by rw [nlq_eq]; rfl
theorem new_blk {K : Kn} {s : SS} {w : World} {e : TypeId} {c : CT} {cs : List Value} {b : Nat} (hn : Nx K s) (hc : CA K c cs none0) (st : St K.p w (pt b (.cells cs.toArray e) :: (asns K s.hp ++ [Exact K.F]))) :
    ∃ K', K.le K' ∧ Inv K' (add1 s (.blk e c)) w ∧ (SV.ptr s.nx []).den K' (.pointer (some ⟨b, 0, none⟩)) := by
  have le0 := Kn.name_le (v := .pointer (some ⟨b, 0, none⟩)) (hn.no _ (Nat.le_refl _))
  have st2 : St K.p w ((EN.blk e c).asn (K.name (.pointer (some ⟨b, 0, none⟩))) K.nx :: (asns K s.hp ++ ([] ++ [Exact K.F]))) :=
    St.mkex b (St.mkex cs (St.mkiff Kn.name_eq (St.mksep (St.ca0 (CA.mono le0 hc) st).swap)))
  obtain ⟨le, i⟩ := Inv2.name hn st2
  exact ⟨_, le, i.inv, .pointer (some ⟨b, 0, none⟩), b, by rw [hn.eq]; exact Kn.name_eq, rfl, rfl⟩
section
variable {P : Program} {n : Nat} {τ : Fr} {w : World} {β : Type} {dst : Option Tmp} {ty : TypeId} {pos : String} {af : Array Edge} {gd' : Option (Nat × Bool)} {K : Kn} {s : SS} {k : SV → SS → Option β} {r : β} {ρ : Rho} {T : TB}
noncomputable def slcLen (s : SS) (a : SV) : Option Nat := match a with
  | .vw _ _ m => some m
  | a => match slS s a with
    | some q => some q.len
    | none => none
theorem slcLen_ok (i : Inv K s w) {x : SV} {L : Nat} {v : Value} (h : slcLen s x = some L) (hd : x.den K v) : ∃ X c, v = .slice X L c ∧ (X = none → L = 0) := by
  unfold slcLen at h
  split at h
  · cases h
    obtain ⟨X, c, e, hc, hX, _⟩ := hd
    refine ⟨X, c, by simpa using e, fun hn => ?_⟩
    rcases hX with h0 | ⟨u, b, _, _, rfl⟩
    · exact h0
    · cases hn
  · split at h <;> try (cases h; done)
    rename_i q hq
    cases h
    obtain ⟨⟨X, c, hv, _⟩, hh⟩ := slS_ok i hq hd
    refine ⟨X, c, hv, fun hn => ?_⟩
    subst hn
    cases q with
    | own id e t l =>
      obtain ⟨hE, hg⟩ := hh
      obtain ⟨u, sta⟩ := (i.take hg).ex
      obtain ⟨xs, stb⟩ := sta.ex
      obtain ⟨hu, stc⟩ := stb.iff
      rw [hE] at hu; cases hu
      rw [hv] at stc
      obtain ⟨_, ⟨A, he, h0, _⟩ | ⟨g, cap, cur, he, _⟩⟩ := stc.sep.ownOpen
      · exact h0
      · cases he
    | foc id e t l =>
      obtain ⟨hE, _, _, hg⟩ := hh
      obtain ⟨u, sta⟩ := (i.take hg).ex
      obtain ⟨xs, stb⟩ := sta.ex
      obtain ⟨hu, stc⟩ := stb.iff
      rw [hE] at hu; cases hu
      rw [hv] at stc
      obtain ⟨_, ⟨A, he, h0, _⟩ | ⟨g, cap, cur, he, _⟩⟩ := stc.sep.ownOpen
      · exact h0
      · cases he
    | fro t l =>
      obtain ⟨X', c', e, _, h0⟩ := hh
      rw [hv] at e
      rcases h0 with h0 | ⟨b, o, ds, rfl, _⟩
      · exact h0
      · cases e
    | bor t l =>
      obtain ⟨X', c', e, _, h0⟩ := hh
      rw [hv] at e
      rcases h0 with h0 | ⟨b, o, ds, rfl, _⟩
      · exact h0
      · cases e
noncomputable def isSlc : TypeDesc → Bool
  | .slice _ => true
  | _ => false
/-- a slice against nil -/
noncomputable def pBinX (T : TB) (ρ : Rho) (s : SS) (op : BinOp) (t : Nat) (x y : Operand) (k : SV → SS → Option β) : Option β := match ρ x, ρ y, tg T t with
  | some a, some .nilS, some i => bif isSlc i.desc then (match a with
    | .nilS => (match op with
      | .eql => k (.d .bool true) s
      | .neq => k (.d .bool false) s
      | _ => none)
    | a => match slcLen s a with
      | some L => (match op with
        | .eql => nlq (decide (L = 0)) (k (.d .bool true) s) (k (.d .bool false) s)
        | .neq => nlq (decide (L = 0)) (k (.d .bool false) s) (k (.d .bool true) s)
        | _ => none)
      | none => none) else pBin T ρ s op t x y k
  | _, _, _ => pBin T ρ s op t x y k
theorem E.neqS {e : Operand → Value} {x y : Operand} {t t' el : TypeId} {p : Option Addr} {l c : Nat} (ht : P.underlying t = some (.slice el)) (hx : e x = .slice p l c) (hy : e y = .slice none 0 0) : Ev P e ⟨dst, .binOp .neq t x y t', ty, pos, af, gd'⟩ w (.bool (!p.isNone)) := by
  simp [Ev, execOp, eqGuard, binOp, hx, hy, eq_slc ht]
theorem pBinX_ok (hT : T.ok P) (hρ : RhoOk K ρ (AF n τ).eval) (i : Inv K s w) {op : BinOp} {t t' : Nat} {x y : Operand} (h : pBinX T ρ s op t x y k = some r) : PureR P n ⟨dst, .binOp op t x y t', ty, pos, af, gd'⟩ τ w K k r := by
  unfold pBinX at h
  split at h
  · rename_i a ti ha hy hti
    have hx := hρ _ _ ha
    have hyv : (AF n τ).eval y = .slice none 0 0 := by have q : [_] = [_] := hρ _ _ hy; simpa using q
    cases hs : isSlc ti.desc with
    | false => rw [hs, cond_false] at h; exact pBin_ok hT hρ i h
    | true =>
    rw [hs, cond_true] at h
    have hd := (tg_ok hT hti).desc
    have hde : ∃ el, ti.desc = .slice el := by
      generalize ti.desc = d at hs
      cases d <;> first | exact ⟨_, rfl⟩ | cases hs
    obtain ⟨el, hde⟩ := hde
    rw [hde] at hd
    split at h
    · have hxv : (AF n τ).eval x = .slice none 0 0 := by have q : [_] = [_] := hx; simpa using q
      split at h <;> try (cases h; done)
      · exact PureR.mk i h ⟨_, rfl, rfl⟩ fun w' => E.eqlS hd hxv hyv
      · exact PureR.mk i h ⟨_, rfl, rfl⟩ fun w' => E.neqS hd hxv hyv
    · split at h <;> try (cases h; done)
      rename_i L hL
      obtain ⟨X, c, hxv, hX⟩ := slcLen_ok i hL hx
      split at h <;> try (cases h; done)
      · obtain ⟨h1, h2⟩ := nlq_some h
        cases X with
        | none => exact PureR.mk i (h2 (by simp [hX rfl])) ⟨_, rfl, rfl⟩ fun w' => E.eqlS hd hxv hyv
        | some a => exact PureR.mk i h1 ⟨_, rfl, rfl⟩ fun w' => E.eqlS hd hxv hyv
      · obtain ⟨h1, h2⟩ := nlq_some h
        cases X with
        | none => exact PureR.mk i (h2 (by simp [hX rfl])) ⟨_, rfl, rfl⟩ fun w' => E.neqS hd hxv hyv
        | some a => exact PureR.mk i h1 ⟨_, rfl, rfl⟩ fun w' => E.neqS hd hxv hyv
  · exact pBin_ok hT hρ i h

/-! ### structs of ints, held against one another -/
noncomputable def intsG : SV → Option (List Int)
  | .nl => some []
  | .pr (.d .int x) c => match intsG c with
    | some l => some (x :: l)
    | none => none
  | _ => none
noncomputable def intsT : (t : Ty) → t.T → Option (List Int)
  | .unit, _ => some []
  | .pair .int b, x => match intsT b x.2 with
    | some l => some (x.1 :: l)
    | none => none
  | _, _ => none
noncomputable def intsS : SV → Option (List Int)
  | .ag c => intsG c
  | .d t x => intsT t x
  | .bd t x => intsT t x
  | _ => none
noncomputable def bi64 (z : Int) : Value := .int .i64 z
theorem intsG_ok : ∀ {c : SV} {l : List Int} {cs : List Value}, intsG c = some l → c.dn K .c cs → cs = l.map bi64 := by
  intro c
  induction c with
  | nl => intro l cs h hd; cases h; exact hd
  | pr a b iha ihb =>
    intro l cs h hd
    cases a <;> try (simp only [intsG, reduceCtorEq] at h; done)
    rename_i t x
    cases t <;> simp only [intsG, reduceCtorEq] at h
    split at h <;> try (cases h; done)
    rename_i l' hl
    cases h
    obtain ⟨v, d, rfl, h1, h2⟩ := hd
    obtain ⟨v', e, h1⟩ := h1
    cases e
    have e : [v] = [.int .i64 x] := h1
    cases e
    rw [ihb hl h2]
    rfl
  | _ => intro l cs h hd; cases h
theorem intsT_ok {m : Mem} : ∀ {t : Ty} {x : t.T} {l : List Int} {cs : List Value}, intsT t x = some l → DenT m t x cs → cs = l.map bi64 := by
  intro t
  induction t with
  | unit => intro x l cs h hd; cases h; exact hd
  | pair a b iha ihb =>
    intro x l cs h hd
    cases a <;> simp only [intsT, reduceCtorEq] at h
    split at h <;> try (cases h; done)
    rename_i l' hl
    cases h
    obtain ⟨c, d, rfl, h1, h2⟩ := hd
    have e : c = [.int .i64 x.1] := h1
    subst e
    rw [ihb hl h2]
    rfl
  | _ => intro x l cs h hd; simp only [intsT, reduceCtorEq] at h
theorem intsT_agg {t : Ty} {x : t.T} {l : List Int} (h : intsT t x = some l) : t.agg = true := by
  cases t <;> first | rfl | (simp only [intsT, reduceCtorEq] at h)
theorem intsS_ok {v : SV} {l : List Int} {u : Value} (h : intsS v = some l) (hd : v.den K u) : u = .agg (l.map bi64).toArray := by
  cases v <;> simp only [intsS, reduceCtorEq] at h
  · obtain ⟨v', e, hv⟩ := hd
    cases e
    unfold VD at hv
    rw [intsT_agg h] at hv
    obtain ⟨cs, e, hc⟩ := hv
    rw [e, intsT_ok h hc]
  · obtain ⟨v', e, hv⟩ := hd
    cases e
    unfold VD at hv
    rw [intsT_agg h] at hv
    obtain ⟨cs, e, hc⟩ := hv
    rw [e, intsT_ok h hc]
  · obtain ⟨cs, e, hc⟩ := hd
    cases e
    rw [intsG_ok h hc]
noncomputable def eqIL : List Int → List Int → Bool
  | [], [] => true
  | [a], [b] => decide (a = b)
  | a :: l, b :: m => decide (a = b) && eqIL l m
  | _, _ => false
theorem eqFields_ints {P : Program} {d : Nat} {w : World} : ∀ {fs : List Field} {i : Nat} {xs ys : List Value} {l m : List Int}, flI P fs i = true → l.length = fs.length → m.length = fs.length → xs.drop i = l.map bi64 → ys.drop i = m.map bi64 → (Op.eqFields (d + 1) xs.toArray ys.toArray fs).run P w = .ok (eqIL l m) w := by
  intro fs
  induction fs with
  | nil =>
    intro i xs ys l m _ hl hm _ _
    rw [List.eq_nil_of_length_eq_zero hl, List.eq_nil_of_length_eq_zero hm]
    rfl
  | cons f fs ih =>
    intro i xs ys l m hf hl hm hx hy
    cases l with
    | nil => cases hl
    | cons a l =>
    cases m with
    | nil => cases hm
    | cons b m =>
    simp only [flI, Bool.and_eq_true, Bool.not_eq_true', decide_eq_false_iff_not] at hf
    obtain ⟨⟨⟨h1, h2⟩, h3⟩, h4⟩ := hf
    have ho := Nat.eq_of_beq_eq_true h2
    have hu : P.underlying f.type = some (.int .i64) := by
      split at h3
      · rename_i h; exact h
      · cases h3
    have hp : P.plainKey f.type = true := by unfold Program.plainKey; rw [hu]
    have gx : xs.toArray[f.offset]? = some (bi64 a) := by
      rw [ho]
      have : (xs.drop i)[0]? = some (bi64 a) := by rw [hx]; rfl
      simpa using this
    have gy : ys.toArray[f.offset]? = some (bi64 b) := by
      rw [ho]
      have : (ys.drop i)[0]? = some (bi64 b) := by rw [hy]; rfl
      simpa using this
    have p1 := run_part_plain (P := P) w hp gx
    have p2 := run_part_plain (P := P) w hp gy
    have q := run_equalIn_int (P := P) w d f.type .i64 .i64 a b hu
    have hxd : xs.drop (i + 1) = l.map bi64 := by rw [← List.drop_drop (i := 1) (j := i), hx]; rfl
    have hyd : ys.drop (i + 1) = m.map bi64 := by rw [← List.drop_drop (i := 1) (j := i), hy]; rfl
    have ih' := ih (xs := xs) (ys := ys) h4 (by simpa using hl) (by simpa using hm) hxd hyd
    simp only [Op.eqFields, ne_eq, h1, not_false_eq_true, if_true, Sem.run_bind, p1, p2, Result.andThen_ok]
    unfold bi64
    rw [q]
    have hab : (a == b) = decide (a = b) := by rw [Bool.eq_iff_iff]; simp
    cases hl2 : l with
    | nil =>
      cases hm2 : m with
      | nil =>
        subst hl2; subst hm2
        have e0 : fs = [] := List.eq_nil_of_length_eq_zero (by simpa using hl.symm)
        subst e0
        simp only [Result.andThen_ok, eqIL, ← hab]
        cases hc : (a == b) <;> simp [Op.eqFields]
      | cons _ _ => subst hl2; subst hm2; simp only [List.length_cons, List.length_nil] at hl hm; omega
    | cons a2 l2 =>
      cases hm2 : m with
      | nil => subst hl2; subst hm2; simp only [List.length_cons, List.length_nil] at hl hm; omega
      | cons b2 m2 =>
        rw [← hl2, ← hm2]
        have : eqIL (a :: l) (b :: m) = (decide (a = b) && eqIL l m) := by rw [hl2, hm2]; rfl
        rw [this, ← hab]
        simp only [Result.andThen_ok]
        cases hc : (a == b)
        · simp
        · simpa using ih'
noncomputable def flS (v : SV) (t : Ty) : Option t.T := match v with
  | .d k x => castT k t x
  | .bd k x => castT k t x
  | _ => none
theorem flS_ok {v : SV} {t : Ty} {x : t.T} {u : Value} (h : flS v t = some x) (hd : v.den K u) (ha : t.agg = true) : ∃ cs : List Value, u = .agg cs.toArray ∧ DenT K.rd t x cs := by
  cases v <;> simp only [flS, reduceCtorEq] at h
  case d k y =>
    obtain ⟨rfl, hx⟩ := castT_eq h
    cases hx
    obtain ⟨v, e, hv⟩ := hd
    have e' : u = v := by simpa using e
    subst e'
    unfold VD at hv; rw [ha] at hv
    obtain ⟨cs, e1, h1⟩ := hv
    exact ⟨cs, e1, DenT.sub (fun k o hk => uni_some.2 (.inl hk)) h1⟩
  case bd k y =>
    obtain ⟨rfl, hx⟩ := castT_eq h
    cases hx
    obtain ⟨v, e, hv⟩ := hd
    have e' : u = v := by simpa using e
    subst e'
    unfold VD at hv; rw [ha] at hv
    obtain ⟨cs, e1, h1⟩ := hv
    exact ⟨cs, e1, h1⟩
noncomputable def pBinY (T : TB) (ρ : Rho) (s : SS) (op : BinOp) (t : Nat) (x y : Operand) (k : SV → SS → Option β) : Option β := match ρ x, ρ y with
  | some a, some b => match intsS a, intsS b, tg T t with
    | some l, some m, some i => bif Nat.beq i.eqn l.length && Nat.beq i.eqn m.length && Nat.blt 0 l.length then (match op with
      | .eql => k (.d .bool (eqIL l m)) s
      | .neq => k (.d .bool (!eqIL l m)) s
      | _ => none) else none
    | _, _, some i => bif i.eqf then (match flS a i.ty, flS b i.ty with
      | some u, some v => (match op with
        | .eql => k (.d .bool (eqT i.ty u v)) s
        | .neq => k (.d .bool (!eqT i.ty u v)) s
        | _ => none)
      | _, _ => pBinX T ρ s op t x y k) else pBinX T ρ s op t x y k
    | _, _, _ => pBinX T ρ s op t x y k
  | _, _ => pBinX T ρ s op t x y k
theorem E.eqlI {P : Program} {e : Operand → Value} {x y : Operand} {t t' : TypeId} {l m : List Int} (q : EqI P t l.length) (hm : m.length = l.length) (hx : e x = .agg (l.map bi64).toArray) (hy : e y = .agg (m.map bi64).toArray) : Ev P e ⟨dst, .binOp .eql t x y t', ty, pos, af, gd'⟩ w (.bool (eqIL l m)) := by
  have h2 := (run_equalIn_agg (P := P) w 9999 t (l.map bi64).toArray (m.map bi64).toArray q.un q.st).trans (eqFields_ints (d := 9998) (w := w) q.fl q.len.symm (hm.trans q.len.symm) (xs := l.map bi64) (ys := m.map bi64) rfl rfl)
  have h1 := run_eql_struct (P := P) w t (l.map bi64).toArray (m.map bi64).toArray
  rw [h2] at h1
  have h3 := run_eqGuard_agg (P := P) w .eql t x y (l.map bi64).toArray (m.map bi64).toArray q.gd
  simp only [Ev, execOp, hx, hy, Sem.run_bind, h3, h1, Result.andThen_ok, Sem.run_pure]
theorem E.neqI {P : Program} {e : Operand → Value} {x y : Operand} {t t' : TypeId} {l m : List Int} (q : EqI P t l.length) (hm : m.length = l.length) (hx : e x = .agg (l.map bi64).toArray) (hy : e y = .agg (m.map bi64).toArray) : Ev P e ⟨dst, .binOp .neq t x y t', ty, pos, af, gd'⟩ w (.bool (!eqIL l m)) := by
  have h2 := (run_equalIn_agg (P := P) w 9999 t (l.map bi64).toArray (m.map bi64).toArray q.un q.st).trans (eqFields_ints (d := 9998) (w := w) q.fl q.len.symm (hm.trans q.len.symm) (xs := l.map bi64) (ys := m.map bi64) rfl rfl)
  have h1 := run_neq_struct (P := P) w t (l.map bi64).toArray (m.map bi64).toArray
  rw [h2] at h1
  have h3 := run_eqGuard_agg (P := P) w .neq t x y (l.map bi64).toArray (m.map bi64).toArray q.gd
  simp only [Ev, execOp, hx, hy, Sem.run_bind, h3, h1, Result.andThen_ok, Sem.run_pure]
theorem pBinY_ok (hT : T.ok P) (hρ : RhoOk K ρ (AF n τ).eval) (i : Inv K s w) {op : BinOp} {t t' : Nat} {x y : Operand} (h : pBinY T ρ s op t x y k = some r) : PureR P n ⟨dst, .binOp op t x y t', ty, pos, af, gd'⟩ τ w K k r := by
  unfold pBinY at h
  split at h <;> try (exact pBinX_ok hT hρ i h)
  rename_i a b ha hb
  split at h
  rotate_left
  · rename_i ti hti hno
    cases hf : ti.eqf with
    | false => rw [hf, cond_false] at h; exact pBinX_ok hT hρ i h
    | true =>
    rw [hf, cond_true] at h
    have q := (tg_ok hT hti).eqf hf
    split at h <;> try (exact pBinX_ok hT hρ i h)
    rename_i u v hu hv
    obtain ⟨cs, hcs, hdx⟩ := flS_ok hu (hρ _ _ ha) q.agg
    obtain ⟨ds, hds, hdy⟩ := flS_ok hv (hρ _ _ hb) q.agg
    split at h <;> try (cases h; done)
    · exact PureR.mk i h ⟨_, rfl, rfl⟩ fun w' => q.eql hdx hdy hcs hds
    · exact PureR.mk i h ⟨_, rfl, rfl⟩ fun w' => q.neq hdx hdy hcs hds
  · exact pBinX_ok hT hρ i h
  rename_i l m ti hl hm hti
  cases hc : (Nat.beq ti.eqn l.length && Nat.beq ti.eqn m.length && Nat.blt 0 l.length) with
  | false => rw [hc, cond_false] at h; cases h
  | true =>
  rw [hc, cond_true] at h
  simp only [Bool.and_eq_true] at hc
  obtain ⟨⟨c1, c2⟩, c3⟩ := hc
  have e1 := Nat.eq_of_beq_eq_true c1
  have e2 := Nat.eq_of_beq_eq_true c2
  have c4 : 0 < l.length := Nat.le_of_ble_eq_true c3
  have hxv := intsS_ok hl (hρ _ _ ha)
  have hyv := intsS_ok hm (hρ _ _ hb)
  have q : EqI P t l.length := by
    have := (tg_ok hT hti).eqi (l.length - 1) (by omega)
    rwa [Nat.sub_add_cancel c4] at this
  split at h <;> try (cases h; done)
  · exact PureR.mk i h ⟨_, rfl, rfl⟩ fun w' => E.eqlI q (by omega) hxv hyv
  · exact PureR.mk i h ⟨_, rfl, rfl⟩ fun w' => E.neqI q (by omega) hxv hyv
/-- the capacity of nothing -/
noncomputable def pCap0 (T : TB) (ρ : Rho) (s : SS) (x : Operand) (t : Nat) (k : SV → SS → Option β) : Option β := match ρ x, tg T t with
  | some .nilS, some ti => bif isSlc ti.desc then k (.d .int 0) s else none
  | _, _ => none
theorem pCap0_ok (hT : T.ok P) (hρ : RhoOk K ρ (AF n τ).eval) (i : Inv K s w) {x : Operand} {t : Nat} (h : pCap0 T ρ s x t k = some r) : PureR P n ⟨dst, .call ⟨.builtin .cap, #[x], #[t]⟩, ty, pos, af, gd'⟩ τ w K k r := by
  unfold pCap0 at h
  split at h <;> try (cases h; done)
  rename_i ti ha hti
  cases hs : isSlc ti.desc with
  | false => rw [hs, cond_false] at h; cases h
  | true =>
  rw [hs, cond_true] at h
  have hd := (tg_ok hT hti).desc
  have hde : ∃ el, ti.desc = .slice el := by
    generalize ti.desc = d at hs
    cases d <;> first | exact ⟨_, rfl⟩ | cases hs
  obtain ⟨el, hde⟩ := hde
  rw [hde] at hd
  have hxv : (AF n τ).eval x = .slice none 0 0 := by have q : [_] = [_] := hρ _ _ ha; simpa using q
  refine PureR.mk i h ⟨_, rfl, rfl⟩ fun w' => ?_
  simp [Ev, execOp, resolve, invoke, builtin, Builtin.cap_, run_underlying hd, hxv, goInt]

/-! ### rows of what is not told yet -/
noncomputable def wdAll (z : Nat) : SV → Bool
  | .nl => true
  | .pr a b => (match a.wd.1 with | some m => Nat.beq m z | none => false) && wdAll z b
  | _ => false
theorem wdAll_ok {z : Nat} : ∀ {c : SV} {vs : List Value}, wdAll z c = true → c.dn K .l vs → (∀ v ∈ vs, v.cells.size = z) ∧ c.dn K .c (vs.map fun v => v.cells.toList).flatten := by
  intro c
  induction c with
  | nl => intro vs _ hd; rw [show vs = [] from hd]; exact ⟨fun v h => (by cases h), rfl⟩
  | pr a b iha ihb =>
    intro vs h hd
    obtain ⟨v, d, rfl, h1, h2⟩ := hd
    simp only [wdAll, Bool.and_eq_true] at h
    obtain ⟨ha, hb⟩ := h
    obtain ⟨q1, q2⟩ := ihb hb h2
    refine ⟨fun u hu => ?_, v, _, by simp, h1, q2⟩
    rcases List.mem_cons.1 hu with rfl | hu
    · split at ha
      · rename_i m hm
        rw [(wd_ok).1 _ _ h1 hm]; exact Nat.eq_of_beq_eq_true ha
      · cases ha
    · exact q1 u hu
  | _ => intro vs h; cases h
noncomputable def opRowX (T : TB) (ρ : Rho) (s : SS) (t len : Nat) (ps : List (Nat × Operand)) (k : SV → SS → Option β) : Option β := match tg T t with
  | some ti => match ti.desc with
    | .slice e => match tg T e with
      | some ei => bif Nat.beq ps.length len && idxOk (ps.map (·.1)) 0 && Nat.ble (len * ei.size) 16777216 && Nat.ble len 16777216 then (match GX.mapS ρ (ps.map (·.2)) with
        | some c => match outAll ei.ty c s with
          | some _ => opRow T ρ s t len ps k
          | none => match (CT.ofp c).2 with
            | some ct => bif wdAll ei.size c then k (.vw s.nx [.i 0 ei.size] len) (add1 s (.blk e ct)) else none
            | none => none
        | none => none) else none
      | none => none
    | _ => none
  | none => none
theorem opRowX_ok (hT : T.ok P) (hρ : RhoOk K ρ (AF n τ).eval) (i : Inv K s w) {t len : Nat} {ps : Array (Nat × Operand)} (h : opRowX T ρ s t len ps.toList k = some r) : OpR P n ⟨dst, .buildSlice t len ps, ty, pos, af, gd'⟩ τ w K k r := by
  unfold opRowX at h
  split at h <;> try (cases h; done)
  rename_i ti hti
  have hd := (tg_ok hT hti).desc
  split at h <;> try (cases h; done)
  rename_i e hdd
  rw [hdd] at hd
  split at h <;> try (cases h; done)
  rename_i ei hei
  have ok := tg_ok hT hei
  cases hq : Nat.beq ps.toList.length len && idxOk (ps.toList.map (·.1)) 0 && Nat.ble (len * ei.size) 16777216 && Nat.ble len 16777216 with
  | false => rw [hq, cond_false] at h; cases h
  | true =>
  rw [hq, cond_true] at h
  split at h <;> try (cases h; done)
  rename_i c hc
  split at h
  · exact opRow_ok hT hρ i h
  simp only [Bool.and_eq_true] at hq
  obtain ⟨⟨⟨q2, q3⟩, q4⟩, q5⟩ := hq
  have hln := Nat.le_of_ble_eq_true q5
  have hlen := Nat.eq_of_beq_eq_true q2
  have hsm := Nat.le_of_ble_eq_true q4
  split at h <;> try (cases h; done)
  rename_i ct hct
  cases hwd : wdAll ei.size c with
  | false => rw [hwd, cond_false] at h; cases h
  | true =>
  rw [hwd, cond_true] at h
  obtain ⟨hszs, hdc⟩ := wdAll_ok hwd (mapS_ok hρ hc)
  have hca := ofp_ok.2 hct hdc
  generalize hps : (ps.map fun (i, x) => (i, (AF n τ).eval x)) = qs
  have hqs : qs.toList = ps.toList.map fun p => (p.1, (AF n τ).eval p.2) := by rw [← hps]; simp
  have hsize : qs.size = len := by rw [← hlen, ← hps]; simp
  subst hsize
  have hvs : (List.map (AF n τ).eval (List.map (fun x => x.2) ps.toList)) = qs.toList.map (·.2) := by rw [hqs]; simp [List.map_map, Function.comp_def]
  rw [hvs] at hszs hca
  have run := fun w => run_row (P := P) (t := t) (e := e) (sz := ei.size) (z := ei.z) (ps := qs) (bytes := ei.bytes) hd ok.info (by omega) (by rw [hqs]; simpa [List.map_map, Function.comp_def] using q3) (fun p hp => hszs p.2 (List.mem_map.2 ⟨p, hp, rfl⟩)) w
  refine Go.SL.H.buildSlice hps run i.st fun b w' st2 => ?_
  have hcs : (qs.toList.map fun p => p.2.cells.toList).flatten = ((qs.toList.map (·.2)).map fun v => v.cells.toList).flatten := by rw [List.map_map]; rfl
  rw [hcs] at st2
  obtain ⟨K', le, i', u, b', hE, hB, hpe⟩ := new_blk i.nx hca st2
  have hbb : b' = b := by simp [pOff] at hpe; exact hpe.symm
  subst hbb
  refine ⟨.vw s.nx [.i 0 ei.size] qs.size, _, K', le, i', ⟨_, _, rfl, Nat.le_refl _, .inr ⟨u, b', hE, hB, by simp [pOff]⟩, u, hE, ?_⟩, h⟩
  intro X0 n0 c0 z hu hpa
  obtain ⟨b2, st3⟩ := (i'.take (id := s.nx) (n := .blk e ct) (by simp [add1, hget])).ex
  obtain ⟨cs3, st4⟩ := st3.ex
  obtain ⟨hE2, _⟩ := st4.iff
  rw [hE, hu] at hE2; cases hE2
end
end Go.GX
namespace Go.GX
open Go.RowKit Go.SL
set_option linter.unusedVariables false
set_option linter.unusedSimpArgs false
section
variable {β : Type}
noncomputable def frN (n : Nat) (k : Nat → β) : β := match n with
  | 0 => k 0
  | m + 1 => k (m + 1)
@[simp] theorem frN_eq (n : Nat) (k : Nat → β) : frN n k = k n := by cases n <;> rfl
noncomputable def frSt : Step → (Step → β) → β
  | .f a b, k => frN a fun a => frN b fun b => k (.f a b)
  | .i j z, k => frN z fun z => k (.i j z)
@[simp] theorem frSt_eq (s : Step) (k : Step → β) : frSt s k = k s := by cases s <;> simp [frSt]
noncomputable def frSts : List Step → (List Step → β) → β
  | [], k => k []
  | s :: l, k => frSt s fun s => frSts l fun l => k (s :: l)
@[simp] theorem frSts_eq : ∀ (l : List Step) (k : List Step → β), frSts l k = k l := by
  intro l
  induction l with
  | nil => intro k; rfl
  | cons s l ih => intro k; simp [frSts, ih]
noncomputable def frSV : SV → (SV → β) → β
  | .d t x, k => k (.d t x)
  | .bd t x, k => k (.bd t x)
  | .dp t x, k => k (.dp t x)
  | .bp t x, k => k (.bp t x)
  | .ptr id pa, k => frN id fun id => frSts pa fun pa => k (.ptr id pa)
  | .vr id, k => frN id fun id => k (.vr id)
  | .vw id pa m, k => frN id fun id => frSts pa fun pa => k (.vw id pa m)
  | .nilS, k => k .nilS
  | .nilP, k => k .nilP
  | .nilF, k => k .nilF
  | .nilM, k => k .nilM
  | .nilI, k => k .nilI
  | .fn f b c, k => frSV b fun b => frSV c fun c => k (.fn f b c)
  | .ag c, k => frSV c fun c => k (.ag c)
  | .tup c, k => frSV c fun c => k (.tup c)
  | .pr a b, k => frSV a fun a => frSV b fun b => k (.pr a b)
  | .nl, k => k .nl
  | .ifc t c, k => frSV c fun c => k (.ifc t c)
  | .mp id, k => frN id fun id => k (.mp id)
  | .lit v, k => k (.lit v)
  | .un, k => k .un
@[simp] theorem frSV_eq : ∀ (v : SV) (k : SV → β), frSV v k = k v := by
  intro v
  induction v with
  | fn f b c ihb ih => intro k; simp [frSV, ihb, ih]
  | ag c ih => intro k; simp [frSV, ih]
  | tup c ih => intro k; simp [frSV, ih]
  | pr a b iha ihb => intro k; simp [frSV, iha, ihb]
  | ifc t c ih => intro k; simp [frSV, ih]
  | _ => intro k; simp [frSV]
noncomputable def frCT : CT → (CT → β) → β
  | .cel v, k => frSV v fun v => k (.cel v)
  | .dat t x, k => k (.dat t x)
  | .nl, k => k .nl
  | .pr a b, k => frCT a fun a => frCT b fun b => k (.pr a b)
@[simp] theorem frCT_eq : ∀ (c : CT) (k : CT → β), frCT c k = k c := by
  intro c
  induction c with
  | pr a b iha ihb => intro k; simp [frCT, iha, ihb]
  | _ => intro k; simp [frCT]
noncomputable def frEN : EN → (EN → β) → β
  | .blk e c, k => frN e fun e => frCT c fun c => k (.blk e c)
  | .row e t l, k => frN e fun e => k (.row e t l)
  | .foc e t l j c, k => frN e fun e => frCT c fun c => k (.foc e t l j c)
  | .fro t l, k => k (.fro t l)
  | .map t l, k => k (.map t l)
  | .held, k => k .held
@[simp] theorem frEN_eq (e : EN) (k : EN → β) : frEN e k = k e := by cases e <;> simp [frEN]
noncomputable def frHP : HP → (HP → β) → β
  | [], k => k []
  | (id, e) :: l, k => frN id fun id => frEN e fun e => frHP l fun l => k ((id, e) :: l)
@[simp] theorem frHP_eq : ∀ (l : HP) (k : HP → β), frHP l k = k l := by
  intro l
  induction l with
  | nil => intro k; rfl
  | cons a l ih => obtain ⟨id, e⟩ := a; intro k; simp [frHP, ih]
noncomputable def frSS (s : SS) (k : SS → β) : β := match s with
  | ⟨hp, nx⟩ => frHP hp fun hp => frN nx fun nx => k ⟨hp, nx⟩
@[simp] theorem frSS_eq (s : SS) (k : SS → β) : frSS s k = k s := by cases s; simp [frSS]
noncomputable def frFM : List (Nat × SV) → (List (Nat × SV) → β) → β
  | [], k => k []
  | (x, v) :: l, k => frN x fun x => frSV v fun v => frFM l fun l => k ((x, v) :: l)
@[simp] theorem frFM_eq : ∀ (l : List (Nat × SV)) (k : List (Nat × SV) → β), frFM l k = k l := by
  intro l
  induction l with
  | nil => intro k; rfl
  | cons a l ih => obtain ⟨id, e⟩ := a; intro k; simp [frFM, ih]
noncomputable def frBs : List Bool → (List Bool → β) → β
  | [], k => k []
  | true :: l, k => frBs l fun l => k (true :: l)
  | false :: l, k => frBs l fun l => k (false :: l)
@[simp] theorem frBs_eq : ∀ (l : List Bool) (k : List Bool → β), frBs l k = k l := by
  intro l
  induction l with
  | nil => intro k; rfl
  | cons b l ih => intro k; cases b <;> simp [frBs, ih]
noncomputable def frA (a : Array Bool) (k : Array Bool → β) : β := frBs a.toList fun l => k ⟨l⟩
@[simp] theorem frA_eq (a : Array Bool) (k : Array Bool → β) : frA a k = k a := by simp [frA]
end
end Go.GX
namespace Go.SL
open Go.RowKit
set_option linter.unusedVariables false
set_option linter.unusedSimpArgs false
section
variable {P : Program} {n : Nat} {τ : Fr} {w : World} {dst : Option Tmp} {ty : TypeId} {pos : String} {af : Array Edge} {gd : Option (Nat × Bool)} {K : Value → World → Prop} {p : Pers} {HH H' : List Assn}
theorem H.clearOwn {x : Operand} {t e : TypeId} {b o k c m c2 : Nat} {z : Value} {L : List Value} (ht : P.underlying t = some (.slice e)) (hi : (P.info? e).bind (·.zero) = some z) (hz1 : z.cells = #[z]) (ho1 : z.oneCell' = true)
    (hx : (Act.eval (AF n τ)) x = .slice (some ⟨b, o, none⟩) m c2) (s : St p w HH) (hd : Del (Own e 1 (.slice (some ⟨b, 0, none⟩) k c) k L) HH H') (hk : 0 < k) (hfit : o + m ≤ k)
    (h : ∀ w', St p w' (Own e 1 (.slice (some ⟨b, 0, none⟩) k c) k (L.take o ++ List.replicate m z ++ L.drop (o + m)) :: H') → K (.tuple #[]) w') : Hd P n ⟨dst, .call ⟨.builtin .clear, #[x], #[t]⟩, ty, pos, af, gd⟩ τ w K := by
  cases hq : P.info? e with
  | none => simp [hq] at hi
  | some i =>
    have hz0 : i.zero = some z := by simpa [hq] using hi
    have go : ∀ w', (Builtin.clear_ #[t] ty #[.slice (some ⟨b, o, none⟩) m c2]).run P w = .ok (.tuple #[]) w' → K (.tuple #[]) w' → Hd P n ⟨dst, .call ⟨.builtin .clear, #[x], #[t]⟩, ty, pos, af, gd⟩ τ w K := by
      intro w' hr hk
      refine Hd.value (v := .tuple #[]) (w' := w') ?_ hk
      simp [execOp, resolve, invoke, builtin, hx, hr]
    have hzl : ∀ j, (Builtin.zeroCells z.cells j).toList = List.replicate j z := by
      intro j
      rw [hz1]
      simp [Builtin.zeroCells, Nat.mod_one, List.map_const']
    have s1 := s.take hd
    rcases Nat.eq_zero_or_pos m with h0 | h0
    · subst h0
      refine go w (by simp [Builtin.clear_, run_underlying ht]) (h w ?_)
      simpa using s1
    · obtain ⟨hl, ⟨A, he, hk0, s2⟩ | ⟨g, cap, cur, he, s2, hnc, hcm, hcs, hxx⟩⟩ := s1.ownOpen
      · omega
      · cases he
        rw [Nat.mul_one] at hcs hxx hl
        have h1 : ∀ u ∈ (Builtin.zeroCells z.cells m).toList, u.oneCell' = true := fun u hu => by rw [hzl] at hu; rw [List.eq_of_mem_replicate hu]; exact ho1
        have hst := run_storeCells_at P b o e (Builtin.zeroCells z.cells m).toList 0 cur w s2.block (by rw [Nat.add_zero, hzl, List.length_replicate]; omega) h1
        obtain ⟨m', rfl⟩ : ∃ m', m = m' + 1 := ⟨m - 1, by omega⟩
        have hcl : c ≤ cur.toList.length := by rw [Array.length_toList]; exact hcs
        refine go (w.setRow b (over cur o (Builtin.zeroCells z.cells (m' + 1)).toList)) ?_ (h _ ?_)
        · simp only [Nat.add_zero] at hst
          simp [Builtin.clear_, run_underlying ht, zeroValue, typeInfo, hq, hz0, hst, over]
        · rw [hzl]
          refine (s2.over o _).ownNew hnc hcm ?_ ?_
          · simp only [over, List.size_toArray, List.length_append, List.length_take, List.length_drop, Array.length_toList, List.length_replicate, Nat.mul_one]
            omega
          · rw [Nat.mul_one]
            show (cur.toList.take o ++ List.replicate (m' + 1) z ++ cur.toList.drop (o + (List.replicate (m' + 1) z).length)).take k = _
            rw [← hxx, List.take_append, List.take_of_length_le (by rw [List.length_append, List.length_take, List.length_replicate]; omega), List.length_append, List.length_take, List.take_take, Nat.min_eq_left (show o ≤ k by omega), Nat.min_eq_left (show o ≤ cur.toList.length by omega), List.length_replicate, List.take_drop, show o + (m' + 1) + (k - (o + (m' + 1))) = k by omega]
end
end Go.SL
namespace Go.GX
open Go.RowKit Go.SL
set_option linter.unusedVariables false
set_option linter.unusedSimpArgs false
section
variable {β : Type} {P : Program} {n : Nat} {τ : Fr} {w : World} {dst : Option Tmp} {ty : TypeId} {pos : String} {af : Array Edge} {gd' : Option (Nat × Bool)} {K : Kn} {s : SS} {k : SV → SS → Option β} {r : β} {ρ : Rho} {T : TB}
noncomputable def nul (z : Value) : Bool := match z with
  | .int .i64 (.ofNat 0) => true
  | _ => false
theorem nul_ok {z : Value} (h : nul z = true) : z = .int .i64 0 := by
  unfold nul at h
  split at h
  · rfl
  · cases h
noncomputable def opClear (T : TB) (ρ : Rho) (s : SS) (t : Nat) (x : Operand) (k : SV → SS → Option β) : Option β := match ρ x, tg T t with
  | some (.vw id pa m), some ti => (match ti.desc, lastI pa with
    | .slice e, some ([], lo, z) => (match tg T e, hget s.hp id with
      | some ei, some (.row e' t' l) => bif nul ei.z && Nat.beq z 1 then (match castT (.vec e' t') (.vec e .int) l with
        | some y => gd (lo + m ≤ List.length y) (gd (0 < m) (k (.tup .nl) { s with hp := (id, .row e .int (ovl y lo (List.replicate m 0))) :: hdel s.hp id }))
        | none => none) else none
      | _, _ => none)
    | _, _ => none)
  | _, _ => none
theorem int_cat {m : Mem} : ∀ (l : List Int), Cat (fun (x : Int) c => DenT m .int x c) l (l.map fun x => Value.int .i64 x) := by
  intro l
  induction l with
  | nil => rfl
  | cons x l ih => exact ⟨[.int .i64 x], _, rfl, rfl, ih⟩
theorem cat_int {m : Mem} : ∀ {l : List Int} {cs : List Value}, Cat (fun (x : Int) c => DenT m .int x c) l cs → cs = l.map fun x => Value.int .i64 x := by
  intro l
  induction l with
  | nil => intro cs h; exact h
  | cons x l ih =>
    intro cs h
    obtain ⟨a, b, rfl, ha, hb⟩ := h
    rw [show a = [Value.int .i64 x] from ha, ih hb]; rfl
theorem opClear_ok (hT : T.ok P) (hρ : RhoOk K ρ (AF n τ).eval) (i : Inv K s w) {t : Nat} {x : Operand} (h : opClear T ρ s t x k = some r) : OpR P n ⟨dst, .call ⟨.builtin .clear, #[x], #[t]⟩, ty, pos, af, gd'⟩ τ w K k r := by
  unfold opClear at h
  split at h <;> try (cases h; done)
  rename_i id pa m ti ha hti
  have hx := hρ _ _ ha
  have hd := (tg_ok hT hti).desc
  split at h <;> try (cases h; done)
  rename_i e lo z hdd hp
  rw [hdd] at hd
  have hoff := lastI_ok hp
  split at h <;> try (cases h; done)
  rename_i ei e' t' l hei hg
  cases hb : nul ei.z && Nat.beq z 1 with
  | false => rw [hb, cond_false] at h; cases h
  | true =>
  rw [hb, cond_true] at h
  simp only [Bool.and_eq_true] at hb
  have hz := nul_ok hb.1
  have := Nat.eq_of_beq_eq_true hb.2; subst this
  split at h <;> try (cases h; done)
  rename_i y0 hy0
  obtain ⟨e1, e2⟩ := castT_eq hy0
  cases e1; cases e2
  obtain ⟨hle, h⟩ := gd_some h
  obtain ⟨hpos, h⟩ := gd_some h
  have hle' : lo + m ≤ l.length := hle
  have hm' : 0 < m := hpos
  have hpos' : 0 < l.length := by omega
  obtain ⟨X, c, e', hc, hX, u0, hu0, hu1⟩ := hx
  have e1 : (AF n τ).eval x = .slice X m c := by simpa using e'
  obtain ⟨u', sta⟩ := (i.take hg).ex
  obtain ⟨xs, stb⟩ := sta.ex
  obtain ⟨hE', stc⟩ := stb.iff
  have std := stc.sep
  rw [catA_pure (S := fun x c => DenT K.p.h .int x c) (fun x c => oa_pure _ .int rfl x c)] at std
  obtain ⟨hcat, ste⟩ := (std.take (.there .here)).pu
  have hxs := cat_int hcat
  subst hxs
  have hinfo : (P.info? e).bind (·.zero) = some (.int .i64 0) := by
    have h1 := (tg_ok hT hei).info
    cases hq : P.info? e with
    | none => rw [hq] at h1; cases h1
    | some q => rw [hq] at h1; simp at h1; simp [h1.1, hz]
  have fin : ∀ w', St K.p w' (Own e 1 u' l.length ((ovl l lo (List.replicate m 0)).map fun x => Value.int .i64 x) :: (asns K (hdel s.hp id) ++ [Exact K.F])) → ∃ sv s' K', K.le K' ∧ Inv K' s' w' ∧ sv.den K' (.tuple #[]) ∧ k sv s' = some r := by
    intro w' st'
    refine ⟨.tup .nl, _, K, Kn.le.refl _, ⟨?_, i.nx.hp⟩, ⟨[], rfl, rfl⟩, h⟩
    show St K.p w' ((EN.row e .int (ovl l lo (List.replicate m 0))).asn K id :: (asns K (hdel s.hp id) ++ [Exact K.F]))
    have hlen : (ovl l lo (List.replicate m 0)).length = l.length := ovl_len (by rw [List.length_replicate]; omega)
    refine St.mkex u' (St.mkex ((ovl l lo (List.replicate m 0)).map fun x => Value.int .i64 x) (St.mkiff hE' (St.mksep ?_)))
    rw [catA_pure (S := fun x c => DenT K.p.h .int x c) (fun x c => oa_pure _ .int rfl x c), hlen]
    exact (St.mkpu (int_cat _) st').swap
  have hovl : ∀ o, o = lo → (l.map fun x => Value.int .i64 x).take o ++ List.replicate m (Value.int .i64 0) ++ (l.map fun x => Value.int .i64 x).drop (o + m) = (ovl l lo (List.replicate m 0)).map fun x => Value.int .i64 x := by
    intro o ho
    subst ho
    rw [ovl_map]; simp [ovl]
  obtain ⟨u1, b, hE1, hB, rfl⟩ := hX.resolve_left (by omega)
  rw [hE'] at hE1; cases hE1
  obtain ⟨_, ⟨A, he, hk0, _⟩ | ⟨g, cap, cur, he, _⟩⟩ := ste.ownOpen
  · omega
  · cases he
    cases hB
    refine Go.SL.H.clearOwn hd hinfo rfl rfl e1 ste .here hpos' (by rw [hoff]; simp only [pOff]; omega) fun w' st' => fin w' ?_
    rw [hovl _ (by rw [hoff]; simp [pOff])] at st'
    exact st'
/-- is it a type of slices? -/
noncomputable def isSl (T : TB) (t : Nat) : Bool := match tg T t with
  | some i => (match i.desc with
    | .slice _ => true
    | _ => false)
  | none => false
/-- a literal's bytes, marked as a text's: they last from now on -/
noncomputable def opConvS (T : TB) (ρ : Rho) (s : SS) (t : Nat) (x : Operand) (k : SV → SS → Option β) : Option β := match ρ x, tg T t with
  | some (.vr id), some ti => (match ti.desc with
    | .slice e => (match tg T e, hget s.hp id with
      | some ei, some (.row e' t' l) => (match ei.desc with
        | .int .u8 => (match castT (.vec e' t') (.vec e .u8) l with
          | some y => gd (0 < List.length y) (k (.d (.fz .u8) y) { s with hp := hdel s.hp id })
          | none => none)
        | _ => none)
      | _, _ => none)
    | _ => none)
  | _, _ => none
theorem opConvS_ok (hT : T.ok P) (hρ : RhoOk K ρ (AF n τ).eval) (i : Inv K s w) {t : Nat} {x : Operand} (h : opConvS T ρ s t x k = some r) : OpR P n ⟨dst, .convert t t x, ty, pos, af, gd'⟩ τ w K k r := by
  unfold opConvS at h
  split at h <;> try (cases h; done)
  rename_i id ti ha hti
  have hx := hρ _ _ ha
  have hd := (tg_ok hT hti).desc
  split at h <;> try (cases h; done)
  rename_i e hdd
  rw [hdd] at hd
  split at h <;> try (cases h; done)
  rename_i ei e' t' l hei hg
  have hd3 := (tg_ok hT hei).desc
  split at h <;> try (cases h; done)
  rename_i hq3
  rw [hq3] at hd3
  split at h <;> try (cases h; done)
  rename_i y0 hy0
  obtain ⟨e1, e2⟩ := castT_eq hy0
  cases e1; cases e2
  obtain ⟨hpos, h⟩ := gd_some h
  have hpos' : 0 < l.length := hpos
  obtain ⟨X, m, c, hE, ex⟩ := hx
  have e1 : (AF n τ).eval x = .slice X m c := by simpa using ex
  obtain ⟨u', sta⟩ := (i.take hg).ex
  obtain ⟨xs, stb⟩ := sta.ex
  obtain ⟨hE', stc⟩ := stb.iff
  rw [hE] at hE'; cases hE'
  have std := stc.sep
  rw [catA_pure (S := fun x c => DenT K.p.h .u8 x c) (fun x c => oa_pure _ .u8 rfl x c)] at std
  obtain ⟨hcat, ste⟩ := (std.take (.there .here)).pu
  have hxs := cat_u8 hcat
  subst hxs
  obtain ⟨hl0, ⟨A, he, hk0, _⟩ | ⟨g, cap, cur, he, s2, hnc, hcm, hcs, hxx⟩⟩ := ste.ownOpen
  · omega
  · cases he
    refine Go.SL.H.convS hd hd3 e1 s2 .here fun w' s3 => ?_
    obtain ⟨q, leq, hq, s4⟩ := s3.keepPt
    have le : K.le (K.grow q) := Kn.grow_le leq (X := asns K (hdel s.hp id)) s4
    have hval : VD q.h (.fz .u8) l (.slice (some ⟨g, 0, none⟩) l.length c) := by
      refine ⟨_, c, rfl, hnc, .inr ⟨g, 0, l.map bu8, rfl, ⟨cur, e, _, hq, fun j v hj => ?_⟩, u8_cat l⟩⟩
      have hj2 : (cur.toList.take (l.length * Ty.u8.w))[j]? = some v := by rw [hxx]; exact hj
      rw [List.getElem?_take] at hj2
      split at hj2
      · rw [Nat.zero_add]; simpa using hj2
      · cases hj2
    have s5 : St q w' (asns (K.grow q) (hdel s.hp id) ++ [Exact K.F]) := St.asns le s4
    have i5 : Inv (K.grow q) { s with hp := hdel s.hp id } w' := ⟨s5, ⟨i.nx.eq, i.nx.no⟩⟩
    exact ⟨.d (.fz .u8) l, { s with hp := hdel s.hp id }, K.grow q, le, i5, ⟨_, rfl, hval⟩, h⟩
/-! ### a row without what room is behind it -/
theorem _root_.Go.SL.St.ownCap {p : Pers} {w : World} {H : List Assn} {e : TypeId} {sz : Nat} {X : Option Addr} {n c : Nat} {xs : List Value} (s : St p w (Own e sz (.slice X n c) n xs :: H)) : St p w (Own e sz (.slice X n n) n xs :: H) := by
  refine s.weaken fun h q => ?_
  obtain ⟨hl, ⟨A, he, hn, h0⟩ | ⟨g, cap, cur, he, hp, h1, h2, h3, h4⟩⟩ := q
  · cases he; exact ⟨hl, .inl ⟨_, rfl, rfl, h0⟩⟩
  · cases he; exact ⟨hl, .inr ⟨g, n, cur, rfl, hp, Nat.le_refl _, Nat.le_trans h1 h2, Nat.le_trans (Nat.mul_le_mul_right _ h1) h3, h4⟩⟩
noncomputable def pSliceC (T : TB) (ρ : Rho) (s : SS) (t : Nat) (x hi mx : Operand) (k : SV → SS → Option β) : Option β := match hi with
  | .const _ => pSlice0 T ρ s t x hi mx k
  | hi => match ρ x, ρ hi, ρ mx, tg T t with
    | some (.vr id), some a, some b, some ti => (match ti.desc with
      | .slice e => (match hget s.hp id, tg T e with
        | some (.row e' t' l), some ei => bif Nat.beq e e' then natK a fun i => natK b fun j => gd (i = l.length) (gd (j = l.length) (k (.vr s.nx) (add1 { s with hp := hdel s.hp id } (.row e' t' l)))) else none
        | _, _ => none)
      | _ => none)
    | _, _, _, _ => none
theorem pSliceC_ok (hT : T.ok P) (hρ : RhoOk K ρ (AF n τ).eval) (i : Inv K s w) {t : Nat} {x hi mx : Operand} (h : pSliceC T ρ s t x hi mx k = some r) : PureR P n ⟨dst, .slice t x none (some hi) (some mx), ty, pos, af, gd'⟩ τ w K k r := by
  unfold pSliceC at h
  split at h
  · exact pSlice0_ok hT hρ i h
  split at h <;> try (cases h; done)
  rename_i id a b ti ha hh hm hti
  have hx := hρ _ _ ha
  have hd := (tg_ok hT hti).desc
  split at h <;> try (cases h; done)
  rename_i e hdd
  rw [hdd] at hd
  split at h <;> try (cases h; done)
  rename_i e' t' l ei hg hei
  have hes := (tg_ok hT hei).size
  cases hb : Nat.beq e e' with
  | false => rw [hb, cond_false] at h; cases h
  | true =>
  rw [hb, cond_true] at h
  have := Nat.eq_of_beq_eq_true hb; subst this
  obtain ⟨p, kk, hp, h⟩ := natK_ok h (hρ _ _ hh)
  obtain ⟨q, kk', hq, h⟩ := natK_ok h (hρ _ _ hm)
  obtain ⟨hpe, h⟩ := gd_some h
  obtain ⟨hqe, h⟩ := gd_some h
  rw [hpe] at hp
  rw [hqe] at hq
  obtain ⟨X, m, c, hE, hxe⟩ := hx
  have hxe : (AF n τ).eval x = .slice X m c := by simpa using hxe
  obtain ⟨u, sta⟩ := (i.take hg).ex
  obtain ⟨xs, stb⟩ := sta.ex
  obtain ⟨hE', stc⟩ := stb.iff
  rw [hE] at hE'; cases hE'
  obtain ⟨X', c', he, hc, _⟩ := (Own.src stc.sep).2
  cases he
  have st2 := St.mksep (stc.sep.ownCap)
  have hno := i.nx.no _ (Nat.le_refl _)
  have le0 := Kn.name_le (v := .slice X l.length l.length) hno
  have st : St K.p w ((EN.row e t' l).asn (K.name (.slice X l.length l.length)) K.nx :: (asns K (hdel s.hp id) ++ ([] ++ [Exact K.F]))) :=
    St.mkex (.slice X l.length l.length) (St.mkex xs (St.mkiff Kn.name_eq st2))
  obtain ⟨le, i'⟩ := Inv2.name (s := { s with hp := hdel s.hp id }) i.nx.hp st
  refine ⟨.slice X l.length l.length, .vr s.nx, _, _, le, i'.inv, ⟨X, _, _, by rw [i.nx.eq]; exact Kn.name_eq, rfl⟩, h, fun w' => ?_⟩
  have hsz : ∃ i, P.info? e = some i := by
    cases hq : P.info? e with
    | none => rw [hq] at hes; cases hes
    | some q => exact ⟨q, rfl⟩
  obtain ⟨q2, hq2⟩ := hsz
  have hcc : (l.length : Int) ≤ (c : Int) := Int.ofNat_le.2 hc
  have hmap : X.map (fun a => a.add 0) = X := by cases X <;> simp [add_zero0]
  simp [Ev, execOp, Instr.sliceAt, run_underlying hd, Instr.slice, Instr.sliceBounds, Instr.sliceBound, asIntOf, hxe, sizeOf, typeInfo, hq2, hp, hq, hcc, hc, hmap]
end
end Go.GX
namespace Go.GX
open Go.RowKit Go.SL
set_option linter.unusedVariables false
set_option linter.unusedSimpArgs false

section
variable {β : Type}
/-- the name of what is lent, and what it says -/
noncomputable def BoOk (K : Kn) (be : Option Nat) (bo : HP) : Prop := match be with
  | none => True
  | some b => (∃ v, K.E b = some v) ∧ all (asns K bo) (K.B b)
theorem BoOk.mono {K L : Kn} (le : K.le L) {be : Option Nat} {bo : HP} (h : BoOk K be bo) : BoOk L be bo := by
  cases be with
  | none => trivial
  | some b =>
    obtain ⟨⟨v, hv⟩, h⟩ := h
    refine ⟨⟨v, le.E _ _ hv⟩, ?_⟩
    rw [le.B _ _ hv]
    have := all_asns le [] bo (K.B b) (by simpa using h)
    simpa using this
/-- what was lent is back -/
noncomputable def unborrow (be : Option Nat) (bo : HP) (s : SS) : Option SS := match be with
  | none => some s
  | some b => match hget s.hp b with
    | some .held => some { s with hp := bo ++ hdel s.hp b }
    | _ => none
theorem unborrow_ok {w : World} {be : Option Nat} {bo : HP} {s s' : SS} (h : unborrow be bo s = some s') {K : Kn} (i : Inv K s w) (hb : BoOk K be bo) : Inv K s' w := by
  unfold unborrow at h
  split at h
  · cases h; exact i
  · rename_i b
    split at h <;> try (cases h; done)
    rename_i hg
    cases h
    obtain ⟨_, hB⟩ := hb
    have st := i.take hg
    refine ⟨?_, i.nx.hp⟩
    have st2 : St K.p w (all (asns K bo) :: (asns K (hdel s.hp b) ++ [Exact K.F])) := st.weaken fun h q => by
      obtain ⟨_, q⟩ := q
      have q' : h = K.B b := q
      rw [q']; exact hB
    have st3 := st2.split
    show St K.p w (asns K (bo ++ hdel s.hp b) ++ [Exact K.F])
    rw [show asns K (bo ++ hdel s.hp b) = asns K bo ++ asns K (hdel s.hp b) from List.map_append, List.append_assoc]
    exact st3
end
section
variable {P : Program} {n : Nat} {τ : Fr} {w : World} {β : Type} {dst : Option Tmp} {ty : TypeId} {pos : String} {af : Array Edge} {gd' : Option (Nat × Bool)} {K : Kn} {s : SS} {k : SV → SS → Option β} {r : β} {ρ : Rho} {T : TB}
/-- a load out of what is lent, or lasts -/
noncomputable def ldH (be : Option Nat) (bo : HP) (s : SS) (a : SV) (k : SV → Option β) : Option β := match a with
  | .dp t x => k (.d t x)
  | .bp t x => k (.bd t x)
  | .ptr id pa => match be with
    | some b => match hget bo id, hget s.hp b with
      | some (.blk _ _), some .held => ldAt ⟨bo, s.nx⟩ (.ptr id pa) k
      | some (.row _ _ _), some .held => ldAt ⟨bo, s.nx⟩ (.ptr id pa) k
      | some (.foc _ _ _ _ _), some .held => ldAt ⟨bo, s.nx⟩ (.ptr id pa) k
      | _, _ => none
    | none => none
  | _ => none
noncomputable def HB (K : Kn) (be : Option Nat) (w : World) : Prop := match be with
  | some b => sub (K.B b) (hm w)
  | none => True
theorem Inv.held {b : Nat} (i : Inv K s w) (hg : hget s.hp b = some .held) : sub (K.B b) (hm w) := by
  obtain ⟨h, ⟨x, y, d, rfl, hx, hy⟩, dp, rr, _⟩ := i.take hg
  obtain ⟨_, hx⟩ := hx
  have hx' : x = K.B b := hx
  subst hx'
  intro q o hq
  refine rr q o (uni_some.2 ?_)
  rcases dp q with e | e
  · exact .inr ⟨e, by simp [uni, hq]⟩
  · simp [uni, hq] at e
theorem At.move {w w' : World} {b o : Nat} {cs : List Value} (h : At (hm w) b o cs) (he : hm w' b = hm w b) : At (hm w') b o cs := by
  obtain ⟨c, e, f, h1, h2⟩ := h
  exact ⟨c, e, f, by rw [he]; exact h1, h2⟩
theorem inB {B : Hp} {bo : HP} {id b1 : Nat} {en : EN} {u : Value} (hB : all (asns K bo) B) (hg : hget bo id = some en) (hE : K.E id = some u) (hb : Base u b1) (hen : (∃ e c, en = .blk e c) ∨ (∃ e t l, en = .row e t l ∧ 0 < l.length) ∨ ∃ e t l j c, en = .foc e t l j c) : ∃ o, B b1 = some o := by
  have h1 : all (en.asn K id :: (asns K (hdel bo id) ++ [])) B := (all_del (hget_del (R := []) hg)).1 (by simpa using hB)
  obtain ⟨x, y, d, rfl, hx, _⟩ := h1
  rcases hen with ⟨e, c, rfl⟩ | ⟨e, t, l, rfl, hl⟩ | ⟨e, t, l, j, c, rfl⟩
  · obtain ⟨b2, cs, hE2, x1, x2, _, rfl, hp, _⟩ := hx
    rw [hE] at hE2; cases hE2
    cases hb
    have hp' : x1 = fun k => if k = b1 then some (.cells cs.toArray e) else none := hp
    subst hp'
    exact ⟨.cells cs.toArray e, by simp [uni]⟩
  · obtain ⟨v, xs, hE2, x1, x2, _, rfl, ⟨_, ho⟩, _⟩ := hx
    rw [hE] at hE2; cases hE2
    rcases ho with ⟨A, rfl, h0, _⟩ | ⟨g, cap, cur, rfl, hp, _⟩
    · omega
    · cases hb
      have hp' : x1 = fun k => if k = b1 then some (.cells cur e) else none := hp
      subst hp'
      exact ⟨.cells cur e, by simp [uni]⟩
  · obtain ⟨v, xs, hE2, x1, x2, _, rfl, ⟨_, ho⟩, ⟨_, _, _, ⟨_, _, hjl⟩, _⟩⟩ := hx
    rw [hE] at hE2; cases hE2
    rcases ho with ⟨A, rfl, h0, _⟩ | ⟨g, cap, cur, rfl, hp, _⟩
    · omega
    · cases hb
      have hp' : x1 = fun k => if k = b1 then some (.cells cur e) else none := hp
      subst hp'
      exact ⟨.cells cur e, by simp [uni]⟩
theorem ldH_ok {be : Option Nat} {bo : HP} {a : SV} {va : Value} {k : SV → Option β} (i : Inv K s w) (hb : BoOk K be bo) (ha : a.den K va) (h : ldH be bo s a k = some r) :
    ∃ v sv, sv.den K v ∧ k sv = some r ∧ ∀ w', sub K.rd (hm w') → HB K be w' → Reads w' va v := by
  cases a <;> simp only [ldH, reduceCtorEq] at h
  case dp t x =>
    obtain ⟨b, o, cs, e, h1, h2⟩ := ha; cases e
    obtain ⟨v, q1, q2, q3⟩ := VD.mk h2
    exact ⟨v, .d t x, ⟨v, rfl, q1⟩, h, fun w' hr _ => ⟨b, o, rfl, by rw [q2]; exact h1.sub fun q o hq => hr q o (uni_some.2 (.inl hq))⟩⟩
  case bp t x =>
    obtain ⟨b, o, cs, e, h1, h2⟩ := ha; cases e
    obtain ⟨v, q1, q2, q3⟩ := VD.mk h2
    exact ⟨v, .bd t x, ⟨v, rfl, q1⟩, h, fun w' hr _ => ⟨b, o, rfl, by rw [q2]; exact h1.sub hr⟩⟩
  case ptr id pa =>
    split at h <;> try (cases h; done)
    rename_i b
    have main : ∀ en : EN, hget bo id = some en → hget s.hp b = some .held → ((∃ e c, en = .blk e c) ∨ (∃ e t l, en = .row e t l ∧ 0 < l.length) ∨ ∃ e t l j c, en = .foc e t l j c) → ldAt ⟨bo, s.nx⟩ (.ptr id pa) k = some r →
        ∃ v sv, sv.den K v ∧ k sv = some r ∧ ∀ w', sub K.rd (hm w') → HB K (some b) w' → Reads w' va v := by
      intro en hg hh hen hld
      have i1 : Inv K ⟨bo ++ hdel s.hp b, s.nx⟩ w := unborrow_ok (be := some b) (s := s) (by simp only [unborrow, hh]) i hb
      have i2 : Inv K ⟨bo, s.nx⟩ w := by
        refine ⟨?_, ⟨i.nx.eq, i.nx.no⟩⟩
        have st : St K.p w (asns K (bo ++ hdel s.hp b) ++ [Exact K.F]) := i1.st
        rw [show asns K (bo ++ hdel s.hp b) = asns K bo ++ asns K (hdel s.hp b) from List.map_append, List.append_assoc] at st
        have st2 := st.perm (l' := asns K (hdel s.hp b) ++ (asns K bo ++ [Exact K.F])) (by
          have := (List.perm_append_comm (l₁ := asns K bo) (l₂ := asns K (hdel s.hp b))).append_right [Exact K.F]
          simpa [List.append_assoc] using this)
        exact st2.dropL
      obtain ⟨v, sv, hR, hd, hk⟩ := ldAt_ok i2 ha hld
      refine ⟨v, sv, hd, hk, fun w' hr hB => ?_⟩
      obtain ⟨bb, oo, e, hat⟩ := hR
      obtain ⟨u, b1, hE, hBs, e1⟩ := ha
      have hb1 : bb = b1 := by
        have : va = .pointer (some ⟨b1, pOff pa, none⟩) := by simpa using e1
        rw [this] at e; cases e; rfl
      subst hb1
      obtain ⟨o, ho⟩ := inB hb.2 hg hE hBs hen
      exact ⟨bb, oo, e, hat.move (by rw [hB _ _ ho, i.held hh _ _ ho])⟩
    split at h <;> try (cases h; done)
    · rename_i e c hg hh
      exact main _ hg hh (.inl ⟨e, c, rfl⟩) h
    · rename_i e t l hg hh
      refine main _ hg hh (.inr (.inl ⟨e, t, l, rfl, ?_⟩)) h
      simp only [ldAt, hg] at h
      split at h <;> try (cases h; done)
      rename_i j z rr
      cases hq : t.pure && Nat.beq z t.w with
      | false => rw [hq, cond_false] at h; cases h
      | true =>
        rw [hq, cond_true] at h
        obtain ⟨y, hy, _⟩ := bnd_some h
        have := (List.getElem?_eq_some_iff.1 hy).1
        omega
    · rename_i e t l j c hg hh
      exact main _ hg hh (.inr (.inr ⟨e, t, l, j, c, rfl⟩)) h
noncomputable def opLoadH (T : TT) (be : Option Nat) (bo : HP) (s : SS) (t : Nat) (a : SV) (k : SV → SS → Option β) : Option β :=
  match tget T t with
  | some i => ldH be bo s a fun v => match v.wd.1 with
    | some m => bif Nat.beq m i.size && (v.agg == aggD i.desc) then k v s else none
    | none => none
  | none => none
theorem opLoadH_ok {T : TT} (hT : T.ok P) {be : Option Nat} {bo : HP} {t : Nat} {a : SV} {x : Operand} (i : Inv K s w) (hb : BoOk K be bo) (ha : a.den K ((AF n τ).eval x)) (h : opLoadH T be bo s t a k = some r) :
    ∃ v sv, sv.den K v ∧ k sv s = some r ∧ ∀ w', sub K.rd (hm w') → HB K be w' → Ev P (AF n τ).eval ⟨dst, .load t x, ty, pos, af, gd'⟩ w' v := by
  unfold opLoadH at h
  split at h <;> try (cases h; done)
  rename_i ti hti
  obtain ⟨v, sv, hd, hk, hR⟩ := ldH_ok i hb ha h
  split at hk <;> try (cases hk; done)
  rename_i m hm'
  cases hq : Nat.beq m ti.size && (sv.agg == aggD ti.desc) with
  | false => rw [hq, cond_false] at hk; cases hk
  | true =>
  rw [hq, cond_true] at hk
  simp only [Bool.and_eq_true, beq_iff_eq] at hq
  have hag := agg_ok hd hm'
  refine ⟨v, sv, hd, hk, fun w' h1 h2 => (hR w' h1 h2).ev (tget_ok hT hti) rfl ?_ ?_ ?_⟩
  · rw [(wd_ok).1 _ _ hd hm', Nat.eq_of_beq_eq_true hq.1]
  · rw [hag, hq.2]
  · intro hv; exact cell1 hd hm' (by rw [← hag]; exact hv)
/-- what a function may lean on beside what it holds: variables that last, and what is lent around it -/
noncomputable def RoOk (K : Kn) (ro : Option (Nat × HP)) : Prop := match ro with
  | none => True
  | some (b, bo) => BoOk K (some b) bo
theorem RoOk.mono {K L : Kn} (le : K.le L) {ro : Option (Nat × HP)} (h : RoOk K ro) : RoOk L ro := by
  cases ro with
  | none => trivial
  | some q => obtain ⟨b, bo⟩ := q; exact BoOk.mono (be := some b) (bo := bo) le h
noncomputable def EnvOk (K : Kn) (T : TB) : Prop := GlS K.p T.gs ∧ RoOk K T.ro
theorem EnvOk.mono {K L : Kn} {T : TB} (le : K.le L) (h : EnvOk K T) : EnvOk L T := ⟨h.1.mono le.p, h.2.mono le⟩
/-- a load out of what is held, or of what is lent around -/
noncomputable def opLoadR (T : TB) (s : SS) (t : Nat) (a : SV) (k : SV → SS → Option β) : Option β := match a with
  | .ptr id pa => (match T.ro, hget s.hp id with
    | some (b, bo), none => (match hget s.hp b with
      | some .held => opLoadH T.tt (some b) bo s t (.ptr id pa) k
      | _ => none)
    | _, _ => opLoad T.tt s t (.ptr id pa) k)
  | a => opLoad T.tt s t a k
theorem opLoadR_ok (hT : T.tt.ok P) (hg : EnvOk K T) {t : Nat} {a : SV} {x : Operand} (i : Inv K s w) (ha : a.den K ((AF n τ).eval x)) (h : opLoadR T s t a k = some r) : OpR P n ⟨dst, .load t x, ty, pos, af, gd'⟩ τ w K k r := by
  unfold opLoadR at h
  split at h
  · split at h
    · rename_i id pa _ _ b bo hro hn
      split at h <;> try (cases h; done)
      rename_i hh
      have hb : BoOk K (some b) bo := by have := hg.2; rw [hro] at this; exact this
      obtain ⟨v, sv, hd, hk, hev⟩ := opLoadH_ok (P := P) (n := n) (τ := τ) (dst := dst) (ty := ty) (pos := pos) (af := af) (gd' := gd') hT i hb ha h
      have hbw : HB K (some b) w := i.held hh
      exact OpR.soft (hev w i.memR hbw) i hd hk
    · exact opLoad_ok hT i ha h
  · exact opLoad_ok hT i ha h
/-- a load of an array that stands within another one -/
noncomputable def opLoadV (T : TB) (s : SS) (t : Nat) (a : SV) (k : SV → SS → Option β) : Option β := match a with
  | .ptr id pa => (match tg T t, lastI pa with
    | some ti, some (p, lo, z) => bif Nat.beq z ti.size then opLoadR T s t (.ptr id pa) k else (match ti.desc with
      | .array m e => (match tg T e with
        | some ei => bif Nat.beq z ei.size && Nat.beq ti.size (m * ei.ty.w) && vwB s (.vw id pa m) && Nat.ble 1 m then vwC s id pa m ei.ty fun y => k (.d (.arr m ei.ty) y) s else opLoadR T s t (.ptr id pa) k
        | none => opLoadR T s t (.ptr id pa) k)
      | _ => opLoadR T s t (.ptr id pa) k)
    | _, _ => opLoadR T s t (.ptr id pa) k)
  | a => opLoadR T s t a k
theorem opLoadV_ok (hT : T.ok P) (hg : EnvOk K T) {t : Nat} {a : SV} {x : Operand} (i : Inv K s w) (ha : a.den K ((AF n τ).eval x)) (h : opLoadV T s t a k = some r) : OpR P n ⟨dst, .load t x, ty, pos, af, gd'⟩ τ w K k r := by
  unfold opLoadV at h
  split at h
  · rename_i id pa
    split at h
    · rename_i ti p lo z hti hp
      cases hz : Nat.beq z ti.size with
      | true => rw [hz, cond_true] at h; exact opLoadR_ok hT.tt hg i ha h
      | false =>
      rw [hz, cond_false] at h
      split at h
      · rename_i m e hdd
        split at h
        · rename_i ei hei
          cases hb : Nat.beq z ei.size && Nat.beq ti.size (m * ei.ty.w) && vwB s (.vw id pa m) && Nat.ble 1 m with
          | false => rw [hb, cond_false] at h; exact opLoadR_ok hT.tt hg i ha h
          | true =>
          rw [hb, cond_true] at h
          simp only [Bool.and_eq_true] at hb
          obtain ⟨⟨⟨hb1, hb2⟩, hb3⟩, hb4⟩ := hb
          have hsz := Nat.eq_of_beq_eq_true hb2
          have h1 := Nat.le_of_ble_eq_true hb4
          obtain ⟨u, b, hE, hB, e⟩ := ha
          have e' : (AF n τ).eval x = .pointer (some ⟨b, pOff pa, none⟩) := by simpa using e
          have hv : (SV.vw id pa m).den K (.slice (some ⟨b, pOff pa, none⟩) m m) := by
            refine ⟨_, m, rfl, Nat.le_refl _, .inr ⟨u, b, hE, hB, rfl⟩, u, hE, fun X0 n0 c0 z0 hu _ => ?_⟩
            simp only [vwB] at hb3
            split at hb3
            · rename_i hgq
              obtain ⟨b', st1⟩ := (i.take hgq).ex
              obtain ⟨cs, st2⟩ := st1.ex
              obtain ⟨hE', _⟩ := st2.iff
              rw [hE, hu] at hE'; cases hE'
            · cases hb3
          obtain ⟨hh, hall, hdj, hr, _⟩ := i.st
          obtain ⟨l, hsl, hlm, hpu, hk⟩ := vw_den (M := uni K.p.h hh) hdj hall (fun _ _ h => h) hv h
          obtain ⟨X, c, hXe, hc, hX⟩ := hsl
          obtain ⟨b2, o2, ds, hX2, hat, hcat⟩ := hX.resolve_left (by omega)
          subst hX2
          have hXe' : (⟨b, pOff pa, none⟩ : Addr) = ⟨b2, o2, none⟩ := by simpa using (Value.slice.inj hXe).1
          cases hXe'
          have hds : ds.length = ti.size := by rw [Cat.length (fun x c h => DenT.length h) hcat, hsz, hlm]
          have hden : DenT K.p.h (.arr m ei.ty) l ds := ⟨hlm, hcat⟩
          obtain ⟨v, q1, q2, q3⟩ := VD.mk hden
          refine OpR.soft (v := v) (sv := .d (.arr m ei.ty) l) ?_ i ⟨v, rfl, q1⟩ hk
          have hag : aggV v = true := by rw [q3]; rfl
          refine Reads.ev (va := .pointer (some ⟨b, pOff pa, none⟩)) (i := ti.toTI) (tg_ok hT hti).ti e' ⟨b, pOff pa, rfl, ?_⟩ ?_ ?_ ?_
          · rw [q2]; exact hat.sub hr
          · have : v.cells.toList.length = ti.size := by rw [q2, hds]
            simpa using this
          · rw [hag, hdd]; rfl
          · intro hv; rw [hag] at hv; cases hv
        · exact opLoadR_ok hT.tt hg i ha h
      · exact opLoadR_ok hT.tt hg i ha h
    · exact opLoadR_ok hT.tt hg i ha h
  · exact opLoadR_ok hT.tt hg i ha h
end
end Go.GX
namespace Go.GX
open Go.RowKit Go.SL
set_option linter.unusedVariables false
set_option linter.unusedSimpArgs false

section
variable {P : Program} {n : Nat} {τ : Fr} {w : World} {β : Type} {dst : Option Tmp} {ty : TypeId} {pos : String} {af : Array Edge} {gd' : Option (Nat × Bool)} {K : Kn} {s : SS} {k : SV → SS → Option β} {r : β} {ρ : Rho} {T : TB}
noncomputable def opAlloc (T : TB) (s : SS) (e : Nat) (k : SV → SS → Option β) : Option β := match tg T e with
  | some i => k (.ptr s.nx []) (add1 s (.blk e i.zc))
  | none => none
theorem opAlloc_ok (hT : T.ok P) (i : Inv K s w) {e : Nat} (h : opAlloc T s e k = some r) : OpR P n ⟨dst, .alloc e, ty, pos, af, gd'⟩ τ w K k r := by
  unfold opAlloc at h
  split at h <;> try (cases h; done)
  rename_i ti hti
  have ok := tg_ok hT hti
  have hz : (P.info? e).bind (·.zero) = some ti.z := by
    have := ok.info
    cases hq : P.info? e with
    | none => rw [hq] at this; cases this
    | some q => rw [hq] at this; simp at this ⊢; exact this.1
  refine Go.SL.H.alloc hz i.st fun b w' st => ?_
  have e1 : ti.z.cells = ti.z.cells.toList.toArray := by simp
  rw [e1] at st
  obtain ⟨K', le, i', hd⟩ := new_blk i.nx (ren_ok ok.ren) st
  exact ⟨_, _, K', le, i', hd, h⟩
noncomputable def opBox (ρ : Rho) (s : SS) (e : Nat) (x : Operand) (k : SV → SS → Option β) : Option β := match ρ x with
  | some (.bd (.arr n t) y) => bif t.flat then k (.dp (.arr n t) y) s else none
  | some v => match (CT.ofp v).1 with
    | some c => k (.ptr s.nx []) (add1 s (.blk e c))
    | none => none
  | none => none
theorem opBox_ok (hρ : RhoOk K ρ (AF n τ).eval) (i : Inv K s w) {e : Nat} {x : Operand} (h : opBox ρ s e x k = some r) : OpR P n ⟨dst, .box e x, ty, pos, af, gd'⟩ τ w K k r := by
  unfold opBox at h
  split at h <;> try (cases h; done)
  · rename_i m t y hv
    cases hf : t.flat with
    | false => rw [hf, cond_false] at h; cases h
    | true =>
    rw [hf, cond_true] at h
    obtain ⟨v, hve, hvd⟩ := hρ _ _ hv
    have hve' : (AF n τ).eval x = v := by simpa using hve
    obtain ⟨cs, hcs, hden⟩ : ∃ cs : List Value, v = .agg cs.toArray ∧ DenT K.rd (.arr m t) y cs := hvd
    have hden' : DenT K.p.h (.arr m t) y cs := flat_mem (t := .arr m t) (by simpa [Ty.flat] using hf) hden
    refine Go.SL.H.box rfl i.st fun b w' st => ?_
    have hc : ((AF n τ).eval x).cells = cs.toArray := by rw [hve', hcs]; rfl
    rw [hc] at st
    obtain ⟨q, leq, hq, st4⟩ := st.keepPt
    have le : K.le (K.grow q) := Kn.grow_le leq (X := asns K s.hp) st4
    have i5 : Inv (K.grow q) s w' := ⟨St.asns le st4, ⟨i.nx.eq, i.nx.no⟩⟩
    refine ⟨.dp (.arr m t) y, s, K.grow q, le, i5, ⟨b, 0, cs, rfl, ⟨_, _, _, hq, fun j u hj => ?_⟩, DenT.sub leq.h hden'⟩, h⟩
    rw [Nat.zero_add]; simpa using hj
  rename_i v _ hv
  split at h <;> try (cases h; done)
  rename_i c hc
  refine Go.SL.H.box rfl i.st fun b w' st => ?_
  have e1 : ((AF n τ).eval x).cells = ((AF n τ).eval x).cells.toList.toArray := by simp
  rw [e1] at st
  obtain ⟨K', le, i', hd⟩ := new_blk i.nx (ofp_ok.1 hc (hρ _ _ hv)) st
  exact ⟨_, _, K', le, i', hd, h⟩
/-- what stands in a new element of one cell -/
noncomputable def zero1 : (t : Ty) → Value → Option t.T
  | .int, .int .i64 (.ofNat 0) => some (0 : Int)
  | .u8, .int .u8 (.ofNat 0) => some 0#8
  | .u32, .int .u32 (.ofNat 0) => some 0#32
  | .u64, .int .u64 (.ofNat 0) => some 0#64
  | .bool, .bool false => some false
  | .fz t, .slice none 0 0 => bif t.pure then some ([] : List t.T) else none
  | _, _ => none
theorem zero1_ok {m : Mem} {t : Ty} {z : Value} {x : t.T} (h : zero1 t z = some x) : DenT m t x [z] ∧ z.cells = #[z] ∧ t.pure = true ∧ t.w = 1 := by
  unfold zero1 at h
  split at h <;> first | (cases h; done) | (cases h; exact ⟨rfl, rfl, rfl, rfl⟩) | skip
  rename_i t
  cases hp : t.pure with
  | false => rw [hp, cond_false] at h; cases h
  | true =>
    rw [hp, cond_true] at h; cases h
    exact ⟨⟨none, 0, rfl, Nat.le_refl _, .inl rfl⟩, rfl, hp, rfl⟩
theorem cat_rep {m : Mem} {t : Ty} {x : t.T} {z : Value} (h : DenT m t x [z]) : ∀ k, Cat (fun x c => DenT m t x c) (List.replicate k x) (List.replicate k z) := by
  intro k
  induction k with
  | zero => rfl
  | succ k ih => exact ⟨[z], _, rfl, h, ih⟩
noncomputable def opMakeSl (T : TB) (ρ : Rho) (s : SS) (t : Nat) (x y : Operand) (k : SV → SS → Option β) : Option β := match ρ x, ρ y, tg T t with
  | some a, some b, some ti => match ti.desc with
    | .slice e => match tg T e with
      | some ei => (match zero1 ei.ty ei.z with
        | some z => bif Nat.beq ei.size 1 && Nat.ble ei.bytes 64 then natK a fun i => natK b fun j => gd (i = j) (gd (i ≤ 1000000) (k (.vr s.nx) (add1 s (.row e ei.ty (List.replicate i z))))) else none
        | none => none)
      | none => none
    | _ => none
  | _, _, _ => none
theorem opMakeSl_ok (hT : T.ok P) (hρ : RhoOk K ρ (AF n τ).eval) (i : Inv K s w) {t : Nat} {x y : Operand} (h : opMakeSl T ρ s t x y k = some r) : OpR P n ⟨dst, .makeSlice t x y, ty, pos, af, gd'⟩ τ w K k r := by
  unfold opMakeSl at h
  split at h <;> try (cases h; done)
  rename_i a b ti ha hb hti
  have hd := (tg_ok hT hti).desc
  split at h <;> try (cases h; done)
  rename_i e hdd
  rw [hdd] at hd
  split at h <;> try (cases h; done)
  rename_i ei hei
  have ok := tg_ok hT hei
  split at h <;> try (cases h; done)
  rename_i z hz
  cases hq : Nat.beq ei.size 1 && Nat.ble ei.bytes 64 with
  | false => rw [hq, cond_false] at h; cases h
  | true =>
  rw [hq, cond_true] at h
  simp only [Bool.and_eq_true] at hq
  have hw := Nat.eq_of_beq_eq_true hq.1
  have hbytes := Nat.le_of_ble_eq_true hq.2
  obtain ⟨p, kk, hp, h⟩ := natK_ok h (hρ _ _ ha)
  obtain ⟨q, kk', hq2, h⟩ := natK_ok h (hρ _ _ hb)
  obtain ⟨hpq, h⟩ := gd_some h
  obtain ⟨hle, h⟩ := gd_some h
  obtain ⟨hden, hcel, hpu, hw1⟩ := zero1_ok (m := K.p.h) hz
  have hinfo := ok.info
  rw [hw] at hinfo
  refine Go.SL.H.make (k := p) hd hinfo hcel hp hq2 rfl (by rw [← hpq]) (by have := Nat.mul_le_mul hbytes hle; omega) hle i.st fun g w' st => ?_
  have st4 : St K.p w' ((EN.row e ei.ty (List.replicate p z)).asn (K.name (.slice (some ⟨g, 0, none⟩) p p)) K.nx :: (asns K s.hp ++ ([] ++ [Exact K.F]))) := by
    refine St.mkex (.slice (some ⟨g, 0, none⟩) p p) (St.mkex (List.replicate p ei.z) (St.mkiff Kn.name_eq (St.mksep ?_)))
    rw [hw1, List.length_replicate]
    refine St.swap ?_
    rw [catA_pure (fun x c => oa_pure _ ei.ty hpu x c)]
    exact St.mkpu (cat_rep hden p) st
  obtain ⟨le, i'⟩ := Inv2.name i.nx st4
  exact ⟨.vr s.nx, _, _, le, i'.inv, ⟨_, _, _, by rw [i.nx.eq]; exact Kn.name_eq, rfl⟩, h⟩
end

/-! ### frames -/
abbrev FM := List (Nat × SV)
noncomputable def flook : FM → Nat → Option SV
  | [], _ => none
  | (y, u) :: l, x => bif Nat.beq y x then some u else flook l x
noncomputable def FrOk (K : Kn) (fr : FM) (τ : Fr) : Prop := ∀ x s, flook fr x = some s → s.den K (τ x)
theorem FrOk.mono {K L : Kn} (le : K.le L) {fr : FM} {τ : Fr} (h : FrOk K fr τ) : FrOk L fr τ := fun x s e => SV.mono le (h x s e)
noncomputable def fput (fr : FM) : Option Nat → SV → FM
  | some d, s => (d, s) :: fr
  | none, _ => fr
noncomputable def frPut {β : Type} (fr : FM) (d : Option Nat) (s : SV) (k : FM → β) : β := match d with
  | some d => k ((d, s) :: fr)
  | none => k fr
@[simp] theorem frPut_eq {β : Type} (fr : FM) (d : Option Nat) (s : SV) (k : FM → β) : frPut fr d s k = k (fput fr d s) := by cases d <;> rfl
theorem FrOk.put {K : Kn} {fr : FM} {τ : Fr} (h : FrOk K fr τ) (d : Option Nat) {s : SV} {v : Value} (hd : s.den K v) : FrOk K (fput fr d s) (upo τ d v) := by
  cases d with
  | none => exact h
  | some d =>
    intro x t e
    simp only [fput, flook] at e
    cases hb : Nat.beq d x with
    | true =>
      rw [hb, cond_true] at e; cases e
      have := Nat.eq_of_beq_eq_true hb; subst this
      rw [tp]; exact hd
    | false =>
      rw [hb, cond_false] at e
      have hn : Nat.beq x d = false := by
        cases h2 : Nat.beq x d with
        | false => rfl
        | true => have := Nat.eq_of_beq_eq_true h2; subst this; rw [Nat.beq_refl] at hb; cases hb
      rw [up hn rfl]; exact h x t e
/-- another reading of a slot, as good -/
theorem FrOk.as {K : Kn} {fr : FM} {τ : Fr} (h : FrOk K fr τ) {x : Nat} {s : SV} (hd : s.den K (τ x)) : FrOk K ((x, s) :: fr) τ := by
  intro y t e
  simp only [flook] at e
  cases hb : Nat.beq x y with
  | true =>
    rw [hb, cond_true] at e; cases e
    have := Nat.eq_of_beq_eq_true hb; subst this
    exact hd
  | false => rw [hb, cond_false] at e; exact h y t e
noncomputable def cstS : Value → SV
  | .int .i64 z => .d .int z
  | .int .u8 z => if 0 ≤ z ∧ z < 256 then .d .u8 (BitVec.ofNat 8 z.toNat) else .lit (.int .u8 z)
  | .int .u32 z => if 0 ≤ z ∧ z < 4294967296 then .d .u32 (BitVec.ofNat 32 z.toNat) else .lit (.int .u32 z)
  | .int .u64 z => if 0 ≤ z ∧ z < 18446744073709551616 then .d .u64 (BitVec.ofNat 64 z.toNat) else .lit (.int .u64 z)
  | .bool b => .d .bool b
  | .string s => .d .str (s.data.toList.map UInt8.toBitVec)
  | .slice none 0 0 => .nilS
  | .pointer none => .nilP
  | .map none => .nilM
  | .nilFunc => .nilF
  | .nilIface => .nilI
  | v => .lit v
theorem cstS_ok {K : Kn} (v : Value) : (cstS v).den K v := by
  unfold cstS
  split
  · exact ⟨_, rfl, rfl⟩
  · split
    · rename_i z h
      refine ⟨_, rfl, ?_⟩
      show [_] = [_]
      rw [BitVec.toNat_ofNat]; congr 2; show z = ((z.toNat % 256 : Nat) : Int); omega
    · rfl
  · split
    · rename_i z h
      refine ⟨_, rfl, ?_⟩
      show [_] = [_]
      rw [BitVec.toNat_ofNat]; congr 2; show z = ((z.toNat % 4294967296 : Nat) : Int); omega
    · rfl
  · split
    · rename_i z h
      refine ⟨_, rfl, ?_⟩
      show [_] = [_]
      rw [BitVec.toNat_ofNat]; congr 2; show z = ((z.toNat % 18446744073709551616 : Nat) : Int); omega
    · rfl
  · exact ⟨_, rfl, rfl⟩
  · rename_i s
    refine ⟨_, rfl, ?_⟩
    show [_] = [_]
    congr 2
    obtain ⟨⟨l⟩⟩ := s
    simp only [List.map_map]
    congr 2
    exact (List.map_id l).symm.trans (List.map_congr_left fun a _ => rfl)
  all_goals rfl
noncomputable def rho (gs : List (Nat × SV)) (n : Nat) (fr : FM) : Rho
  | .tmp x => bif Nat.blt x n then flook fr x else none
  | .const c => some (cstS c)
  | .func f => some (.fn (.func f) .nl .nl)
  | .global g => gget gs g
theorem rho_ok {K : Kn} {gs : List (Nat × SV)} (hg : GlS K.p gs) {n : Nat} {fr : FM} {τ : Fr} (h : FrOk K fr τ) : RhoOk K (rho gs n fr) (AF n τ).eval := by
  intro x s e
  cases x with
  | tmp x =>
    simp only [rho] at e
    cases hb : Nat.blt x n with
    | true => rw [hb, cond_true] at e; rw [AF_ev hb rfl]; exact h x s e
    | false => rw [hb, cond_false] at e; cases e
  | const c => cases e; exact cstS_ok c
  | func f => cases e; exact ⟨[], [], rfl, rfl, rfl⟩
  | global g =>
    obtain ⟨t, x, cs, rfl, h1, h2⟩ := hg g s e
    exact ⟨g, 0, cs, rfl, h1, h2⟩

/-! ### one operation -/
/-- what carries out a call of a function -/
noncomputable def CallH (β : Type) := FuncId → List SV → SS → (SV → SS → Option β) → Option β
noncomputable def CallOk (P : Program) (T : TB) {β : Type} (C : CallH β) : Prop := ∀ (f : FuncId) (as : List SV) (s : SS) (k : SV → SS → Option β) (r : β), C f as s k = some r → ∀ (K : Kn) (w : World) (vs : List Value), EnvOk K T → Inv K s w → as.length = vs.length → (∀ (i : Nat) (a : SV) (v : Value), as[i]? = some a → vs[i]? = some v → a.den K v) →
  (∃ fn, P.funcs[f]? = some fn ∧ (fn.name == "runtime.NumGoroutine") = false ∧ fn.body.isNone = false) ∧
  Calls P f vs.toArray w fun e w' => ∃ v sv s' K', e = .returned v ∧ K.le K' ∧ Inv K' s' w' ∧ sv.den K' v ∧ k sv s' = some r
noncomputable def toL : SV → Option (List SV)
  | .nl => some []
  | .pr a b => match toL b with
    | some l => some (a :: l)
    | none => none
  | _ => none
noncomputable def opCall {β : Type} (C : CallH β) (ρ : Rho) (s : SS) (f : Operand) (xs : List Operand) (k : SV → SS → Option β) : Option β := match ρ f, mapS ρ xs with
  | some (.fn (.func q) b c), some l => match toL b, toL l, toL c with
    | some bs, some as, some cs => C q (bs ++ (as ++ cs)) s k
    | _, _, _ => none
  | _, _ => none
theorem toL_ok {K : Kn} : ∀ {s : SV} {l : List SV} {vs : List Value}, toL s = some l → s.dn K .l vs → l.length = vs.length ∧ ∀ (i : Nat) (a : SV) (v : Value), l[i]? = some a → vs[i]? = some v → a.den K v := by
  intro s
  induction s with
  | nl => intro l vs h hd; cases h; cases hd; exact ⟨rfl, fun i a v h => by cases h⟩
  | pr a b iha ihb =>
    intro l vs h hd
    simp only [toL] at h
    split at h <;> try (cases h; done)
    rename_i l' hl
    cases h
    obtain ⟨v, d, rfl, h1, h2⟩ := hd
    obtain ⟨e, h3⟩ := ihb hl h2
    refine ⟨by simp [e], fun i x u hx hu => ?_⟩
    cases i with
    | zero => cases hx; cases hu; exact h1
    | succ i => exact h3 i x u (by simpa using hx) (by simpa using hu)
  | _ => intro l vs h; cases h
section
variable {P : Program} {n : Nat} {τ : Fr} {w : World} {β : Type} {dst : Option Tmp} {ty : TypeId} {pos : String} {af : Array Edge} {gd' : Option (Nat × Bool)} {K : Kn} {s : SS} {k : SV → SS → Option β} {r : β} {ρ : Rho} {T : TB} {C : CallH β}
theorem H.callB {K : Value → World → Prop} {k : FuncId} {fn : Func} {f : Operand} {xs : Array Operand} {ts : Array TypeId} {as bnd cap : Array Value} (hf : (Act.eval (AF n τ)) f = .func (.func k) bnd cap) (hfn : P.funcs[k]? = some fn) (hnm : (fn.name == "runtime.NumGoroutine") = false)
    (hb : fn.body.isNone = false) (ha : xs.map (Act.eval (AF n τ)) = as) (h : Calls P k (bnd ++ as ++ cap) w fun e w' => ∃ v, e = .returned v ∧ K v w') : Hd P n ⟨dst, .call ⟨.value f, xs, ts⟩, ty, pos, af, gd'⟩ τ w K := by
  refine Hd.enter (f := k) (args := bnd ++ as ++ cap) (w' := w) ?_ h
  have h1 : ¬ fn.name = "runtime.NumGoroutine" := by simpa using hnm
  have h2 : ¬ fn.body = none := by intro e; rw [e] at hb; cases hb
  simp [execOp, resolve, hf, Deferred.ofValue, invoke, callFunc, hfn, h1, h2, ha]
theorem opCall_ok (hC : CallOk P T C) (hg : EnvOk K T) (hρ : RhoOk K ρ (AF n τ).eval) (i : Inv K s w) {f : Operand} {xs : Array Operand} {ts : Array TypeId} (h : opCall C ρ s f xs.toList k = some r) : OpR P n ⟨dst, .call ⟨.value f, xs, ts⟩, ty, pos, af, gd'⟩ τ w K k r := by
  unfold opCall at h
  split at h <;> try (cases h; done)
  rename_i q b c l hf hl
  split at h <;> try (cases h; done)
  rename_i bs as cs hbs has hcs
  obtain ⟨bv, cv, hfe, hbd, hcd⟩ := hρ _ _ hf
  have hfe' : (AF n τ).eval f = .func (.func q) bv.toArray cv.toArray := by simpa using hfe
  have hld := mapS_ok hρ hl
  obtain ⟨e1, d1⟩ := toL_ok has hld
  obtain ⟨e2, d2⟩ := toL_ok hcs hcd
  obtain ⟨e0, d0⟩ := toL_ok hbs hbd
  have join : ∀ {as bs : List SV} {us vs : List Value}, as.length = us.length → (∀ (i : Nat) (a : SV) (v : Value), as[i]? = some a → us[i]? = some v → a.den K v) → (∀ (i : Nat) (a : SV) (v : Value), bs[i]? = some a → vs[i]? = some v → a.den K v) →
      ∀ (i : Nat) (a : SV) (v : Value), (as ++ bs)[i]? = some a → (us ++ vs)[i]? = some v → a.den K v := by
    intro as bs us vs e1 d1 d2 i a v ha hv
    rcases Nat.lt_or_ge i as.length with hlt | hge
    · rw [List.getElem?_append_left hlt] at ha
      rw [List.getElem?_append_left (by omega)] at hv
      exact d1 i a v ha hv
    · rw [List.getElem?_append_right hge] at ha
      rw [List.getElem?_append_right (by omega), ← e1] at hv
      exact d2 _ a v ha hv
  obtain ⟨⟨fn, h1, h2, h3⟩, hcall⟩ := hC q (bs ++ (as ++ cs)) s k r h K w (bv ++ (xs.toList.map (AF n τ).eval ++ cv)) hg i (by simp [e0, e1, e2]) (join e0 d0 (join e1 d1 d2))
  refine H.callB (as := xs.map (AF n τ).eval) (bnd := bv.toArray) (cap := cv.toArray) hfe' h1 h2 h3 rfl ?_
  have e3 : (bv ++ (xs.toList.map (AF n τ).eval ++ cv)).toArray = bv.toArray ++ xs.map (AF n τ).eval ++ cv.toArray := by
    obtain ⟨l⟩ := xs; simp
  rw [e3] at hcall
  refine Calls.mono hcall ?_
  rintro e w' ⟨v, sv, s', K', rfl, rest⟩
  exact ⟨v, rfl, sv, s', K', rest⟩
/-- one operation -/
noncomputable def step (T : TB) (C : CallH β) (ρ : Rho) (s : SS) (o : Op) (k : SV → SS → Option β) : Option β := match o with
  | .move x => pMove ρ s x k
  | .assign x => pMove ρ s x k
  | .pick c x y => pPick ρ s c x y k
  | .binOp op t x y _ => pBinY T ρ s op t x y k
  | .unOp op _ x => pUn ρ s op x k
  | .convert a b x => bif isStrB T a b then opStrB T ρ s a b x k else bif Nat.beq a b && isSl T a then opConvS T ρ s a x k else pConv T ρ s a b x k
  | .fieldAddr t x i => pFieldAddr T ρ s t x i k
  | .nilCheck x => pNilCheck ρ s x k
  | .extract x i => pExtract ρ s x i k
  | .indexAddr t x y => pIndexAddr T ρ s t x y k
  | .build t ps => pBuildX T ρ s t ps.toList k
  | .makeFunc f bs cs => pMakeFunc ρ s f bs.toList cs.toList k
  | .index t x y => pIndexX T ρ s t x y k
  | .slice t x lo hi none => pSlice T ρ s t x lo hi k
  | .slice t x none (some hi) (some mx) => pSliceC T ρ s t x hi mx k
  | .sliceToArrayPointer t x => pArrP T ρ s t x k
  | .makeMap t none => opMakeMap T s t k
  | .makeSlice t x y => opMakeSl T ρ s t x y k
  | .lookup t x y true => opLookup T ρ s t x y k
  | .lookup t x y false => opLookup1 T ρ s t x y k
  | .mapUpdate t x y z => opMapPut T ρ s t x y z k
  | .load t x => match ρ x with
    | some a => opLoadV T s t a k
    | none => none
  | .store t x y => match ρ x, ρ y with
    | some a, some v => opStore T.tt s t a v k
    | _, _ => none
  | .alloc e => opAlloc T s e k
  | .box e x => opBox ρ s e x k
  | .buildSlice t len ps => opRowX T ρ s t len ps.toList k
  | .call c => match c with
    | ⟨.value f, xs, _⟩ => opCall C ρ s f xs.toList k
    | ⟨.builtin .len, ⟨[x]⟩, ⟨[t]⟩⟩ => (match mapD T t with
      | some _ => pLenM T ρ s x t k
      | none => pLen T ρ s x t k)
    | ⟨.builtin .cap, ⟨[x]⟩, ⟨[t]⟩⟩ => pCap0 T ρ s x t k
    | ⟨.builtin .delete, ⟨[x, y]⟩, ⟨[t, _]⟩⟩ => opMapDel T ρ s t x y k
    | ⟨.builtin .clear, ⟨[x]⟩, ⟨[t]⟩⟩ => opClear T ρ s t x k
    | ⟨.builtin .min, ⟨[x, y]⟩, _⟩ => pMin ρ s x y k
    | ⟨.builtin .max, ⟨[x, y]⟩, _⟩ => pMax ρ s x y k
    | ⟨.builtin .append, ⟨[x, y]⟩, ⟨[t, t']⟩⟩ => bif Nat.beq t t' then opAppend T ρ s t x y k else opAppZ T ρ s t t' x y k
    | ⟨.builtin .copy, ⟨[x, y]⟩, ⟨[t, _]⟩⟩ => opCopy T ρ s t x y k
    | _ => none
  | _ => none
theorem step_ok (hT : T.ok P) (hC : CallOk P T C) (hg : EnvOk K T) (hρ : RhoOk K ρ (AF n τ).eval) (i : Inv K s w) {o : Op} (h : step T C ρ s o k = some r) : OpR P n ⟨dst, o, ty, pos, af, gd'⟩ τ w K k r := by
  unfold step at h
  split at h
  · exact (pMove_ok hρ i h).opR
  · exact (pAssign_ok hρ i h).opR
  · exact (pPick_ok hρ i h).opR
  · exact (pBinY_ok hT hρ i h).opR
  · exact (pUn_ok hρ i h).opR
  · rename_i a b x
    cases hb : isStrB T a b with
    | true => rw [hb, cond_true] at h; exact opStrB_ok hT hρ i h
    | false =>
      rw [hb, cond_false] at h
      cases hb2 : Nat.beq a b && isSl T a with
      | true =>
        rw [hb2, cond_true] at h
        simp only [Bool.and_eq_true] at hb2
        have := Nat.eq_of_beq_eq_true hb2.1; subst this
        exact opConvS_ok hT hρ i h
      | false => rw [hb2, cond_false] at h; exact (pConv_ok hT hρ i h).opR
  · exact (pFieldAddr_ok hT hρ i h).opR
  · exact (pNilCheck_ok hρ i h).opR
  · exact (pExtract_ok hρ i h).opR
  · exact (pIndexAddr_ok hT hρ i h).opR
  · exact (pBuildX_ok hT hρ i h).opR
  · exact (pMakeFunc_ok hρ i h).opR
  · exact (pIndexX_ok hT hρ i h).opR
  · exact (pSlice_ok hT hρ i h).opR
  · exact (pSliceC_ok hT hρ i h).opR
  · exact (pArrP_ok hT hρ i h).opR
  · exact opMakeMap_ok hT i h
  · exact opMakeSl_ok hT hρ i h
  · exact opLookup_ok hT hρ i h
  · exact opLookup1_ok hT hρ i h
  · exact opMapPut_ok hT hρ i h
  · split at h <;> try (cases h; done)
    rename_i a ha
    exact opLoadV_ok hT hg i (hρ _ _ ha) h
  · split at h <;> try (cases h; done)
    rename_i a v ha hv
    exact opStore_ok hT.tt i (hρ _ _ ha) (hρ _ _ hv) h
  · exact opAlloc_ok hT i h
  · exact opBox_ok hρ i h
  · exact opRowX_ok hT hρ i h
  · split at h
    · exact opCall_ok hC hg hρ i h
    · split at h
      · exact opLenM_ok hT hρ i h
      · exact (pLen_ok hT hρ i h).opR
    · exact (pCap0_ok hT hρ i h).opR
    · exact opMapDel_ok hT hρ i h
    · exact opClear_ok hT hρ i h
    · exact (pMin_ok hρ i h).opR
    · exact (pMax_ok hρ i h).opR
    · rename_i t t'
      cases hb : Nat.beq t t' with
      | false => rw [hb, cond_false] at h; exact opAppZ_ok hT hρ i h
      | true =>
        rw [hb, cond_true] at h
        have := Nat.eq_of_beq_eq_true hb; subst this
        exact opAppend_ok hT hρ i h
    · exact opCopy_ok hT hρ i h
    · cases h
  · cases h
end

/-! ### a region in its own order -/
noncomputable def guardOf {β : Type} (ops : Array Oper) (fr : FM) (g : Option (Nat × Bool)) (yes no : FM → Option β) : Option β := match g with
  | none => yes fr
  | some (j, c) => match (ops[j]?).bind (·.dst) with
    | some x => match flook fr x with
      | some (.d .bool b) => br b (match c with | true => yes ((x, .d .bool true) :: fr) | false => no ((x, .d .bool true) :: fr)) (match c with | true => no ((x, .d .bool false) :: fr) | false => yes ((x, .d .bool false) :: fr))
      | some .un => no fr
      | _ => none
    | none => none
theorem guardOf_ok {β : Type} {ops : Array Oper} {fr : FM} {o : Oper} {yes no : FM → Option β} {r : β} {K : Kn} {n : Nat} {τ : Fr} {Z : Prop} (hf : FrOk K fr τ) (hn : ∀ (j x : Nat), (ops[j]?).bind (fun o => o.dst) = some x → Nat.blt x n = true) (h : guardOf ops fr o.guard yes no = some r)
    (hy : ∀ fr', FrOk K fr' τ → yes fr' = some r → Wd n ops o τ true → Z) (hno : ∀ fr', FrOk K fr' τ → no fr' = some r → Wd n ops o τ false → Z) : Z := by
  obtain ⟨dst, op, ty, pos, af, g⟩ := o
  simp only at h
  unfold guardOf at h
  split at h
  · exact hy fr hf h Wd.a
  · rename_i j c
    split at h <;> try (cases h; done)
    rename_i x hx
    have hb := hn j x hx
    split at h <;> try (cases h; done)
    · rename_i b hl
      have hd := hf x _ hl
      obtain ⟨v, e1, e2⟩ := hd
      have hv : τ x = .bool b := by
        have q1 : [τ x] = [v] := e1
        have q2 : [v] = [Value.bool b] := e2
        rw [q2] at q1; simpa using q1
      have hev : (AF n τ).eval (.tmp x) = .bool b := AF_ev hb hv
      rcases br_some h with ⟨rfl, h'⟩ | ⟨rfl, h'⟩
      · have hf' : FrOk K ((x, .d .bool true) :: fr) τ := hf.as (by rw [hv]; exact bool_d _)
        cases c with
        | true => exact hy _ hf' h' (Wd.yes hx hev)
        | false => exact hno _ hf' h' (Wd.no hx hev rfl)
      · have hf' : FrOk K ((x, .d .bool false) :: fr) τ := hf.as (by rw [hv]; exact bool_d _)
        cases c with
        | true => exact hno _ hf' h' (Wd.no hx hev rfl)
        | false => exact hy _ hf' h' (Wd.yes hx hev)
    · rename_i hl
      have hd := hf x _ hl
      have hv : τ x = undef := by have q : [τ x] = [undef] := hd; simpa using q
      exact hno _ hf h (Wd.u hx (AF_ev hb hv))
noncomputable def sxR {β : Type} (T : TB) (C : CallH β) (n : Nat) (ops : Array Oper) : List Oper → FM → SS → (FM → SS → Option β) → Option β
  | [], fr, s, k => k fr s
  | o :: l, fr, s, k => guardOf ops fr o.guard
      (fun fr => step T C (rho T.gs n fr) s o.op fun sv s' => frSV sv fun sv => frSS s' fun s' => frPut fr o.dst sv fun fr => sxR T C n ops l fr s' k)
      (fun fr => frPut fr o.dst .un fun fr => sxR T C n ops l fr s k)
noncomputable def dstOps (l : List Oper) (x : Nat) : Bool := l.any fun o => match o.dst with | some d => Nat.beq d x | none => false
theorem sxR_ok {β : Type} {P : Program} {T : TB} {C : CallH β} {n : Nat} {ops : Array Oper} {r : β} {k : FM → SS → Option β} {Q : Exit → Fr → World → Prop} (hT : T.ok P) (hC : CallOk P T C) (hn : ∀ (j x : Nat), (ops[j]?).bind (fun o => o.dst) = some x → Nat.blt x n = true) :
    ∀ (l : List Oper) (fr : FM) (s : SS) (K : Kn) (τ : Fr) (w : World), sxR T C n ops l fr s k = some r → Inv K s w → FrOk K fr τ → EnvOk K T →
      (∀ fr' s' K' τ' w', k fr' s' = some r → K.le K' → Inv K' s' w' → FrOk K' fr' τ' → (∀ x, dstOps l x = false → τ' x = τ x) → Q .normal τ' w') → RW P n ops Q l τ w := by
  intro l
  induction l with
  | nil => intro fr s K τ w h i hf hg hk; exact RW.nil (hk fr s K τ w h (Kn.le.refl _) i hf fun _ _ => rfl)
  | cons o l ih =>
    intro fr s K τ w h i hf hg hk
    have keep : ∀ (v : Value) (x : Nat), dstOps (o :: l) x = false → dstOps l x = false ∧ upo τ o.dst v x = τ x := by
      intro v x hx
      simp only [dstOps, List.any_cons, Bool.or_eq_false_iff] at hx
      refine ⟨hx.2, ?_⟩
      cases hd : o.dst with
      | none => rfl
      | some d =>
        rw [hd] at hx
        have hxd : Nat.beq x d = false := by
          cases h2 : Nat.beq x d with
          | false => rfl
          | true => have := Nat.eq_of_beq_eq_true h2; subst this; have h3 := hx.1; simp only [Nat.beq_refl] at h3; cases h3
        exact up hxd rfl
    simp only [sxR, frSV_eq, frSS_eq, frPut_eq] at h
    refine guardOf_ok hf hn h ?_ ?_
    · intro fr' hf' hy hw
      refine RW.hard hw ?_
      obtain ⟨dst, op, ty, pos, af, g⟩ := o
      refine Hd.mono (step_ok hT hC hg (rho_ok hg.1 hf') i hy) ?_
      rintro v w' ⟨sv, s', K', le, i', hd, hk'⟩
      refine ih _ _ K' _ _ hk' i' ((hf'.mono le).put _ hd) (hg.mono le) fun fr2 s2 K2 τ2 w2 h1 h2 h3 h4 h5 => ?_
      exact hk fr2 s2 K2 τ2 w2 h1 (le.trans h2) h3 h4 fun x hx => by rw [h5 x (keep v x hx).1, (keep v x hx).2]
    · intro fr' hf' hno hw
      refine RW.pass hw ?_
      refine ih _ _ K _ _ hno i (hf'.put _ rfl) hg fun fr2 s2 K2 τ2 w2 h1 h2 h3 h4 h5 => ?_
      exact hk fr2 s2 K2 τ2 w2 h1 h2 h3 h4 fun x hx => by rw [h5 x (keep undef x hx).1, (keep undef x hx).2]
end Go.GX
