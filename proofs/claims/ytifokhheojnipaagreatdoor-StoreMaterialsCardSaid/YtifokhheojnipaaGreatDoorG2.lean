/- Loads and stores, as operations. -/
import Derived.Test.YtifokhheojnipaaGreatDoorG1
import Derived.Test.YtifokhheojnipaaGreatDoorA2
set_option linter.unusedVariables false
set_option linter.unusedSimpArgs false
set_option linter.unnecessarySimpa false
namespace Go.GX
open Go.RowKit Go.SL
set_option linter.unusedVariables false
set_option linter.unusedSimpArgs false

/-! ### types -/
structure TI where
  desc : TypeDesc
  size : Nat
  bytes : Nat
abbrev TT := List (Nat × TI)
noncomputable def tget : TT → Nat → Option TI
  | [], _ => none
  | (k, n) :: l, id => bif Nat.beq k id then some n else tget l id
structure TI.ok (P : Program) (t : Nat) (i : TI) : Prop where
  desc : P.underlying t = some i.desc
  info : ∃ z, (P.info? t).map (fun i => (i.zero, i.size, i.bytes)) = some (some z, i.size, i.bytes) ∧ z.cells.size = i.size
noncomputable def TT.ok (P : Program) (T : TT) : Prop := ∀ e ∈ T, TI.ok P e.1 e.2
theorem tget_ok {P : Program} {T : TT} (h : T.ok P) {t : Nat} {i : TI} (e : tget T t = some i) : TI.ok P t i := by
  induction T with
  | nil => cases e
  | cons a l ih =>
    obtain ⟨y, q⟩ := a
    simp only [tget] at e
    cases hb : Nat.beq y t with
    | true =>
      rw [hb, cond_true] at e; cases e
      have := Nat.eq_of_beq_eq_true hb; subst this
      exact h (y, i) (List.mem_cons_self ..)
    | false => rw [hb, cond_false] at e; exact ih (fun z hz => h z (List.mem_cons_of_mem _ hz)) e
theorem TI.ok.size {P : Program} {t : Nat} {i : TI} (h : TI.ok P t i) : (P.info? t).map (·.size) = some i.size := by
  obtain ⟨z, h, _⟩ := h.info
  cases hq : P.info? t with
  | none => rw [hq] at h; cases h
  | some j => rw [hq] at h; simp at h ⊢; exact h.2.1
noncomputable def aggD : TypeDesc → Bool
  | .struct _ | .array _ _ => true
  | _ => false

/-! ### what an operation comes to -/
section
variable {P : Program} {n : Nat} {o : Oper} {τ : Fr} {w : World} {β : Type}
noncomputable def OpR (P : Program) (n : Nat) (o : Oper) (τ : Fr) (w : World) (K : Kn) (k : SV → SS → Option β) (r : β) : Prop :=
  Hd P n o τ w fun v w' => ∃ sv s' K', K.le K' ∧ Inv K' s' w' ∧ sv.den K' v ∧ k sv s' = some r
theorem OpR.soft {K : Kn} {s : SS} {k : SV → SS → Option β} {r : β} {v : Value} {sv : SV} (h : Ev P (AF n τ).eval o w v) (i : Inv K s w) (hd : sv.den K v) (hk : k sv s = some r) : OpR P n o τ w K k r :=
  Hd.value h ⟨sv, s, K, Kn.le.refl _, i, hd, hk⟩
theorem OpR.le {K L : Kn} {k : SV → SS → Option β} {r : β} (le : K.le L) (h : OpR P n o τ w L k r) : OpR P n o τ w K k r :=
  Hd.mono h fun v w' ⟨sv, s', K', l, i, d, e⟩ => ⟨sv, s', K', le.trans l, i, d, e⟩
end
/-- sub stands in c: what is held is told apart -/
theorem Ctx.st {K : Kn} {c sub : CT} {plug : CT → CT} {o : Nat} (hc : Ctx K c sub plug o) {p : Pers} {w : World} {H : List Assn} {cs : List Value} (st : St p w (CA K c cs :: H)) :
    ∃ c1 c2 c3 F, cs = c1 ++ (c2 ++ c3) ∧ c1.length = o ∧ St p w (CA K sub c2 :: F :: H) ∧
      ∀ K', K.le K' → ∀ s' c2' (q : Pers) (w' : World) (H' : List Assn), St q w' (CA K' s' c2' :: F :: H') → St q w' (CA K' (plug s') (c1 ++ (c2' ++ c3)) :: H') := by
  obtain ⟨h, ⟨a, b, d, e, hA, hb⟩, r⟩ := st
  obtain ⟨c1, c2, c3, F, e1, e2, q1, q2⟩ := hc cs a hA
  refine ⟨c1, c2, c3, F, e1, e2, ?_, ?_⟩
  · have : St p w (sep (CA K sub c2) F :: H) := ⟨h, ⟨a, b, d, e, q1, hb⟩, r⟩
    exact this.sep
  · intro K' le s' c2' q w' H' st'
    exact (St.mksep st').weaken fun h hh => q2 K' le s' c2' h hh

/-! ### what is held within is laid open -/
noncomputable def expo {β : Type} : CT → SS → (CT → SS → Option β) → Option β
  | .cel v, s, k => k (.cel v) s
  | .dat t x, s, k => bif t.pure then k (.dat t x) s else inV t x s fun sv s' => match (CT.ofp sv).1 with
    | some c => k c s'
    | none => none
  | .nl, s, k => k .nl s
  | .pr a b, s, k => expo a s fun a' s1 => expo b s1 fun b' s2 => k (.pr a' b') s2
theorem expo_ok {β : Type} {r : β} : ∀ {c : CT} {s : SS} {k : CT → SS → Option β}, expo c s k = some r → ∀ {K : Kn} {w : World} {X : List Assn} {cs : List Value}, Nx K s →
    St K.p w (CA K c cs :: (asns K s.hp ++ (X ++ [Exact K.F]))) →
    ∃ K' c' s', K.le K' ∧ K'.p = K.p ∧ Nx K' s' ∧ St K'.p w (CA K' c' cs :: (asns K' s'.hp ++ (X ++ [Exact K'.F]))) ∧ k c' s' = some r := by
  intro c
  induction c with
  | cel v => intro s k h K w X cs hn st; exact ⟨K, _, s, Kn.le.refl _, rfl, hn, st, h⟩
  | nl => intro s k h K w X cs hn st; exact ⟨K, _, s, Kn.le.refl _, rfl, hn, st, h⟩
  | dat t x =>
    intro s k h K w X cs hn st
    simp only [expo] at h
    cases hp : t.pure with
    | true => rw [hp, cond_true] at h; exact ⟨K, _, s, Kn.le.refl _, rfl, hn, st, h⟩
    | false =>
      rw [hp, cond_false] at h
      obtain ⟨K', u, sv, s', le, hp, i, hd, rfl, _, hk⟩ := (in_ok t).1 h hn st
      split at hk
      · rename_i c hc
        refine ⟨K', c, s', le, hp, i.nx, ?_, hk⟩
        obtain ⟨h0, ha, r1⟩ := i.st
        exact ⟨h0, ⟨none0, h0, fun _ => .inl rfl, (none0_uni h0).symm, ofp_ok.1 hc hd, ha⟩, r1⟩
      · cases hk
  | pr a b iha ihb =>
    intro s k h K w X cs hn st
    simp only [expo] at h
    obtain ⟨c1, sta⟩ := st.ex
    obtain ⟨c2, stb⟩ := sta.ex
    obtain ⟨rfl, stc⟩ := stb.iff
    have st1 : St K.p w (CA K a c1 :: (asns K s.hp ++ ((CA K b c2 :: X) ++ [Exact K.F]))) := stc.sep.swap.give (.there (Del.mid _))
    obtain ⟨K1, a', s1, le1, hp1, hn1, st2, hk1⟩ := iha h hn st1
    have st3 : St K1.p w (CA K1 b c2 :: (asns K1 s1.hp ++ ((CA K1 a' c1 :: X) ++ [Exact K1.F]))) := by
      have d1 := st2.take (.there (Del.mid (A := CA K b c2) (l2 := X ++ [Exact K1.F]) (asns K1 s1.hp)))
      exact (d1.weaken fun h q => CA.mono le1 q).swap.give (.there (Del.mid _))
    obtain ⟨K2, b', s2, le2, hp2, hn2, st4, hk2⟩ := ihb hk1 hn1 st3
    refine ⟨K2, .pr a' b', s2, le1.trans le2, hp2.trans hp1, hn2, ?_, hk2⟩
    have d2 := st4.take (.there (Del.mid (A := CA K1 a' c1) (l2 := X ++ [Exact K2.F]) (asns K2 s2.hp)))
    exact St.mkex c1 (St.mkex c2 (St.mkiff rfl (St.mksep (d2.weaken fun h q => CA.mono le2 q))))

/-! ### one element of a row laid open -/
theorem foc_mk {K : Kn} {t : Ty} {l : List t.T} {j : Nat} {y : t.T} {xs : List Value} (hy : l[j]? = some y) {h : Hp} (q : CatA (fun x c => OA K.p.h t x c) l xs h) : FocA K t l j (.dat t y) xs h := by
  obtain ⟨a, b, d, e, hal, q⟩ := CatA.foc (fun _ _ _ => OA.len) q hy
  exact ⟨a, b, d, ⟨e, hal, (List.getElem?_eq_some_iff.1 hy).1⟩, q⟩
noncomputable def ldF {β : Type} (s : SS) (id : Nat) (e : TypeId) (t : Ty) (l : List t.T) (j : Nat) (c : CT) (q : List Step) (k : SV → SS → Option β) : Option β :=
  match nav c q with
  | some (sub, g, []) => expo sub s fun sub' s1 => (match sub'.ldp.1 with
    | some v => k v { s1 with hp := (id, .foc e t l j (g sub')) :: s1.hp }
    | none => none)
  | some (.dat t0 x, _, r) => bif t0.pure then getL t0 x r fun a y => k (.d a y) { s with hp := (id, .foc e t l j c) :: s.hp } else none
  | _ => none
theorem ldF_ok {β : Type} {K : Kn} {s : SS} {w : World} {id b : Nat} {u : Value} {e : TypeId} {t : Ty} {l : List t.T} {j : Nat} {c : CT} {q : List Step} {xs : List Value} {k : SV → SS → Option β} {r : β} (hn : Nx K s) (hE : K.E id = some u) (hB : Base u b)
    (st : St K.p w (Own e t.w u l.length xs :: FocA K t l j c xs :: (asns K s.hp ++ [Exact K.F]))) (h : ldF s id e t l j c q k = some r) :
    ∃ v sv s' K', K.le K' ∧ Inv K' s' w ∧ At (hm w) b (j * t.w + pOff q) v.cells.toList ∧ sv.den K' v ∧ k sv s' = some r := by
  obtain ⟨a, b0, d, F0, rfl, hal, hjl, st1, back0⟩ := foc_st st.swap
  have hat0 := own_at (st1.take (.there (.there .here))) hB (by omega)
  have hat := hat0.mid
  rw [hal, Nat.zero_add] at hat
  unfold ldF at h
  split at h <;> try (cases h; done)
  · rename_i sub g hnv
    obtain ⟨o, ho, hc⟩ := nav_ok (K := K) hnv
    obtain ⟨c1, c2, c3, F, rfl, hl, st2, back1⟩ := hc.st st1
    have st3 := st2.perm (List.Perm.cons _ (List.perm_append_comm_assoc [_, _, _] (asns K s.hp) [Exact K.F]))
    obtain ⟨K', sub', s1, le, hp, hn', st4, hk⟩ := expo_ok (X := [_, _, _]) h hn st3
    split at hk <;> try (cases hk; done)
    rename_i v hv
    have st5 := st4.perm (List.Perm.cons _ (List.perm_append_comm_assoc (asns K' s1.hp) [_, _, _] [Exact K'.F]))
    have hld : ∃ v', v.den K' v' ∧ v'.cells.toList = c2 ∧ aggV v' = sub'.agg := by
      obtain ⟨hh, ⟨x1, y1, d1, _, hA, _⟩, _⟩ := st5
      exact (ld_ok hA).1 _ hv
    obtain ⟨v', hd, hcs, _⟩ := hld
    refine ⟨v', v, { s1 with hp := (id, .foc e t l j (g sub')) :: s1.hp }, K', le, ⟨?_, hn'.hp⟩, ?_, hd, hk⟩
    · have q1 := back1 K' le _ _ _ _ _ st5
      have q2 := back0 K' le _ _ _ _ _ q1
      show St K'.p w ((EN.foc e t l j (g sub')).asn K' id :: (asns K' s1.hp ++ [Exact K'.F]))
      exact St.mkex u (St.mkex _ (St.mkiff (le.E _ _ hE) (St.mksep q2.swap)))
    · rw [hcs, ho]
      have := hat.mid
      rw [hl] at this
      simpa [pOff, Nat.add_assoc] using this
  · rename_i t0 x g rr hne hnv
    cases hp : t0.pure with
    | false => rw [hp, cond_false] at h; cases h
    | true =>
    rw [hp, cond_true] at h
    obtain ⟨o, ho, hc⟩ := nav_ok (K := K) hnv
    obtain ⟨c1, c2, c3, F, rfl, hl, st2, back1⟩ := hc.st st1
    have hden : DenT K.p.h t0 x c2 := by
      obtain ⟨hh, ⟨x1, y1, d1, _, hA, _⟩, _⟩ := st2
      have hA' : OA K.p.h t0 x c2 x1 := hA
      rw [oa_pure _ t0 hp] at hA'
      exact hA'.2
    obtain ⟨a', y, d1, d2, d3, rfl, hl2, hd, hk⟩ := getL_ok hden h
    obtain ⟨v, q1, q2, q3⟩ := VD.mk hd
    refine ⟨v, .d a' y, { s with hp := (id, .foc e t l j c) :: s.hp }, K, Kn.le.refl _, ⟨?_, hn.hp⟩, ?_, ⟨v, rfl, q1⟩, hk⟩
    · show St K.p w ((EN.foc e t l j c).asn K id :: (asns K s.hp ++ [Exact K.F]))
      exact St.mkex u (St.mkex _ (St.mkiff hE (St.mksep st)))
    · rw [q2, ho]
      have := hat.mid.mid
      rw [hl, hl2] at this
      simpa [Nat.add_assoc] using this
/-! ### loads -/
noncomputable def ldX {β : Type} (s : SS) (a : SV) (k : SV → SS → Option β) : Option β :=
  match a with
  | .ptr id pa => match hget s.hp id with
    | some (.blk e c) => match nav c pa with
      | some (sub, g, []) => expo sub { s with hp := hdel s.hp id } fun sub' s1 => match sub'.ldp.1 with
        | some v => k v { s1 with hp := (id, .blk e (g sub')) :: s1.hp }
        | none => none
      | _ => ldAt s (.ptr id pa) fun v => k v s
    | some (.row e t l) => bif t.pure then ldAt s (.ptr id pa) (fun v => k v s) else (match pa with
      | .i j z :: q => bif Nat.beq z t.w then bnd (l[j]?) fun y => ldF { s with hp := hdel s.hp id } id e t l j (.dat t y) q k else none
      | _ => none)
    | some (.foc e t l j c) => (match pa with
      | .i j' z :: q => bif Nat.beq z t.w then gd (j' = j) (ldF { s with hp := hdel s.hp id } id e t l j c q k) else none
      | _ => none)
    | _ => ldAt s (.ptr id pa) fun v => k v s
  | a => ldAt s a fun v => k v s
theorem ldX_ok {β : Type} {K : Kn} {s : SS} {w : World} {a : SV} {va : Value} {k : SV → SS → Option β} {r : β} (i : Inv K s w) (ha : a.den K va) (h : ldX s a k = some r) :
    ∃ v sv s' K', K.le K' ∧ Inv K' s' w ∧ Reads w va v ∧ sv.den K' v ∧ k sv s' = some r := by
  have old : ∀ {a : SV}, a.den K va → (ldAt s a fun v => k v s) = some r → ∃ v sv s' K', K.le K' ∧ Inv K' s' w ∧ Reads w va v ∧ sv.den K' v ∧ k sv s' = some r := fun ha h => by
    obtain ⟨v, sv, h1, h2, h3⟩ := ldAt_ok i ha h
    exact ⟨v, sv, s, K, Kn.le.refl _, i, h1, h2, h3⟩
  cases a <;> simp only [ldX] at h <;> try exact old ha h
  case ptr id pa =>
    split at h
    · rename_i e c hg
      split at h
      · rename_i sub g hn
        obtain ⟨u, b, hE, hB, e'⟩ := ha; cases e'
        have st := i.take hg
        obtain ⟨b', sta⟩ := st.ex
        obtain ⟨cs, stb⟩ := sta.ex
        obtain ⟨hE', stc⟩ := stb.iff
        rw [hE] at hE'; cases hE'
        cases hB
        obtain ⟨o, ho, hc⟩ := nav_ok (K := K) hn
        obtain ⟨c1, c2, c3, F, rfl, hl, st1, hback⟩ := hc.st stc.sep.swap
        have hat : At (hm w) b 0 (c1 ++ (c2 ++ c3)) := ⟨_, e, _, (st1.take (.there (.there .here))).block, fun j v hj => by rw [Nat.zero_add]; simpa using hj⟩
        have st2 : St K.p w (CA K sub c2 :: (asns K (hdel s.hp id) ++ ((F :: pt b (.cells (c1 ++ (c2 ++ c3)).toArray e) :: []) ++ [Exact K.F]))) := by
          have := st1.take (.there (.there .here))
          have h2 := this.take (.there (.there .here))
          -- F, pt, sub, rest
          have h3 : St K.p w (pt b (.cells (c1 ++ (c2 ++ c3)).toArray e) :: CA K sub c2 :: (asns K (hdel s.hp id) ++ ([F] ++ [Exact K.F]))) := h2.give (.there (.there (by simpa using Del.mid (A := F) (l2 := [Exact K.F]) (asns K (hdel s.hp id)))))
          exact h3.give (.there (by simpa using Del.mid (A := pt b (.cells (c1 ++ (c2 ++ c3)).toArray e)) (l2 := [Exact K.F]) (asns K (hdel s.hp id) ++ [F])))
        obtain ⟨K', sub', s1, le, hp, hn', st3, hk⟩ := expo_ok h i.nx.hp st2
        split at hk
        · rename_i v hv
          have st4 : St K'.p w (CA K' sub' c2 :: F :: pt b (.cells (c1 ++ (c2 ++ c3)).toArray e) :: (asns K' s1.hp ++ [Exact K'.F])) := by
            have d1 := st3.take (.there (by simpa using Del.mid (A := pt b (.cells (c1 ++ (c2 ++ c3)).toArray e)) (l2 := [Exact K'.F]) (asns K' s1.hp ++ [F])))
            have d2 := d1.take (.there (.there (by simpa using Del.mid (A := F) (l2 := [Exact K'.F]) (asns K' s1.hp))))
            -- F :: pt :: sub' :: rest
            exact (d2.take (.there (.there .here)))
          have hld : ∃ v', v.den K' v' ∧ v'.cells.toList = c2 ∧ aggV v' = sub'.agg := by
            obtain ⟨hh, ⟨x1, y1, d1, _, hA, _⟩, _⟩ := st4
            exact (ld_ok hA).1 _ hv
          obtain ⟨v', hd, hcs, _⟩ := hld
          refine ⟨v', v, { s1 with hp := (id, .blk e (g sub')) :: s1.hp }, K', le, ⟨?_, hn'.hp⟩, ⟨b, _, rfl, ?_⟩, hd, hk⟩
          · have := hback K' le sub' c2 _ _ _ st4
            show St K'.p w ((EN.blk e (g sub')).asn K' id :: (asns K' s1.hp ++ [Exact K'.F]))
            exact St.mkex b (St.mkex _ (St.mkiff (le.E _ _ hE) (St.mksep this.swap)))
          · rw [hcs, ho]; have := hat.mid; rw [hl, Nat.zero_add] at this; simpa [pOff] using this
        · cases hk
      · exact old ha h
    · rename_i e t l hg
      cases hp : t.pure with
      | true => rw [hp, cond_true] at h; exact old ha h
      | false =>
      rw [hp, cond_false] at h
      split at h <;> try (cases h; done)
      rename_i j z q
      cases hz : Nat.beq z t.w with
      | false => rw [hz, cond_false] at h; cases h
      | true =>
      rw [hz, cond_true] at h
      have := Nat.eq_of_beq_eq_true hz; subst this
      obtain ⟨y, hy, h⟩ := bnd_some h
      obtain ⟨u, b, hE, hB, e'⟩ := ha; cases e'
      obtain ⟨u', sta⟩ := (i.take hg).ex
      obtain ⟨xs, stb⟩ := sta.ex
      obtain ⟨hE', stc⟩ := stb.iff
      rw [hE] at hE'; cases hE'
      have st1 := (stc.sep.swap.weaken fun _ q => foc_mk hy q).swap
      obtain ⟨v, sv, s', K', le, i', hat, hd, hk⟩ := ldF_ok (s := { s with hp := hdel s.hp id }) i.nx.hp hE hB st1 h
      exact ⟨v, sv, s', K', le, i', ⟨b, _, rfl, hat⟩, hd, hk⟩
    · rename_i e t l j c hg
      split at h <;> try (cases h; done)
      rename_i j' z q
      cases hz : Nat.beq z t.w with
      | false => rw [hz, cond_false] at h; cases h
      | true =>
      rw [hz, cond_true] at h
      have := Nat.eq_of_beq_eq_true hz; subst this
      obtain ⟨rfl, h⟩ := gd_some h
      obtain ⟨u, b, hE, hB, e'⟩ := ha; cases e'
      obtain ⟨u', sta⟩ := (i.take hg).ex
      obtain ⟨xs, stb⟩ := sta.ex
      obtain ⟨hE', stc⟩ := stb.iff
      rw [hE] at hE'; cases hE'
      obtain ⟨v, sv, s', K', le, i', hat, hd, hk⟩ := ldF_ok (s := { s with hp := hdel s.hp id }) i.nx.hp hE hB stc.sep h
      exact ⟨v, sv, s', K', le, i', ⟨b, _, rfl, hat⟩, hd, hk⟩
    · exact old ha h
section
variable {P : Program} {n : Nat} {τ : Fr} {w : World} {β : Type} {dst : Option Tmp} {ty : TypeId} {pos : String} {af : Array Edge} {gd : Option (Nat × Bool)}
theorem load1 {x : Operand} {t : TypeId} {d : TypeDesc} {a : Addr} {v : Value} (ht : P.underlying t = some d) (hd : aggD d = false) (hx : (AF n τ).eval x = .pointer (some a)) (hc : w.cell? a = some v) : Ev P (AF n τ).eval ⟨dst, .load t x, ty, pos, af, gd⟩ w v :=
  E.load ht (by cases d <;> first | rfl | cases hd) hx hc
theorem loadN {x : Operand} {t : TypeId} {d : TypeDesc} {b o sz : Nat} {cs : List Value} (ht : P.underlying t = some d) (hd : aggD d = true) (hz : (P.info? t).map (·.size) = some sz) (hx : (AF n τ).eval x = .pointer (some ⟨b, o, none⟩)) (hl : cs.length = sz)
    (hc : ∀ j v, cs[j]? = some v → w.cell? ⟨b, o + j, none⟩ = some v) : Ev P (AF n τ).eval ⟨dst, .load t x, ty, pos, af, gd⟩ w (.agg cs.toArray) :=
  E.loadN ht (by cases d <;> first | rfl | cases hd) hz hx hl hc
theorem Reads.ev {x : Operand} {t : TypeId} {i : TI} {va v : Value} (hi : i.ok P t) (hx : (AF n τ).eval x = va) (h : Reads w va v) (hs : v.cells.size = i.size) (ha : aggV v = aggD i.desc) (h1 : aggV v = false → v.oneCell' = true) : Ev P (AF n τ).eval ⟨dst, .load t x, ty, pos, af, gd⟩ w v := by
  obtain ⟨b, o, rfl, hat⟩ := h
  cases hv : aggV v with
  | false =>
    have := h1 hv
    rw [one_cells this] at hat
    refine load1 hi.desc (by rw [← ha, hv]) hx ?_
    have := hat.cell (j := 0) rfl
    simpa using this
  | true =>
    cases v <;> simp only [aggV, Bool.false_eq_true] at hv
    rename_i cs
    have := loadN (P := P) (w := w) (dst := dst) (ty := ty) (pos := pos) (af := af) (gd := gd) (cs := cs.toList) hi.desc (by rw [← ha]; rfl) hi.size hx (by simpa [Value.cells] using hs) (fun j v hj => hat.cell hj)
    simpa using this
noncomputable def opLoad (T : TT) (s : SS) (t : Nat) (a : SV) (k : SV → SS → Option β) : Option β :=
  match tget T t with
  | some i => ldX s a fun v s' => match v.wd.1 with
    | some m => bif Nat.beq m i.size && (v.agg == aggD i.desc) then k v s' else none
    | none => none
  | none => none
theorem cell1 {K : Kn} {s : SV} {v : Value} {m : Nat} (hd : s.den K v) (hw : s.wd.1 = some m) (ha : s.agg = false) : v.oneCell' = true := by
  have : m = 1 := by
    cases s <;> simp only [SV.wd, SV.agg, Option.some.injEq, reduceCtorEq, Bool.true_eq_false] at hw ha <;> first | exact hw.symm | exact hw.symm.trans (w_one ha)
  subst this
  exact den_one hd hw ha
/-- what is read at this world -/
noncomputable def ReadR (P : Program) (n : Nat) (o : Oper) (τ : Fr) (w : World) (K : Kn) (k : SV → SS → Option β) (r : β) : Prop :=
  ∃ v sv s' K', K.le K' ∧ Inv K' s' w ∧ sv.den K' v ∧ k sv s' = some r ∧ Ev P (AF n τ).eval o w v
theorem ReadR.opR {o : Oper} {K : Kn} {k : SV → SS → Option β} {r : β} (h : ReadR P n o τ w K k r) : OpR P n o τ w K k r := by
  obtain ⟨v, sv, s', K', le, i, d, e, h⟩ := h
  exact OpR.le le (OpR.soft h i d e)
theorem opLoad_ev {T : TT} (hT : T.ok P) {K : Kn} {s : SS} {t : Nat} {a : SV} {x : Operand} {k : SV → SS → Option β} {r : β} (i : Inv K s w) (ha : a.den K ((AF n τ).eval x)) (h : opLoad T s t a k = some r) :
    ReadR P n ⟨dst, .load t x, ty, pos, af, gd⟩ τ w K k r := by
  unfold opLoad at h
  split at h
  · rename_i ti hti
    obtain ⟨v, sv, s', K', le, i', hR, hd, hk⟩ := ldX_ok i ha h
    split at hk
    · rename_i m hm
      cases hb : Nat.beq m ti.size && (sv.agg == aggD ti.desc) with
      | false => rw [hb, cond_false] at hk; cases hk
      | true =>
        rw [hb, cond_true] at hk
        simp only [Bool.and_eq_true, beq_iff_eq] at hb
        have hm' := Nat.eq_of_beq_eq_true hb.1
        have hag := agg_ok hd hm
        refine ⟨v, sv, s', K', le, i', hd, hk, hR.ev (tget_ok hT hti) rfl ?_ ?_ ?_⟩
        · rw [(wd_ok).1 _ _ hd hm, hm']
        · rw [hag, hb.2]
        · intro hv; exact cell1 hd hm (by rw [← hag]; exact hv)
    · cases hk
  · cases h
theorem opLoad_ok {T : TT} (hT : T.ok P) {K : Kn} {s : SS} {t : Nat} {a : SV} {x : Operand} {k : SV → SS → Option β} {r : β} (i : Inv K s w) (ha : a.den K ((AF n τ).eval x)) (h : opLoad T s t a k = some r) :
    OpR P n ⟨dst, .load t x, ty, pos, af, gd⟩ τ w K k r := (opLoad_ev hT i ha h).opR
end
end Go.GX
namespace Go.GX
open Go.RowKit Go.SL
set_option linter.unusedVariables false
set_option linter.unusedSimpArgs false

/-! ### a part of a plain value is another -/
noncomputable def fldU {β : Type} : (t : Ty) → t.T → Nat → Nat → ((a : Ty) → a.T → (a.T → Option β) → Option β) → (t.T → Option β) → Option β
  | .pair a _, x, 0, o, f, k => bif Nat.beq o 0 then f a x.1 fun y => k (y, x.2) else none
  | .pair a b, x, n + 1, o, f, k => bif Nat.ble a.w o then fldU b x.2 n (o - a.w) f fun y => k (x.1, y) else none
  | _, _, _, _, _, _ => none
noncomputable def updL {β : Type} : (t : Ty) → t.T → List Step → (tv : Ty) → tv.T → (t.T → Option β) → Option β
  | t, x, [], tv, v, k => match castT tv t v with
    | some y => k y
    | none => none
  | t, x, .f n o :: r, tv, v, k => fldU t x n o (fun a y k' => updL a y r tv v k') k
  | .arr _ a, l, .i j z :: [], tv, v, k => bif Nat.beq z a.w then gd (j < l.length) (match castT tv a v with
    | some y => k (l.set j y)
    | none => none) else none
  | .arr _ a, l, .i j z :: r, tv, v, k => bif Nat.beq z a.w then bnd (l[j]?) fun y => updL a y r tv v fun y' => k (l.set j y') else none
  | _, _, _, _, _, _ => none
/-- another value stands in the place of a part -/
noncomputable def Upd (m : Mem) (t : Ty) (cs : List Value) (o : Nat) (c' : List Value) (x' : t.T) : Prop := ∃ c1 c2 c3, cs = c1 ++ (c2 ++ c3) ∧ c1.length = o ∧ c2.length = c'.length ∧ DenT m t x' (c1 ++ (c' ++ c3))
theorem fldU_ok {m : Mem} {β : Type} {r : β} {c' : List Value} {o' : Nat} {f : (a : Ty) → a.T → (a.T → Option β) → Option β}
    (hf : ∀ {a : Ty} {y : a.T} {k : a.T → Option β} {cs : List Value}, DenT m a y cs → f a y k = some r → ∃ y', Upd m a cs o' c' y' ∧ k y' = some r) :
    ∀ {t : Ty} {x : t.T} {n o : Nat} {k : t.T → Option β} {cs : List Value}, DenT m t x cs → fldU t x n o f k = some r → ∃ x', Upd m t cs (o + o') c' x' ∧ k x' = some r := by
  intro t
  induction t with
  | pair a b iha ihb =>
    rintro x n o k cs ⟨c, d, rfl, h1, h2⟩ h
    cases n with
    | zero =>
      simp only [fldU] at h
      cases hb : Nat.beq o 0 with
      | false => rw [hb, cond_false] at h; cases h
      | true =>
        rw [hb, cond_true] at h
        have := Nat.eq_of_beq_eq_true hb; subst this
        obtain ⟨y', ⟨c1, c2, c3, rfl, hl, hl2, hd⟩, hk⟩ := hf h1 h
        exact ⟨(y', x.2), ⟨c1, c2, c3 ++ d, by simp [List.append_assoc], by omega, hl2, c1 ++ (c' ++ c3), d, by simp [List.append_assoc], hd, h2⟩, hk⟩
    | succ n =>
      simp only [fldU] at h
      cases hb : Nat.ble a.w o with
      | false => rw [hb, cond_false] at h; cases h
      | true =>
        rw [hb, cond_true] at h
        have hle := Nat.le_of_ble_eq_true hb
        obtain ⟨y', ⟨c1, c2, c3, rfl, hl, hl2, hd⟩, hk⟩ := ihb h2 h
        exact ⟨(x.1, y'), ⟨c ++ c1, c2, c3, by simp [List.append_assoc], by rw [List.length_append, DenT.length h1, hl]; omega, hl2, c, c1 ++ (c' ++ c3), by simp [List.append_assoc], h1, hd⟩, hk⟩
  | _ => intro x n o k cs _ h; cases n <;> cases h
theorem Cat.set {α : Type} {R : α → List Value → Prop} {z : Nat} (hw : ∀ x c, R x c → c.length = z) : ∀ {l : List α} {j : Nat} {cs : List Value}, Cat R l cs → j < l.length →
    ∃ c1 c2 c3, cs = c1 ++ (c2 ++ c3) ∧ c1.length = j * z ∧ (∀ y, l[j]? = some y → R y c2) ∧ ∀ y' c', R y' c' → Cat R (l.set j y') (c1 ++ (c' ++ c3)) := by
  intro l
  induction l with
  | nil => intro j cs _ h; simp at h
  | cons x l ih =>
    rintro j cs ⟨a, b, rfl, h1, h2⟩ h
    cases j with
    | zero => exact ⟨[], a, b, rfl, by simp, fun y hy => by cases hy; exact h1, fun y' c' hr => ⟨c', b, rfl, hr, h2⟩⟩
    | succ j =>
      obtain ⟨c1, c2, c3, rfl, hl, hr, hs⟩ := ih h2 (by simpa using h)
      exact ⟨a ++ c1, c2, c3, by rw [List.append_assoc], by rw [List.length_append, hw _ _ h1, hl, Nat.add_mul]; omega, fun y hy => hr y (by simpa using hy), fun y' c' hq => ⟨a, c1 ++ (c' ++ c3), by rw [List.append_assoc], h1, hs y' c' hq⟩⟩
theorem updL_ok {m : Mem} {β : Type} {r : β} {tv : Ty} {v : tv.T} {c' : List Value} (hv : DenT m tv v c') : ∀ {pa : List Step} {t : Ty} {x : t.T} {k : t.T → Option β} {cs : List Value}, DenT m t x cs → updL t x pa tv v k = some r →
    ∃ x', Upd m t cs (pOff pa) c' x' ∧ k x' = some r := by
  intro pa
  induction pa with
  | nil =>
    intro t x k cs hd h
    simp only [updL] at h
    split at h
    · rename_i y hy
      obtain ⟨rfl, hx⟩ := castT_eq hy
      cases hx
      exact ⟨_, ⟨[], cs, [], by simp, rfl, by rw [DenT.length hd, DenT.length hv], by simpa using hv⟩, h⟩
    · cases h
  | cons st pa ih =>
    intro t x k cs hd h
    cases st with
    | f n o =>
      have h' : (fldU t x n o (fun a y k' => updL a y pa tv v k') k) = some r := by cases t <;> exact h
      exact fldU_ok (fun hd h => ih hd h) hd h'
    | i j z =>
      cases t <;> try (cases pa <;> (simp only [updL, reduceCtorEq] at h; done))
      rename_i n a
      cases pa with
      | nil =>
        simp only [updL] at h
        cases hb : Nat.beq z a.w with
        | false => rw [hb, cond_false] at h; cases h
        | true =>
          rw [hb, cond_true] at h
          have := Nat.eq_of_beq_eq_true hb; subst this
          obtain ⟨hlt, h⟩ := gd_some h
          split at h
          · rename_i y hy
            obtain ⟨rfl, hx⟩ := castT_eq hy
            cases hx
            obtain ⟨c1, c2, c3, rfl, hl, hr, hs⟩ := Cat.set (fun x c h => DenT.length h) hd.2 hlt
            refine ⟨_, ⟨c1, c2, c3, rfl, by rw [hl]; rfl, ?_, ?_, hs _ _ hv⟩, h⟩
            · rw [DenT.length (hr _ (List.getElem?_eq_getElem hlt)), DenT.length hv]
            · rw [List.length_set]; exact hd.1
          · cases h
      | cons s2 pa =>
        simp only [updL] at h
        cases hb : Nat.beq z a.w with
        | false => rw [hb, cond_false] at h; cases h
        | true =>
          rw [hb, cond_true] at h
          have := Nat.eq_of_beq_eq_true hb; subst this
          obtain ⟨y, hy, h⟩ := bnd_some h
          obtain ⟨c1, c2, c3, rfl, hl, hr, hs⟩ := Cat.set (fun x c h => DenT.length h) hd.2 (List.getElem?_eq_some_iff.1 hy).1
          obtain ⟨y', ⟨d1, d2, d3, rfl, hl2, hl3, hd2⟩, hk⟩ := ih (hr _ hy) h
          refine ⟨_, ⟨c1 ++ d1, d2, d3 ++ c3, by simp [List.append_assoc], by rw [List.length_append, hl, hl2]; rfl, hl3, ?_, ?_⟩, hk⟩
          · rw [List.length_set]; exact hd.1
          · have := hs _ _ hd2; simpa [List.append_assoc] using this
/-- a part's kind -/
noncomputable def fldT : Ty → Nat → Option Ty
  | .pair a _, 0 => some a
  | .pair _ b, n + 1 => fldT b n
  | _, _ => none
noncomputable def Ty.at : Ty → List Step → Option Ty
  | t, [] => some t
  | t, .f n _ :: r => match fldT t n with
    | some a => a.at r
    | none => none
  | .arr _ a, .i _ _ :: r => a.at r
  | _, _ => none

/-! ### a store -/
noncomputable def stF {β : Type} (s : SS) (id : Nat) (e : TypeId) (t : Ty) (l : List t.T) (j : Nat) (c : CT) (q : List Step) (v : SV) (k : SS → Option β) : Option β :=
  match nav c q with
  | some (sub, g, []) => (match (CT.ofp v).1 with
    | some c' => bif Nat.beq c'.w sub.w then k { s with hp := (id, .foc e t l j (g c')) :: s.hp } else none
    | none => none)
  | _ => none
noncomputable def stX {β : Type} (s : SS) (a v : SV) (k : SS → Option β) : Option β :=
  match a with
  | .ptr id pa => match hget s.hp id with
    | some (.blk e c) => match nav c pa with
      | some (sub, g, []) => match (CT.ofp v).1 with
        | some c' => bif Nat.beq c'.w sub.w then k { s with hp := (id, .blk e (g c')) :: hdel s.hp id } else none
        | none => none
      | some (.dat t x, g, r) => bif t.pure then (match t.at r with
        | some tv => match outV 20 { s with hp := hdel s.hp id } v tv with
          | some (y, s1) => bif tv.pure then updL t x r tv y fun x' => k { s1 with hp := (id, .blk e (g (.dat t x'))) :: s1.hp } else none
          | none => none
        | none => none) else none
      | _ => none
    | some (.row e t l) => match pa with
      | .i j z :: r => bif t.pure && Nat.beq z t.w then (match t.at r with
        | some tv => match outV 20 { s with hp := hdel s.hp id } v tv with
          | some (y, s1) => bif tv.pure then (match r with
            | [] => gd (j < l.length) (match castT tv t y with
              | some y' => k { s1 with hp := (id, .row e t (l.set j y')) :: s1.hp }
              | none => none)
            | r => bnd (l[j]?) fun x => updL t x r tv y fun x' => k { s1 with hp := (id, .row e t (l.set j x')) :: s1.hp }) else none
          | none => none
        | none => none) else bif t.pure then none else bif Nat.beq z t.w then bnd (l[j]?) fun y => stF { s with hp := hdel s.hp id } id e t l j (.dat t y) r v k else none
      | _ => none
    | some (.foc e t l j c) => (match pa with
      | .i j' z :: q => bif Nat.beq z t.w then gd (j' = j) (stF { s with hp := hdel s.hp id } id e t l j c q v k) else none
      | _ => none)
    | _ => none
  | _ => none
/-- outV, of a kind that holds nothing -/
theorem outP_ok {f : Nat} {s : SS} {v : SV} {t : Ty} {x : t.T} {s' : SS} (h : outV f s v t = some (x, s')) (hp : t.pure = true) {K : Kn} {w : World} {X : List Assn} {u : Value} (hn : Nx K s) (st : St K.p w (asns K s.hp ++ (X ++ [Exact K.F]))) (hd : v.den K u) :
    ∃ K', K.le K' ∧ K'.E = K.E ∧ Nx K' s' ∧ DenT K'.p.h t x u.cells.toList ∧ St K'.p w (asns K' s'.hp ++ (X ++ [Exact K'.F])) ∧ aggV u = t.agg := by
  obtain ⟨⟨K', le, hE, hx, st'⟩, ha⟩ := (out_ok f).1 h st hd
  have s1 := st'.take (Del.mid _)
  rw [oa_pure _ t hp] at s1
  obtain ⟨hden, s2⟩ := s1.pu
  exact ⟨K', le, hE.1, ⟨by rw [hx, hE.2]; exact hn.eq, fun k hk => by rw [hE.1]; rw [hE.2] at hk; exact hn.no k hk⟩, hden, by rw [le.F]; exact s2, ha⟩
theorem over_mid {c1 c2 c3 c' : List Value} (h : c2.length = c'.length) : over (c1 ++ (c2 ++ c3)).toArray c1.length c' = (c1 ++ (c' ++ c3)).toArray := by
  simp only [over]
  rw [List.take_left, ← h, ← List.append_assoc c1 c2 c3, ← List.length_append, List.drop_left, List.append_assoc]
section
variable {P : Program} {n : Nat} {τ : Fr} {w : World} {β : Type} {dst : Option Tmp} {ty : TypeId} {pos : String} {af : Array Edge} {gd' : Option (Nat × Bool)}
theorem store_blk {t : TypeId} {x y : Operand} {K : Kn} {k : SV → SS → Option β} {r : β} {b o : Nat} {e : TypeId} {c1 c2 c3 : List Value} {v : Value} {p : Pers} {H : List Assn} (hx : (AF n τ).eval x = .pointer (some ⟨b, o, none⟩)) (hy : (AF n τ).eval y = v)
    (s : St p w (pt b (.cells (c1 ++ (c2 ++ c3)).toArray e) :: H)) (ho : o = c1.length) (hl : c2.length = v.cells.toList.length) (hz : (P.info? t).map (·.size) = some v.cells.size) (h1 : ∀ u ∈ v.cells.toList, u.oneCell' = true)
    (h : ∀ w', St p w' (pt b (.cells (c1 ++ (v.cells.toList ++ c3)).toArray e) :: H) → ∃ sv s' K', K.le K' ∧ Inv K' s' w' ∧ sv.den K' undef ∧ k sv s' = some r) : OpR P n ⟨dst, .store t x y, ty, pos, af, gd'⟩ τ w K k r := by
  subst ho
  refine Go.SL.H.store hx hy s .here hz ?_ h1 (over_mid hl) h
  simp only [List.size_toArray, List.length_append]
  have : v.cells.toList.length = v.cells.size := by simp
  omega
end
end Go.GX
namespace Go.GX
open Go.RowKit Go.SL
set_option linter.unusedVariables false
set_option linter.unusedSimpArgs false
theorem _root_.Go.SL.St.ca0 {K : Kn} {c : CT} {cs : List Value} {p : Pers} {w : World} {H : List Assn} (h : CA K c cs none0) (st : St p w H) : St p w (CA K c cs :: H) := by
  obtain ⟨h0, ha, r1⟩ := st
  exact ⟨h0, ⟨none0, h0, fun _ => .inl rfl, (none0_uni h0).symm, h, ha⟩, r1⟩
section
variable {P : Program} {n : Nat} {τ : Fr} {w : World} {β : Type} {dst : Option Tmp} {ty : TypeId} {pos : String} {af : Array Edge} {gd' : Option (Nat × Bool)}
theorem upd_split {m : Mem} {t : Ty} {cs : List Value} {o : Nat} {c' : List Value} {x' : t.T} (h : Upd m t cs o c' x') : o + c'.length ≤ cs.length := by
  obtain ⟨c1, c2, c3, rfl, hl, hl2, _⟩ := h
  simp only [List.length_append]; omega
theorem upd_eq {m : Mem} {t : Ty} {cs : List Value} {o : Nat} {c' : List Value} {x' : t.T} (h : Upd m t cs o c' x') : DenT m t x' (cs.take o ++ c' ++ cs.drop (o + c'.length)) := by
  obtain ⟨c1, c2, c3, rfl, rfl, hl2, hd⟩ := h
  rw [List.take_left, ← hl2, ← List.append_assoc c1 c2 c3, ← List.length_append, List.drop_left, List.append_assoc]
  exact hd
/-- a store into a row of things that hold nothing -/
theorem store_row {K : Kn} {k : SV → SS → Option β} {r : β} {t : TypeId} {x y : Operand} {e : TypeId} {b o : Nat} {a : Ty} {l l' : List a.T} {u v : Value} {xs : List Value} {H : List Assn} (hx : (AF n τ).eval x = .pointer (some ⟨b, o, none⟩)) (hy : (AF n τ).eval y = v)
    (s : St K.p w (Own e a.w u l.length xs :: H)) (hB : Base u b) (hu : Upd K.p.h (.arr l.length a) xs o v.cells.toList l') (hz : (P.info? t).map (·.size) = some v.cells.size) (h1 : ∀ u ∈ v.cells.toList, u.oneCell' = true) (h0 : 0 < l.length)
    (h : ∀ w' xs', l'.length = l.length → St K.p w' (Own e a.w u l'.length xs' :: H) → Cat (fun x c => DenT K.p.h a x c) l' xs' → ∃ sv s' K', K.le K' ∧ Inv K' s' w' ∧ sv.den K' undef ∧ k sv s' = some r) : OpR P n ⟨dst, .store t x y, ty, pos, af, gd'⟩ τ w K k r := by
  obtain ⟨hlen, _⟩ := s.ownOpen
  have hsl : ∃ X c, u = .slice X l.length c := by obtain ⟨_, ⟨_, _, _, _, q, _⟩, _⟩ := s; exact own_slice q
  obtain ⟨X, c, rfl⟩ := hsl
  have hX : X = some ⟨b, 0, none⟩ := by
    cases X with
    | none => cases hB
    | some a => rw [show a = _ from hB]
  subst hX
  have hsp := upd_split hu
  have hsz : v.cells.toList.length = v.cells.size := by simp
  refine Go.SL.H.storeAt hx hy s .here h0 hz (by omega) h1 fun w' s' => ?_
  have hd := upd_eq hu
  rw [hsz] at hd
  have hll : l'.length = l.length := hd.1
  exact h w' _ hll (by rw [hll]; exact s') hd.2
theorem ones_of {v : Value} {m : Mem} {t : Ty} {x : t.T} (h : DenT m t x v.cells.toList) : ∀ u ∈ v.cells.toList, u.oneCell' = true := DenT.ones h
/-- a store into an element that is laid open -/
theorem stF_ok {K : Kn} {s : SS} {t0 : TypeId} {x y : Operand} {id b : Nat} {u v : Value} {sv : SV} {e : TypeId} {t : Ty} {l : List t.T} {j : Nat} {c : CT} {q : List Step} {xs : List Value} {k : SS → Option β} {r : β} {kk : SV → SS → Option β} (hkk : ∀ s', k s' = kk .un s') (hn : Nx K s) (hE : K.E id = some u) (hB : Base u b)
    (st : St K.p w (Own e t.w u l.length xs :: FocA K t l j c xs :: (asns K s.hp ++ [Exact K.F]))) (h : stF s id e t l j c q sv k = some r)
    (hx : (AF n τ).eval x = .pointer (some ⟨b, j * t.w + pOff q, none⟩)) (hy : (AF n τ).eval y = v) (hv : sv.den K v) (hz : (P.info? t0).map (·.size) = some v.cells.size) :
    OpR P n ⟨dst, .store t0 x y, ty, pos, af, gd'⟩ τ w K kk r := by
  have hlen := (st.ownOpen).1
  obtain ⟨a, b0, d, F0, rfl, hal, hjl, st1, back0⟩ := foc_st st.swap
  have hsl : ∃ X c, u = .slice X l.length c := by obtain ⟨_, ⟨_, _, _, _, q, _⟩, _⟩ := st; exact own_slice q
  obtain ⟨X, cc, rfl⟩ := hsl
  have hX : X = some ⟨b, 0, none⟩ := by
    cases X with
    | none => cases hB
    | some a => rw [show a = _ from hB]
  subst hX
  unfold stF at h
  split at h <;> try (cases h; done)
  rename_i sub g hnv
  split at h <;> try (cases h; done)
  rename_i c' hc'
  cases hw : Nat.beq c'.w sub.w with
  | false => rw [hw, cond_false] at h; cases h
  | true =>
  rw [hw, cond_true] at h
  have hw' := Nat.eq_of_beq_eq_true hw
  obtain ⟨o, ho, hc⟩ := nav_ok (K := K) hnv
  obtain ⟨c1, c2, c3, F, rfl, hl, st2, back1⟩ := hc.st st1
  have hca := ofp_ok.1 hc' hv
  have hl2 : c2.length = v.cells.toList.length := by
    rw [CA.len hca, hw']
    obtain ⟨_, ⟨_, _, _, _, q, _⟩, _⟩ := st2
    exact CA.len q
  have hsz : v.cells.toList.length = v.cells.size := by simp
  have ho' : j * t.w + pOff q = a.length + c1.length := by rw [ho, hal, hl]; simp [pOff]
  rw [ho'] at hx
  have st3 := st2.take (.there (.there (.there .here)))
  have hlen2 : a.length + (c1.length + (c2.length + c3.length) + d.length) = l.length * t.w := by simp only [List.length_append] at hlen; omega
  refine Go.SL.H.storeAt hx hy st3 .here (by omega) hz (by omega) (CA.ones hca) fun w' st4 => ⟨.un, { s with hp := (id, .foc e t l j (g c')) :: s.hp }, K, Kn.le.refl _, ⟨?_, hn.hp⟩, rfl, by rw [← hkk]; exact h⟩
  have hxs : (a ++ (c1 ++ (c2 ++ c3) ++ d)).take (a.length + c1.length) ++ v.cells.toList ++ (a ++ (c1 ++ (c2 ++ c3) ++ d)).drop (a.length + c1.length + v.cells.size) = a ++ ((c1 ++ (v.cells.toList ++ c3)) ++ d) := by
    have e1 : a ++ (c1 ++ (c2 ++ c3) ++ d) = (a ++ c1) ++ (c2 ++ (c3 ++ d)) := by simp [List.append_assoc]
    rw [e1, ← List.length_append, List.take_left, ← hsz, ← hl2, ← List.append_assoc (a ++ c1) c2, ← List.length_append (as := a ++ c1), List.drop_left]
    simp [List.append_assoc]
  rw [hxs] at st4
  -- Own, sub, F, F0, rest
  have st5 := (st4.swap).drop
  have st6 := st5.perm (List.Perm.trans (List.Perm.swap _ _ _) (List.Perm.cons _ (List.Perm.swap _ _ _)))
  have st7 := Go.SL.St.ca0 hca st6
  have st8 := back1 K (Kn.le.refl _) _ _ _ _ _ st7
  have st9 := back0 K (Kn.le.refl _) _ _ _ _ _ st8
  show St K.p w' ((EN.foc e t l j (g c')).asn K id :: (asns K s.hp ++ [Exact K.F]))
  exact St.mkex _ (St.mkex _ (St.mkiff hE (St.mksep st9.swap)))
noncomputable def opStore (T : TT) (s : SS) (t : Nat) (a v : SV) (k : SV → SS → Option β) : Option β :=
  match tget T t with
  | some i => match v.wd.1 with
    | some m => bif Nat.beq m i.size then stX s a v fun s' => k .un s' else none
    | none => none
  | none => none
theorem opStore_ok {T : TT} (hT : T.ok P) {K : Kn} {s : SS} {t : Nat} {a v : SV} {x y : Operand} {k : SV → SS → Option β} {r : β} (i : Inv K s w) (ha : a.den K ((AF n τ).eval x)) (hv : v.den K ((AF n τ).eval y)) (h : opStore T s t a v k = some r) :
    OpR P n ⟨dst, .store t x y, ty, pos, af, gd'⟩ τ w K k r := by
  unfold opStore at h
  split at h <;> try (cases h; done)
  rename_i ti hti
  split at h <;> try (cases h; done)
  rename_i m hm
  cases hb : Nat.beq m ti.size with
  | false => rw [hb, cond_false] at h; cases h
  | true =>
  rw [hb, cond_true] at h
  have := Nat.eq_of_beq_eq_true hb; subst this
  have hsz := (wd_ok (K := K)).1 _ _ hv hm
  have hz : (P.info? t).map (·.size) = some ((AF n τ).eval y).cells.size := by rw [hsz]; exact (tget_ok hT hti).size
  cases a <;> simp only [stX, reduceCtorEq] at h
  rename_i id pa
  obtain ⟨u, b, hE, hB, hxe⟩ := ha
  have hxv : (AF n τ).eval x = .pointer (some ⟨b, pOff pa, none⟩) := by simpa using hxe
  split at h <;> try (cases h; done)
  · rename_i e c hg
    have st := i.take hg
    obtain ⟨b', sta⟩ := st.ex
    obtain ⟨cs, stb⟩ := sta.ex
    obtain ⟨hE', stc⟩ := stb.iff
    rw [hE] at hE'; cases hE'
    cases hB
    split at h <;> try (cases h; done)
    · rename_i sub g hn
      split at h <;> try (cases h; done)
      rename_i c' hc'
      cases hw : Nat.beq c'.w sub.w with
      | false => rw [hw, cond_false] at h; cases h
      | true =>
      rw [hw, cond_true] at h
      have hw' := Nat.eq_of_beq_eq_true hw
      obtain ⟨o, ho, hc⟩ := nav_ok (K := K) hn
      obtain ⟨c1, c2, c3, F, rfl, hl, st1, hback⟩ := hc.st stc.sep.swap
      have hca := ofp_ok.1 hc' hv
      have hl2 : c2.length = ((AF n τ).eval y).cells.toList.length := by
        rw [CA.len hca, hw']
        obtain ⟨_, ⟨_, _, _, _, q, _⟩, _⟩ := st1
        exact CA.len q
      have st2 := st1.take (.there (.there .here))
      refine store_blk hxv rfl st2 (by rw [ho]; simp [pOff, hl]) hl2 hz (CA.ones hca) fun w' st3 => ⟨.un, { s with hp := (id, .blk e (g c')) :: hdel s.hp id }, K, Kn.le.refl _, ⟨?_, i.nx.hp⟩, rfl, h⟩
      -- pt, sub, F, rest
      have st4 := (st3.take (.there .here)).drop
      have st5 := Go.SL.St.ca0 hca (st4.take (.there .here))
      have st6 := hback K (Kn.le.refl _) _ _ _ _ _ st5
      show St K.p w' ((EN.blk e (g c')).asn K id :: (asns K (hdel s.hp id) ++ [Exact K.F]))
      exact St.mkex b (St.mkex _ (St.mkiff hE (St.mksep st6.swap)))
    · rename_i t0 x0 g rr hne hn
      cases hp : t0.pure with
      | false => rw [hp, cond_false] at h; cases h
      | true =>
      rw [hp, cond_true] at h
      split at h <;> try (cases h; done)
      rename_i tv htv
      split at h <;> try (cases h; done)
      rename_i y0 s1 hout
      cases hpv : tv.pure with
      | false => rw [hpv, cond_false] at h; cases h
      | true =>
      rw [hpv, cond_true] at h
      obtain ⟨o, ho, hc⟩ := nav_ok (K := K) hn
      obtain ⟨c1, c2, c3, F, rfl, hl, st1, hback⟩ := hc.st stc.sep.swap
      have st1' : St K.p w (OA K.p.h t0 x0 c2 :: F :: pt b (.cells (c1 ++ (c2 ++ c3)).toArray e) :: (asns K (hdel s.hp id) ++ [Exact K.F])) := st1
      rw [oa_pure _ t0 hp] at st1'
      obtain ⟨hden, st2⟩ := st1'.pu
      have st3 : St K.p w (asns K (hdel s.hp id) ++ ([F, pt b (.cells (c1 ++ (c2 ++ c3)).toArray e)] ++ [Exact K.F])) := by
        have := st2.give (A := F) (H := pt b (.cells (c1 ++ (c2 ++ c3)).toArray e) :: (asns K (hdel s.hp id) ++ ([F] ++ [Exact K.F]))) (.there (Del.mid _))
        have h2 := this.give (A := pt b (.cells (c1 ++ (c2 ++ c3)).toArray e)) (H := asns K (hdel s.hp id) ++ ([F, pt b (.cells (c1 ++ (c2 ++ c3)).toArray e)] ++ [Exact K.F])) (by
          have := Del.mid (A := pt b (.cells (c1 ++ (c2 ++ c3)).toArray e)) (l2 := [Exact K.F]) (asns K (hdel s.hp id) ++ [F])
          simpa using this)
        exact h2
      obtain ⟨K', le, hEE, hnx, hvd, st4, _⟩ := outP_ok hout hpv i.nx.hp st3 hv
      obtain ⟨x', hupd, hk⟩ := updL_ok hvd (DenT.sub le.p.h hden) h
      obtain ⟨d1, d2, d3, rfl, hd1, hd2, hdx⟩ := hupd
      have st5 : St K'.p w (pt b (.cells ((c1 ++ d1) ++ (d2 ++ (d3 ++ c3))).toArray e) :: F :: (asns K' s1.hp ++ [Exact K'.F])) := by
        have q1 := st4.take (A := F) (H' := asns K' s1.hp ++ ([pt b (.cells (c1 ++ (d1 ++ (d2 ++ d3) ++ c3)).toArray e)] ++ [Exact K'.F])) (Del.mid _)
        have q2 := q1.take (.there (Del.mid _))
        have e2 : c1 ++ (d1 ++ (d2 ++ d3) ++ c3) = (c1 ++ d1) ++ (d2 ++ (d3 ++ c3)) := by simp [List.append_assoc]
        rw [e2] at q2; exact q2
      refine OpR.le le (store_blk hxv rfl st5 (by rw [ho, List.length_append, hl, hd1]) hd2 hz (ones_of hvd) fun w' st6 => ⟨.un, { s1 with hp := (id, .blk e (g (.dat t0 x'))) :: s1.hp }, K', Kn.le.refl _, ⟨?_, hnx.hp⟩, rfl, hk⟩)
      have hca : CA K' (.dat t0 x') (d1 ++ (((AF n τ).eval y).cells.toList ++ d3)) none0 := by
        show OA _ _ _ _ _; rw [oa_pure _ t0 hp]; exact ⟨rfl, hdx⟩
      have st7 := Go.SL.St.ca0 hca (st6.swap)
      have st8 := hback K' le _ _ _ _ _ st7
      have e3 : (c1 ++ d1) ++ (((AF n τ).eval y).cells.toList ++ (d3 ++ c3)) = c1 ++ (d1 ++ (((AF n τ).eval y).cells.toList ++ d3) ++ c3) := by simp [List.append_assoc]
      rw [e3] at st8
      show St K'.p w' ((EN.blk e (g (.dat t0 x'))).asn K' id :: (asns K' s1.hp ++ [Exact K'.F]))
      exact St.mkex b (St.mkex _ (St.mkiff (by rw [hEE]; exact hE) (St.mksep st8.swap)))
  · rename_i e t0 l hg
    split at h <;> try (cases h; done)
    rename_i j z rr
    cases hp0 : t0.pure && Nat.beq z t0.w with
    | false =>
      rw [hp0, cond_false] at h
      cases hp1 : t0.pure with
      | true => rw [hp1, cond_true] at h; cases h
      | false =>
      rw [hp1, cond_false] at h
      cases hz1 : Nat.beq z t0.w with
      | false => rw [hz1, cond_false] at h; cases h
      | true =>
      rw [hz1, cond_true] at h
      have := Nat.eq_of_beq_eq_true hz1; subst this
      obtain ⟨y1, hy1, h⟩ := bnd_some h
      obtain ⟨u', sta⟩ := (i.take hg).ex
      obtain ⟨xs, stb⟩ := sta.ex
      obtain ⟨hE', stc⟩ := stb.iff
      rw [hE] at hE'; cases hE'
      have st1 := (stc.sep.swap.weaken fun _ q => foc_mk hy1 q).swap
      exact stF_ok (s := { s with hp := hdel s.hp id }) (k := fun s' => k .un s') (fun _ => rfl) i.nx.hp hE hB st1 h hxv rfl hv hz
    | true =>
    rw [hp0, cond_true] at h
    simp only [Bool.and_eq_true] at hp0
    obtain ⟨hp, hzw⟩ := hp0
    have := Nat.eq_of_beq_eq_true hzw; subst this
    split at h <;> try (cases h; done)
    rename_i tv htv
    split at h <;> try (cases h; done)
    rename_i y0 s1 hout
    cases hpv : tv.pure with
    | false => rw [hpv, cond_false] at h; cases h
    | true =>
    rw [hpv, cond_true] at h
    have st := i.take hg
    obtain ⟨u', sta⟩ := st.ex
    obtain ⟨xs, stb⟩ := sta.ex
    obtain ⟨hE', stc⟩ := stb.iff
    rw [hE] at hE'; cases hE'
    have std := stc.sep
    rw [catA_pure (S := fun x c => DenT K.p.h t0 x c) (fun x c => oa_pure _ t0 hp x c)] at std
    obtain ⟨hcat, ste⟩ := (std.take (.there .here)).pu
    have st3 : St K.p w (asns K (hdel s.hp id) ++ ([Own e t0.w u l.length xs] ++ [Exact K.F])) := ste.give (Del.mid _)
    obtain ⟨K', le, hEE, hnx, hvd, st4, _⟩ := outP_ok hout hpv i.nx.hp st3 hv
    have st5 := st4.take (A := Own e t0.w u l.length xs) (H' := asns K' s1.hp ++ [Exact K'.F]) (Del.mid _)
    have hcat' : DenT K'.p.h (.arr l.length t0) l xs := ⟨rfl, Cat.mono (fun x c q => DenT.sub le.p.h q) hcat⟩
    have fin : ∀ {l' : List t0.T}, 0 < l.length → Upd K'.p.h (.arr l.length t0) xs (j * t0.w + pOff rr) ((AF n τ).eval y).cells.toList l' → k .un { s1 with hp := (id, .row e t0 l') :: s1.hp } = some r → OpR P n ⟨dst, .store t x y, ty, pos, af, gd'⟩ τ w K k r := by
      intro l' h0 hu hk
      refine OpR.le le (store_row hxv rfl st5 hB hu hz (ones_of hvd) h0 fun w' xs' hll st6 hc2 => ⟨.un, { s1 with hp := (id, .row e t0 l') :: s1.hp }, K', Kn.le.refl _, ⟨?_, hnx.hp⟩, rfl, hk⟩)
      show St K'.p w' ((EN.row e t0 l').asn K' id :: (asns K' s1.hp ++ [Exact K'.F]))
      refine St.mkex u (St.mkex xs' (St.mkiff (by rw [hEE]; exact hE) (St.mksep ?_)))
      rw [catA_pure (S := fun x c => DenT K'.p.h t0 x c) (fun x c => oa_pure _ t0 hp x c)]
      exact (St.mkpu hc2 st6).swap
    split at h
    · obtain ⟨hlt, h⟩ := gd_some h
      split at h <;> try (cases h; done)
      rename_i y' hy'
      obtain ⟨rfl, hyy⟩ := castT_eq hy'
      cases hyy
      have hq : updL (.arr l.length tv) l (.i j tv.w :: []) tv y0 (fun l' => k .un { s1 with hp := (id, .row e tv l') :: s1.hp }) = some r := by
        simp only [updL]
        rw [show Nat.beq tv.w tv.w = true from Nat.beq_refl _, cond_true, gd_t hlt, hy']
        exact h
      obtain ⟨l', hu, hk⟩ := updL_ok hvd hcat' hq
      exact fin (by omega) hu hk
    · rename_i r0 hne
      obtain ⟨x0, hx0, h⟩ := bnd_some h
      have hlt := (List.getElem?_eq_some_iff.1 hx0).1
      have hq : updL (.arr l.length t0) l (.i j t0.w :: rr) tv y0 (fun l' => k .un { s1 with hp := (id, .row e t0 l') :: s1.hp }) = some r := by
        cases rr with
        | nil => exact absurd rfl hne
        | cons a rr =>
          simp only [updL]
          rw [show Nat.beq t0.w t0.w = true from Nat.beq_refl _, cond_true, hx0, bnd_s]
          exact h
      obtain ⟨l', hu, hk⟩ := updL_ok hvd hcat' hq
      exact fin (by omega) hu hk
  · rename_i e t0 l j c hg
    split at h <;> try (cases h; done)
    rename_i j' z q
    cases hz1 : Nat.beq z t0.w with
    | false => rw [hz1, cond_false] at h; cases h
    | true =>
    rw [hz1, cond_true] at h
    have := Nat.eq_of_beq_eq_true hz1; subst this
    obtain ⟨rfl, h⟩ := gd_some h
    obtain ⟨u', sta⟩ := (i.take hg).ex
    obtain ⟨xs, stb⟩ := sta.ex
    obtain ⟨hE', stc⟩ := stb.iff
    rw [hE] at hE'; cases hE'
    exact stF_ok (s := { s with hp := hdel s.hp id }) (k := fun s' => k .un s') (fun _ => rfl) i.nx.hp hE hB stc.sep h hxv rfl hv hz
end
end Go.GX
namespace Go.GX
open Go.RowKit Go.SL
set_option linter.unusedVariables false
set_option linter.unusedSimpArgs false

abbrev Rho := Operand → Option SV
noncomputable def RhoOk (K : Kn) (ρ : Rho) (e : Operand → Value) : Prop := ∀ x s, ρ x = some s → s.den K (e x)
section
variable {P : Program} {n : Nat} {o : Oper} {τ : Fr} {w : World} {β : Type}
/-- an operation that leaves the world, and yields the same in any world -/
noncomputable def PureR (P : Program) (n : Nat) (o : Oper) (τ : Fr) (w : World) (K : Kn) (k : SV → SS → Option β) (r : β) : Prop :=
  ∃ v sv s' K', K.le K' ∧ Inv K' s' w ∧ sv.den K' v ∧ k sv s' = some r ∧ ∀ w', Ev P (AF n τ).eval o w' v
theorem PureR.opR {K : Kn} {k : SV → SS → Option β} {r : β} (h : PureR P n o τ w K k r) : OpR P n o τ w K k r := by
  obtain ⟨v, sv, s', K', le, i, d, e, h⟩ := h
  exact OpR.le le (OpR.soft (h w) i d e)
theorem PureR.mk {K : Kn} {s : SS} {k : SV → SS → Option β} {r : β} {v : Value} {sv : SV} (i : Inv K s w) (hk : k sv s = some r) (hd : sv.den K v) (h : ∀ w', Ev P (AF n τ).eval o w' v) : PureR P n o τ w K k r :=
  ⟨v, sv, s, K, Kn.le.refl _, i, hd, hk, h⟩
/-- the same, of a state that stays -/
noncomputable def PureE (P : Program) (n : Nat) (o : Oper) (τ : Fr) (K : Kn) (s : SS) (k : SV → SS → Option β) (r : β) : Prop :=
  ∃ v sv, sv.den K v ∧ k sv s = some r ∧ ∀ w', Ev P (AF n τ).eval o w' v
theorem PureE.mk {K : Kn} {s : SS} {k : SV → SS → Option β} {r : β} {v : Value} {sv : SV} (i : Inv K s w) (hk : k sv s = some r) (hd : sv.den K v) (h : ∀ w', Ev P (AF n τ).eval o w' v) : PureE P n o τ K s k r :=
  ⟨v, sv, hd, hk, h⟩
end

/-! ### numbers -/
noncomputable def scS : SV → Option SL.SV
  | .d .int z | .bd .int z => some (.i z)
  | .d .u8 x | .bd .u8 x => some (.u8 x)
  | .d .u16 x | .bd .u16 x => some (.u16 x)
  | .d .u32 x | .bd .u32 x => some (.u32 x)
  | .d .u64 x | .bd .u64 x => some (.u64 x)
  | .d .bool b | .bd .bool b => some (.b b)
  | _ => none
noncomputable def scB : SL.SV → Option SV
  | .i z => some (.d .int z)
  | .u8 x => some (.d .u8 x)
  | .u16 x => some (.d .u16 x)
  | .u32 x => some (.d .u32 x)
  | .u64 x => some (.d .u64 x)
  | .b b => some (.d .bool b)
  | _ => none
theorem scS_ok {K : Kn} {s : SV} {u : SL.SV} {v : Value} (h : scS s = some u) (hd : s.den K v) : v = u.val := by
  unfold scS at h
  split at h <;> (first | cases h | skip) <;> (obtain ⟨v', e, hd⟩ := hd; cases e; cases hd; rfl)
theorem scB_ok {K : Kn} {u : SL.SV} {s : SV} (h : scB u = some s) : s.den K u.val := by
  unfold scB at h
  split at h <;> (first | cases h | skip) <;> exact ⟨_, rfl, rfl⟩
noncomputable def fin {β : Type} (u : SL.SV) (k : SV → Option β) : Option β := match scB u with
  | some s => k s
  | none => none
noncomputable def bopK {β : Type} (op : BinOp) (x y : SL.SV) (k : SV → Option β) : Option β :=
  match bop op x y with
  | some (u, none) => fin u k
  | some (u, some _) => match op, y with
    | .quo, .i z => gd (z ≠ 0) (fin u k)
    | .rem, .i z => gd (z ≠ 0) (fin u k)
    | .quo, .u8 z => gd (z ≠ 0#8) (fin u k)
    | .rem, .u8 z => gd (z ≠ 0#8) (fin u k)
    | .quo, .u32 z => gd (z ≠ 0#32) (fin u k)
    | .rem, .u32 z => gd (z ≠ 0#32) (fin u k)
    | .quo, .u64 z => gd (z ≠ 0#64) (fin u k)
    | .rem, .u64 z => gd (z ≠ 0#64) (fin u k)
    | .shl, .i z => gd (0 ≤ z) (fin u k)
    | .shr, .i z => gd (0 ≤ z) (fin u k)
    | _, _ => none
  | none => none
theorem fin_ok {β : Type} {K : Kn} {u : SL.SV} {k : SV → Option β} {r : β} (h : fin u k = some r) : ∃ s, s.den K u.val ∧ k s = some r := by
  unfold fin at h
  split at h
  · rename_i s hs; exact ⟨s, scB_ok hs, h⟩
  · cases h
theorem bopK_ok {P : Program} {β : Type} {ρ : Operand → Value} {dst : Option Tmp} {ty : TypeId} {pos : String} {af : Array Edge} {gd : Option (Nat × Bool)} {K : Kn} {op : BinOp} {a b : SL.SV} {k : SV → Option β} {r : β} {x y : Operand} {t t' : TypeId}
    (h : bopK op a b k = some r) (hx : ρ x = a.val) (hy : ρ y = b.val) : ∃ v s, s.den K v ∧ k s = some r ∧ ∀ w, Ev P ρ ⟨dst, .binOp op t x y t', ty, pos, af, gd⟩ w v := by
  unfold bopK at h
  split at h
  · rename_i u e
    obtain ⟨s, h1, h2⟩ := fin_ok (K := K) h
    exact ⟨_, s, h1, h2, fun w => bop_ok e trivial hx hy⟩
  · rename_i u C e
    have key : ∀ {D : Prop} [Decidable D], GX.gd D (fin u k) = some r → (D → C) → ∃ v s, s.den K v ∧ k s = some r ∧ ∀ w, Ev P ρ ⟨dst, .binOp op t x y t', ty, pos, af, gd⟩ w v := by
      intro D _ hg hDC
      obtain ⟨hD, hf⟩ := gd_some hg
      obtain ⟨s, h1, h2⟩ := fin_ok (K := K) hf
      exact ⟨_, s, h1, h2, fun w => bop_ok e (show Cd.holds (some C) from hDC hD) hx hy⟩
    split at h
    · refine key h fun hz => ?_
      cases a <;> simp only [bop, bopN, bopI, reduceCtorEq, Option.some.injEq, Prod.mk.injEq] at e
      rw [← e.2]; exact hz
    · refine key h fun hz => ?_
      cases a <;> simp only [bop, bopN, bopI, reduceCtorEq, Option.some.injEq, Prod.mk.injEq] at e
      rw [← e.2]; exact hz
    · refine key h fun hz => ?_
      cases a <;> simp only [bop, bopN, bopU, reduceCtorEq, Option.some.injEq, Prod.mk.injEq] at e
      rw [← e.2]; exact hz
    · refine key h fun hz => ?_
      cases a <;> simp only [bop, bopN, bopU, reduceCtorEq, Option.some.injEq, Prod.mk.injEq] at e
      rw [← e.2]; exact hz
    · refine key h fun hz => ?_
      cases a <;> simp only [bop, bopN, bopU, reduceCtorEq, Option.some.injEq, Prod.mk.injEq] at e
      rw [← e.2]; exact hz
    · refine key h fun hz => ?_
      cases a <;> simp only [bop, bopN, bopU, reduceCtorEq, Option.some.injEq, Prod.mk.injEq] at e
      rw [← e.2]; exact hz
    · refine key h fun hz => ?_
      cases a <;> simp only [bop, bopN, bopU, reduceCtorEq, Option.some.injEq, Prod.mk.injEq] at e
      rw [← e.2]; exact hz
    · refine key h fun hz => ?_
      cases a <;> simp only [bop, bopN, bopU, reduceCtorEq, Option.some.injEq, Prod.mk.injEq] at e
      rw [← e.2]; exact hz
    · refine key h fun hz => ?_
      cases a <;> simp only [bop, shf, nat?, shU, shI, Option.map_some, reduceCtorEq, Option.some.injEq, Prod.mk.injEq, Option.map_none] at e <;> (rw [← e.2]; exact hz)
    · refine key h fun hz => ?_
      cases a <;> simp only [bop, shf, nat?, shU, shI, Option.map_some, reduceCtorEq, Option.some.injEq, Prod.mk.injEq, Option.map_none] at e <;> (rw [← e.2]; exact hz)
    · cases h
  · cases h
/-- what counts as a number that is not below 0 -/
noncomputable def natK {β : Type} (s : SV) (k : Nat → Option β) : Option β := match scS s with
  | some (.i z) => gd (0 ≤ z) (k z.toNat)
  | some (.u8 x) => k x.toNat
  | some (.u16 x) => k x.toNat
  | some (.u32 x) => k x.toNat
  | some (.u64 x) => k x.toNat
  | _ => none
theorem natK_ok {β : Type} {K : Kn} {s : SV} {k : Nat → Option β} {r : β} {v : Value} (h : natK s k = some r) (hd : s.den K v) : ∃ (j : Nat) (kk : IntKind), v = .int kk (j : Int) ∧ k j = some r := by
  unfold natK at h
  split at h <;> try (cases h; done)
  · rename_i z e
    obtain ⟨h0, h⟩ := gd_some h
    refine ⟨z.toNat, .i64, ?_, h⟩
    rw [scS_ok e hd]; simp only [SL.SV.val]; rw [Int.toNat_of_nonneg h0]
  · rename_i x e; exact ⟨_, _, scS_ok e hd, h⟩
  · rename_i x e; exact ⟨_, _, scS_ok e hd, h⟩
  · rename_i x e; exact ⟨_, _, scS_ok e hd, h⟩
  · rename_i x e; exact ⟨_, _, scS_ok e hd, h⟩
end Go.GX
namespace Go.GX
open Go.RowKit Go.SL
set_option linter.unusedVariables false
set_option linter.unusedSimpArgs false
noncomputable def eqT : (t : Ty) → t.T → t.T → Bool
  | .int, x, y => decide ((x : Int) = y)
  | .u8, x, y => ((x : BitVec 8) == y)
  | .u32, x, y => ((x : BitVec 32) == y)
  | .u64, x, y => ((x : BitVec 64) == y)
  | .bool, x, y => ((x : Bool) == y)
  | .arr _ .u8, x, y => ((x : List (BitVec 8)) == y)
  | .pair a b, x, y => eqT a x.1 y.1 && eqT b x.2 y.2
  | _, _, _ => true
section
variable (P : Program)
/-- numbers, Bools, rows of bytes -/
noncomputable def lfE (t : TypeId) : Ty → Bool
  | .int => P.plainKey t && (match P.underlying t with | some (.int .i64) => true | _ => false)
  | .u8 => P.plainKey t && (match P.underlying t with | some (.int .u8) => true | _ => false)
  | .bool => P.plainKey t && (match P.underlying t with | some .bool => true | _ => false)
  | .arr n .u8 => (match P.underlying t with
    | some (.array n' e) => Nat.beq n n' && (match P.underlying e with | some (.int .u8) => true | _ => false) && (P.info? e).isSome && Nat.beq (P.cellsOf e) 1 && P.plainKey e && (P.info? t).isSome && Nat.beq (P.cellsOf t) n
    | _ => false)
  | _ => false
noncomputable def flE : List Field → Nat → Ty → Bool
  | [], _, .unit => true
  | f :: l, o, .pair a r => !(decide (f.name = "_")) && Nat.beq f.offset o && lfE P f.type a && flE l (o + a.w) r
  | _, _, _ => false
/-- may things of the type t, of the kind k, be held against one another? -/
noncomputable def eqE (t : TypeId) (k : Ty) : Bool := !(P.eqGuardType P.depth t) && (match k with
  | .arr n .u8 => lfE P t (.arr n .u8)
  | .pair a b => (match P.underlying t with
    | some (.struct _) => true
    | _ => false) && !(P.stoodInHeld t) && flE P (P.fieldsOf t).toList 0 (.pair a b)
  | _ => false)
end
theorem u8_map {m : Mem} : ∀ {l : List (BitVec 8)} {cs : List Value}, Cat (fun (x : BitVec 8) c => DenT m .u8 x c) l cs → cs = l.map bu8 := by
  intro l
  induction l with
  | nil => intro ys h; exact h
  | cons x l ih =>
    intro ys h
    obtain ⟨a, b, rfl, h1, h2⟩ := h
    rw [ih h2, show a = [_] from h1]; rfl
section
variable {P : Program} {w : World} {m : Mem}
theorem arr8_in {t e : TypeId} {N : Nat} (ht : P.underlying t = some (.array N e)) (he : P.underlying e = some (.int .u8)) (hi : (P.info? e).isSome = true) (hc : P.cellsOf e = 1) (hp : P.plainKey e = true) (d : Nat) {a b : List (BitVec 8)} (ha : a.length = N) (hb : b.length = N) :
    (Op.equalIn (d + 2) t (.agg (a.map bu8).toArray) (.agg (b.map bu8).toArray)).run P w = .ok (a == b) w := by
  obtain ⟨i, hi⟩ : ∃ i, P.info? e = some i := Option.isSome_iff_exists.1 hi
  rw [run_equalIn_array (P := P) (i := i) w (d + 1) _ _ ht hi]
  have h := Go.SL.eqItems8 he hc hp d a b w (List.range N) (fun j hj => by rw [ha, hb]; exact ⟨List.mem_range.1 hj, List.mem_range.1 hj⟩)
  rw [h]
  refine congrArg (fun x => Result.ok x w) ?_
  rw [Bool.eq_iff_iff, beq_iff_eq, List.all_eq_true]
  constructor
  · intro e
    refine List.ext_getElem? fun j => ?_
    by_cases hj : j < N
    · exact eq_of_beq (e j (List.mem_range.2 hj))
    · rw [List.getElem?_eq_none (by rw [ha]; omega), List.getElem?_eq_none (by rw [hb]; omega)]
  · rintro rfl j _; exact beq_self_eq_true _
/-- one part of two -/
theorem lfE_ok {t : TypeId} {k : Ty} (h : lfE P t k = true) {x : k.T} {c c0 c1 : List Value} (hx : DenT m k x c) : ∃ u, (part t (c0 ++ (c ++ c1)).toArray c0.length).run P w = .ok u w ∧ VD m k x u := by
  have one : ∀ {v : Value}, P.plainKey t = true → c = [v] → (part t (c0 ++ (c ++ c1)).toArray c0.length).run P w = .ok v w := fun {v} hp hc => by
    refine run_part_plain (P := P) w hp ?_
    subst hc
    simp
  cases k <;> simp only [lfE, Bool.false_eq_true] at h
  case int => simp only [Bool.and_eq_true] at h; exact ⟨_, one h.1 hx, rfl⟩
  case u8 => simp only [Bool.and_eq_true] at h; exact ⟨_, one h.1 hx, rfl⟩
  case bool => simp only [Bool.and_eq_true] at h; exact ⟨_, one h.1 hx, rfl⟩
  case arr n a =>
    cases a <;> simp only [lfE, Bool.false_eq_true] at h
    split at h <;> try (cases h; done)
    rename_i n' e hu
    simp only [Bool.and_eq_true] at h
    obtain ⟨⟨⟨⟨⟨⟨h1, h2⟩, h3⟩, h4⟩, h5⟩, h6⟩, h7⟩ := h
    have := Nat.eq_of_beq_eq_true h1; subst this
    have hct := Nat.eq_of_beq_eq_true h7
    obtain ⟨i, hi⟩ : ∃ i, P.info? t = some i := Option.isSome_iff_exists.1 h6
    obtain ⟨hl, hcat⟩ := hx
    have hlen : c.length = n := by rw [Cat.length (fun x c h => DenT.length h) hcat, hl]; exact Nat.mul_one _
    refine ⟨.agg c.toArray, ?_, c, rfl, hl, hcat⟩
    have ht : (c0 ++ (c ++ c1)).toArray.extract c0.length (c0.length + n) = c.toArray := by
      rw [← hlen]; simp
    simp [part, isAgg, run_underlying hu, run_sizeOf w hi, hct]
    rw [← hlen]
    simp
theorem lfE_eq {t : TypeId} {k : Ty} (h : lfE P t k = true) (d : Nat) {x y : k.T} {u v : Value} (hx : VD m k x u) (hy : VD m k y v) : (Op.equalIn (d + 2) t u v).run P w = .ok (eqT k x y) w := by
  cases k <;> simp only [lfE, Bool.false_eq_true] at h
  case int =>
    simp only [Bool.and_eq_true] at h
    obtain ⟨h1, h2⟩ := h
    split at h2 <;> try (cases h2; done)
    rename_i hu
    have hu1 : u = .int .i64 x := by have q : [u] = [_] := hx; simpa using q
    have hv1 : v = .int .i64 y := by have q : [v] = [_] := hy; simpa using q
    subst hu1; subst hv1
    rw [run_equalIn_int (P := P) w (d + 1) t .i64 .i64 x y hu]
    refine congrArg (fun b => Result.ok b w) ?_
    rw [Bool.eq_iff_iff]; simp [eqT]
  case u8 =>
    simp only [Bool.and_eq_true] at h
    obtain ⟨h1, h2⟩ := h
    split at h2 <;> try (cases h2; done)
    rename_i hu
    have hu1 : u = .int .u8 x.toNat := by have q : [u] = [_] := hx; simpa using q
    have hv1 : v = .int .u8 y.toNat := by have q : [v] = [_] := hy; simpa using q
    subst hu1; subst hv1
    rw [run_equalIn_int (P := P) w (d + 1) t .u8 .u8 _ _ hu]
    refine congrArg (fun b => Result.ok b w) ?_
    rw [toNat_beq]; rfl
  case bool =>
    simp only [Bool.and_eq_true] at h
    obtain ⟨h1, h2⟩ := h
    split at h2 <;> try (cases h2; done)
    rename_i hu
    have hu1 : u = .bool x := by have q : [u] = [_] := hx; simpa using q
    have hv1 : v = .bool y := by have q : [v] = [_] := hy; simpa using q
    subst hu1; subst hv1
    rw [run_equalIn_bool (P := P) w (d + 1) t x y hu]; rfl
  case arr n a =>
    cases a <;> simp only [lfE, Bool.false_eq_true] at h
    split at h <;> try (cases h; done)
    rename_i n' e hu
    simp only [Bool.and_eq_true] at h
    obtain ⟨⟨⟨⟨⟨⟨h1, h2⟩, h3⟩, h4⟩, h5⟩, h6⟩, h7⟩ := h
    have := Nat.eq_of_beq_eq_true h1; subst this
    split at h2 <;> try (cases h2; done)
    rename_i hue
    obtain ⟨cs, rfl, hl, hcat⟩ := hx
    obtain ⟨ds, rfl, hl2, hcat2⟩ := hy
    rw [u8_map hcat, u8_map hcat2]
    exact arr8_in hu hue h3 (Nat.eq_of_beq_eq_true h4) h5 d hl hl2
theorem flE_eq : ∀ {l : List Field} {k : Ty} {o : Nat}, flE P l o k = true → ∀ (d : Nat) {x y : k.T} {c c0 e e0 : List Value}, c0.length = o → e0.length = o → DenT m k x c → DenT m k y e →
    (Op.eqFields (d + 2) (c0 ++ c).toArray (e0 ++ e).toArray l).run P w = .ok (eqT k x y) w := by
  intro l
  induction l with
  | nil =>
    intro k o h d x y c c0 e e0 _ _ _ _
    cases k <;> simp only [flE, Bool.false_eq_true] at h
    simp [Op.eqFields, eqT]
  | cons f l ih =>
    intro k o h d x y c c0 e e0 hc0 he0 hx hy
    cases k <;> simp only [flE, Bool.false_eq_true] at h
    rename_i a r
    simp only [Bool.and_eq_true, Bool.not_eq_true', decide_eq_false_iff_not] at h
    obtain ⟨⟨⟨hn, ho⟩, hlf⟩, hr⟩ := h
    have ho' := Nat.eq_of_beq_eq_true ho
    obtain ⟨c1, c2, rfl, h1, h2⟩ := hx
    obtain ⟨e1, e2, rfl, g1, g2⟩ := hy
    obtain ⟨u, hu, hud⟩ := lfE_ok (w := w) (c0 := c0) (c1 := c2) hlf h1
    obtain ⟨v, hv, hvd⟩ := lfE_ok (w := w) (c0 := e0) (c1 := e2) hlf g1
    rw [hc0, ← ho'] at hu
    rw [he0, ← ho'] at hv
    have heq := lfE_eq (w := w) hlf d hud hvd
    have hrest := ih hr d (c0 := c0 ++ c1) (e0 := e0 ++ e1) (c := c2) (e := e2) (by rw [List.length_append, hc0, DenT.length h1]) (by rw [List.length_append, he0, DenT.length g1]) h2 g2
    rw [List.append_assoc, List.append_assoc] at hrest
    simp only [Op.eqFields, hn, ne_eq, not_false_eq_true, if_true, Sem.run_bind, hu, hv, heq, Result.andThen_ok]
    show _ = Result.ok (eqT a x.1 y.1 && eqT r x.2 y.2) w
    cases eqT a x.1 y.1
    · simp
    · simpa using hrest
/-- what that says -/
structure EqF (P : Program) (t : TypeId) (k : Ty) : Prop where
  agg : k.agg = true
  gd : P.eqGuardType P.depth t = false
  eq : ∀ (w : World) (m : Mem) (x y : k.T) (cs ds : List Value), DenT m k x cs → DenT m k y ds → (Op.equalIn 10000 t (.agg cs.toArray) (.agg ds.toArray)).run P w = .ok (eqT k x y) w
theorem eqE_ok {t : TypeId} {k : Ty} (h : eqE P t k = true) : EqF P t k := by
  unfold eqE at h
  simp only [Bool.and_eq_true, Bool.not_eq_true'] at h
  obtain ⟨hg, h⟩ := h
  split at h
  · rename_i n
    refine ⟨rfl, hg, fun w m x y cs ds hx hy => ?_⟩
    exact lfE_eq (m := m) h 9998 ⟨cs, rfl, hx⟩ ⟨ds, rfl, hy⟩
  · rename_i a b
    simp only [Bool.and_eq_true, Bool.not_eq_true'] at h
    obtain ⟨⟨hs, hst⟩, hf⟩ := h
    split at hs <;> try (cases hs; done)
    rename_i fs hu
    have hu' : P.underlying t = some (.struct (P.fieldsOf t)) := by unfold Program.fieldsOf; rw [hu]
    refine ⟨rfl, hg, fun w m x y cs ds hx hy => ?_⟩
    rw [run_equalIn_agg (P := P) w 9999 t cs.toArray ds.toArray hu' hst]
    exact flE_eq (c0 := []) (e0 := []) hf 9997 rfl rfl hx hy
  · cases h
end
section
variable {P : Program} {ρ : Operand → Value} {w : World} {dst : Option Tmp} {ty : TypeId} {pos : String} {af : Array Edge} {gd : Option (Nat × Bool)} {m : Mem}
theorem EqF.eql {t t' : TypeId} {k : Ty} (q : EqF P t k) {x y : k.T} {u v : Operand} {cs ds : List Value} (hx : DenT m k x cs) (hy : DenT m k y ds) (hu : ρ u = .agg cs.toArray) (hv : ρ v = .agg ds.toArray) : Ev P ρ ⟨dst, .binOp .eql t u v t', ty, pos, af, gd⟩ w (.bool (eqT k x y)) := by
  have h1 := run_eql_struct (P := P) w t cs.toArray ds.toArray
  rw [q.eq w m x y cs ds hx hy] at h1
  have h3 := run_eqGuard_agg (P := P) w .eql t u v cs.toArray ds.toArray q.gd
  simp only [Ev, execOp, hu, hv, Sem.run_bind, h3, h1, Result.andThen_ok, Sem.run_pure]
theorem EqF.neq {t t' : TypeId} {k : Ty} (q : EqF P t k) {x y : k.T} {u v : Operand} {cs ds : List Value} (hx : DenT m k x cs) (hy : DenT m k y ds) (hu : ρ u = .agg cs.toArray) (hv : ρ v = .agg ds.toArray) : Ev P ρ ⟨dst, .binOp .neq t u v t', ty, pos, af, gd⟩ w (.bool (!eqT k x y)) := by
  have h1 := run_neq_struct (P := P) w t cs.toArray ds.toArray
  rw [q.eq w m x y cs ds hx hy] at h1
  have h3 := run_eqGuard_agg (P := P) w .neq t u v cs.toArray ds.toArray q.gd
  simp only [Ev, execOp, hu, hv, Sem.run_bind, h3, h1, Result.andThen_ok, Sem.run_pure]
end
end Go.GX
namespace Go.GX
open Go.RowKit Go.SL
set_option linter.unusedVariables false
set_option linter.unusedSimpArgs false

/-! ### types, with what stands in a new variable -/
structure TX extends TI where
  z : Value
  zc : CT
  ty : Ty
  eqn : Nat
  eqf : Bool
/-- a struct of so many ints, that may be held against one another -/
noncomputable def flI (P : Program) : List Field → Nat → Bool
  | [], _ => true
  | f :: l, i => !(decide (f.name = "_")) && Nat.beq f.offset i && (match P.underlying f.type with | some (.int .i64) => true | _ => false) && flI P l (i + 1)
structure EqI (P : Program) (t n : Nat) : Prop where
  un : P.underlying t = some (.struct (P.fieldsOf t))
  st : P.stoodInHeld t = false
  gd : P.eqGuardType P.depth t = false
  len : (P.fieldsOf t).toList.length = n
  fl : flI P (P.fieldsOf t).toList 0 = true
/-- the cells of what is plain and holds nothing -/
noncomputable def renT : (t : Ty) → t.T → Option (List Value)
  | .int, z => some [.int .i64 z]
  | .u8, x => some [.int .u8 (x.toNat : Int)]
  | .u16, x => some [.int .u16 (x.toNat : Int)]
  | .u32, x => some [.int .u32 (x.toNat : Int)]
  | .u64, x => some [.int .u64 (x.toNat : Int)]
  | .bool, b => some [.bool b]
  | .str, l => some [strV l]
  | .unit, _ => some []
  | .pair a b, x => match renT a x.1, renT b x.2 with
    | some c, some d => some (c ++ d)
    | _, _ => none
  | .arr n a, l => bif Nat.beq l.length n then l.foldr (fun x r => match renT a x, r with
    | some c, some d => some (c ++ d)
    | _, _ => none) (some []) else none
  | .fz _, l => match l with
    | [] => some [.slice none 0 0]
    | _ => none
  | .vec _ _, l => match l with
    | [] => some [.slice none 0 0]
    | _ => none
  | .obox _ _, o => match o with
    | none => some [.pointer none]
    | some _ => none
  | .box _ _, _ => none
  | .map _, _ => none
theorem renT_ok {m : Mem} : ∀ {t : Ty} {x : t.T} {cs : List Value}, renT t x = some cs → OA m t x cs none0 := by
  intro t
  induction t with
  | pair a b iha ihb =>
    intro x cs h
    simp only [renT] at h
    split at h
    · rename_i c d hc hd
      cases h
      exact ⟨c, d, rfl, none0, none0, disj_none0 _, by rw [none0_uni], iha hc, ihb hd⟩
    · cases h
  | arr n a ih =>
    intro l cs h
    simp only [renT] at h
    cases hb : Nat.beq (List.length l) n with
    | false => rw [hb, cond_false] at h; cases h
    | true =>
      rw [hb, cond_true] at h
      refine ⟨Nat.eq_of_beq_eq_true hb, ?_⟩
      clear hb
      have key : ∀ (l : List a.T) (cs : List Value), List.foldr (fun x r => match renT a x, r with
        | some c, some d => some (c ++ d)
        | _, _ => none) (some []) l = some cs → CatA (fun x c => OA m a x c) l cs none0 := by
        intro l
        induction l with
        | nil => intro cs h; cases h; exact ⟨rfl, rfl⟩
        | cons x l ihl =>
          intro cs h
          simp only [List.foldr_cons] at h
          split at h
          · rename_i c d hc hd
            cases h
            exact ⟨c, d, rfl, none0, none0, disj_none0 _, by rw [none0_uni], ih hc, ihl _ hd⟩
          · cases h
      exact key l cs h
  | fz a ih =>
    intro l cs h
    simp only [renT] at h
    split at h
    · cases h; exact ⟨rfl, none, 0, rfl, Nat.le_refl _, .inl rfl⟩
    · cases h
  | vec e a ih =>
    intro l cs h
    simp only [renT] at h
    split at h
    · cases h
      exact ⟨_, [], rfl, none0, none0, disj_none0 _, by rw [none0_uni], ⟨by simp, .inl ⟨none, rfl, rfl, rfl⟩⟩, rfl, rfl⟩
    · cases h
  | obox e a ih =>
    intro o cs h
    simp only [renT] at h
    split at h
    · cases h; exact ⟨rfl, rfl⟩
    · cases h
  | box e a ih => intro x cs h; cases h
  | map a ih => intro x cs h; cases h
  | _ => intro x cs h; simp only [renT, Option.some.injEq] at h; exact ⟨rfl, h.symm⟩
noncomputable def renS : SV → Option Value
  | .nilS => some (.slice none 0 0)
  | .nilP => some (.pointer none)
  | .nilF => some .nilFunc
  | .nilM => some (.map none)
  | .nilI => some .nilIface
  | _ => none
noncomputable def CT.ren : CT → Option (List Value)
  | .cel s => match renS s with
    | some v => some [v]
    | none => none
  | .dat t x => renT t x
  | .nl => some []
  | .pr a b => match a.ren, b.ren with
    | some c, some d => some (c ++ d)
    | _, _ => none
theorem ren_ok {K : Kn} : ∀ {c : CT} {cs : List Value}, c.ren = some cs → CA K c cs none0 := by
  intro c
  induction c with
  | cel s =>
    intro cs h
    simp only [CT.ren] at h
    split at h
    · rename_i v hv
      cases h
      refine ⟨rfl, v, rfl, ?_⟩
      cases s <;> simp only [renS, Option.some.injEq, reduceCtorEq] at hv <;> subst hv <;> exact ⟨rfl, rfl⟩
    · cases h
  | dat t x => intro cs h; exact renT_ok h
  | nl => intro cs h; cases h; exact ⟨rfl, rfl⟩
  | pr a b iha ihb =>
    intro cs h
    simp only [CT.ren] at h
    split at h
    · rename_i c d hc hd
      cases h
      exact ⟨c, d, rfl, none0, none0, disj_none0 _, by rw [none0_uni], iha hc, ihb hd⟩
    · cases h
structure TX.ok (P : Program) (t : Nat) (i : TX) : Prop where
  desc : P.underlying t = some i.desc
  info : (P.info? t).map (fun i => (i.zero, i.size, i.bytes)) = some (some i.z, i.size, i.bytes)
  zs : i.z.cells.size = i.size
  ren : i.zc.ren = some i.z.cells.toList
  eqi : ∀ m, i.eqn = m + 1 → EqI P t (m + 1)
  eqf : i.eqf = true → EqF P t i.ty
theorem TX.ok.ti {P : Program} {t : Nat} {i : TX} (h : TX.ok P t i) : TI.ok P t i.toTI := ⟨h.desc, i.z, h.info, h.zs⟩
/-- types, and variables of the program that last, with what they are -/
structure TB where
  ts : List (Nat × TX)
  gs : List (Nat × SV)
  ro : Option (Nat × HP) := none
noncomputable def TB.tt (T : TB) : TT := T.ts.map fun e => (e.1, e.2.toTI)
noncomputable def TB.ok (P : Program) (T : TB) : Prop := ∀ e ∈ T.ts, TX.ok P e.1 e.2
theorem TB.ok.tt {P : Program} {T : TB} (h : T.ok P) : T.tt.ok P := by
  intro e he
  obtain ⟨x, hx, rfl⟩ := List.mem_map.1 he
  exact (h x hx).ti
noncomputable def tgL : List (Nat × TX) → Nat → Option TX
  | [], _ => none
  | (k, n) :: l, id => bif Nat.beq k id then some n else tgL l id
noncomputable def tg (T : TB) (t : Nat) : Option TX := tgL T.ts t
theorem tgL_ok {P : Program} {t : Nat} {i : TX} : ∀ {l : List (Nat × TX)}, (∀ e ∈ l, TX.ok P e.1 e.2) → tgL l t = some i → TX.ok P t i := by
  intro l
  induction l with
  | nil => intro _ e; cases e
  | cons a l ih =>
    obtain ⟨k, n⟩ := a
    intro h e
    simp only [tgL] at e
    cases hb : Nat.beq k t with
    | true =>
      rw [hb, cond_true] at e; cases e
      have := Nat.eq_of_beq_eq_true hb; subst this
      exact h _ (List.mem_cons_self ..)
    | false => rw [hb, cond_false] at e; exact ih (fun x hx => h x (List.mem_cons_of_mem _ hx)) e
theorem tg_ok {P : Program} {T : TB} (h : T.ok P) {t : Nat} {i : TX} (e : tg T t = some i) : TX.ok P t i := tgL_ok h e
/-- variables of the program that last -/
noncomputable def gget : List (Nat × SV) → Nat → Option SV
  | [], _ => none
  | (k, n) :: l, id => bif Nat.beq k id then some n else gget l id
noncomputable def GlS (p : Pers) (gs : List (Nat × SV)) : Prop := ∀ g sv, gget gs g = some sv → ∃ t x cs, sv = .dp t x ∧ At p.h g 0 cs ∧ DenT p.h t x cs
theorem GlS.mono {p q : Pers} (le : p.le q) {gs : List (Nat × SV)} (h : GlS p gs) : GlS q gs := fun g sv e => by
  obtain ⟨t, x, cs, h1, h2, h3⟩ := h g sv e
  exact ⟨t, x, cs, h1, h2.sub le.h, DenT.sub le.h h3⟩
theorem TX.ok.size {P : Program} {t : Nat} {i : TX} (h : TX.ok P t i) : (P.info? t).map (·.size) = some i.size := h.ti.size

/-! ### lists of symbolic values -/
noncomputable def nthS : SV → Nat → Option SV
  | .pr a _, 0 => some a
  | .pr _ b, i + 1 => nthS b i
  | _, _ => none
theorem nthS_ok {K : Kn} : ∀ {s : SV} {i : Nat} {u : SV} {vs : List Value}, s.dn K .l vs → nthS s i = some u → ∃ v, vs[i]? = some v ∧ u.den K v := by
  intro s
  induction s with
  | pr a b iha ihb =>
    intro i u vs hd h
    obtain ⟨v, d, rfl, h1, h2⟩ := hd
    cases i with
    | zero => cases h; exact ⟨v, rfl, h1⟩
    | succ i => obtain ⟨v', e, hv⟩ := ihb h2 h; exact ⟨v', by simpa using e, hv⟩
  | _ => intro i u vs hd h; cases i <;> cases h
noncomputable def mapS (ρ : Rho) : List Operand → Option SV
  | [] => some .nl
  | x :: l => match ρ x, mapS ρ l with
    | some a, some b => some (.pr a b)
    | _, _ => none
theorem mapS_ok {K : Kn} {ρ : Rho} {e : Operand → Value} (h : RhoOk K ρ e) : ∀ {l : List Operand} {s : SV}, mapS ρ l = some s → s.dn K .l (l.map e) := by
  intro l
  induction l with
  | nil => intro s hs; cases hs; rfl
  | cons x l ih =>
    intro s hs
    simp only [mapS] at hs
    split at hs
    · rename_i a b ha hb
      cases hs
      exact ⟨_, _, rfl, h _ _ ha, ih hb⟩
    · cases hs

/-! ### one by one -/
section
variable {P : Program} {n : Nat} {τ : Fr} {w : World} {β : Type} {dst : Option Tmp} {ty : TypeId} {pos : String} {af : Array Edge} {gd' : Option (Nat × Bool)} {K : Kn} {s : SS} {k : SV → SS → Option β} {r : β} {ρ : Rho} {T : TB}
noncomputable def pMove (ρ : Rho) (s : SS) (x : Operand) (k : SV → SS → Option β) : Option β := match ρ x with
  | some a => k a s
  | none => none
theorem pMove_ok (hρ : RhoOk K ρ (AF n τ).eval) (i : Inv K s w) {x : Operand} (h : pMove ρ s x k = some r) : PureR P n ⟨dst, .move x, ty, pos, af, gd'⟩ τ w K k r := by
  unfold pMove at h
  split at h
  · rename_i a ha; exact PureR.mk i h (hρ _ _ ha) fun w' => E.move rfl
  · cases h
theorem pAssign_ok (hρ : RhoOk K ρ (AF n τ).eval) (i : Inv K s w) {x : Operand} (h : pMove ρ s x k = some r) : PureR P n ⟨dst, .assign x, ty, pos, af, gd'⟩ τ w K k r := by
  unfold pMove at h
  split at h
  · rename_i a ha; exact PureR.mk i h (hρ _ _ ha) fun w' => E.assign rfl
  · cases h
/-- a choice of two -/
noncomputable def selD (b : Bool) (x y : SV) : Option SV := match x, y with
  | .d t u, .d t' u' => match castT t' t u' with
    | some u2 => some (.d t (cond b u u2))
    | none => none
  | _, _ => none
theorem selD_ok {b : Bool} {x y z : SV} {v u : Value} (h : selD b x y = some z) (hx : b = true → x.den K v) (hy : b = false → y.den K u) : z.den K (cond b v u) := by
  unfold selD at h
  split at h
  · split at h
    · rename_i u2 hc
      obtain ⟨rfl, e⟩ := castT_eq hc
      cases e
      cases h
      cases b with
      | true => exact hx rfl
      | false => exact hy rfl
    · cases h
  · cases h
noncomputable def pPick (ρ : Rho) (s : SS) (c x y : Operand) (k : SV → SS → Option β) : Option β := match ρ c with
  | some cv => match scS cv with
    | some (.b b) => match ρ x, ρ y with
      | some u, some v => match selD b u v with
        | some z => k z s
        | none => br b (k u s) (k v s)
      | some u, none => br b (k u s) none
      | none, some v => br b none (k v s)
      | none, none => none
    | _ => none
  | none => none
theorem pPick_ok (hρ : RhoOk K ρ (AF n τ).eval) (i : Inv K s w) {c x y : Operand} (h : pPick ρ s c x y k = some r) : PureR P n ⟨dst, .pick c x y, ty, pos, af, gd'⟩ τ w K k r := by
  unfold pPick at h
  split at h <;> try (cases h; done)
  rename_i cv hc
  split at h <;> try (cases h; done)
  rename_i b hb
  have hcv := scS_ok hb (hρ _ _ hc)
  have tk : ∀ {u : SV} {z : Operand}, ρ z = some u → k u s = some r → ((AF n τ).eval z = if b then (AF n τ).eval x else (AF n τ).eval y) → PureR P n ⟨dst, .pick c x y, ty, pos, af, gd'⟩ τ w K k r := fun hz hk he =>
    PureR.mk i hk (hρ _ _ hz) fun w' => E.pick hcv he.symm
  split at h
  · rename_i u v hu hv
    split at h
    · rename_i z hz
      refine PureR.mk i h (selD_ok hz (fun _ => hρ _ _ hu) (fun _ => hρ _ _ hv)) fun w' => E.pick hcv ?_
      cases b <;> rfl
    · rcases br_some h with ⟨rfl, h'⟩ | ⟨rfl, h'⟩
      · exact tk hu h' rfl
      · exact tk hv h' rfl
  · rename_i u hu hv
    rcases br_some h with ⟨rfl, h'⟩ | ⟨rfl, h'⟩
    · exact tk hu h' rfl
    · cases h'
  · rename_i v hu hv
    rcases br_some h with ⟨rfl, h'⟩ | ⟨rfl, h'⟩
    · cases h'
    · exact tk hv h' rfl
  · cases h
/-- is a pointer nil? -/
noncomputable def nilq : SV → Option Bool
  | .nilP => some true
  | .ptr _ _ | .dp _ _ | .bp _ _ => some false
  | _ => none
theorem nilq_ok {K : Kn} {x : SV} {b : Bool} {v : Value} (h : nilq x = some b) (hd : x.den K v) : ∃ p : Option Addr, v = .pointer p ∧ p.isNone = b := by
  cases x <;> simp only [nilq, Option.some.injEq, reduceCtorEq] at h <;> subst h
  case nilP => cases hd; exact ⟨none, rfl, rfl⟩
  case dp => obtain ⟨b, o, cs, e, _⟩ := hd; cases e; exact ⟨_, rfl, rfl⟩
  case bp => obtain ⟨b, o, cs, e, _⟩ := hd; cases e; exact ⟨_, rfl, rfl⟩
  case ptr => obtain ⟨u, b, _, _, e⟩ := hd; cases e; exact ⟨_, rfl, rfl⟩
noncomputable def strS : SV → Option (List (BitVec 8))
  | .d .str l | .bd .str l => some l
  | _ => none
theorem strS_ok {x : SV} {l : List (BitVec 8)} {v : Value} (h : strS x = some l) (hd : x.den K v) : v = strV l := by
  unfold strS at h
  split at h <;> (first | cases h | skip) <;> (obtain ⟨v', e, hd⟩ := hd; cases e; cases hd; rfl)
noncomputable def isPtr : TypeDesc → Bool
  | .pointer _ => true
  | _ => false
noncomputable def pBin (T : TB) (ρ : Rho) (s : SS) (op : BinOp) (t : Nat) (x y : Operand) (k : SV → SS → Option β) : Option β := match ρ x, ρ y with
  | some a, some b => match scS a, scS b with
    | some (.b u), some (.b v) => match tg T t with
      | some i => match i.desc, op with
        | .bool, .eql => k (.d .bool (u == v)) s
        | .bool, .neq => k (.d .bool (u != v)) s
        | _, _ => none
      | none => none
    | some u, some v => bopK op u v fun z => k z s
    | _, _ => match strS a, strS b with
      | some u, some v => match op with
        | .eql => k (.d .bool (u == v)) s
        | .neq => k (.d .bool (u != v)) s
        | _ => none
      | _, _ => match nilq a, b, tg T t with
        | some c, .nilP, some i => bif isPtr i.desc then (match op with
          | .eql => k (.d .bool c) s
          | .neq => k (.d .bool (!c)) s
          | _ => none) else none
        | _, _, _ => none
  | _, _ => none
theorem bool_d (b : Bool) : SV.den K (.d .bool b) (.bool b) := ⟨_, rfl, rfl⟩
theorem pBin_ok (hT : T.ok P) (hρ : RhoOk K ρ (AF n τ).eval) (i : Inv K s w) {op : BinOp} {t t' : Nat} {x y : Operand} (h : pBin T ρ s op t x y k = some r) : PureR P n ⟨dst, .binOp op t x y t', ty, pos, af, gd'⟩ τ w K k r := by
  unfold pBin at h
  split at h <;> try (cases h; done)
  rename_i a b ha hb
  have hx := hρ _ _ ha
  have hy := hρ _ _ hb
  split at h
  · rename_i u v hu hv
    split at h <;> try (cases h; done)
    rename_i ti hti
    have hd := (tg_ok hT hti).desc
    split at h <;> try (cases h; done)
    · rename_i e; rw [e] at hd
      exact PureR.mk i h (bool_d _) fun w' => E.eqlB hd (scS_ok hu hx) (scS_ok hv hy)
    · rename_i e; rw [e] at hd
      exact PureR.mk i h (bool_d _) fun w' => E.neqB hd (scS_ok hu hx) (scS_ok hv hy)
  · rename_i u v hne hu hv
    obtain ⟨z, sv, h1, h2, h3⟩ := bopK_ok (P := P) (K := K) (dst := dst) (ty := ty) (pos := pos) (af := af) (gd := gd') (t := t) (t' := t') h (scS_ok hu hx) (scS_ok hv hy)
    exact PureR.mk i h2 h1 h3
  · split at h
    · rename_i u v hu hv
      split at h <;> try (cases h; done)
      · exact PureR.mk i h (bool_d _) fun w' => E.eqlSB (strS_ok hu hx) (strS_ok hv hy)
      · exact PureR.mk i h (bool_d _) fun w' => E.neqSB (strS_ok hu hx) (strS_ok hv hy)
    · split at h <;> try (cases h; done)
      rename_i c ti hc hti _ _ _
      cases hq : isPtr ti.desc with
      | false => rw [hq, cond_false] at h; cases h
      | true =>
      rw [hq, cond_true] at h
      obtain ⟨p, hp, rfl⟩ := nilq_ok hc hx
      have hd := (tg_ok hT hti).desc
      have hy' : (AF n τ).eval y = .pointer none := by have q : [(AF n τ).eval y] = [Value.pointer none] := hy; simpa using q
      cases hdd : ti.desc <;> rw [hdd] at hq hd <;> simp only [isPtr, Bool.false_eq_true] at hq
      split at h <;> try (cases h; done)
      · exact PureR.mk i h (bool_d _) fun w' => E.eqlP hd hp hy'
      · exact PureR.mk i h (bool_d _) fun w' => E.neqP hd hp hy'
end
end Go.GX
