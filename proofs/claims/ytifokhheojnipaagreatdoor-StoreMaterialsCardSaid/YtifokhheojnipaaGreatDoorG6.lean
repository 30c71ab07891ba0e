/- Code: what its parts come to, one behind the other; where ways meet, and rounds. -/
import Derived.Test.YtifokhheojnipaaGreatDoorG5
set_option linter.unusedVariables false
set_option linter.unusedSimpArgs false
set_option linter.unnecessarySimpa false
namespace Go.GX
open Go.RowKit Go.SL
set_option linter.unusedVariables false
set_option linter.unusedSimpArgs false

inductive Ex where
  | n
  | x (id : Nat)
  | r
noncomputable def Ex.ex : Ex → Exit
  | .n => .normal
  | .x id => .exit id
  | .r => .ret
/-- more has happened: names may have been forgotten -/
structure Bl (K L : Kn) : Prop where
  p : K.p.le L.p
  F : L.F = K.F
  nx : K.nx ≤ L.nx
  E : ∀ k, k < K.nx → L.E k = none ∨ L.E k = K.E k
  rd : ∀ k o, K.rd k = some o → L.rd k = some o
theorem Kn.le.bl {K L : Kn} (h : K.le L) : Bl K L := by
  refine ⟨h.p, h.F, h.nx, fun k hk => ?_, h.rd⟩
  cases e : K.E k with
  | none => exact .inl (h.N k hk e)
  | some v => exact .inr (h.E k v e)
theorem Bl.trans {K L M : Kn} (a : Bl K L) (b : Bl L M) : Bl K M := by
  refine ⟨a.p.trans b.p, b.F.trans a.F, Nat.le_trans a.nx b.nx, fun k hk => ?_, fun k o h => b.rd _ _ (a.rd _ _ h)⟩
  rcases b.E k (Nat.lt_of_lt_of_le hk a.nx) with e | e
  · exact .inl e
  · rw [e]; exact a.E k hk
theorem Bl.refl (K : Kn) : Bl K K := (Kn.le.refl K).bl

/-! ### where ways meet -/
inductive Sk where
  | d (t : Ty)
  | b (t : Ty)
/-- what a block holds: parts that change, parts that stay -/
inductive BS where
  | d (t : Ty)
  | bw (t : Ty)
  | k (s : SV)
  | nl
  | pr (a b : BS)
/-- what is held: a block, or a row -/
inductive HS where
  | blk (e : Nat) (b : BS)
  | row (e : Nat) (t : Ty)
  | map (t : Ty)
/-- sl: slots that change, by their kinds; bl: blocks and rows that change; fz: rows that last from here on; dr: names that are let go of. All else stays as it is. -/
structure J where
  sl : List (Nat × Sk)
  bl : List (Nat × HS)
  fz : List Nat
  dr : List Nat
@[reducible] def BS.T : BS → Type
  | .d t => t.T
  | .bw t => t.T
  | .k _ => Unit
  | .nl => Unit
  | .pr a b => a.T × b.T
@[reducible] def HS.T : HS → Type
  | .blk _ b => b.T
  | .row _ t => List t.T
  | .map t => List (Int × t.T)
noncomputable def steq : List Step → List Step → Bool
  | [], [] => true
  | .f k o :: l, .f k' o' :: l' => Nat.beq k k' && Nat.beq o o' && steq l l'
  | .i k o :: l, .i k' o' :: l' => Nat.beq k k' && Nat.beq o o' && steq l l'
  | _, _ => false
theorem steq_ok : ∀ {a b : List Step}, steq a b = true → a = b := by
  intro a
  induction a with
  | nil => intro b h; cases b with
    | nil => rfl
    | cons _ _ => cases h
  | cons x l ih =>
    intro b h
    cases b with
    | nil => cases x <;> cases h
    | cons y m =>
      cases x <;> cases y <;> simp only [steq, Bool.and_eq_true, Bool.false_eq_true] at h
      · rw [Nat.eq_of_beq_eq_true h.1.1, Nat.eq_of_beq_eq_true h.1.2, ih h.2]
      · rw [Nat.eq_of_beq_eq_true h.1.1, Nat.eq_of_beq_eq_true h.1.2, ih h.2]
/-- the same value, for those that stay -/
noncomputable def kEq : SV → SV → Bool
  | .vr i, .vr j => Nat.beq i j
  | .mp i, .mp j => Nat.beq i j
  | .ptr i a, .ptr j b => Nat.beq i j && steq a b
  | .nilS, .nilS => true
  | .nilP, .nilP => true
  | .nilF, .nilF => true
  | .nilM, .nilM => true
  | .nilI, .nilI => true
  | _, _ => false
theorem kEq_ok {a b : SV} (h : kEq a b = true) : a = b := by
  unfold kEq at h
  split at h <;> first | rfl | (rw [Nat.eq_of_beq_eq_true h]) | (cases h; done) | skip
  simp only [Bool.and_eq_true] at h
  rw [Nat.eq_of_beq_eq_true h.1, steq_ok h.2]
noncomputable def insC : (b : BS) → b.T → CT
  | .d t, x => .dat t x
  | .bw t, x => .cel (.bd t x)
  | .k v, _ => .cel v
  | .nl, _ => .nl
  | .pr a b, x => .pr (insC a x.1) (insC b x.2)
noncomputable def HS.ins : (h : HS) → h.T → EN
  | .blk e b, x => .blk e (insC b x)
  | .row e t, l => .row e t l
  | .map t, l => .map t l
noncomputable def bSk (v : SV) (t : Ty) : Option t.T := match v with
  | .d t' y => castT t' t y
  | .bd t' y => castT t' t y
  | .nilS => (match t with
    | .fz a => some ([] : List a.T)
    | _ => none)
  | _ => none
noncomputable def absC : (b : BS) → SS → CT → Option (b.T × SS)
  | .d t, s, c => outC 30 s c t
  | .bw t, s, c => match c with
    | .cel u => match bSk u t with
      | some y => some (y, s)
      | none => none
    | _ => none
  | .k v, s, c => match c with
    | .cel u => bif kEq v u then some ((), s) else none
    | _ => none
  | .nl, s, c => match open1 c with
    | .nl => some ((), s)
    | _ => none
  | .pr a b, s, c => match open1 c with
    | .pr x y => match absC a s x with
      | some (u, s1) => match absC b s1 y with
        | some (v, s2) => some ((u, v), s2)
        | none => none
      | none => none
    | _ => none
@[reducible] def Sk.T : Sk → Type
  | .d t => t.T
  | .b t => t.T
@[reducible] def slT : List (Nat × Sk) → Type
  | [] => Unit
  | (_, k) :: l => k.T × slT l
@[reducible] def blT : List (Nat × HS) → Type
  | [] => Unit
  | (_, h) :: l => h.T × blT l
noncomputable def absS : (l : List (Nat × Sk)) → FM → SS → Option (slT l × SS)
  | [], _, s => some ((), s)
  | (x, .d t) :: l, fr, s => match flook fr x with
    | some v => match outV 30 s v t with
      | some (y, s1) => match absS l fr s1 with
        | some (z, s2) => some ((y, z), s2)
        | none => none
      | none => none
    | none => none
  | (x, .b t) :: l, fr, s => match flook fr x with
    | some v => match bSk v t with
      | some y => match absS l fr s with
        | some (z, s2) => some ((y, z), s2)
        | none => none
      | none => none
    | none => none
noncomputable def absH (h : HS) (id : Nat) (s : SS) : Option (h.T × SS) := match h with
  | .blk e b => (match hget s.hp id with
    | some (.blk e' c) => bif Nat.beq e e' then absC b { s with hp := hdel s.hp id } c else none
    | _ => none)
  | .row e t => (match hget s.hp id with
    | some (.row e' t' l) => (match castT (.vec e' t') (.vec e t) l with
      | some y => some (y, { s with hp := hdel s.hp id })
      | none => none)
    | some (.foc e' t' l j c) => (match outC 30 { s with hp := hdel s.hp id } c t' with
      | some (x, s1) => (match castT (.vec e' t') (.vec e t) (l.set j x) with
        | some y => some (y, s1)
        | none => none)
      | none => none)
    | _ => none)
  | .map t => (match hget s.hp id with
    | some (.map t' l) => (match castT (.map t') (.map t) l with
      | some y => some (y, { s with hp := hdel s.hp id })
      | none => none)
    | _ => none)
noncomputable def absB : (l : List (Nat × HS)) → SS → Option (blT l × SS)
  | [], s => some ((), s)
  | (id, h) :: l, s => match absH h id s with
    | some (y, s1) => match absB l s1 with
      | some (z, s2) => some ((y, z), s2)
      | none => none
    | none => none
noncomputable def absJ (j : J) (fr : FM) (s : SS) : Option ((slT j.sl × blT j.bl) × SS) := match absS j.sl fr s with
  | some (y, s1) => match absB j.bl s1 with
    | some (z, s2) => some ((y, z), s2)
    | none => none
  | none => none
noncomputable def insS {β : Type} : (l : List (Nat × Sk)) → slT l → FM → SS → (FM → SS → Option β) → Option β
  | [], _, fr, s, k => k fr s
  | (x, .d t) :: l, v, fr, s, k => inV t v.1 s fun sv s' => insS l v.2 ((x, sv) :: fr) s' k
  | (x, .b t) :: l, v, fr, s, k => insS l v.2 ((x, .bd t v.1) :: fr) s k
noncomputable def insB : (l : List (Nat × HS)) → blT l → HP
  | [], _ => []
  | (id, h) :: l, v => (id, h.ins v.1) :: insB l v.2
/-- the slots that are not written to -/
noncomputable def kept (ds : Nat → Bool) : FM → FM
  | [] => []
  | (x, s) :: l => bif ds x then kept ds l else (x, s) :: kept ds l
noncomputable def insJ {β : Type} (j : J) (n : Nat) (rest : HP) (v : slT j.sl × blT j.bl) (fr0 : FM) (k : FM → SS → Option β) : Option β :=
  insS j.sl v.1 fr0 ⟨insB j.bl v.2 ++ rest, n⟩ k
/-- names below n alone -/
noncomputable def staS (n : Nat) : SV → Bool
  | .d _ _ | .bd _ _ | .dp _ _ | .bp _ _ | .nilS | .nilP | .nilF | .nilM | .nilI | .lit _ | .un | .nl => true
  | .ptr id _ => Nat.blt id n
  | .mp id => Nat.blt id n
  | .vr id => Nat.blt id n
  | .vw id _ _ => Nat.blt id n
  | .fn _ b c => staS n b && staS n c
  | .ag c => staS n c
  | .tup c => staS n c
  | .ifc _ c => staS n c
  | .pr a b => staS n a && staS n b
noncomputable def staC (n : Nat) : BS → Bool
  | .d _ => true
  | .bw _ => true
  | .k s => staS n s
  | .nl => true
  | .pr a b => staC n a && staC n b
noncomputable def staH (n : Nat) : HS → Bool
  | .blk _ b => staC n b
  | .row _ _ => true
  | .map _ => true
noncomputable def staT (n : Nat) : CT → Bool
  | .cel s => staS n s
  | .dat _ _ => true
  | .nl => true
  | .pr a b => staT n a && staT n b
noncomputable def staE (n : Nat) : EN → Bool
  | .blk _ c => staT n c
  | .foc _ _ _ _ c => staT n c
  | _ => true
noncomputable def staR (n : Nat) : HP → Bool
  | [] => true
  | (id, e) :: l => Nat.blt id n && staE n e && staR n l
noncomputable def jok (j : J) (n : Nat) (rest : HP) : Bool := (j.bl.all fun e => Nat.blt e.1 n && staH n e.2) && staR n rest
/-- what is not listed -/
noncomputable def restOf (no : List Nat) : HP → HP
  | [] => []
  | (id, e) :: l => bif no.any (Nat.beq id) then restOf no l else (id, e) :: restOf no l
/-- rows that last from here on -/
noncomputable def frzL (ids : List Nat) (s : SS) : SS := match ids with
  | [] => s
  | id :: l => match hget s.hp id with
    | some (.row _ t r) => bif t.pure then frzL l { s with hp := (id, .fro t r) :: hdel s.hp id } else frzL l s
    | _ => frzL l s

/-- a piece at a row's begin is the row from here on -/
noncomputable def nrmW {β : Type} (s : SS) (v : SV) (e : Nat) (t : Ty) (k : SV → SS → Option β) : Option β := appTo s v e t fun l s1 => k (.vr s1.nx) (add1 s1 (.row e t l))
theorem nrmW_ok {β : Type} {r : β} {w : World} {s : SS} {e : Nat} {t : Ty} {k : SV → SS → Option β} {K : Kn} {a : SV} {v : Value} (h : nrmW s a e t k = some r) (i : Inv K s w) (hd : a.den K v) : ∃ K' s' a', K.le K' ∧ Inv K' s' w ∧ a'.den K' v ∧ k a' s' = some r := by
  obtain ⟨l, s1, xs, hn1, st1, h⟩ := appTo_ok h i.nx i.st hd
  have hs : ∃ X n c, v = .slice X n c := by
    obtain ⟨hh, hall, _⟩ := id st1
    obtain ⟨p, q, _, _, hown, _⟩ := hall
    obtain ⟨_, ⟨A, he, _⟩ | ⟨g, cap, cur, he, _⟩⟩ := hown
    · exact ⟨_, _, _, he⟩
    · exact ⟨_, _, _, he⟩
  obtain ⟨X, n, c, rfl⟩ := hs
  have st2 : St K.p w ((EN.row e t l).asn (K.name (.slice X n c)) K.nx :: (asns K s1.hp ++ ([] ++ [Exact K.F]))) :=
    St.mkex (.slice X n c) (St.mkex xs (St.mkiff Kn.name_eq (St.mksep st1)))
  obtain ⟨le, i2⟩ := Inv2.name hn1 st2
  exact ⟨_, _, .vr s1.nx, le, i2.inv, ⟨X, n, c, by rw [hn1.eq]; exact Kn.name_eq, rfl⟩, h⟩
noncomputable def nrmD {β : Type} (t : Ty) (s : SS) (v : SV) (k : SV → SS → Option β) : Option β := match t with
  | .vec e a => nrmW s v e a k
  | _ => nrm s v k
theorem nrmD_ok {β : Type} {r : β} {w : World} {t : Ty} {s : SS} {k : SV → SS → Option β} {K : Kn} {a : SV} {v : Value} (h : nrmD t s a k = some r) (i : Inv K s w) (hd : a.den K v) : ∃ K' s' a', K.le K' ∧ Inv K' s' w ∧ a'.den K' v ∧ k a' s' = some r := by
  unfold nrmD at h
  split at h
  · exact nrmW_ok h i hd
  · exact nrm_ok h i hd
/-- slots that are to be told: pieces last from here on -/
noncomputable def nrmS {β : Type} : List (Nat × Sk) → FM → SS → (FM → SS → Option β) → Option β
  | [], fr, s, k => k fr s
  | (x, .d t) :: l, fr, s, k => match flook fr x with
    | some (.vw id pa m) => nrmD t s (.vw id pa m) fun a s1 => nrmS l ((x, a) :: fr) s1 k
    | _ => nrmS l fr s k
  | (x, .b _) :: l, fr, s, k => match flook fr x with
    | some v => nrm s v fun a s1 => nrmS l ((x, a) :: fr) s1 k
    | none => nrmS l fr s k
theorem nrmS_ok {β : Type} {r : β} {τ : Fr} {w : World} : ∀ {l : List (Nat × Sk)} {fr : FM} {s : SS} {k : FM → SS → Option β}, nrmS l fr s k = some r → ∀ {K : Kn}, Inv K s w → FrOk K fr τ → ∃ K' fr' s', K.le K' ∧ Inv K' s' w ∧ FrOk K' fr' τ ∧ k fr' s' = some r := by
  intro l
  induction l with
  | nil => intro fr s k h K i f; exact ⟨K, fr, s, Kn.le.refl _, i, f, h⟩
  | cons a l ih =>
    obtain ⟨x, q⟩ := a
    intro fr s k h K i f
    have go : ∀ {v : SV}, flook fr x = some v → nrm s v (fun a s1 => nrmS l ((x, a) :: fr) s1 k) = some r → ∃ K' fr' s', K.le K' ∧ Inv K' s' w ∧ FrOk K' fr' τ ∧ k fr' s' = some r := by
      intro v hv h
      obtain ⟨K1, s1, a1, le1, i1, hd, h1⟩ := nrm_ok h i (f _ _ hv)
      obtain ⟨K2, fr', s', le2, i2, f2, h2⟩ := ih h1 i1 ((f.mono le1).as hd)
      exact ⟨K2, fr', s', le1.trans le2, i2, f2, h2⟩
    cases q with
    | d t =>
      simp only [nrmS] at h
      split at h
      · rename_i hv
        obtain ⟨K1, s1, a1, le1, i1, hd, h1⟩ := nrmD_ok h i (f _ _ hv)
        obtain ⟨K2, fr', s', le2, i2, f2, h2⟩ := ih h1 i1 ((f.mono le1).as hd)
        exact ⟨K2, fr', s', le1.trans le2, i2, f2, h2⟩
      · exact ih h i f
    | b t =>
      simp only [nrmS] at h
      split at h
      · rename_i hv; exact go hv h
      · exact ih h i f
/-- pieces that are handed on last from now on -/
noncomputable def nrmV {β : Type} (s : SS) (a : SV) (k : SV → SS → Option β) : Option β := match a with
  | .vw id pa m => nrm s (.vw id pa m) k
  | a => k a s
theorem nrmV_ok {β : Type} {r : β} {w : World} {s : SS} {k : SV → SS → Option β} {K : Kn} {a : SV} {v : Value} (h : nrmV s a k = some r) (i : Inv K s w) (hd : a.den K v) : ∃ K' s' a', K.le K' ∧ Inv K' s' w ∧ a'.den K' v ∧ k a' s' = some r := by
  unfold nrmV at h
  split at h
  · exact nrm_ok h i hd
  · exact ⟨K, s, _, Kn.le.refl _, i, hd, h⟩
noncomputable def nrmP {β : Type} : SV → SS → (SV → SS → Option β) → Option β
  | .pr a b, s, k => nrmV s a fun a' s1 => nrmP b s1 fun b' s2 => k (.pr a' b') s2
  | v, s, k => k v s
theorem nrmP_ok {β : Type} {r : β} {w : World} : ∀ {c : SV} {s : SS} {k : SV → SS → Option β}, nrmP c s k = some r → ∀ {K : Kn} {us : List Value}, Inv K s w → c.dn K .l us → ∃ K' s' c', K.le K' ∧ Inv K' s' w ∧ c'.dn K' .l us ∧ k c' s' = some r := by
  intro c
  induction c with
  | pr a b iha ihb =>
    intro s k h K us i hd
    simp only [nrmP] at h
    obtain ⟨v, d, rfl, h1, h2⟩ := hd
    obtain ⟨K1, s1, a1, le1, i1, hd1, h3⟩ := nrmV_ok h i h1
    obtain ⟨K2, s2, b2, le2, i2, hd2, h4⟩ := ihb h3 i1 (SV.mono le1 h2)
    exact ⟨K2, s2, .pr a1 b2, le1.trans le2, i2, ⟨v, d, rfl, SV.mono le2 hd1, hd2⟩, h4⟩
  | _ => intro s k h K us i hd; exact ⟨K, s, _, Kn.le.refl _, i, hd, h⟩

/-! #### the same as before -/
noncomputable def gdE0 {β : Type} (c : Prop) (x : Option β) : Option β := by classical exact if c then x else none
noncomputable def gdEO : {f : (β : Type) → Prop → Option β → Option β // f = fun β c x => gdE0 c x} := Classical.choice ⟨⟨_, rfl⟩⟩
@[irreducible] noncomputable def gdE {β : Type} (c : Prop) (x : Option β) : Option β := gdEO.1 β c x
theorem gdE_eq {β : Type} (c : Prop) (x : Option β) : gdE c x = gdE0 c x := by unfold gdE; rw [gdEO.2]
theorem gdE_some {β : Type} {c : Prop} {x : Option β} {r : β} (h : gdE c x = some r) : c ∧ x = some r := by
  rw [gdE_eq] at h; unfold gdE0 at h
  split at h
  · exact ⟨‹_›, h⟩
  · cases h
theorem gdE_t {β : Type} {c : Prop} (h : c) (x : Option β) : gdE c x = x := by rw [gdE_eq]; unfold gdE0; rw [if_pos h]
@[simp] theorem gdE_rfl {β α : Type} (a : α) (x : Option β) : gdE (a = a) x = x := gdE_t rfl x
section
variable {β : Type}
noncomputable def eqS : SV → SV → Option β → Option β
  | .d t x, .d t' x', k => match castT t' t x' with
    | some y => gdE (y = x) k
    | none => none
  | .bd t x, .bd t' x', k => match castT t' t x' with
    | some y => gdE (y = x) k
    | none => none
  | .dp t x, .dp t' x', k => match castT t' t x' with
    | some y => gdE (y = x) k
    | none => none
  | .bp t x, .bp t' x', k => match castT t' t x' with
    | some y => gdE (y = x) k
    | none => none
  | .fn (.func f) b c, .fn (.func f') b' c', k => bif Nat.beq f f' then eqS b b' (eqS c c' k) else none
  | .ag c, .ag c', k => eqS c c' k
  | .pr a b, .pr a' b', k => eqS a a' (eqS b b' k)
  | .nl, .nl, k => k
  | .un, .un, k => k
  | a, b, k => bif kEq a b then k else none
noncomputable def eqC : Nat → CT → CT → Option β → Option β
  | 0, _, _, _ => none
  | f + 1, c, c', k => match c, c' with
    | .cel s, .cel s' => eqS s s' k
    | .dat t x, .dat t' x' => (match castT t' t x' with
      | some y => gdE (y = x) k
      | none => none)
    | .nl, .nl => k
    | c, c' => match open1 c, open1 c' with
      | .pr a b, .pr a' b' => eqC f a a' (eqC f b b' k)
      | .nl, .nl => k
      | _, _ => none
noncomputable def eqN : EN → EN → Option β → Option β
  | .blk e c, .blk e' c', k => bif Nat.beq e e' then eqC 30 c c' k else none
  | .row e t l, .row e' t' l', k => (match castT (.vec e' t') (.vec e t) l' with
    | some y => gdE (y = l) k
    | none => none)
  | .fro t l, .fro t' l', k => (match castT (.fz t') (.fz t) l' with
    | some y => gdE (y = l) k
    | none => none)
  | .map t l, .map t' l', k => (match castT (.map t') (.map t) l' with
    | some y => gdE (y = l) k
    | none => none)
  | .foc e t l j c, .foc e' t' l' j' c', k => (match castT (.vec e' t') (.vec e t) l' with
    | some y => gdE (y = l) (gdE (j' = j) (eqC 30 c c' k))
    | none => none)
  | .held, .held, k => k
  | _, _, _ => none
noncomputable def chkR : HP → HP → Option β → Option β
  | [], _, k => k
  | (_, .fro _ _) :: l, hp, k => chkR l hp k
  | (id, e) :: l, hp, k => match hget hp id with
    | some e' => eqN e e' (chkR l (hdel hp id) k)
    | none => none
end

/-! #### what that says -/
/-- of the slots, by what they hold -/
noncomputable def asS (K : Kn) (τ : Fr) : (l : List (Nat × Sk)) → slT l → List Assn
  | [], _ => []
  | (x, .d t) :: l, v => If (aggV (τ x) = t.agg) (OA K.p.h t v.1 (τ x).cells.toList) :: asS K τ l v.2
  | (x, .b t) :: l, v => Pu (VD K.rd t v.1 (τ x)) :: asS K τ l v.2
noncomputable def asB (K : Kn) : (l : List (Nat × HS)) → blT l → List Assn
  | [], _ => []
  | (id, h) :: l, v => (h.ins v.1).asn K id :: asB K l v.2
theorem bSk_ok {K : Kn} {v : SV} {t : Ty} {x : t.T} {u : Value} (h : bSk v t = some x) (hd : v.den K u) : VD K.rd t x u := by
  unfold bSk at h
  split at h <;> try (cases h; done)
  · obtain ⟨rfl, e⟩ := castT_eq h; cases e
    obtain ⟨v', e, hd⟩ := hd; cases e
    exact hd.sub fun k o hk => uni_some.2 (.inl hk)
  · obtain ⟨rfl, e⟩ := castT_eq h; cases e
    obtain ⟨v', e, hd⟩ := hd; cases e
    exact hd
  · split at h <;> try (cases h; done)
    cases h
    have hv : u = .slice none 0 0 := by have q : [u] = [_] := hd; simpa using q
    subst hv
    exact ⟨none, 0, rfl, Nat.le_refl _, .inl rfl⟩
theorem asS_mono {K L : Kn} (le : K.le L) {τ : Fr} : ∀ {l : List (Nat × Sk)} {v : slT l} {h : Hp} {H : List Assn}, all (asS K τ l v ++ H) h → all (asS L τ l v ++ H) h := by
  intro l
  induction l with
  | nil => exact fun q => q
  | cons a l ih =>
    obtain ⟨x, k⟩ := a
    intro v h H q
    cases k with
    | d t => obtain ⟨y, z, d, e, ⟨qa, qo⟩, qb⟩ := q; exact ⟨y, z, d, e, ⟨qa, OA.sub le.p.h qo⟩, ih qb⟩
    | b t => obtain ⟨y, z, d, e, ⟨qa, qo⟩, qb⟩ := q; exact ⟨y, z, d, e, ⟨qa, qo.sub le.rd⟩, ih qb⟩
theorem absS_ok {τ : Fr} {w : World} {fr : FM} : ∀ {l : List (Nat × Sk)} {s : SS} {v : slT l} {s' : SS}, absS l fr s = some (v, s') → ∀ {K : Kn} {X : List Assn}, Nx K s → FrOk K fr τ → St K.p w (asns K s.hp ++ (X ++ [Exact K.F])) →
    ∃ K', K.le K' ∧ (K'.E = K.E ∧ K'.nx = K.nx) ∧ Nx K' s' ∧ St K'.p w (asns K' s'.hp ++ ((asS K' τ l v ++ X) ++ [Exact K'.F])) := by
  intro l
  induction l with
  | nil => intro s v s' h K X hn hf st; cases h; exact ⟨K, Kn.le.refl _, ⟨rfl, rfl⟩, hn, st⟩
  | cons a l ih =>
    obtain ⟨x, k⟩ := a
    intro s v s' h K X hn hf st
    cases k with
    | d t =>
      simp only [absS] at h
      split at h <;> try (cases h; done)
      rename_i sv hsv
      split at h <;> try (cases h; done)
      rename_i y s1 hout
      split at h <;> try (cases h; done)
      rename_i z s2 hz
      cases h
      obtain ⟨⟨K1, le1, hE1, hx1, st1⟩, ha⟩ := (out_ok 30).1 hout st (hf _ _ hsv)
      have st1' : St K1.p w (asns K1 s1.hp ++ ((If (aggV (τ x) = t.agg) (OA K1.p.h t y (τ x).cells.toList) :: X) ++ [Exact K1.F])) := by
        rw [le1.F]
        exact ((st1.take (Del.mid _)).weaken fun h q => ⟨ha, q⟩).give (Del.mid _)
      have hn1 : Nx K1 s1 := ⟨by rw [hx1, hE1.2]; exact hn.eq, fun k hk => by rw [hE1.1]; rw [hE1.2] at hk; exact hn.no k hk⟩
      obtain ⟨K2, le2, hE2, hn2, st2⟩ := ih hz hn1 (hf.mono le1) st1'
      refine ⟨K2, le1.trans le2, ⟨hE2.1.trans hE1.1, hE2.2.trans hE1.2⟩, hn2, ?_⟩
      have st3 := st2.perm (l' := If (aggV (τ x) = t.agg) (OA K1.p.h t y (τ x).cells.toList) :: (asns K2 s'.hp ++ ((asS K2 τ l z ++ X) ++ [Exact K2.F]))) (by
        simp only [List.append_assoc, List.cons_append]
        exact (List.Perm.append_left _ List.perm_middle).trans List.perm_middle)
      have st4 := st3.weaken fun h q => (⟨q.1, OA.sub le2.p.h q.2⟩ : If (aggV (τ x) = t.agg) (OA K2.p.h t y (τ x).cells.toList) h)
      exact st4.perm (by simp only [asS, List.append_assoc, List.cons_append]; exact List.perm_middle.symm)
    | b t =>
      simp only [absS] at h
      split at h <;> try (cases h; done)
      rename_i sv hsv
      split at h <;> try (cases h; done)
      rename_i y hy
      split at h <;> try (cases h; done)
      rename_i z s2 hz
      cases h
      obtain ⟨K2, le2, hE2, hn2, st2⟩ := ih hz hn hf st
      have hv := bSk_ok hy (SV.mono le2 (hf _ _ hsv))
      refine ⟨K2, le2, hE2, hn2, ?_⟩
      exact (St.mkpu hv st2).perm (by simp only [asS, List.append_assoc, List.cons_append]; exact List.perm_middle.symm)
theorem absC_ok {w : World} : ∀ {b : BS} {s : SS} {c : CT} {y : b.T} {s' : SS}, absC b s c = some (y, s') → ∀ {K : Kn} {X : List Assn} {cs : List Value}, Nx K s → St K.p w (CA K c cs :: (asns K s.hp ++ (X ++ [Exact K.F]))) →
    ∃ K', K.le K' ∧ (K'.E = K.E ∧ K'.nx = K.nx) ∧ Nx K' s' ∧ St K'.p w (asns K' s'.hp ++ ((CA K' (insC b y) cs :: X) ++ [Exact K'.F])) := by
  intro b
  induction b with
  | d t =>
    intro s c y s' h K X cs hn st
    obtain ⟨K1, le1, hE1, hx1, st1⟩ := (out_ok 30).2.2 h st
    refine ⟨K1, le1, hE1, ⟨by rw [hx1, hE1.2]; exact hn.eq, fun k hk => by rw [hE1.1]; rw [hE1.2] at hk; exact hn.no k hk⟩, ?_⟩
    rw [le1.F]; exact st1
  | bw t =>
    intro s c y s' h K X cs hn st
    cases c <;> simp only [absC, reduceCtorEq] at h
    rename_i u
    split at h <;> try (cases h; done)
    rename_i z hz
    cases h
    refine ⟨K, Kn.le.refl _, ⟨rfl, rfl⟩, hn, (St.weaken st fun h q => ?_).give (Del.mid _)⟩
    obtain ⟨e, v, e2, q1, q2⟩ := q
    exact ⟨e, v, e2, ⟨v, rfl, bSk_ok hz q1⟩, q2⟩
  | k v =>
    intro s c y s' h K X cs hn st
    cases c <;> simp only [absC, reduceCtorEq] at h
    rename_i u
    cases hb : kEq v u with
    | false => rw [hb, cond_false] at h; cases h
    | true =>
      rw [hb, cond_true] at h; cases h
      have := kEq_ok hb; subst this
      exact ⟨K, Kn.le.refl _, ⟨rfl, rfl⟩, hn, st.give (Del.mid _)⟩
  | nl =>
    intro s c y s' h K X cs hn st
    simp only [absC] at h
    split at h <;> try (cases h; done)
    rename_i ho
    cases h
    have st1 := st.weaken (B := CA K .nl cs) fun h q => by have := open1_ok.1 q; rw [ho] at this; exact this
    exact ⟨K, Kn.le.refl _, ⟨rfl, rfl⟩, hn, st1.give (Del.mid _)⟩
  | pr a b iha ihb =>
    intro s c y s' h K X cs hn st
    simp only [absC] at h
    split at h <;> try (cases h; done)
    rename_i x1 x2 ho
    split at h <;> try (cases h; done)
    rename_i u s1 hu
    split at h <;> try (cases h; done)
    rename_i v s2 hv
    cases h
    have st0 := st.weaken (B := CA K (.pr x1 x2) cs) fun h q => by have := open1_ok.1 q; rw [ho] at this; exact this
    obtain ⟨d1, sta⟩ := st0.ex
    obtain ⟨d2, stb⟩ := sta.ex
    obtain ⟨rfl, stc⟩ := stb.iff
    have st1 : St K.p w (CA K x1 d1 :: (asns K s.hp ++ ((CA K x2 d2 :: X) ++ [Exact K.F]))) := stc.sep.swap.give (.there (Del.mid _))
    obtain ⟨K1, le1, hE1, hn1, st2⟩ := iha hu hn st1
    have st3 : St K1.p w (CA K1 x2 d2 :: (asns K1 s1.hp ++ ((CA K1 (insC a u) d1 :: X) ++ [Exact K1.F]))) := by
      have q := st2.perm (l' := CA K x2 d2 :: (asns K1 s1.hp ++ ((CA K1 (insC a u) d1 :: X) ++ [Exact K1.F]))) (by
        simp only [List.append_assoc, List.cons_append]
        refine (List.Perm.append_left _ (List.Perm.swap _ _ _)).trans ?_
        exact List.perm_middle)
      exact q.weaken fun h q => CA.mono le1 q
    obtain ⟨K2, le2, hE2, hn2, st4⟩ := ihb hv hn1 st3
    refine ⟨K2, le1.trans le2, ⟨hE2.1.trans hE1.1, hE2.2.trans hE1.2⟩, hn2, ?_⟩
    have q3 := st4.perm (l' := CA K1 (insC a u) d1 :: CA K2 (insC b v) d2 :: (asns K2 s'.hp ++ (X ++ [Exact K2.F]))) (by
      simp only [List.append_assoc, List.cons_append]
      exact (List.perm_middle.trans (List.Perm.cons _ List.perm_middle)).trans (List.Perm.swap _ _ _))
    have q4 := q3.weaken (B := CA K2 (insC a u) d1) fun h q => CA.mono le2 q
    have q5 : St K2.p w (CA K2 (insC (.pr a b) (u, v)) (d1 ++ d2) :: (asns K2 s'.hp ++ (X ++ [Exact K2.F]))) := St.mkex d1 (St.mkex d2 (St.mkiff rfl (St.mksep q4)))
    exact q5.give (Del.mid _)
theorem absH_ok {w : World} {hs : HS} {id : Nat} {s : SS} {y : hs.T} {s' : SS} (h : absH hs id s = some (y, s')) {K : Kn} {X : List Assn} (hn : Nx K s) (st : St K.p w (asns K s.hp ++ (X ++ [Exact K.F]))) :
    ∃ K', K.le K' ∧ (K'.E = K.E ∧ K'.nx = K.nx) ∧ Nx K' s' ∧ St K'.p w (asns K' s'.hp ++ (((hs.ins y).asn K' id :: X) ++ [Exact K'.F])) := by
  cases hs with
  | blk e b =>
    simp only [absH] at h
    split at h <;> try (cases h; done)
    rename_i e' c hg
    cases hb : Nat.beq e e' with
    | false => rw [hb, cond_false] at h; cases h
    | true =>
    rw [hb, cond_true] at h
    have := Nat.eq_of_beq_eq_true hb; subst this
    have s1' := st.take (hget_del (R := X ++ [Exact K.F]) hg)
    obtain ⟨b', sta⟩ := s1'.ex
    obtain ⟨cs, stb⟩ := sta.ex
    obtain ⟨hE, stc⟩ := stb.iff
    have std : St K.p w (CA K c cs :: (asns K (hdel s.hp id) ++ ((pt b' (.cells cs.toArray e) :: X) ++ [Exact K.F]))) := stc.sep.give (.there (Del.mid _))
    obtain ⟨K1, le1, hE1, hn1, st1⟩ := absC_ok h hn.hp std
    refine ⟨K1, le1, hE1, hn1, ?_⟩
    have q1 := st1.perm (l' := pt b' (.cells cs.toArray e) :: CA K1 (insC b y) cs :: (asns K1 s'.hp ++ (X ++ [Exact K1.F]))) (by
      simp only [List.append_assoc, List.cons_append]
      exact (List.perm_middle.trans (List.Perm.cons _ List.perm_middle)).trans (List.Perm.swap _ _ _))
    have q2 : St K1.p w ((HS.ins (.blk e b) y).asn K1 id :: (asns K1 s'.hp ++ (X ++ [Exact K1.F]))) :=
      St.mkex b' (St.mkex cs (St.mkiff (by rw [hE1.1]; exact hE) (St.mksep q1)))
    exact q2.give (Del.mid _)
  | row e t =>
    simp only [absH] at h
    split at h <;> try (cases h; done)
    · rename_i e' t' l hg
      split at h <;> try (cases h; done)
      rename_i z hz
      obtain ⟨e1, hc⟩ := castT_eq hz
      cases e1; cases hc; cases h
      exact ⟨K, Kn.le.refl _, ⟨rfl, rfl⟩, hn.hp, (st.take (hget_del (R := X ++ [Exact K.F]) hg)).give (Del.mid _)⟩
    · rename_i e' t' l j c hg
      split at h <;> try (cases h; done)
      rename_i x s1 hq
      split at h <;> try (cases h; done)
      rename_i z hz
      obtain ⟨e1, hc⟩ := castT_eq hz
      cases e1; cases hc; cases h
      obtain ⟨v, st1⟩ := (st.take (hget_del (R := X ++ [Exact K.F]) hg)).ex
      obtain ⟨xs, st1⟩ := st1.ex
      obtain ⟨hv, st1⟩ := st1.iff
      obtain ⟨K', le, hEE, hnx, st2⟩ := foc_close (s := { s with hp := hdel s.hp id }) (out_ok 30).2.2 hq st1.sep
      refine ⟨K', le, hEE, ⟨by rw [hnx, hEE.2]; exact hn.eq, fun k hk => by rw [hEE.1]; rw [hEE.2] at hk; exact hn.no k hk⟩, ?_⟩
      have hv' : K'.E id = some v := by rw [hEE.1]; exact hv
      have q4 : St K'.p w ((HS.ins (.row e t) (l.set j x)).asn K' id :: (asns K' s'.hp ++ (X ++ [Exact K.F]))) := St.mkex v (St.mkex xs (St.mkiff hv' st2))
      rw [← le.F] at q4
      exact q4.give (Del.mid _)
  | map t =>
    simp only [absH] at h
    split at h <;> try (cases h; done)
    rename_i t' l hg
    split at h <;> try (cases h; done)
    rename_i z hz
    obtain ⟨e1, hc⟩ := castT_eq hz
    cases e1; cases hc; cases h
    exact ⟨K, Kn.le.refl _, ⟨rfl, rfl⟩, hn.hp, (st.take (hget_del (R := X ++ [Exact K.F]) hg)).give (Del.mid _)⟩
theorem absB_ok {w : World} : ∀ {l : List (Nat × HS)} {s : SS} {v : blT l} {s' : SS}, absB l s = some (v, s') → ∀ {K : Kn} {X : List Assn}, Nx K s → St K.p w (asns K s.hp ++ (X ++ [Exact K.F])) →
    ∃ K', K.le K' ∧ (K'.E = K.E ∧ K'.nx = K.nx) ∧ Nx K' s' ∧ St K'.p w (asns K' s'.hp ++ ((asB K' l v ++ X) ++ [Exact K'.F])) := by
  intro l
  induction l with
  | nil => intro s v s' h K X hn st; cases h; exact ⟨K, Kn.le.refl _, ⟨rfl, rfl⟩, hn, st⟩
  | cons a l ih =>
    obtain ⟨id, hs⟩ := a
    intro s v s' h K X hn st
    simp only [absB] at h
    split at h <;> try (cases h; done)
    rename_i y s1 hy
    split at h <;> try (cases h; done)
    rename_i z s2 hz
    cases h
    obtain ⟨K1, le1, hE1, hn1, st1⟩ := absH_ok hy hn st
    obtain ⟨K2, le2, hE2, hn2, st3⟩ := ih hz hn1 st1
    refine ⟨K2, le1.trans le2, ⟨hE2.1.trans hE1.1, hE2.2.trans hE1.2⟩, hn2, ?_⟩
    have q3 := st3.perm (l' := (hs.ins y).asn K1 id :: (asns K2 s'.hp ++ ((asB K2 l z ++ X) ++ [Exact K2.F]))) (by
      simp only [List.append_assoc, List.cons_append]
      exact (List.Perm.append_left _ List.perm_middle).trans List.perm_middle)
    exact (q3.weaken fun h q => EN.mono le2 q).perm (by simp only [asB, List.append_assoc, List.cons_append]; exact List.perm_middle.symm)
end Go.GX
namespace Go.GX
open Go.RowKit Go.SL
set_option linter.unusedVariables false
set_option linter.unusedSimpArgs false

/-- names from n on are forgotten -/
noncomputable def Kn.cut (K : Kn) (n : Nat) : Kn := { K with E := fun k => if k < n then K.E k else none, nx := n }
theorem Kn.cut_E {K : Kn} {n k : Nat} (h : k < n) : (K.cut n).E k = K.E k := by show (if k < n then K.E k else none) = _; rw [if_pos h]
theorem Kn.cut_le {K L : Kn} (le : K.le L) (hn : ∀ k, K.nx ≤ k → K.E k = none) : K.le (L.cut K.nx) := by
  refine ⟨le.p, fun k v h => ?_, le.F, le.B, Nat.le_refl _, fun k hk h => ?_, le.rd⟩
  · have hlt : k < K.nx := Nat.lt_of_not_le fun hge => by rw [hn k hge] at h; cases h
    rw [Kn.cut_E hlt]; exact le.E _ _ h
  · rw [Kn.cut_E hk]; exact le.N _ hk h
theorem Kn.cut_nx {K : Kn} {n : Nat} {hp : HP} : Nx (K.cut n) ⟨hp, n⟩ := by
  refine ⟨rfl, fun k hk => ?_⟩
  show (if k < n then K.E k else none) = none
  have hk' : n ≤ k := hk
  rw [if_neg (by omega)]
theorem blt_lt {a b : Nat} (h : Nat.blt a b = true) : a < b := Nat.le_of_ble_eq_true h
theorem sta_ok {K : Kn} {n : Nat} : ∀ {s : SV} {q : Vw} {vs : List Value}, staS n s = true → s.dn K q vs → s.dn (K.cut n) q vs := by
  intro s
  induction s with
  | d t x => intro q vs _ h; cases q <;> exact h
  | bd t x => intro q vs _ h; cases q <;> exact h
  | dp t x => intro q vs _ h; cases q <;> exact h
  | bp t x => intro q vs _ h; cases q <;> exact h
  | ptr id pa => intro q vs hs h; cases q <;> simp only [SV.dn] at h ⊢ <;> obtain ⟨u, b, e, h⟩ := h; exact ⟨u, b, (Kn.cut_E (blt_lt hs)).trans e, h⟩
  | vr id => intro q vs hs h; cases q <;> simp only [SV.dn] at h ⊢ <;> obtain ⟨X, n, c, e, h⟩ := h; exact ⟨X, n, c, (Kn.cut_E (blt_lt hs)).trans e, h⟩
  | vw id pa m => intro q vs hs h; cases q <;> simp only [SV.dn] at h ⊢ <;> obtain ⟨X, c, e, hc, h, u0, h0, h3⟩ := h; exact ⟨X, c, e, hc, h.imp (fun h => h) fun ⟨u, b, h1, h2⟩ => ⟨u, b, (Kn.cut_E (blt_lt hs)).trans h1, h2⟩, u0, (Kn.cut_E (blt_lt hs)).trans h0, h3⟩
  | fn f b c ihb ih =>
    intro q vs hs h
    simp only [staS, Bool.and_eq_true] at hs
    cases q <;> simp only [SV.dn] at h ⊢
    obtain ⟨lb, l, e, h1, h2⟩ := h; exact ⟨lb, l, e, ihb hs.1 h1, ih hs.2 h2⟩
  | ag c ih => intro q vs hs h; cases q <;> simp only [SV.dn] at h ⊢ <;> obtain ⟨l, e, h⟩ := h; exact ⟨l, e, ih hs h⟩
  | tup c ih => intro q vs hs h; cases q <;> simp only [SV.dn] at h ⊢ <;> obtain ⟨l, e, h⟩ := h; exact ⟨l, e, ih hs h⟩
  | ifc t c ih => intro q vs hs h; cases q <;> simp only [SV.dn] at h ⊢ <;> obtain ⟨v, e, h⟩ := h; exact ⟨v, e, ih hs h⟩
  | mp id => intro q vs hs h; cases q <;> simp only [SV.dn] at h ⊢ <;> obtain ⟨b, e, h⟩ := h; exact ⟨b, (Kn.cut_E (blt_lt hs)).trans e, h⟩
  | pr a b iha ihb =>
    intro q vs hs h
    simp only [staS, Bool.and_eq_true] at hs
    cases q <;> simp only [SV.dn] at h ⊢
    · obtain ⟨v, d, e, h1, h2⟩ := h; exact ⟨v, d, e, iha hs.1 h1, ihb hs.2 h2⟩
    · obtain ⟨v, d, e, h1, h2⟩ := h; exact ⟨v, d, e, iha hs.1 h1, ihb hs.2 h2⟩
  | _ => intro q vs _ h; cases q <;> exact h
theorem staT_ok {K : Kn} {n : Nat} : ∀ {c : CT} {cs : List Value} {h : Hp}, staT n c = true → CA K c cs h → CA (K.cut n) c cs h := by
  intro c
  induction c with
  | cel s => intro cs h hs ⟨e, v, e2, q, q2⟩; exact ⟨e, v, e2, sta_ok hs q, q2⟩
  | dat t x => intro cs h _ q; exact q
  | nl => intro cs h _ q; exact q
  | pr a b iha ihb =>
    intro cs h hs ⟨c, d, e, q⟩
    simp only [staT, Bool.and_eq_true] at hs
    exact ⟨c, d, e, sep_mono (fun _ => iha hs.1) (fun _ => ihb hs.2) _ q⟩
theorem staC_T {n : Nat} : ∀ {b : BS} {y : b.T}, staC n b = true → staT n (insC b y) = true := by
  intro b
  induction b with
  | d t => intro y _; rfl
  | bw t => intro y _; rfl
  | k s => intro y h; exact h
  | nl => intro y _; rfl
  | pr a b iha ihb =>
    intro y h
    simp only [staC, Bool.and_eq_true] at h
    simp only [insC, staT, Bool.and_eq_true]
    exact ⟨iha h.1, ihb h.2⟩
theorem staE_ok {K : Kn} {n id : Nat} (hid : id < n) {e : EN} (hs : staE n e = true) {h : Hp} (q : e.asn K id h) : e.asn (K.cut n) id h := by
  cases e with
  | blk e c => obtain ⟨b, cs, e1, q⟩ := q; exact ⟨b, cs, (Kn.cut_E hid).trans e1, sep_mono (fun _ h => h) (fun _ => staT_ok hs) _ q⟩
  | row e t l => obtain ⟨v, xs, e1, q⟩ := q; exact ⟨v, xs, (Kn.cut_E hid).trans e1, q⟩
  | foc e t l j c =>
    obtain ⟨v, xs, e1, q⟩ := q
    refine ⟨v, xs, (Kn.cut_E hid).trans e1, sep_mono (fun _ h => h) (fun z q => ?_) _ q⟩
    obtain ⟨a, b, d, e2, q⟩ := q
    exact ⟨a, b, d, e2, sep_mono (fun _ => staT_ok hs) (fun _ h => h) _ q⟩
  | fro t l => obtain ⟨e0, v, e1, q⟩ := q; exact ⟨e0, v, (Kn.cut_E hid).trans e1, q⟩
  | map t l => obtain ⟨b, ks, e1, q⟩ := q; exact ⟨b, ks, ⟨(Kn.cut_E hid).trans e1.1, e1.2⟩, q⟩
  | held => obtain ⟨⟨v, e1⟩, q⟩ := q; exact ⟨⟨v, (Kn.cut_E hid).trans e1⟩, q⟩
theorem staR_ok {K : Kn} {n : Nat} {R : List Assn} : ∀ {l : HP} {h : Hp}, staR n l = true → all (asns K l ++ R) h → all (asns (K.cut n) l ++ R) h := by
  intro l
  induction l with
  | nil => intro h _ q; exact q
  | cons a l ih =>
    obtain ⟨id, e⟩ := a
    intro h hs q
    simp only [staR, Bool.and_eq_true] at hs
    obtain ⟨x, y, d, e', q1, q2⟩ := q
    exact ⟨x, y, d, e', staE_ok (blt_lt hs.1.1) hs.1.2 q1, ih hs.2 q2⟩
theorem asB_cut {K : Kn} {n : Nat} {R : List Assn} : ∀ {l : List (Nat × HS)} {v : blT l} {h : Hp}, (l.all fun e => Nat.blt e.1 n && staH n e.2) = true → all (asB K l v ++ R) h → all (asns (K.cut n) (insB l v) ++ R) h := by
  intro l
  induction l with
  | nil => intro v h _ q; exact q
  | cons a l ih =>
    obtain ⟨id, hs⟩ := a
    intro v h hst q
    simp only [List.all_cons, Bool.and_eq_true] at hst
    obtain ⟨x, y, d, e, q1, q2⟩ := q
    refine ⟨x, y, d, e, staE_ok (blt_lt hst.1.1) ?_ q1, ih (by simpa only [Bool.and_eq_true] using hst.2) q2⟩
    cases hs with
    | blk e b => exact staC_T hst.1.2
    | row e t => rfl
    | map t => rfl
theorem asS_congr {K L : Kn} (hp : L.p = K.p) (hF : L.F = K.F) {τ : Fr} : ∀ {l : List (Nat × Sk)} {v : slT l}, asS L τ l v = asS K τ l v := by
  intro l
  induction l with
  | nil => intro v; rfl
  | cons a l ih =>
    obtain ⟨x, k⟩ := a
    intro v
    cases k with
    | d t => simp only [asS, hp, ih]
    | b t => simp only [asS, Kn.rd, hp, hF, ih]
theorem insS_ok {β : Type} {r : β} {τ : Fr} {w : World} : ∀ {l : List (Nat × Sk)} {v : slT l} {fr : FM} {s : SS} {k : FM → SS → Option β}, insS l v fr s k = some r → ∀ {K : Kn}, Nx K s → FrOk K fr τ →
    St K.p w (asS K τ l v ++ (asns K s.hp ++ [Exact K.F])) → ∃ K' fr' s', K.le K' ∧ Inv K' s' w ∧ FrOk K' fr' τ ∧ k fr' s' = some r := by
  intro l
  induction l with
  | nil => intro v fr s k h K hn hf st; exact ⟨K, fr, s, Kn.le.refl _, ⟨st, hn⟩, hf, h⟩
  | cons a l ih =>
    obtain ⟨x, q⟩ := a
    intro v fr s k h K hn hf st
    cases q with
    | d t =>
      simp only [insS] at h
      obtain ⟨hag, st1⟩ := St.iff st
      have st2 : St K.p w (OA K.p.h t v.1 (τ x).cells.toList :: (asns K s.hp ++ (asS K τ l v.2 ++ [Exact K.F]))) := st1.perm (by
        refine List.Perm.cons _ ?_
        have := (List.perm_append_comm (l₁ := asS K τ l v.2) (l₂ := asns K s.hp)).append_right [Exact K.F]
        simpa [List.append_assoc] using this)
      obtain ⟨K1, u, sv, s1, le1, hp1, i1, hd, hcs, hau, hk⟩ := (in_ok t).1 h hn st2
      have hu : u = τ x := by
        cases hq : t.agg with
        | true =>
          rw [hq] at hag hau
          cases u <;> simp only [aggV, Bool.false_eq_true] at hau
          generalize τ x = y at hag hcs
          cases y <;> simp only [aggV, Bool.false_eq_true] at hag
          simp only [Value.cells] at hcs
          rw [Array.toList_inj.1 hcs]
        | false =>
          rw [hq] at hag hau
          have c1 : ∀ y : Value, aggV y = false → y.cells.toList = [y] := fun y hy => by cases y <;> first | rfl | cases hy
          rw [c1 _ hau, c1 _ hag] at hcs
          simpa using hcs
      subst hu
      have st3 : St K1.p w (asS K1 τ l v.2 ++ (asns K1 s1.hp ++ [Exact K1.F])) := by
        rw [asS_congr hp1 le1.F]
        have := i1.st.perm (l' := asS K τ l v.2 ++ (asns K1 s1.hp ++ [Exact K1.F])) (by
          have := (List.perm_append_comm (l₁ := asns K1 s1.hp) (l₂ := asS K τ l v.2)).append_right [Exact K1.F]
          simpa [List.append_assoc] using this)
        exact this
      obtain ⟨K2, fr', s', le2, i2, hf2, hk2⟩ := ih hk i1.nx ((hf.mono le1).as hd) st3
      exact ⟨K2, fr', s', le1.trans le2, i2, hf2, hk2⟩
    | b t =>
      simp only [insS] at h
      obtain ⟨hv, st1⟩ := St.pu st
      exact ih h hn (hf.as ⟨_, rfl, hv⟩) st1

/-! ### the same as before -/
section
variable {β : Type}
theorem kEq_k {a b : SV} {k : Option β} {r : β} (h : (bif kEq a b then k else none) = some r) : b = a ∧ k = some r := by
  cases hb : kEq a b with
  | false => rw [hb, cond_false] at h; cases h
  | true => rw [hb, cond_true] at h; exact ⟨(kEq_ok hb).symm, h⟩
theorem cast_k {t t' : Ty} {x : t.T} {x' : t'.T} {k : Option β} {r : β} (h : (match castT t' t x' with | some y => gdE (y = x) k | none => none) = some r) : (∃ e : t' = t, e ▸ x' = x) ∧ k = some r := by
  split at h <;> try (cases h; done)
  rename_i y hy
  obtain ⟨e1, h⟩ := gdE_some h
  obtain ⟨e, e2⟩ := castT_eq hy
  exact ⟨⟨e, e2.trans e1⟩, h⟩
theorem eqS_ok : ∀ {a b : SV} {k : Option β} {r : β}, eqS a b k = some r → b = a ∧ k = some r := by
  intro a
  induction a with
  | d t x =>
    intro b k r h
    cases b <;> first | exact kEq_k h | skip
    obtain ⟨⟨rfl, e⟩, hk⟩ := cast_k h; cases e; exact ⟨rfl, hk⟩
  | bd t x =>
    intro b k r h
    cases b <;> first | exact kEq_k h | skip
    obtain ⟨⟨rfl, e⟩, hk⟩ := cast_k h; cases e; exact ⟨rfl, hk⟩
  | dp t x =>
    intro b k r h
    cases b <;> first | exact kEq_k h | skip
    obtain ⟨⟨rfl, e⟩, hk⟩ := cast_k h; cases e; exact ⟨rfl, hk⟩
  | bp t x =>
    intro b k r h
    cases b <;> first | exact kEq_k h | skip
    obtain ⟨⟨rfl, e⟩, hk⟩ := cast_k h; cases e; exact ⟨rfl, hk⟩
  | fn f u c ihu ih =>
    intro b k r h
    cases f with
    | func f =>
      cases b with
      | fn f' u' c' =>
        cases f' with
        | func f' =>
          simp only [eqS] at h
          cases hb : Nat.beq f f' with
          | false => rw [hb, cond_false] at h; cases h
          | true =>
            rw [hb, cond_true] at h
            have := Nat.eq_of_beq_eq_true hb; subst this
            obtain ⟨q1, h2⟩ := ihu h
            obtain ⟨q2, h3⟩ := ih h2
            exact ⟨by rw [q1, q2], h3⟩
        | _ => exact kEq_k h
      | _ => exact kEq_k h
    | _ => cases b <;> exact kEq_k h
  | ag c ih =>
    intro b k r h
    cases b <;> first | exact kEq_k h | skip
    simp only [eqS] at h
    obtain ⟨rfl, hk⟩ := ih h; exact ⟨rfl, hk⟩
  | pr a b iha ihb =>
    intro c k r h
    cases c <;> first | exact kEq_k h | skip
    simp only [eqS] at h
    obtain ⟨rfl, h2⟩ := iha h
    obtain ⟨rfl, h3⟩ := ihb h2
    exact ⟨rfl, h3⟩
  | nl => intro b k r h; cases b <;> first | exact kEq_k h | exact ⟨rfl, h⟩
  | un => intro b k r h; cases b <;> first | exact kEq_k h | exact ⟨rfl, h⟩
  | _ => intro b k r h; cases b <;> exact kEq_k h
theorem eqC_ok : ∀ (f : Nat) {c c' : CT} {k : Option β} {r : β}, eqC f c c' k = some r → (∀ (K : Kn) (cs : List Value) (h : Hp), CA K c' cs h → CA K c cs h) ∧ k = some r := by
  intro f
  induction f with
  | zero => intro c c' k r h; cases h
  | succ f ih =>
    intro c c' k r h
    have main : (match open1 c, open1 c' with
      | .pr a b, .pr a' b' => eqC f a a' (eqC f b b' k)
      | .nl, .nl => k
      | _, _ => none) = some r → (∀ (K : Kn) (cs : List Value) (h : Hp), CA K c' cs h → CA K c cs h) ∧ k = some r := by
      intro h
      split at h <;> try (cases h; done)
      · rename_i a b a' b' h1 h2
        obtain ⟨q1, h⟩ := ih h
        obtain ⟨q2, h⟩ := ih h
        refine ⟨fun K cs hp q => open1_ok.2 ?_, h⟩
        have q := open1_ok.1 q
        rw [h2] at q; rw [h1]
        obtain ⟨u, v, e, q⟩ := q
        exact ⟨u, v, e, sep_mono (fun _ => q1 K _ _) (fun _ => q2 K _ _) _ q⟩
      · rename_i h1 h2
        refine ⟨fun K cs hp q => open1_ok.2 ?_, h⟩
        have q := open1_ok.1 q
        rw [h2] at q; rw [h1]; exact q
    unfold eqC at h
    split at h
    · obtain ⟨rfl, hk⟩ := eqS_ok h; exact ⟨fun _ _ _ q => q, hk⟩
    · obtain ⟨⟨rfl, e⟩, hk⟩ := cast_k h; cases e; exact ⟨fun _ _ _ q => q, hk⟩
    · exact ⟨fun _ _ _ q => q, h⟩
    · exact main h
theorem eqN_ok {e e' : EN} {k : Option β} {r : β} (h : eqN e e' k = some r) : (∀ (K : Kn) (id : Nat) (h : Hp), e'.asn K id h → e.asn K id h) ∧ k = some r := by
  cases e <;> cases e' <;> simp only [eqN, reduceCtorEq] at h
  case blk.blk e c e' c' =>
    cases hb : Nat.beq e e' with
    | false => rw [hb, cond_false] at h; cases h
    | true =>
    rw [hb, cond_true] at h
    have := Nat.eq_of_beq_eq_true hb; subst this
    obtain ⟨q, hk⟩ := eqC_ok 30 h
    refine ⟨fun K id hp => ?_, hk⟩
    rintro ⟨b, cs, e1, q'⟩
    exact ⟨b, cs, e1, sep_mono (fun _ h => h) (fun _ => q K _ _) _ q'⟩
  case row.row e t l e' t' l' =>
    split at h <;> try (cases h; done)
    rename_i y hy
    obtain ⟨e1, hk⟩ := gdE_some h
    obtain ⟨e2, e3⟩ := castT_eq hy
    cases e2; cases e3; cases e1
    exact ⟨fun _ _ _ q => q, hk⟩
  case fro.fro t l t' l' =>
    split at h <;> try (cases h; done)
    rename_i y hy
    obtain ⟨e1, hk⟩ := gdE_some h
    obtain ⟨e2, e3⟩ := castT_eq hy
    cases e2; cases e3; cases e1
    exact ⟨fun _ _ _ q => q, hk⟩
  case map.map t l t' l' =>
    split at h <;> try (cases h; done)
    rename_i y hy
    obtain ⟨e1, hk⟩ := gdE_some h
    obtain ⟨e2, e3⟩ := castT_eq hy
    cases e2; cases e3; cases e1
    exact ⟨fun _ _ _ q => q, hk⟩
  case foc.foc e t l j c e' t' l' j' c' =>
    split at h <;> try (cases h; done)
    rename_i y hy
    obtain ⟨e1, h8⟩ := gdE_some h
    obtain ⟨e4, h9⟩ := gdE_some h8
    obtain ⟨e2, e3⟩ := castT_eq hy
    obtain ⟨q, hk⟩ := eqC_ok 30 h9
    cases e2; cases e3; cases e1; cases e4
    refine ⟨fun K id hp => ?_, hk⟩
    rintro ⟨v, xs, e1, q'⟩
    refine ⟨v, xs, e1, sep_mono (fun _ h => h) (fun z q2 => ?_) _ q'⟩
    obtain ⟨a, b, d, e5, q3⟩ := q2
    exact ⟨a, b, d, e5, sep_mono (fun _ => q K _ _) (fun _ h => h) _ q3⟩
  case held.held => exact ⟨fun _ _ _ q => q, h⟩
/-- what lasts of what stays -/
noncomputable def FroOk (K : Kn) : HP → Prop
  | [] => True
  | (id, .fro t l) :: r => (∃ v, K.E id = some v ∧ DenT K.p.h (.fz t) l [v]) ∧ FroOk K r
  | _ :: r => FroOk K r
theorem FroOk.mono {K L : Kn} (le : K.le L) : ∀ {l : HP}, FroOk K l → FroOk L l := by
  intro l
  induction l with
  | nil => intro h; exact h
  | cons a l ih =>
    obtain ⟨id, e⟩ := a
    intro h
    cases e with
    | fro t r => obtain ⟨⟨v, h1, h2⟩, h3⟩ := h; exact ⟨⟨v, le.E _ _ h1, DenT.sub le.p.h h2⟩, ih h3⟩
    | _ => exact ih h
theorem FroOk.of {K : Kn} {R : List Assn} : ∀ {l : HP} {h : Hp}, all (asns K l ++ R) h → FroOk K l := by
  intro l
  induction l with
  | nil => intro h _; trivial
  | cons a l ih =>
    obtain ⟨id, e⟩ := a
    rintro h ⟨x, y, d, e', q1, q2⟩
    cases e with
    | fro t r => exact ⟨q1.2, ih q2⟩
    | _ => exact ih q2
theorem FroOk.st {K : Kn} {p : Pers} {w : World} {R : List Assn} {l : HP} (s : St p w (asns K l ++ R)) : FroOk K l := by
  obtain ⟨h, a, _⟩ := s
  exact FroOk.of a
theorem chkR_ok : ∀ {l hp : HP} {k : Option β} {r : β}, chkR l hp k = some r → k = some r ∧ ∀ {K : Kn} {p : Pers} {w : World} {X : List Assn}, FroOk K l → St p w (asns K hp ++ X) → St p w (asns K l ++ X) := by
  intro l
  induction l with
  | nil => intro hp k r h; exact ⟨h, fun _ st => st.dropL⟩
  | cons a l ih =>
    obtain ⟨id, e⟩ := a
    intro hp k r h
    have main : (match hget hp id with
      | some e' => eqN e e' (chkR l (hdel hp id) k)
      | none => none) = some r → k = some r ∧ ∀ {K : Kn} {p : Pers} {w : World} {X : List Assn}, FroOk K l → St p w (asns K hp ++ X) → St p w (asns K ((id, e) :: l) ++ X) := by
      intro h
      split at h <;> try (cases h; done)
      rename_i e' hg
      obtain ⟨q1, h⟩ := eqN_ok h
      obtain ⟨hk, q2⟩ := ih h
      refine ⟨hk, fun {K p w X} hf st => ?_⟩
      have s1 := st.take (hget_del (R := X) hg)
      have s2 : St p w (asns K (hdel hp id) ++ (e.asn K id :: X)) := (s1.weaken (q1 K id)).give (Del.mid _)
      exact (q2 hf s2).perm List.perm_middle
    cases e with
    | fro t r' =>
      simp only [chkR] at h
      obtain ⟨hk, q⟩ := ih h
      refine ⟨hk, fun {K p w X} hf st => ?_⟩
      obtain ⟨hv, hf'⟩ := hf
      exact St.mkpu hv (q hf' st)
    | blk e c => obtain ⟨hk, q⟩ := main h; exact ⟨hk, fun hf => q hf⟩
    | row e t r' => obtain ⟨hk, q⟩ := main h; exact ⟨hk, fun hf => q hf⟩
    | foc e t r' j c => obtain ⟨hk, q⟩ := main h; exact ⟨hk, fun hf => q hf⟩
    | map t r' => obtain ⟨hk, q⟩ := main h; exact ⟨hk, fun hf => q hf⟩
    | held => obtain ⟨hk, q⟩ := main h; exact ⟨hk, fun hf => q hf⟩
end
/-- rows that last from here on -/
theorem frzL_ok {w : World} : ∀ {ids : List Nat} {K : Kn} {s : SS}, Inv K s w → ∃ K', K.le K' ∧ K'.nx = K.nx ∧ Inv K' (frzL ids s) w := by
  intro ids
  induction ids with
  | nil => intro K s i; exact ⟨K, Kn.le.refl _, rfl, i⟩
  | cons id l ih =>
    intro K s i
    simp only [frzL]
    split
    · rename_i e t r hg
      cases hp : t.pure with
      | false => exact ih i
      | true =>
        obtain ⟨K', le, hEE, ⟨u, hu, hden⟩, s2⟩ := row_freeze hp (i.take hg)
        have i' : Inv K' { s with hp := (id, .fro t r) :: hdel s.hp id } w := by
          refine ⟨?_, by rw [hEE.2]; exact i.nx.eq, fun k hk => by rw [hEE.1]; rw [hEE.2] at hk; exact i.nx.no k hk⟩
          rw [le.F]
          exact St.mkpu ⟨_, by rw [hEE.1]; exact hu, hden⟩ (St.asns le s2)
        obtain ⟨K2, le2, h2, i2⟩ := ih i'
        exact ⟨K2, le.trans le2, h2.trans hEE.2, i2⟩
    · exact ih i
theorem kept_ok {ds : Nat → Bool} : ∀ {fr : FM} {x : Nat} {s : SV}, flook (kept ds fr) x = some s → ds x = false ∧ flook fr x = some s := by
  intro fr
  induction fr with
  | nil => intro x s h; cases h
  | cons a l ih =>
    obtain ⟨y, u⟩ := a
    intro x s h
    simp only [kept] at h
    simp only [flook]
    cases hd : ds y with
    | true =>
      rw [hd, cond_true] at h
      obtain ⟨h1, h2⟩ := ih h
      refine ⟨h1, ?_⟩
      cases hb : Nat.beq y x with
      | true => have := Nat.eq_of_beq_eq_true hb; subst this; rw [hd] at h1; cases h1
      | false => exact h2
    | false =>
      rw [hd, cond_false] at h
      simp only [flook] at h
      cases hb : Nat.beq y x with
      | true =>
        rw [hb, cond_true] at h
        have := Nat.eq_of_beq_eq_true hb; subst this
        exact ⟨hd, h⟩
      | false => rw [hb, cond_false] at h; exact ih h
theorem FrOk.kept {K L : Kn} (le : K.le L) {ds : Nat → Bool} {fr : FM} {τ τ' : Fr} (h : FrOk K fr τ) (ht : ∀ x, ds x = false → τ' x = τ x) : FrOk L (GX.kept ds fr) τ' := by
  intro x s hx
  obtain ⟨h1, h2⟩ := kept_ok hx
  rw [ht x h1]
  exact SV.mono le (h x s h2)

/-- the state stands ready to go in -/
noncomputable def Ready (j : J) (rest : HP) (K : Kn) (v : slT j.sl × blT j.bl) (τ : Fr) (w : World) : Prop := St K.p w (asns K rest ++ (asS K τ j.sl v.1 ++ (asB K j.bl v.2 ++ [Exact K.F])))
theorem absJ_ok {j : J} {fr : FM} {s s' : SS} {v : slT j.sl × blT j.bl} (h : absJ j fr s = some (v, s')) {K : Kn} {τ : Fr} {w : World} (i : Inv K s w) (hf : FrOk K fr τ) : ∃ K', K.le K' ∧ (K'.E = K.E ∧ K'.nx = K.nx) ∧ Ready j s'.hp K' v τ w := by
  unfold absJ at h
  split at h <;> try (cases h; done)
  rename_i y s1 hy
  split at h <;> try (cases h; done)
  rename_i z s2 hz
  cases h
  obtain ⟨K1, le1, hE1, hn1, st1⟩ := absS_ok (X := []) hy i.nx hf i.st
  obtain ⟨K2, le2, hE2, hn2, st2⟩ := absB_ok (X := asS K1 τ j.sl y ++ []) hz hn1 st1
  refine ⟨K2, le1.trans le2, ⟨hE2.1.trans hE1.1, hE2.2.trans hE1.2⟩, ?_⟩
  have st4 : St K2.p w (asS K1 τ j.sl y ++ (asns K2 s'.hp ++ (asB K2 j.bl z ++ [Exact K2.F]))) := st2.perm (by
    simp only [List.append_nil]
    have e1 : asns K2 s'.hp ++ ((asB K2 j.bl z ++ asS K1 τ j.sl y) ++ [Exact K2.F]) = (asns K2 s'.hp ++ asB K2 j.bl z) ++ (asS K1 τ j.sl y ++ [Exact K2.F]) := by simp only [List.append_assoc]
    rw [e1]
    refine (List.perm_append_comm_assoc _ _ _).trans ?_
    simp only [List.append_assoc]
    exact List.Perm.refl _)
  obtain ⟨hh, ha, rr⟩ := st4
  have st5 : St K2.p w (asS K2 τ j.sl y ++ (asns K2 s'.hp ++ (asB K2 j.bl z ++ [Exact K2.F]))) := ⟨hh, asS_mono le2 ha, rr⟩
  exact st5.perm (List.perm_append_comm_assoc _ _ _)
theorem insJ_ok {β : Type} {j : J} {n : Nat} {rest : HP} {v : slT j.sl × blT j.bl} {fr0 : FM} {k : FM → SS → Option β} {r : β} (h : insJ j n rest v fr0 k = some r) {K : Kn} {τ : Fr} {w : World} (hr : Ready j rest K v τ w) (hj : jok j n rest = true)
    (hk : FrOk (K.cut n) fr0 τ) : ∃ K' fr' s', (K.cut n).le K' ∧ Inv K' s' w ∧ FrOk K' fr' τ ∧ k fr' s' = some r := by
  unfold insJ at h
  simp only [jok, Bool.and_eq_true] at hj
  refine insS_ok h Kn.cut_nx hk ?_
  rw [asS_congr (K := K) (L := K.cut n) rfl rfl]
  have st0 : St K.p w (asB K j.bl v.2 ++ (asns K rest ++ (asS K τ j.sl v.1 ++ [Exact K.F]))) := hr.perm (by
    have e1 : asns K rest ++ (asS K τ j.sl v.1 ++ (asB K j.bl v.2 ++ [Exact K.F])) = (asns K rest ++ asS K τ j.sl v.1) ++ (asB K j.bl v.2 ++ [Exact K.F]) := by simp only [List.append_assoc]
    rw [e1]
    refine (List.perm_append_comm_assoc _ _ _).trans ?_
    simp only [List.append_assoc]
    exact List.Perm.refl _)
  obtain ⟨h1, a1, r1⟩ := st0
  have st1 : St K.p w (asns (K.cut n) (insB j.bl v.2) ++ (asns K rest ++ (asS K τ j.sl v.1 ++ [Exact K.F]))) := ⟨h1, asB_cut (by simpa only [Bool.and_eq_true] using hj.1) a1, r1⟩
  obtain ⟨h2, a2, r2⟩ := st1.perm (List.perm_append_comm_assoc _ _ _)
  have st2 : St K.p w (asns (K.cut n) rest ++ (asns (K.cut n) (insB j.bl v.2) ++ (asS K τ j.sl v.1 ++ [Exact K.F]))) := ⟨h2, staR_ok hj.2 a2, r2⟩
  refine st2.perm ?_
  have e2 : asns (K.cut n) (insB j.bl v.2 ++ rest) = asns (K.cut n) (insB j.bl v.2) ++ asns (K.cut n) rest := List.map_append
  show List.Perm _ (asS K τ j.sl v.1 ++ (asns (K.cut n) (insB j.bl v.2 ++ rest) ++ [Exact K.F]))
  rw [e2]
  refine (List.perm_append_comm_assoc _ _ _).trans ?_
  have e3 : asns (K.cut n) (insB j.bl v.2) ++ (asns (K.cut n) rest ++ (asS K τ j.sl v.1 ++ [Exact K.F])) = (asns (K.cut n) (insB j.bl v.2) ++ asns (K.cut n) rest) ++ (asS K τ j.sl v.1 ++ [Exact K.F]) := by simp only [List.append_assoc]
  rw [e3]
  exact List.perm_append_comm_assoc _ _ _
end Go.GX
namespace Go.GX
open Go.RowKit Go.SL
set_option linter.unusedVariables false
set_option linter.unusedSimpArgs false

noncomputable def dsC : Code → Nat → Bool
  | .region _ ops _, x => dstOps ops.toList x
  | .seq a b, x => dsC a x || dsC b x
  | .cond _ a b, x => dsC a x || dsC b x
  | .block _ c, x => dsC c x
  | .loop c, x => dsC c x
  | _, _ => false
/-- where code begins -/
noncomputable def cid : Code → Nat
  | .region id _ _ => id + 1
  | .seq a b => match cid a with
    | 0 => cid b
    | k => k
  | .cond _ a b => match cid a with
    | 0 => cid b
    | k => k
  | .block _ c => cid c
  | .loop c => cid c
  | _ => 0
structure Hs where
  joins : List (Nat × J)
  loops : List (Nat × J)
  bor : List (Nat × List Nat)
noncomputable def bget : List (Nat × List Nat) → Nat → List Nat
  | [], _ => []
  | (k, j) :: l, x => bif Nat.beq k x then j else bget l x
noncomputable def jget : List (Nat × J) → Nat → Option J
  | [], _ => none
  | (k, j) :: l, x => bif Nat.beq k x then some j else jget l x
noncomputable def dsOk (n : Nat) (l : List Oper) : Bool := l.all fun o => match o.dst with
  | some d => Nat.blt d n
  | none => true
theorem dsOk_ok {n : Nat} {ops : Array Oper} (h : dsOk n ops.toList = true) : ∀ (j x : Nat), (ops[j]?).bind (fun o => o.dst) = some x → Nat.blt x n = true := by
  intro j x hx
  cases hq : ops[j]? with
  | none => rw [hq] at hx; cases hx
  | some o =>
    rw [hq, Option.bind_some] at hx
    have hm : o ∈ ops.toList := by
      have := Array.getElem?_eq_some_iff.1 hq
      obtain ⟨hlt, rfl⟩ := this
      simp
    have := List.all_eq_true.1 h o hm
    rw [hx] at this; exact this
/-- regions that leave their order open -/
noncomputable def DrawH (β : Type) := Nat → List Nat → Array Oper → FM → SS → (FM → SS → Option β) → Option β
noncomputable def PostR {β : Type} (K0 : Kn) (τ0 : Fr) (ds : Nat → Bool) (k : FM → SS → Option β) (r : β) (Q : Exit → Fr → World → Prop) : Prop :=
  ∀ fr s K τ w, k fr s = some r → K0.le K → Inv K s w → FrOk K fr τ → (∀ x, ds x = false → τ x = τ0 x) → Q .normal τ w
noncomputable def PostC {β : Type} (K0 : Kn) (τ0 : Fr) (ds : Nat → Bool) (k : Ex → FM → SS → Option β) (r : β) (Q : Exit → Fr → World → Prop) : Prop :=
  ∀ e fr s K τ w, k e fr s = some r → K0.le K → Inv K s w → FrOk K fr τ → (∀ x, ds x = false → τ x = τ0 x) → Q e.ex τ w
noncomputable def DrawOk (P : Program) (T : TB) {β : Type} (D : DrawH β) : Prop := ∀ (n : Nat) (ids : List Nat) (id : Nat) (ops : Array Oper) (fr : FM) (s : SS) (k : FM → SS → Option β) (r : β), D n ids ops fr s k = some r → dsOk n ops.toList = true → ∀ (K : Kn) (τ : Fr) (w : World) (Q : Exit → Fr → World → Prop), Inv K s w → FrOk K fr τ → EnvOk K T →
  PostR K τ (dstOps ops.toList) k r Q → CW P n (.region id ops true) Q τ w
/-- what stays beside where ways meet -/
noncomputable def jrest (j : J) (s : SS) : HP := restOf (j.bl.map (·.1) ++ j.dr) (frzL j.fz s).hp
theorem restOf_ok {K : Kn} {p : Pers} {w : World} {no : List Nat} : ∀ {l : HP} {X : List Assn}, St p w (asns K l ++ X) → St p w (asns K (restOf no l) ++ X) := by
  intro l
  induction l with
  | nil => intro X s; exact s
  | cons a l ih =>
    obtain ⟨id, e⟩ := a
    intro X s
    simp only [restOf]
    cases hb : no.any (Nat.beq id) with
    | true =>
      rw [cond_true]
      exact ih (St.drop s)
    | false =>
      rw [cond_false]
      have s1 : St p w (asns K l ++ (e.asn K id :: X)) := s.perm List.perm_middle.symm
      exact (ih s1).perm List.perm_middle
section
variable {β : Type}
noncomputable def sxC (T : TB) (C : CallH β) (D : DrawH β) (n : Nat) (hs : Hs) : Code → FM → SS → (Ex → FM → SS → Option β) → Option β
  | .skip, fr, s, k => k .n fr s
  | .label _, fr, s, k => k .n fr s
  | .ret, fr, s, k => k .r fr s
  | .exit id, fr, s, k => k (.x id) fr s
  | .region id ops draw, fr, s, k => bif dsOk n ops.toList then (match draw with
    | false => sxR T C n ops ops.toList fr s fun fr s => k .n fr s
    | true => D n (bget hs.bor id) ops fr s fun fr s => k .n fr s) else none
  | .seq a b, fr, s, k => match jget hs.joins (cid b) with
    | none => sxC T C D n hs a fr s fun e fr s => match e with
      | .n => sxC T C D n hs b fr s k
      | e => k e fr s
    | some j => bif jok j s.nx (jrest j s) then jn (fun v => insJ j s.nx (jrest j s) v (kept (dsC a) fr) fun fr s => frFM fr fun fr => frSS s fun s => sxC T C D n hs b fr s k) (fun rec => sxC T C D n hs a fr (frzL j.fz s) fun e fr1 s1 => match e with
      | .n => nrmS j.sl fr1 s1 fun fr1 s1 => (match absJ j fr1 s1 with
        | some (v, s2) => chkR (jrest j s) s2.hp (rec v)
        | none => none)
      | e => k e fr1 s1) else none
  | .cond c a b, fr, s, k => match rho T.gs n fr c with
    | some v => match scS v with
      | some (.b x) => br x (sxC T C D n hs a fr s k) (sxC T C D n hs b fr s k)
      | _ => none
    | none => none
  | .block id c, fr, s, k => sxC T C D n hs c fr s fun e fr s => match e with
    | .x i => bif Nat.beq i id then k .n fr s else k (.x i) fr s
    | e => k e fr s
  | .loop c, fr, s, k => match jget hs.loops (cid c) with
    | some j => nrmS j.sl fr (frzL j.fz s) fun fr s => (match absJ j fr s with
      | some (v0, s1) => bif jok j s.nx (restOf j.dr s1.hp) then iter (fun v rec => insJ j s.nx (restOf j.dr s1.hp) v (kept (dsC c) fr) fun fr' s' => frFM fr' fun fr' => frSS s' fun s' => sxC T C D n hs c fr' s' fun e fr2 s2 => match e with
        | .n => nrmS j.sl fr2 s2 fun fr2 s2 => (match absJ j fr2 s2 with
          | some (v', s3) => chkR (restOf j.dr s1.hp) s3.hp (rec v')
          | none => none)
        | e => k e fr2 s2) v0 else none
      | none => none)
    | none => none
  | _, _, _, _ => none
end
theorem PostC.sub {β : Type} {K0 K1 : Kn} {τ0 τ1 : Fr} {ds ds' : Nat → Bool} {k : Ex → FM → SS → Option β} {r : β} {Q : Exit → Fr → World → Prop} (h : PostC K0 τ0 ds k r Q) (hb : K0.le K1) (hτ : ∀ x, ds x = false → ds' x = false ∧ τ1 x = τ0 x) : PostC K1 τ1 ds' k r Q :=
  fun e fr s K τ w hk b i f ht => h e fr s K τ w hk (hb.trans b) i f fun x hx => by rw [ht x (hτ x hx).1, (hτ x hx).2]
theorem sxC_ok {β : Type} {P : Program} {T : TB} {C : CallH β} {D : DrawH β} {n : Nat} {hs : Hs} {r : β} (hT : T.ok P) (hC : CallOk P T C) (hD : DrawOk P T D) :
    ∀ (c : Code) (fr : FM) (s : SS) (k : Ex → FM → SS → Option β) (K : Kn) (τ : Fr) (w : World) (Q : Exit → Fr → World → Prop), sxC T C D n hs c fr s k = some r → Inv K s w → FrOk K fr τ → EnvOk K T → PostC K τ (dsC c) k r Q → CW P n c Q τ w := by
  intro c
  induction c with
  | skip => intro fr s k K τ w Q h i f hg hp; exact CW.skip (hp .n fr s K τ w h (Kn.le.refl _) i f fun _ _ => rfl)
  | label l => intro fr s k K τ w Q h i f hg hp; exact CW.label (hp .n fr s K τ w h (Kn.le.refl _) i f fun _ _ => rfl)
  | ret => intro fr s k K τ w Q h i f hg hp; exact CW.ret (hp .r fr s K τ w h (Kn.le.refl _) i f fun _ _ => rfl)
  | exit id => intro fr s k K τ w Q h i f hg hp; exact CW.exit (hp (.x id) fr s K τ w h (Kn.le.refl _) i f fun _ _ => rfl)
  | region id ops draw =>
    intro fr s k K τ w Q h i f hg hp
    simp only [sxC, frFM_eq, frSS_eq] at h
    cases hd : dsOk n ops.toList with
    | false => rw [hd, cond_false] at h; cases h
    | true =>
    rw [hd, cond_true] at h
    cases draw with
    | false =>
      refine CW.region (sxR_ok hT hC (dsOk_ok hd) _ _ _ _ _ _ h i f hg fun fr' s' K' τ' w' h1 h2 h3 h4 h5 => ?_)
      exact hp .n fr' s' K' τ' w' h1 h2 h3 h4 h5
    | true => exact hD n _ id ops fr s _ r h hd K τ w Q i f hg fun fr' s' K' τ' w' h1 h2 h3 h4 h5 => hp .n fr' s' K' τ' w' h1 h2 h3 h4 h5
  | seq a b iha ihb =>
    intro fr s k K τ w Q h i f hg hp
    simp only [sxC, frFM_eq, frSS_eq] at h
    have sa : ∀ {x : Nat}, dsC (.seq a b) x = false → dsC a x = false ∧ dsC b x = false := fun {x} hx => by
      simpa [dsC] using hx
    split at h
    · refine CW.seq (iha _ _ _ _ _ _ _ h i f hg ?_)
      intro e fr1 s1 K1 τ1 w1 h1 b1 i1 f1 t1
      cases e with
      | n => exact ihb _ _ _ _ _ _ _ h1 i1 f1 (hg.mono b1) (hp.sub b1 fun x hx => ⟨(sa hx).2, t1 x (sa hx).1⟩)
      | x id => exact hp (.x id) fr1 s1 K1 τ1 w1 h1 b1 i1 f1 fun x hx => t1 x (sa hx).1
      | r => exact hp .r fr1 s1 K1 τ1 w1 h1 b1 i1 f1 fun x hx => t1 x (sa hx).1
    · rename_i j hj
      cases hq : jok j s.nx (jrest j s) with
      | false => rw [hq, cond_false] at h; cases h
      | true =>
      rw [hq, cond_true, jn_e] at h
      obtain ⟨K0, le0, hx0, i0⟩ := frzL_ok (ids := j.fz) i
      have hf0 : FroOk K0 (jrest j s) := FroOk.st (restOf_ok i0.st)
      refine CW.seq (iha _ _ _ _ _ _ _ h i0 (f.mono le0) (hg.mono le0) ?_)
      intro e fr1 s1 K1 τ1 w1 h1 b1 i1 f1 t1
      cases e with
      | n =>
        simp only at h1
        obtain ⟨K1', fr1', s1', le1', i1', f1', h1'⟩ := nrmS_ok h1 i1 f1
        split at h1' <;> try (cases h1'; done)
        rename_i v s2 hv
        obtain ⟨K2, le2, hE2, hr2⟩ := absJ_ok hv i1' f1'
        obtain ⟨h2, st2⟩ := chkR_ok h1'
        have b2 : K.le K2 := (le0.trans (b1.trans le1')).trans le2
        have hr3 : Ready j (jrest j s) K2 v τ1 w1 := st2 (hf0.mono ((b1.trans le1').trans le2)) hr2
        have b3 : K.le (K2.cut s.nx) := by rw [i.nx.eq]; exact Kn.cut_le b2 i.nx.no
        obtain ⟨K3, fr3, s3, le3, i3, f3, h3⟩ := insJ_ok h2 hr3 hq (FrOk.kept b3 f t1)
        exact ihb _ _ _ _ _ _ _ h3 i3 f3 (hg.mono (b3.trans le3)) (hp.sub (b3.trans le3) fun x hx => ⟨(sa hx).2, t1 x (sa hx).1⟩)
      | x id => exact hp (.x id) fr1 s1 K1 τ1 w1 h1 (le0.trans b1) i1 f1 fun x hx => t1 x (sa hx).1
      | r => exact hp .r fr1 s1 K1 τ1 w1 h1 (le0.trans b1) i1 f1 fun x hx => t1 x (sa hx).1
  | cond x a b iha ihb =>
    intro fr s k K τ w Q h i f hg hp
    simp only [sxC, frFM_eq, frSS_eq] at h
    split at h <;> try (cases h; done)
    rename_i v hv
    split at h <;> try (cases h; done)
    rename_i t ht
    have hx := scS_ok ht (rho_ok hg.1 f _ _ hv)
    have sa : ∀ {y : Nat}, dsC (.cond x a b) y = false → dsC a y = false ∧ dsC b y = false := fun {y} hy => by simpa [dsC] using hy
    rcases br_some h with ⟨rfl, h'⟩ | ⟨rfl, h'⟩
    · exact CW.condT hx (iha _ _ _ _ _ _ _ h' i f hg (hp.sub (Kn.le.refl _) fun y hy => ⟨(sa hy).1, rfl⟩))
    · exact CW.condF hx (ihb _ _ _ _ _ _ _ h' i f hg (hp.sub (Kn.le.refl _) fun y hy => ⟨(sa hy).2, rfl⟩))
  | block id c ih =>
    intro fr s k K τ w Q h i f hg hp
    simp only [sxC, frFM_eq, frSS_eq] at h
    refine CW.block (ih _ _ _ _ _ _ _ h i f hg ?_)
    intro e fr1 s1 K1 τ1 w1 h1 b1 i1 f1 t1
    cases e with
    | n => exact hp .n fr1 s1 K1 τ1 w1 h1 b1 i1 f1 t1
    | r => exact hp .r fr1 s1 K1 τ1 w1 h1 b1 i1 f1 t1
    | x i =>
      simp only at h1
      show SL.Bl id Q (.exit i) τ1 w1
      simp only [SL.Bl]
      cases hb : Nat.beq i id with
      | true =>
        rw [hb, cond_true] at h1
        rw [if_pos (Nat.eq_of_beq_eq_true hb)]
        exact hp .n fr1 s1 K1 τ1 w1 h1 b1 i1 f1 t1
      | false =>
        rw [hb, cond_false] at h1
        rw [if_neg (fun e => by subst e; rw [Nat.beq_refl] at hb; cases hb)]
        exact hp (.x i) fr1 s1 K1 τ1 w1 h1 b1 i1 f1 t1
  | loop c ih =>
    intro fr s k K τ w Q h i f hg hp
    simp only [sxC, frFM_eq, frSS_eq] at h
    split at h <;> try (cases h; done)
    rename_i j hj
    obtain ⟨K00, le00, hx0, i00⟩ := frzL_ok (ids := j.fz) i
    obtain ⟨K0, fr0, s0, le01, i0, f0, h0⟩ := nrmS_ok h i00 (f.mono le00)
    have le0 := le00.trans le01
    clear h
    split at h0 <;> try (cases h0; done)
    rename_i v0 s1 hv0
    cases hq : jok j s0.nx (restOf j.dr s1.hp) with
    | false => rw [hq, cond_false] at h0; cases h0
    | true =>
    rw [hq, cond_true] at h0
    rw [iter_eq] at h0
    obtain ⟨K1, le1, hE1, hr1⟩ := absJ_ok hv0 i0 f0
    have hr1' : Ready j (restOf j.dr s1.hp) K1 v0 τ w := restOf_ok hr1
    have hf1 : FroOk K1 (restOf j.dr s1.hp) := FroOk.st hr1'
    have hx1 : K1.nx = s0.nx := by rw [hE1.2, i0.nx.eq]
    have hno : ∀ k, K1.nx ≤ k → K1.E k = none := fun k hk => by rw [hE1.1]; exact i0.nx.no k (by rw [← hE1.2]; exact hk)
    refine CW.loop (fun m τ' w' => ∃ v K', itn _ m v = some r ∧ K1.le K' ∧ Ready j (restOf j.dr s1.hp) K' v τ' w' ∧ ∀ x, dsC c x = false → τ' x = τ x) fuel ⟨v0, K1, h0, Kn.le.refl _, hr1', fun _ _ => rfl⟩ ?_
    rintro m τ1 w1 ⟨v, K2, hit, b1, hr2, t1⟩
    cases m with
    | zero => simp only [itn, reduceCtorEq] at hit
    | succ m =>
      simp only [itn] at hit
      have b3 : K1.le (K2.cut s0.nx) := by rw [← hx1]; exact Kn.cut_le b1 hno
      obtain ⟨K3, fr3, s3, le3, i3, f3, h3⟩ := insJ_ok hit hr2 hq (FrOk.kept (le1.trans b3) f0 t1)
      refine ih _ _ _ _ _ _ _ h3 i3 f3 (hg.mono (((le0.trans le1).trans b3).trans le3)) ?_
      intro e fr4 s4 K4 τ4 w4 h4 b4 i4 f4 t4
      have t5 : ∀ x, dsC c x = false → τ4 x = τ x := fun x hx => by rw [t4 x hx, t1 x hx]
      have b5 : K1.le K4 := (b3.trans le3).trans b4
      cases e with
      | n =>
        simp only at h4
        obtain ⟨K4', fr4', s4', le4', i4', f4', h4'⟩ := nrmS_ok h4 i4 f4
        split at h4' <;> try (cases h4'; done)
        rename_i v' s5 hv'
        obtain ⟨K5, le5, hE5, hr5⟩ := absJ_ok hv' i4' f4'
        obtain ⟨h6, st6⟩ := chkR_ok h4'
        exact ⟨m, Nat.lt_succ_self m, v', K5, h6, (b5.trans le4').trans le5, st6 (hf1.mono ((b5.trans le4').trans le5)) hr5, t5⟩
      | x id => exact hp (.x id) fr4 s4 K4 τ4 w4 h4 ((le0.trans le1).trans b5) i4 f4 t5
      | r => exact hp .r fr4 s4 K4 τ4 w4 h4 ((le0.trans le1).trans b5) i4 f4 t5
  | _ => intro fr s k K τ w Q h; simp only [sxC, reduceCtorEq] at h
end Go.GX
namespace Go.GX
open Go.RowKit Go.SL
set_option linter.unusedVariables false
set_option linter.unusedSimpArgs false
section
variable {P : Program} {n : Nat} {τ : Fr} {w : World} {β : Type} {T : TB}
noncomputable def resK (T : TB) (n : Nat) : List ResultVar → FM → SS → (SV → SS → Option β) → Option β
  | [], _, s, k => k .nl s
  | .tmp t :: l, fr, s, k => bif Nat.blt t n then (match flook fr t with
    | some v => resK T n l fr s fun c s' => k (.pr v c) s'
    | none => none) else none
  | .cell a ty :: l, fr, s, k => bif Nat.blt a n then (match flook fr a with
    | some p => opLoad T.tt s ty p fun v s1 => resK T n l fr s1 fun c s' => k (.pr v c) s'
    | none => none) else none
theorem Reads.loadVar {t : TypeId} {i : TI} {a : Addr} {v : Value} (hi : i.ok P t) (h : Reads w (.pointer (some a)) v) (hs : v.cells.size = i.size) (ha : aggV v = aggD i.desc) (h1 : aggV v = false → v.oneCell' = true) : (loadVar t a).run P w = .ok v w := by
  obtain ⟨b, o, e, hat⟩ := h
  cases e
  have hagg : (isAgg t).run P w = .ok (aggD i.desc) w := by
    unfold isAgg
    rw [Sem.run_bind, run_underlying hi.desc w]
    cases i.desc <;> rfl
  cases hv : aggV v with
  | false =>
    have := h1 hv
    rw [one_cells this] at hat
    have hc := hat.cell (j := 0) rfl
    rw [Nat.add_zero] at hc
    simp [Go.loadVar, Sem.run_bind, hagg, ← ha, hv, hc]
  | true =>
    cases v <;> simp only [aggV, Bool.false_eq_true] at hv
    rename_i cs
    have hld : (loadCells ⟨b, o, none⟩ cs.toList.length).run P w = .ok cs.toList.toArray w :=
      run_loadCells_list (P := P) w ⟨b, o, none⟩ cs.toList (fun j v hv => by rw [add_lit]; exact hat.cell hv)
    have hq := hi.size
    cases hqq : P.info? t with
    | none => rw [hqq] at hq; cases hq
    | some q =>
      rw [hqq] at hq
      have hsz : q.size = cs.size := by simp at hq; rw [hq, ← hs]; rfl
      simp at hld
      simp [Go.loadVar, Sem.run_bind, hagg, ← ha, aggV, sizeOf, typeInfo, hqq, hsz, hld]
theorem resK_ok {fr : FM} {r : β} (hT : T.ok P) : ∀ {l : List ResultVar} {s : SS} {k : SV → SS → Option β}, resK T n l fr s k = some r → ∀ {K : Kn}, Inv K s w → FrOk K fr τ →
    ∃ vs c s' K', K.le K' ∧ Inv K' s' w ∧ c.dn K' .l vs ∧ (l.mapM (rvSem (AF n τ).tmps)).run P w = .ok vs w ∧ k c s' = some r := by
  intro l
  induction l with
  | nil => intro s k h K i f; exact ⟨[], .nl, s, K, Kn.le.refl _, i, rfl, rfl, h⟩
  | cons a l ih =>
    intro s k h K i f
    cases a with
    | tmp t =>
      simp only [resK] at h
      cases hb : Nat.blt t n with
      | false => rw [hb, cond_false] at h; cases h
      | true =>
      rw [hb, cond_true] at h
      split at h <;> try (cases h; done)
      rename_i v hv
      obtain ⟨vs, c, s', K', le, i', hd, hrun, hk⟩ := ih h i f
      refine ⟨τ t :: vs, .pr v c, s', K', le, i', ⟨_, _, rfl, SV.mono le (f _ _ hv), hd⟩, ?_, hk⟩
      simp only [List.mapM_cons, Sem.run_bind, Sem.run_pure, Result.andThen_ok, rv_tmp (P := P) (w := w) (AF_ev hb rfl), hrun]
    | cell a t =>
      simp only [resK] at h
      cases hb : Nat.blt a n with
      | false => rw [hb, cond_false] at h; cases h
      | true =>
      rw [hb, cond_true] at h
      split at h <;> try (cases h; done)
      rename_i p hp
      unfold opLoad at h
      split at h <;> try (cases h; done)
      rename_i ti hti
      obtain ⟨v, sv, s1, K1, le1, i1, hR, hd, hk⟩ := ldX_ok i (f _ _ hp) h
      split at hk <;> try (cases hk; done)
      rename_i m hm
      cases hq : Nat.beq m ti.size && (sv.agg == aggD ti.desc) with
      | false => rw [hq, cond_false] at hk; cases hk
      | true =>
      rw [hq, cond_true] at hk
      simp only [Bool.and_eq_true, beq_iff_eq] at hq
      have hm' := Nat.eq_of_beq_eq_true hq.1
      have hag := agg_ok hd hm
      obtain ⟨vs, c, s', K', le, i', hdl, hrun, hk2⟩ := ih hk i1 (f.mono le1)
      obtain ⟨b, o, hpe, hat⟩ := id hR
      have hload : (loadVar t ⟨b, o, none⟩).run P w = .ok v w := by
        rw [hpe] at hR
        exact hR.loadVar (tget_ok hT.tt hti) (by rw [(wd_ok).1 _ _ hd hm, hm']) (by rw [hag, hq.2]) (fun hv => cell1 hd hm (by rw [← hag]; exact hv))
      refine ⟨v :: vs, .pr sv c, s', K', le1.trans le, i', ⟨_, _, rfl, SV.mono le hd, hdl⟩, ?_, hk2⟩
      simp only [List.mapM_cons, Sem.run_bind, Sem.run_pure, Result.andThen_ok, rv_cell (P := P) (w := w) ((AF_ev hb rfl).trans hpe) hload, hrun]
/-- one result, or several -/
noncomputable def one1 : SV → SV
  | .pr a .nl => a
  | c => .tup c
noncomputable def resT (T : TB) (n : Nat) (l : List ResultVar) (fr : FM) (s : SS) (k : SV → SS → Option β) : Option β := resK T n l fr s fun c s' => k (one1 c) s'
theorem one1_ok {K : Kn} {c : SV} {vs : List Value} (h : c.dn K .l vs) : (one1 c).den K (if h : vs.length = 1 then vs[0] else .tuple vs.toArray) := by
  unfold one1
  split
  · obtain ⟨v, d, rfl, h1, h2⟩ := h
    have : d = [] := h2
    subst this
    simpa using h1
  · rename_i hne
    rw [dif_neg ?_]
    · exact ⟨vs, rfl, h⟩
    · intro hl
      cases c with
      | pr a b =>
        obtain ⟨v, d, rfl, h1, h2⟩ := h
        have hd : d = [] := List.eq_nil_of_length_eq_zero (by simpa using hl)
        subst hd
        cases b with
        | nl => exact hne a rfl
        | pr x y => obtain ⟨_, _, e, _⟩ := h2; cases e
        | _ => cases h2
      | nl => rw [show vs = [] from h] at hl; cases hl
      | _ => cases h
theorem results_run {fn : Func} {vs : List Value} {tm : Array Value} (h : (fn.results.toList.mapM (rvSem tm)).run P w = .ok vs w) : (results fn tm).run P w = .ok (if h : vs.length = 1 then vs[0] else .tuple vs.toArray) w := by
  rw [results_eq, Array.mapM_eq_mapM_toList]
  simp only [map_eq_pure_bind, Sem.run_bind, h, Result.andThen_ok, Sem.run_pure]
  simp
end

/-! ### functions by their numbers -/
abbrev FT := List (FuncId × Func × Hs)
noncomputable def fget : FT → FuncId → Option (Func × Hs)
  | [], _ => none
  | (k, j) :: l, x => bif Nat.beq k x then some j else fget l x
noncomputable def FT.ok (P : Program) (F : FT) : Prop := ∀ e ∈ F, P.funcs[e.1]? = some e.2.1 ∧ (e.2.1.name == "runtime.NumGoroutine") = false
theorem fget_ok {P : Program} {F : FT} (h : F.ok P) {f : FuncId} {e : Func × Hs} (he : fget F f = some e) : P.funcs[f]? = some e.1 ∧ (e.1.name == "runtime.NumGoroutine") = false := by
  induction F with
  | nil => cases he
  | cons a l ih =>
    obtain ⟨y, q⟩ := a
    simp only [fget] at he
    cases hb : Nat.beq y f with
    | true =>
      rw [hb, cond_true] at he; cases he
      have := Nat.eq_of_beq_eq_true hb; subst this
      exact h (y, e) (List.mem_cons_self ..)
    | false => rw [hb, cond_false] at he; exact ih (fun z hz => h z (List.mem_cons_of_mem _ hz)) he
noncomputable def argF : Nat → List SV → FM
  | _, [] => []
  | i, a :: l => (i, a) :: argF (i + 1) l
theorem argF_ok {K : Kn} {τ : Fr} : ∀ {l : List SV} {vs : List Value} {j : Nat}, l.length = vs.length → (∀ (i : Nat) (a : SV) (v : Value), l[i]? = some a → vs[i]? = some v → a.den K v) → (∀ i (hi : i < vs.length), τ (j + i) = vs[i]) → FrOk K (argF j l) τ := by
  intro l
  induction l with
  | nil => intro vs j _ _ _ x s h; cases h
  | cons a l ih =>
    intro vs j hl hd hτ
    cases vs with
    | nil => cases hl
    | cons v vs =>
      have h0 : a.den K (τ j) := by
        have := hτ 0 (by simp)
        simp only [Nat.add_zero, List.getElem_cons_zero] at this
        rw [this]; exact hd 0 a v rfl rfl
      refine FrOk.as (ih (vs := vs) (by simpa using hl) (fun i x u hx hu => hd (i + 1) x u (by simpa using hx) (by simpa using hu)) fun i hi => ?_) h0
      have := hτ (i + 1) (by simpa using hi)
      simp only [List.getElem_cons_succ] at this
      rw [← this]; congr 1; omega
section
variable {β : Type}
/-- the table, with what is lent around -/
noncomputable def TB.wr (T : TB) (ro : Option (Nat × HP)) : TB := ⟨T.ts, T.gs, ro⟩
abbrev RoH (β : Type) := Option (Nat × HP) → CallH β
noncomputable def inl (T : TB) (F : FT) (D : TB → RoH β → DrawH β) (X : CallH β) : Nat → RoH β
  | 0, _, _, _, _, _ => none
  | d + 1, ro, f, as, s, k => match fget F f with
    | some (fn, hs) => match fn.body with
      | some c => bif Nat.ble as.length fn.ntmps then sxC (T.wr ro) (inl T F D X d ro) (D (T.wr ro) (inl T F D X d)) fn.ntmps hs c (argF 0 as) s (fun e fr s' => match e with
        | .x _ => none
        | _ => resT (T.wr ro) fn.ntmps fn.results.toList fr s' k) else none
      | none => none
    | none => X f as s k
theorem body_ok {P : Program} {T : TB} {C : CallH β} {D : DrawH β} (hT : T.ok P) (hC : CallOk P T C) (hD : DrawOk P T D) {f : FuncId} {fn : Func} {c : Code} {hs : Hs} {as : List SV} {vs : List Value} {s : SS} {k : SV → SS → Option β} {r : β} {K : Kn} {w : World}
    (hf : P.funcs[f]? = some fn) (hb : fn.body = some c) (hle : as.length ≤ fn.ntmps)
    (h : sxC T C D fn.ntmps hs c (argF 0 as) s (fun e fr s' => match e with
        | .x _ => none
        | _ => resT T fn.ntmps fn.results.toList fr s' k) = some r) (hg : EnvOk K T) (i : Inv K s w) (hl : as.length = vs.length) (hd : ∀ (i : Nat) (a : SV) (v : Value), as[i]? = some a → vs[i]? = some v → a.den K v) :
    Calls P f vs.toArray w fun e w' => ∃ v sv s' K', e = .returned v ∧ K.le K' ∧ Inv K' s' w' ∧ sv.den K' v ∧ k sv s' = some r := by
  refine enter (n := fn.ntmps) hf hb (by simp; omega) rfl fun τ hτ => ?_
  refine sxC_ok hT hC hD _ _ _ _ K τ w _ h i (argF_ok hl hd fun j hj => by rw [Nat.zero_add]; exact hτ j (by simpa using hj)) hg ?_
  intro e fr1 s1 K1 τ1 w1 h1 b1 i1 f1 _
  have fin : resT T fn.ntmps fn.results.toList fr1 s1 k = some r → ∃ v, (results fn (AF fn.ntmps τ1).tmps).run P w1 = .ok v w1 ∧ ∃ v' sv s' K', Ending.returned v = .returned v' ∧ K.le K' ∧ Inv K' s' w1 ∧ sv.den K' v' ∧ k sv s' = some r := by
    intro hq
    obtain ⟨vs', c', s', K', le, i', hdl, hrun, hk⟩ := resK_ok (P := P) (τ := τ1) hT hq i1 f1
    exact ⟨_, results_run hrun, _, _, s', K', rfl, b1.trans le, i', one1_ok hdl, hk⟩
  cases e with
  | n => obtain ⟨v, h1, h2⟩ := fin h1; exact ⟨rfl, v, h1, h2⟩
  | r => obtain ⟨v, h1, h2⟩ := fin h1; exact ⟨rfl, v, h1, h2⟩
  | x id => cases h1
end
end Go.GX
namespace Go.GX
open Go.RowKit Go.SL
set_option linter.unusedVariables false
set_option linter.unusedSimpArgs false

/-- simple values, held against one another -/
noncomputable def vb : Value → Value → Bool
  | .bool a, .bool b => a == b
  | .int .i64 a, .int .i64 b | .int .u8 a, .int .u8 b | .int .u16 a, .int .u16 b | .int .u32 a, .int .u32 b | .int .u64 a, .int .u64 b => decide (a = b)
  | .string ⟨⟨[]⟩⟩, .string ⟨⟨[]⟩⟩ => true
  | .pointer none, .pointer none => true
  | .slice none 0 0, .slice none 0 0 => true
  | .map none, .map none => true
  | .nilFunc, .nilFunc => true
  | .nilIface, .nilIface => true
  | _, _ => false
theorem vb_ok {a b : Value} (h : vb a b = true) : a = b := by
  unfold vb at h
  split at h <;> first | rfl | (simp at h; subst h; rfl) | cases h
noncomputable def vbs : List Value → List Value → Bool
  | [], [] => true
  | a :: l, b :: m => vb a b && vbs l m
  | _, _ => false
theorem vbs_ok : ∀ {a b : List Value}, vbs a b = true → a = b := by
  intro a
  induction a with
  | nil => intro b h; cases b with
    | nil => rfl
    | cons _ _ => cases h
  | cons x l ih => intro b h; cases b with
    | nil => cases h
    | cons y m =>
      simp only [vbs, Bool.and_eq_true] at h
      rw [vb_ok h.1, ih h.2]
/-- what stands in a new variable of a kind -/
noncomputable def zeroT : (t : Ty) → t.T
  | .int => (0 : Int) | .u8 => 0#8 | .u16 => 0#16 | .u32 => 0#32 | .u64 => 0#64 | .bool => false | .str => ([] : List (BitVec 8)) | .unit => ()
  | .pair a b => (zeroT a, zeroT b)
  | .arr n a => List.replicate n (zeroT a)
  | .fz a => ([] : List a.T)
  | .vec _ a => ([] : List a.T)
  | .box _ a => zeroT a
  | .obox _ a => (none : Option a.T)
  | .map a => ([] : List (Int × a.T))
section
variable (P : Program) (ov : Nat → Option Ty)
noncomputable def tyOf : Nat → Nat → Ty
  | 0, _ => .unit
  | f + 1, t => match ov t with
    | some y => y
    | none => match P.underlying t with
      | some (.int .i64) => .int
      | some (.int .u8) => .u8
      | some (.int .u16) => .u16
      | some (.int .u32) => .u32
      | some (.int .u64) => .u64
      | some .bool => .bool
      | some .string => .str
      | some (.slice e) => .fz (tyOf f e)
      | some (.pointer e) => .box e (tyOf f e)
      | some (.map _ e) => .map (tyOf f e)
      | some (.array n e) => .arr n (tyOf f e)
      | some (.struct fs) => fs.toList.foldr (fun x r => .pair (tyOf f x.type) r) .unit
      | _ => .unit
noncomputable def zcOf : Nat → Nat → CT
  | 0, _ => .nl
  | f + 1, t => match P.underlying t with
      | some (.int .i64) => .dat .int (0 : Int)
      | some (.int .u8) => .dat .u8 0#8
      | some (.int .u16) => .dat .u16 0#16
      | some (.int .u32) => .dat .u32 0#32
      | some (.int .u64) => .dat .u64 0#64
      | some .bool => .dat .bool false
      | some .string => .dat .str ([] : List (BitVec 8))
      | some (.slice _) => .cel .nilS
      | some (.pointer _) => .cel .nilP
      | some (.map _ _) => .cel .nilM
      | some (.func ..) => .cel .nilF
      | some (.interface ..) => .cel .nilI
      | some (.array n e) => .dat (.arr n (tyOf P ov 9 e)) (List.replicate n (zeroT (tyOf P ov 9 e)))
      | some (.struct fs) => fs.toList.foldr (fun x r => .pr (zcOf f x.type) r) .nl
      | _ => .nl
noncomputable def eqOf (t : Nat) : Nat := match P.underlying t with
  | some (.struct _) => bif !(P.stoodInHeld t) && !(P.eqGuardType P.depth t) && flI P (P.fieldsOf t).toList 0 then (P.fieldsOf t).toList.length else 0
  | _ => 0
theorem eqOf_ok {t m : Nat} (h : eqOf P t = m + 1) : EqI P t (m + 1) := by
  unfold eqOf at h
  split at h <;> try (cases h; done)
  rename_i fs hu
  cases hb : (!(P.stoodInHeld t) && !(P.eqGuardType P.depth t) && flI P (P.fieldsOf t).toList 0) with
  | false => rw [hb, cond_false] at h; cases h
  | true =>
  rw [hb, cond_true] at h
  simp only [Bool.and_eq_true, Bool.not_eq_true'] at hb
  exact ⟨by unfold Program.fieldsOf; rw [hu], hb.1.1, hb.1.2, h, hb.2⟩
noncomputable def txOf (t : Nat) : TX := match P.underlying t, P.info? t with
  | some d, some i => ⟨⟨d, i.size, i.bytes⟩, i.zero.getD .nilIface, zcOf P ov 9 t, tyOf P ov 15 t, eqOf P t, eqE P t (tyOf P ov 15 t)⟩
  | _, _ => ⟨⟨.bool, 0, 0⟩, .nilIface, .nl, .unit, 0, false⟩
noncomputable def txChk (t : Nat) (i : TX) : Bool := match P.underlying t, P.info? t with
  | some _, some j => (match j.zero with | some _ => true | none => false) && Nat.beq i.z.cells.size i.size && (match i.zc.ren with | some l => vbs l i.z.cells.toList | none => false)
  | _, _ => false
noncomputable def tbOf (ids : List Nat) (gs : List (Nat × SV)) : TB := ⟨ids.map fun t => (t, txOf P ov t), gs, none⟩
end
theorem tbOf_ok {P : Program} {ov : Nat → Option Ty} {ids : List Nat} {gs : List (Nat × SV)} (h : (ids.all fun t => txChk P t (txOf P ov t)) = true) : (tbOf P ov ids gs).ok P := by
  intro e he
  obtain ⟨t, ht, rfl⟩ := List.mem_map.1 he
  have hc := List.all_eq_true.1 h t ht
  unfold txChk at hc
  split at hc <;> try (cases hc; done)
  rename_i d j hd hj
  simp only [Bool.and_eq_true] at hc
  obtain ⟨⟨h1, h2⟩, h3⟩ := hc
  have hz : ∃ z, j.zero = some z := by
    cases hq : j.zero with
    | none => rw [hq] at h1; cases h1
    | some z => exact ⟨z, rfl⟩
  obtain ⟨z, hz⟩ := hz
  have e1 : txOf P ov t = ⟨⟨d, j.size, j.bytes⟩, z, zcOf P ov 9 t, tyOf P ov 15 t, eqOf P t, eqE P t (tyOf P ov 15 t)⟩ := by simp only [txOf, hd, hj, hz, Option.getD_some]
  refine ⟨?_, ?_, Nat.eq_of_beq_eq_true h2, ?_, fun m hm => eqOf_ok P (by rw [e1] at hm; exact hm), fun hf => by rw [e1] at hf ⊢; exact eqE_ok hf⟩
  · show P.underlying t = some (txOf P ov t).desc; rw [e1]; exact hd
  · show (P.info? t).map _ = some (some (txOf P ov t).z, (txOf P ov t).size, (txOf P ov t).bytes)
    rw [e1, hj]; simp [hz]
  · show (txOf P ov t).zc.ren = some (txOf P ov t).z.cells.toList
    split at h3
    · rename_i l hl; rw [hl, vbs_ok h3]
    · cases h3

/-! ### calls that are gone through -/
theorem TB.ok.wr {P : Program} {T : TB} (h : T.ok P) (ro : Option (Nat × HP)) : (T.wr ro).ok P := h
theorem inl_ok {β : Type} {P : Program} {T : TB} {F : FT} {D : TB → RoH β → DrawH β} {X : CallH β} (hT : T.ok P) (hF : F.ok P) (hD : ∀ ro CF, (∀ ro', CallOk P (T.wr ro') (CF ro')) → DrawOk P (T.wr ro) (D (T.wr ro) CF)) (hX : ∀ ro, CallOk P (T.wr ro) X) : ∀ d ro, CallOk P (T.wr ro) (inl T F D X d ro) := by
  intro d
  induction d with
  | zero => intro ro f as s k r h; cases h
  | succ d ih =>
    intro ro f as s k r h K w vs hg i hl hd
    simp only [inl] at h
    split at h
    · rename_i fn hs hf
      obtain ⟨h1, h2⟩ := fget_ok hF hf
      split at h <;> try (cases h; done)
      rename_i c hc
      cases hb : Nat.ble as.length fn.ntmps with
      | false => rw [hb, cond_false] at h; cases h
      | true =>
      rw [hb, cond_true] at h
      refine ⟨⟨fn, h1, h2, by rw [hc]; rfl⟩, ?_⟩
      refine Calls.mono (body_ok (hT.wr ro) (ih ro) (hD ro _ ih) h1 hc (Nat.le_of_ble_eq_true hb) h hg i hl hd) ?_
      rintro e w' ⟨v, sv, s', K', rfl, hbl, rest⟩
      exact ⟨v, sv, s', K', rfl, hbl, rest⟩
    · exact hX ro f as s k r h K w vs hg i hl hd
end Go.GX
namespace Go.GX
open Go.RowKit Go.SL
set_option linter.unusedVariables false
set_option linter.unusedSimpArgs false

/-- i comes ahead of j, whatever is drawn -/
inductive Ahd (ops : Array Oper) : Nat → Nat → Prop
  | one {i j : Nat} {o : Oper} {e : Edge} (h : ops[j]? = some o) (he : e ∈ o.after) (hb : Region.binds .any e = true) (hi : e.on = i) : Ahd ops i j
  | more {i j : Nat} {o : Oper} {e : Edge} (h : ops[j]? = some o) (he : e ∈ o.after) (hb : Region.binds .any e = true) (r : Ahd ops i e.on) : Ahd ops i j
noncomputable def edg (acc : List Nat) (l : List Edge) : Nat := l.foldl (fun s e => cond (Region.binds .any e) (s ||| 2 ^ e.on ||| acc.getD e.on 0) s) 0
noncomputable def ancs : List Oper → List Nat → List Nat
  | [], acc => acc
  | o :: l, acc => ancs l (acc ++ [edg acc o.after.toList])
theorem edg_ok {acc : List Nat} {i : Nat} : ∀ {l : List Edge} {s : Nat}, (l.foldl (fun s e => cond (Region.binds .any e) (s ||| 2 ^ e.on ||| acc.getD e.on 0) s) s).testBit i = true → s.testBit i = true ∨ ∃ e ∈ l, Region.binds .any e = true ∧ (e.on = i ∨ (acc.getD e.on 0).testBit i = true) := by
  intro l
  induction l with
  | nil => intro s h; exact .inl h
  | cons e l ih =>
    intro s h
    simp only [List.foldl_cons] at h
    rcases ih h with q | ⟨e', he', q⟩
    · cases hb : Region.binds .any e with
      | false => rw [hb, cond_false] at q; exact .inl q
      | true =>
        rw [hb, cond_true, Nat.testBit_or, Nat.testBit_or, Bool.or_eq_true, Bool.or_eq_true] at q
        rcases q with (q | q) | q
        · exact .inl q
        · rw [Nat.testBit_two_pow] at q
          exact .inr ⟨e, List.mem_cons_self .., hb, .inl (of_decide_eq_true q)⟩
        · exact .inr ⟨e, List.mem_cons_self .., hb, .inr q⟩
    · exact .inr ⟨e', List.mem_cons_of_mem _ he', q⟩
theorem ancs_ok {ops : Array Oper} : ∀ {l : List Oper} {acc : List Nat}, (∀ k o, l[k]? = some o → ops[acc.length + k]? = some o) → (∀ j i, (acc.getD j 0).testBit i = true → Ahd ops i j) → ∀ j i, ((ancs l acc).getD j 0).testBit i = true → Ahd ops i j := by
  intro l
  induction l with
  | nil => intro acc _ h; exact h
  | cons o l ih =>
    intro acc ho h
    refine ih (fun k q hk => ?_) fun j i hj => ?_
    · have := ho (k + 1) q (by simpa using hk)
      rw [← this]; congr 1; simp; omega
    · rcases Nat.lt_trichotomy j acc.length with hlt | heq | hgt
      · rw [List.getD_eq_getElem?_getD, List.getElem?_append_left hlt, ← List.getD_eq_getElem?_getD] at hj; exact h j i hj
      · subst heq
        have h0 := ho 0 o rfl
        rw [Nat.add_zero] at h0
        rw [List.getD_eq_getElem?_getD, List.getElem?_append_right (Nat.le_refl _), Nat.sub_self] at hj
        simp only [List.getElem?_cons_zero, Option.getD_some] at hj
        rcases edg_ok hj with q | ⟨e, he, hb, q | q⟩
        · simp at q
        · exact .one h0 (by simpa using he) hb q
        · exact .more h0 (by simpa using he) hb (h _ _ q)
      · rw [List.getD_eq_getElem?_getD, List.getElem?_eq_none (by simp; omega)] at hj; simp at hj
/-- what is listed has all that comes ahead of it listed -/
noncomputable def Cl (ops : Array Oper) (listed : Array Bool) : Prop := ∀ j o, ops[j]? = some o → listed.getD j false = true → ∀ e ∈ o.after, Region.binds .any e = true → listed.getD e.on false = true
theorem Cl.tb {ops : Array Oper} {listed : Array Bool} (hc : Cl ops listed) {i j : Nat} (h : Ahd ops i j) : listed.getD j false = true → listed.getD i false = true := by
  induction h with
  | one h he hb hi => intro hj; subst hi; exact hc _ _ h hj _ he hb
  | more h he hb r ih => intro hj; exact ih (hc _ _ h hj _ he hb)
theorem Cl.ready {ops : Array Oper} {listed : Array Bool} (hc : Cl ops listed) {i j : Nat} (h : Ahd ops i j) (hr : j ∈ Region.ready .any ops listed) : listed.getD i false = true := by
  obtain ⟨_, o, ho, hall⟩ := mem_ready.1 hr
  cases h with
  | one h he hb hi => rw [ho] at h; cases h; subst hi; exact hall _ he hb
  | more h he hb r => rw [ho] at h; cases h; exact hc.tb r (hall _ he hb)
theorem getD_any {listed : Array Bool} {i : Nat} (h : listed.getD i true = false) : listed.getD i false = false := by
  rcases Nat.lt_or_ge i listed.size with q | q
  · simp [q] at h ⊢; exact h
  · simp [Array.getElem?_eq_none q] at h
theorem Cl.set {ops : Array Oper} {listed : Array Bool} (hc : Cl ops listed) {j : Nat} (hr : j ∈ Region.ready .any ops listed) : Cl ops (listed.setIfInBounds j true) := by
  obtain ⟨hj, o, ho, hall⟩ := mem_ready.1 hr
  have hlt : j < listed.size := by
    rcases Nat.lt_or_ge j listed.size with q | q
    · exact q
    · simp [Array.getElem?_eq_none q] at hj
  have up : ∀ k, listed.getD k false = true → (listed.setIfInBounds j true).getD k false = true := fun k hk => by
    rcases Decidable.em (j = k) with e | e
    · subst e; simp [hlt]
    · rw [getD_set_ne false e]; exact hk
  intro k q hq hk e he hb
  rcases Decidable.em (j = k) with e1 | e1
  · subst e1
    rw [ho] at hq; cases hq
    exact up _ (hall e he hb)
  · rw [getD_set_ne false e1] at hk
    exact up _ (hc k q hq hk e he hb)

noncomputable def wpX (P : Program) (ops : Array Oper) (U N : Nat → Bool) (S2 : World → Prop) (Q : Exit → Act → World → Prop) : Mem → Nat → Array Bool → Act → World → Prop
  | _, 0, listed, a, w => Region.ready .any ops listed = [] ∧ Q .normal a w
  | M, f + 1, listed, a, w => (Region.ready .any ops listed = [] → Q .normal a w) ∧
      ∀ i ∈ Region.ready .any ops listed, wpOp P ops Q i (fun a' w' => ((U i = true → w' = w) ∧ (N i = true → S2 w → S2 w')) ∧ ∃ M', sub M M' ∧ sub M' (hm w') ∧ wpX P ops U N S2 Q M' f (listed.setIfInBounds i true) a' w') a w
section
variable {P : Program} {ops : Array Oper} {U N : Nat → Bool} {S2 : World → Prop} {Q : Exit → Act → World → Prop}
theorem wpX_any : ∀ (f : Nat) (M : Mem) (listed : Array Bool) (a : Act) (w : World), wpX P ops U N S2 Q M f listed a w → wpAny P .any ops Q f listed a w
  | 0, _, _, _, _, h => h
  | f + 1, _, _, _, _, h => ⟨h.1, fun i hi => wpOp_mono (fun a w k => let ⟨_, M', _, _, k2⟩ := k; wpX_any f M' _ a w k2) (h.2 i hi)⟩
/-- one that yields the same in all worlds that may come up till it is carried out, is taken first -/
theorem wpX_first {i : Nat} {oi : Oper} {v : Value} {M0 : Mem} (G : World → Prop) (hi : ops[i]? = some oi) (hsel : Region.noSelect ops = true) (hQ : ∀ c a w, Q (.panic c) (a.put oi.dst v) w → Q (.panic c) a w)
    (hG : ∀ j, j ≠ i → ¬ Ahd ops i j → ¬ Ahd ops j i → ∀ w w', G w → (U j = true → w' = w) → (N j = true → S2 w → S2 w') → sub M0 (hm w') → G w') :
    ∀ (f : Nat) (M : Mem) (listed : Array Bool) (a : Act) (w : World), sub M0 M → sub M (hm w) → Cl ops listed → (∀ j oj, ops[j]? = some oj → j ≠ i → listed.getD j true = false → (∀ e ∈ oj.after, Region.binds .any e = true → e.on ≠ i) → oi.apart ops oj = true) →
      i ∈ Region.ready .any ops listed → YieldsIf P ops G oi v a → G w → wpX P ops U N S2 Q M f (listed.setIfInBounds i true) (a.put oi.dst v) w → wpX P ops U N S2 Q M (f + 1) listed a w := by
  have sel := fun j o cs b (ho : ops[j]? = some o) => Region.noSelect_spec hsel j o cs b ho
  intro f
  induction f with
  | zero =>
    intro M listed a w hM hw _ hap hr hy hS H
    refine ⟨fun h0 => absurd hr (by rw [h0]; exact List.not_mem_nil), fun j hj => ?_⟩
    rcases Decidable.em (j = i) with e | e
    · subst e; exact hy.wpOp hi hS ⟨⟨fun _ => rfl, fun _ h => h⟩, M, fun _ _ h => h, hw, H⟩
    · exact absurd (ready_mono hj e) (by rw [H.1]; exact List.not_mem_nil)
  | succ f ih =>
    intro M listed a w hM hw hc hap hr hy hS H
    refine ⟨fun h0 => absurd hr (by rw [h0]; exact List.not_mem_nil), fun j hj => ?_⟩
    rcases Decidable.em (j = i) with e | e
    · subst e; exact hy.wpOp hi hS ⟨⟨fun _ => rfl, fun _ h => h⟩, M, fun _ _ h => h, hw, H⟩
    · obtain ⟨hjl, oj, hoj, hall⟩ := mem_ready.1 hj
      have hil := (mem_ready.1 hr).1
      have hno : ∀ e ∈ oj.after, Region.binds .any e = true → e.on ≠ i := by
        intro e he hb heq
        have h1 := hall e he hb
        rw [heq, getD_any hil] at h1; cases h1
      have n1 : ¬ Ahd ops i j := fun h => by
        have := hc.ready h hj; rw [getD_any hil] at this; cases this
      have n2 : ¬ Ahd ops j i := fun h => by
        have := hc.ready h hr; rw [getD_any hjl] at this; cases this
      have h2 := wpOp_putIf hoj (hap j oj hoj e hjl hno) (fun cs b => sel i oi cs b hi) (fun cs b => sel j oj cs b hoj) hQ hy (H.2 j (ready_mono hj e))
      refine wpOp_mono (fun a' w' k => ?_) h2
      obtain ⟨k1, k2, M', hMM, hMw, k3⟩ := k
      have hM0 : sub M0 (hm w') := fun q o h => hMw q o (hMM q o (hM q o h))
      refine ⟨k2, M', hMM, hMw, ih M' (listed.setIfInBounds j true) a' w' (fun q o h => hMM q o (hM q o h)) hMw (hc.set hj) ?_ (ready_mono hr (Ne.symm e)) k1 (hG j e n1 n2 w w' hS k2.1 k2.2 hM0) ?_⟩
      · intro m om hm hmi hml hmo
        refine hap m om hm hmi ?_ hmo
        rcases Decidable.em (j = m) with q | q
        · subst q; exact hjl
        · rw [getD_set_ne true q] at hml; exact hml
      · rw [Array.setIfInBounds_comm _ _ e]; exact k3
end
end Go.GX
