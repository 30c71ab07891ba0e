/- Places, parts, lengths, pieces of slices. -/
import Derived.Test.YtifokhheojnipaaGreatDoorG2
import Derived.Great.BuildSlice
set_option linter.unusedVariables false
set_option linter.unusedSimpArgs false
set_option linter.unnecessarySimpa false
namespace Go.GX
open Go.RowKit Go.SL
set_option linter.unusedVariables false
set_option linter.unusedSimpArgs false
section
variable {P : Program} {n : Nat} {τ : Fr} {w : World} {β : Type} {dst : Option Tmp} {ty : TypeId} {pos : String} {af : Array Edge} {gd' : Option (Nat × Bool)} {K : Kn} {s : SS} {k : SV → SS → Option β} {r : β} {ρ : Rho} {T : TB}
/-! ### one number -/
noncomputable def pUn (ρ : Rho) (s : SS) (op : UnOp) (x : Operand) (k : SV → SS → Option β) : Option β := match ρ x with
  | some a => match op, scS a with
    | .not, some (.b b) => k (.d .bool (!b)) s
    | .neg, some (.i z) => k (.d .int (w64 (0 - z))) s
    | .neg, some (.u8 z) => k (.d .u8 (-z)) s
    | .neg, some (.u32 z) => k (.d .u32 (-z)) s
    | .neg, some (.u64 z) => k (.d .u64 (-z)) s
    | .xor, some (.u8 z) => k (.d .u8 (~~~z)) s
    | .xor, some (.u32 z) => k (.d .u32 (~~~z)) s
    | .xor, some (.u64 z) => k (.d .u64 (~~~z)) s
    | _, _ => none
  | none => none
theorem pUn_ok (hρ : RhoOk K ρ (AF n τ).eval) (i : Inv K s w) {op : UnOp} {x : Operand} {t : Nat} (h : pUn ρ s op x k = some r) : PureR P n ⟨dst, .unOp op t x, ty, pos, af, gd'⟩ τ w K k r := by
  unfold pUn at h
  split at h <;> try (cases h; done)
  rename_i a ha
  have hx := hρ _ _ ha
  split at h <;> try (cases h; done)
  all_goals (rename_i e; have hv := scS_ok e hx)
  · exact PureR.mk i h (bool_d _) fun w' => E.not hv
  · exact PureR.mk i h ⟨_, rfl, rfl⟩ fun w' => E.neg hv rfl
  · exact PureR.mk i h ⟨_, rfl, rfl⟩ fun w' => E.uneg UK.u8 hv
  · exact PureR.mk i h ⟨_, rfl, rfl⟩ fun w' => E.uneg UK.u32 hv
  · exact PureR.mk i h ⟨_, rfl, rfl⟩ fun w' => E.uneg UK.u64 hv
  · exact PureR.mk i h ⟨_, rfl, rfl⟩ fun w' => E.unot UK.u8 hv
  · exact PureR.mk i h ⟨_, rfl, rfl⟩ fun w' => E.unot UK.u32 hv
  · exact PureR.mk i h ⟨_, rfl, rfl⟩ fun w' => E.unot UK.u64 hv
/-! ### numbers of other kinds -/
noncomputable def pConv (T : TB) (ρ : Rho) (s : SS) (src dt : Nat) (x : Operand) (k : SV → SS → Option β) : Option β := match ρ x, tg T src, tg T dt with
  | some a, some _, some i => match scS a, i.desc with
    | some u, .int q => match conv q u with
      | some z => fin z fun z => k z s
      | none => none
    | _, _ => none
  | _, _, _ => none
theorem pConv_ok (hT : T.ok P) (hρ : RhoOk K ρ (AF n τ).eval) (i : Inv K s w) {src dt : Nat} {x : Operand} (h : pConv T ρ s src dt x k = some r) : PureR P n ⟨dst, .convert src dt x, ty, pos, af, gd'⟩ τ w K k r := by
  unfold pConv at h
  split at h <;> try (cases h; done)
  rename_i a i1 i2 ha h1 h2
  have hx := hρ _ _ ha
  split at h <;> try (cases h; done)
  rename_i u q hu hq
  split at h <;> try (cases h; done)
  rename_i z hz
  obtain ⟨sv, hd, hk⟩ := fin_ok (K := K) h
  have hd2 := (tg_ok hT h2).desc
  rw [hq] at hd2
  exact PureR.mk i hk hd fun w' => conv_ok hz (by rw [(tg_ok hT h1).desc]; rfl) hd2 (scS_ok hu hx)
/-! ### places -/
theorem pOff_app : ∀ (a b : List Step), pOff (a ++ b) = pOff a + pOff b := by
  intro a
  induction a with
  | nil => intro b; simp [pOff]
  | cons st a ih =>
    intro b
    cases st with
    | f k o => simp only [List.cons_append, pOff, ih]; omega
    | i j z => simp only [List.cons_append, pOff, ih]; omega
noncomputable def pFieldAddr (T : TB) (ρ : Rho) (s : SS) (t : Nat) (x : Operand) (i : Nat) (k : SV → SS → Option β) : Option β := match ρ x, tg T t with
  | some a, some ti => match ti.desc with
    | .struct fs => match fs[i]? with
      | some f => match tg T f.type with
        | some fi => bif Nat.ble 1 fi.size then (match a with
          | .ptr id pa => k (.ptr id (pa ++ [.f i f.offset])) s
          | .dp t x => fldL t x i f.offset fun a y => k (.dp a y) s
          | .bp t x => fldL t x i f.offset fun a y => k (.bp a y) s
          | _ => none) else none
        | none => none
      | none => none
    | _ => none
  | _, _ => none
theorem pFieldAddr_ok (hT : T.ok P) (hρ : RhoOk K ρ (AF n τ).eval) (i : Inv K s w) {t q : Nat} {x : Operand} (h : pFieldAddr T ρ s t x q k = some r) : PureR P n ⟨dst, .fieldAddr t x q, ty, pos, af, gd'⟩ τ w K k r := by
  unfold pFieldAddr at h
  split at h <;> try (cases h; done)
  rename_i a ti ha hti
  have hx := hρ _ _ ha
  split at h <;> try (cases h; done)
  rename_i fs hfs
  have hd := (tg_ok hT hti).desc
  rw [hfs] at hd
  split at h <;> try (cases h; done)
  rename_i f hf
  split at h <;> try (cases h; done)
  rename_i fi hfi
  cases hb : Nat.ble 1 fi.size with
  | false => rw [hb, cond_false] at h; cases h
  | true =>
  rw [hb, cond_true] at h
  have hle := Nat.le_of_ble_eq_true hb
  have hz : (P.info? f.type).map (·.size) = some (fi.size - 1 + 1) := by rw [(tg_ok hT hfi).size, Nat.sub_add_cancel hle]
  split at h <;> try (cases h; done)
  · rename_i id pa
    obtain ⟨u, b, hE, hB, e⟩ := hx
    have e' : (AF n τ).eval x = .pointer (some ⟨b, pOff pa, none⟩) := by simpa using e
    exact PureR.mk i h ⟨u, b, hE, hB, by rw [pOff_app]⟩ fun w' => E.fieldAddr e' hd hf hz (by simp [pOff])
  · rename_i t' x'
    obtain ⟨b, o, cs, e, h1, h2⟩ := hx
    have e' : (AF n τ).eval x = .pointer (some ⟨b, o, none⟩) := by simpa using e
    obtain ⟨a, y, c1, c2, c3, rfl, hl, hd2, hk⟩ := fldL_ok h2 h
    exact PureR.mk i hk ⟨b, o + f.offset, c2, rfl, by have := h1.mid; rwa [hl] at this, hd2⟩ fun w' => E.fieldAddr e' hd hf hz rfl
  · rename_i t' x'
    obtain ⟨b, o, cs, e, h1, h2⟩ := hx
    have e' : (AF n τ).eval x = .pointer (some ⟨b, o, none⟩) := by simpa using e
    obtain ⟨a, y, c1, c2, c3, rfl, hl, hd2, hk⟩ := fldL_ok h2 h
    exact PureR.mk i hk ⟨b, o + f.offset, c2, rfl, by have := h1.mid; rwa [hl] at this, hd2⟩ fun w' => E.fieldAddr e' hd hf hz rfl
noncomputable def pNilCheck (ρ : Rho) (s : SS) (x : Operand) (k : SV → SS → Option β) : Option β := match ρ x with
  | some (.ptr id pa) => k (.ptr id pa) s
  | some (.dp t y) => k (.dp t y) s
  | some (.bp t y) => k (.bp t y) s
  | _ => none
theorem pNilCheck_ok (hρ : RhoOk K ρ (AF n τ).eval) (i : Inv K s w) {x : Operand} (h : pNilCheck ρ s x k = some r) : PureR P n ⟨dst, .nilCheck x, ty, pos, af, gd'⟩ τ w K k r := by
  unfold pNilCheck at h
  split at h <;> try (cases h; done)
  · rename_i id pa ha
    have hx := hρ _ _ ha
    obtain ⟨u, b, hE, hB, e⟩ := (show _ from hx)
    have e' : (AF n τ).eval x = .pointer (some ⟨b, pOff pa, none⟩) := by simpa using e
    exact PureR.mk i h (by rw [e'] at hx; exact hx) fun w' => E.nilCheck e'
  · rename_i t y ha
    have hx := hρ _ _ ha
    obtain ⟨b, o, cs, e, h1, h2⟩ := (show _ from hx)
    have e' : (AF n τ).eval x = .pointer (some ⟨b, o, none⟩) := by simpa using e
    exact PureR.mk i h (by rw [e'] at hx; exact hx) fun w' => E.nilCheck e'
  · rename_i t y ha
    have hx := hρ _ _ ha
    obtain ⟨b, o, cs, e, h1, h2⟩ := (show _ from hx)
    have e' : (AF n τ).eval x = .pointer (some ⟨b, o, none⟩) := by simpa using e
    exact PureR.mk i h (by rw [e'] at hx; exact hx) fun w' => E.nilCheck e'
noncomputable def pExtract (ρ : Rho) (s : SS) (x : Operand) (q : Nat) (k : SV → SS → Option β) : Option β := match ρ x with
  | some (.tup c) => match nthS c q with
    | some u => k u s
    | none => none
  | _ => none
theorem pExtract_ok (hρ : RhoOk K ρ (AF n τ).eval) (i : Inv K s w) {x : Operand} {q : Nat} (h : pExtract ρ s x q k = some r) : PureR P n ⟨dst, .extract x q, ty, pos, af, gd'⟩ τ w K k r := by
  unfold pExtract at h
  split at h <;> try (cases h; done)
  rename_i c ha
  obtain ⟨l, e, hd⟩ := hρ _ _ ha
  have e' : (AF n τ).eval x = .tuple l.toArray := by simpa using e
  split at h <;> try (cases h; done)
  rename_i u hu
  obtain ⟨v, hv, hdv⟩ := nthS_ok hd hu
  exact PureR.mk i h hdv fun w' => E.extract e' (by simpa using hv)
/-! ### slices: what they are told to be -/
/-- what a slice has: how many elements, and, if they last, which -/
inductive SlV where
  | own (id : Nat) (e : TypeId) (t : Ty) (l : List t.T)
  | fro (t : Ty) (l : List t.T)
  | bor (t : Ty) (l : List t.T)
  | foc (id : Nat) (e : TypeId) (t : Ty) (l : List t.T)
noncomputable def slS (s : SS) : SV → Option SlV
  | .vr id => match hget s.hp id with
    | some (.row e t l) => some (.own id e t l)
    | some (.fro t l) => some (.fro t l)
    | some (.foc e t l _ _) => some (.foc id e t l)
    | _ => none
  | .d (.fz t) l => some (.fro t l)
  | .bd (.fz t) l => some (.bor t l)
  | _ => none
noncomputable def SlV.len : SlV → Nat
  | .own _ _ _ l => l.length
  | .fro _ l => l.length
  | .bor _ l => l.length
  | .foc _ _ _ l => l.length
theorem fz_len {m : Mem} {t : Ty} {l : List t.T} {v : Value} (h : DenT m (.fz t) l [v]) : ∃ X c, v = .slice X l.length c ∧ l.length ≤ c := by
  obtain ⟨X, c, e, hc, _⟩ := h
  cases e; exact ⟨X, c, rfl, hc⟩
theorem slS_ok (i : Inv K s w) {x : SV} {q : SlV} {v : Value} (h : slS s x = some q) (hd : x.den K v) : (∃ X c, v = .slice X q.len c ∧ q.len ≤ c) ∧ (match q with
    | .own id e t l => K.E id = some v ∧ hget s.hp id = some (.row e t l)
    | .fro t l => DenT K.p.h (.fz t) l [v]
    | .bor t l => DenT K.rd (.fz t) l [v]
    | .foc id e t l => K.E id = some v ∧ ∃ j c, hget s.hp id = some (.foc e t l j c)) := by
  cases x <;> simp only [slS, reduceCtorEq] at h
  case vr id =>
    obtain ⟨X, m, c, hE, e⟩ := hd
    cases e
    split at h <;> try (cases h; done)
    · rename_i e t l hg
      cases h
      obtain ⟨u, sta⟩ := (i.take hg).ex
      obtain ⟨xs, stb⟩ := sta.ex
      obtain ⟨hu, stc⟩ := stb.iff
      rw [hE] at hu; cases hu
      have hsr := Own.src stc.sep
      obtain ⟨hl, X', c', he, hc, _⟩ := hsr
      cases he
      exact ⟨⟨_, _, rfl, hc⟩, hE, hg⟩
    · rename_i t l hg
      cases h
      obtain ⟨⟨u, hu, hd⟩, _⟩ := (i.take hg).pu
      rw [hE] at hu; cases hu
      exact ⟨fz_len hd, hd⟩
    · rename_i e t l j c hg
      cases h
      obtain ⟨u, sta⟩ := (i.take hg).ex
      obtain ⟨xs, stb⟩ := sta.ex
      obtain ⟨hu, stc⟩ := stb.iff
      rw [hE] at hu; cases hu
      obtain ⟨hl, X', c', he, hc, _⟩ := Own.src stc.sep
      cases he
      exact ⟨⟨_, _, rfl, hc⟩, hE, j, c, hg⟩
  case d t l =>
    cases t <;> simp only [slS, reduceCtorEq] at h
    cases h
    obtain ⟨v', e, hd⟩ := hd; cases e
    exact ⟨fz_len hd, hd⟩
  case bd t l =>
    cases t <;> simp only [slS, reduceCtorEq] at h
    cases h
    obtain ⟨v', e, hd⟩ := hd; cases e
    exact ⟨fz_len hd, hd⟩
noncomputable def pLen (T : TB) (ρ : Rho) (s : SS) (x : Operand) (t : Nat) (k : SV → SS → Option β) : Option β := match ρ x, tg T t with
  | some a, some i => match i.desc with
    | .slice _ => match a with
      | .nilS => k (.d .int 0) s
      | .vw _ _ m => k (.d .int (m : Int)) s
      | a => match slS s a with
        | some q => k (.d .int (q.len : Int)) s
        | none => none
    | .string => match strS a with
      | some l => k (.d .int (l.length : Int)) s
      | none => none
    | _ => none
  | _, _ => none
theorem pLen_ok (hT : T.ok P) (hρ : RhoOk K ρ (AF n τ).eval) (i : Inv K s w) {x : Operand} {t : Nat} (h : pLen T ρ s x t k = some r) : PureR P n ⟨dst, .call ⟨.builtin .len, #[x], #[t]⟩, ty, pos, af, gd'⟩ τ w K k r := by
  unfold pLen at h
  split at h <;> try (cases h; done)
  rename_i a ti ha hti
  have hx := hρ _ _ ha
  have hd := (tg_ok hT hti).desc
  split at h <;> try (cases h; done)
  · rename_i e hdd
    rw [hdd] at hd
    split at h
    · have e' : (AF n τ).eval x = .slice none 0 0 := by have q : [_] = [_] := hx; simpa using q
      exact PureR.mk i h ⟨_, rfl, rfl⟩ fun w' => E.lenS hd e'
    · rename_i m
      obtain ⟨X, c, e, _⟩ := hx
      have e' : (AF n τ).eval x = .slice X m c := by simpa using e
      exact PureR.mk i h ⟨_, rfl, rfl⟩ fun w' => E.lenS hd e'
    · split at h <;> try (cases h; done)
      rename_i q hq
      obtain ⟨⟨X, c, e', _⟩, _⟩ := slS_ok i hq hx
      exact PureR.mk i h ⟨_, rfl, rfl⟩ fun w' => E.lenS hd e'
  · rename_i hdd
    rw [hdd] at hd
    split at h <;> try (cases h; done)
    rename_i l hl
    have e' := strS_ok hl hx
    refine PureR.mk i h ⟨_, rfl, rfl⟩ fun w' => ?_
    have := E.lenStr (P := P) (w := w') (dst := dst) (ty := ty) (pos := pos) (af := af) (gd := gd') hd e'
    simpa [ByteArray.size] using this
noncomputable def pIndexAddr (T : TB) (ρ : Rho) (s : SS) (t : Nat) (x y : Operand) (k : SV → SS → Option β) : Option β := match ρ x, ρ y, tg T t with
  | some a, some z, some ti => match ti.desc with
    | .slice e => match tg T e with
      | some ei => natK z fun j => match a with
        | .vw id pa m => (match lastI pa with
          | some (p, lo, z) => bif Nat.beq ei.size z then gd (j < m) (k (.ptr id (p ++ [.i (lo + j) z])) s) else none
          | none => none)
        | a => match slS s a with
          | some (.own id _ t' l) => bif Nat.beq ei.size t'.w then gd (j < l.length) (k (.ptr id [.i j t'.w]) s) else none
          | some (.fro t' l) => bif Nat.beq ei.size t'.w then bnd (l[j]?) fun y => k (.dp t' y) s else none
          | some (.bor t' l) => bif Nat.beq ei.size t'.w then bnd (l[j]?) fun y => k (.bp t' y) s else none
          | some (.foc id _ t' l) => bif Nat.beq ei.size t'.w then gd (j < l.length) (k (.ptr id [.i j t'.w]) s) else none
          | none => none
      | none => none
    | .array m e => match tg T e with
      | some ei => natK z fun j => match a with
        | .ptr id pa => gd (j < m) (k (.ptr id (pa ++ [.i j ei.size])) s)
        | .dp (.arr n' t') l => bif Nat.beq ei.size t'.w && Nat.beq m n' then bnd (l[j]?) fun y => k (.dp t' y) s else none
        | .bp (.arr n' t') l => bif Nat.beq ei.size t'.w && Nat.beq m n' then bnd (l[j]?) fun y => k (.bp t' y) s else none
        | _ => none
      | none => none
    | _ => none
  | _, _, _ => none
theorem fz_elem {m : Mem} {t : Ty} {l : List t.T} {v : Value} {j : Nat} {y : t.T} (h : DenT m (.fz t) l [v]) (hj : l[j]? = some y) : ∃ b o c cs, v = .slice (some ⟨b, o, none⟩) l.length c ∧ At m b (o + j * t.w) cs ∧ DenT m t y cs := by
  obtain ⟨X, c, e, hc, h0⟩ := h
  have hlt := (List.getElem?_eq_some_iff.1 hj).1
  obtain ⟨b, o, ds, rfl, hat, hcat⟩ := h0.resolve_left (by omega)
  cases e
  obtain ⟨c1, c2, c3, rfl, hl, hd⟩ := Cat.at (fun x c h => DenT.length h) hcat hj
  have := hat.mid
  rw [hl] at this
  exact ⟨b, o, c, c2, rfl, this, hd⟩
theorem pIndexAddr_ev (hT : T.ok P) (hρ : RhoOk K ρ (AF n τ).eval) (i : Inv K s w) {x y : Operand} {t : Nat} (h : pIndexAddr T ρ s t x y k = some r) : PureE P n ⟨dst, .indexAddr t x y, ty, pos, af, gd'⟩ τ K s k r := by
  unfold pIndexAddr at h
  split at h <;> try (cases h; done)
  rename_i a z ti ha hz hti
  have hx := hρ _ _ ha
  have hd := (tg_ok hT hti).desc
  split at h <;> try (cases h; done)
  · rename_i e hdd
    rw [hdd] at hd
    split at h <;> try (cases h; done)
    rename_i ei hei
    have hes := (tg_ok hT hei).size
    have h2 := natK_ok h (hρ _ _ hz)
    clear h
    obtain ⟨j, kk, hy, h⟩ := h2
    split at h
    · rename_i id pa m
      split at h <;> try (cases h; done)
      rename_i p lo z hp
      have hoff := lastI_ok hp
      cases hb : Nat.beq ei.size z with
      | false => rw [hb, cond_false] at h; cases h
      | true =>
      rw [hb, cond_true] at h
      have hbw := Nat.eq_of_beq_eq_true hb
      obtain ⟨hlt, h⟩ := gd_some h
      obtain ⟨X, c, e, hc, hX, _⟩ := hx
      obtain ⟨u, b, hE, hB, rfl⟩ := hX.resolve_left (by omega)
      have e' : (AF n τ).eval x = .slice (some ⟨b, pOff pa, none⟩) m c := by simpa using e
      refine PureE.mk i h ⟨u, b, hE, hB, rfl⟩ fun w' => ?_
      exact E.indexAddr hd hes e' hy (by omega) (by exact Int.ofNat_lt.2 hlt) (by rw [Int.toNat_natCast, hbw, hoff, pOff_app]; simp [pOff]; rw [Nat.add_mul]; omega)
    split at h <;> try (cases h; done)
    · rename_i id e' t' l hsl
      obtain ⟨⟨X, c, hv, _⟩, hE, hg⟩ := slS_ok i hsl hx
      cases hb : Nat.beq ei.size t'.w with
      | false => rw [hb, cond_false] at h; cases h
      | true =>
      rw [hb, cond_true] at h
      have hbw := Nat.eq_of_beq_eq_true hb
      obtain ⟨hlt, h⟩ := gd_some h
      -- the row leads somewhere
      obtain ⟨u, sta⟩ := (i.take hg).ex
      obtain ⟨xs, stb⟩ := sta.ex
      obtain ⟨hu, stc⟩ := stb.iff
      rw [hE] at hu; cases hu
      have hX : ∃ b, X = some ⟨b, 0, none⟩ := by
        rw [hv] at stc
        obtain ⟨_, ⟨A, he, hk0, _⟩ | ⟨g, cap, cur, he, _⟩⟩ := stc.sep.ownOpen
        · omega
        · cases he; exact ⟨g, rfl⟩
      obtain ⟨b, rfl⟩ := hX
      refine PureE.mk i h ⟨_, b, hE, ?_, rfl⟩ fun w' => ?_
      · rw [hv]; rfl
      · exact E.indexAddr hd hes hv hy (by omega) (by exact Int.ofNat_lt.2 hlt) (by rw [Int.toNat_natCast, hbw]; simp [pOff])
    · rename_i t' l hsl
      obtain ⟨_, hden⟩ := slS_ok i hsl hx
      cases hb : Nat.beq ei.size t'.w with
      | false => rw [hb, cond_false] at h; cases h
      | true =>
      rw [hb, cond_true] at h
      have hbw := Nat.eq_of_beq_eq_true hb
      obtain ⟨y', hy', hk⟩ := bnd_some h
      obtain ⟨b, o, c, cs, hv, hat, hdy⟩ := fz_elem hden hy'
      exact PureE.mk i hk ⟨b, _, cs, rfl, hat, hdy⟩ fun w' => E.indexAddr hd hes hv hy (by omega) (Int.ofNat_lt.2 (List.getElem?_eq_some_iff.1 hy').1) (by rw [Int.toNat_natCast, hbw])
    · rename_i t' l hsl
      obtain ⟨_, hden⟩ := slS_ok i hsl hx
      cases hb : Nat.beq ei.size t'.w with
      | false => rw [hb, cond_false] at h; cases h
      | true =>
      rw [hb, cond_true] at h
      have hbw := Nat.eq_of_beq_eq_true hb
      obtain ⟨y', hy', hk⟩ := bnd_some h
      obtain ⟨b, o, c, cs, hv, hat, hdy⟩ := fz_elem hden hy'
      exact PureE.mk i hk ⟨b, _, cs, rfl, hat, hdy⟩ fun w' => E.indexAddr hd hes hv hy (by omega) (Int.ofNat_lt.2 (List.getElem?_eq_some_iff.1 hy').1) (by rw [Int.toNat_natCast, hbw])
    · rename_i id e' t' l hsl
      obtain ⟨⟨X, c, hv, _⟩, hE, j', c', hg⟩ := slS_ok i hsl hx
      cases hb : Nat.beq ei.size t'.w with
      | false => rw [hb, cond_false] at h; cases h
      | true =>
      rw [hb, cond_true] at h
      have hbw := Nat.eq_of_beq_eq_true hb
      obtain ⟨hlt, h⟩ := gd_some h
      -- the row leads somewhere
      obtain ⟨u, sta⟩ := (i.take hg).ex
      obtain ⟨xs, stb⟩ := sta.ex
      obtain ⟨hu, stc⟩ := stb.iff
      rw [hE] at hu; cases hu
      have hX : ∃ b, X = some ⟨b, 0, none⟩ := by
        rw [hv] at stc
        obtain ⟨_, ⟨A, he, hk0, _⟩ | ⟨g, cap, cur, he, _⟩⟩ := stc.sep.ownOpen
        · omega
        · cases he; exact ⟨g, rfl⟩
      obtain ⟨b, rfl⟩ := hX
      refine PureE.mk i h ⟨_, b, hE, ?_, rfl⟩ fun w' => ?_
      · rw [hv]; rfl
      · exact E.indexAddr hd hes hv hy (by omega) (by exact Int.ofNat_lt.2 hlt) (by rw [Int.toNat_natCast, hbw]; simp [pOff])
  · rename_i m e hdd
    rw [hdd] at hd
    split at h <;> try (cases h; done)
    rename_i ei hei
    have hes := (tg_ok hT hei).size
    have h2 := natK_ok h (hρ _ _ hz)
    clear h
    obtain ⟨j, kk, hy, h⟩ := h2
    split at h <;> try (cases h; done)
    · rename_i id pa
      obtain ⟨hlt, h⟩ := gd_some h
      obtain ⟨u, b, hE, hB, e⟩ := hx
      have e' : (AF n τ).eval x = .pointer (some ⟨b, pOff pa, none⟩) := by simpa using e
      exact PureE.mk i h ⟨u, b, hE, hB, by rw [pOff_app]⟩ fun w' => E.indexAddrA hd hes e' hy (by omega) (by exact Int.ofNat_lt.2 hlt) (by rw [Int.toNat_natCast]; simp [pOff])
    · rename_i n' t' l
      cases hb : Nat.beq ei.size t'.w && Nat.beq m n' with
      | false => rw [hb, cond_false] at h; cases h
      | true =>
      rw [hb, cond_true] at h
      simp only [Bool.and_eq_true] at hb
      have hbw := Nat.eq_of_beq_eq_true hb.1
      have hmn := Nat.eq_of_beq_eq_true hb.2; subst hmn
      obtain ⟨y', hy', hk⟩ := bnd_some h
      obtain ⟨b, o, cs, e, hat, hln, hcat⟩ := hx
      have e' : (AF n τ).eval x = .pointer (some ⟨b, o, none⟩) := by simpa using e
      have hlt := (List.getElem?_eq_some_iff.1 hy').1
      obtain ⟨c1, c2, c3, rfl, hl, hdy⟩ := Cat.at (fun x c h => DenT.length h) hcat hy'
      exact PureE.mk i hk ⟨b, o + j * t'.w, c2, rfl, by have := hat.mid; rwa [hl] at this, hdy⟩ fun w' => E.indexAddrA hd hes e' hy (by omega) (Int.ofNat_lt.2 (by omega)) (by rw [Int.toNat_natCast, hbw])
    · rename_i n' t' l
      cases hb : Nat.beq ei.size t'.w && Nat.beq m n' with
      | false => rw [hb, cond_false] at h; cases h
      | true =>
      rw [hb, cond_true] at h
      simp only [Bool.and_eq_true] at hb
      have hbw := Nat.eq_of_beq_eq_true hb.1
      have hmn := Nat.eq_of_beq_eq_true hb.2; subst hmn
      obtain ⟨y', hy', hk⟩ := bnd_some h
      obtain ⟨b, o, cs, e, hat, hln, hcat⟩ := hx
      have e' : (AF n τ).eval x = .pointer (some ⟨b, o, none⟩) := by simpa using e
      have hlt := (List.getElem?_eq_some_iff.1 hy').1
      obtain ⟨c1, c2, c3, rfl, hl, hdy⟩ := Cat.at (fun x c h => DenT.length h) hcat hy'
      exact PureE.mk i hk ⟨b, o + j * t'.w, c2, rfl, by have := hat.mid; rwa [hl] at this, hdy⟩ fun w' => E.indexAddrA hd hes e' hy (by omega) (Int.ofNat_lt.2 (by omega)) (by rw [Int.toNat_natCast, hbw])
theorem pIndexAddr_ok (hT : T.ok P) (hρ : RhoOk K ρ (AF n τ).eval) (i : Inv K s w) {x y : Operand} {t : Nat} (h : pIndexAddr T ρ s t x y k = some r) : PureR P n ⟨dst, .indexAddr t x y, ty, pos, af, gd'⟩ τ w K k r := by
  obtain ⟨v, sv, hd, hk, hv⟩ := pIndexAddr_ev (dst := dst) (ty := ty) (pos := pos) (af := af) (gd' := gd') hT hρ i h
  exact PureR.mk i hk hd hv
end
end Go.GX
namespace Go.GX
open Go.RowKit Go.SL
set_option linter.unusedVariables false
set_option linter.unusedSimpArgs false

theorem _root_.Go.SL.St.dropL {p : Pers} {w : World} : ∀ {l H : List Assn}, St p w (l ++ H) → St p w H := by
  intro l
  induction l with
  | nil => exact fun s => s
  | cons A l ih => exact fun s => ih (St.drop s)

/-! ### cells laid over others -/
theorem set_run : ∀ (l : List Value) (o j0 : Nat) (cs : Array Value), o + j0 + l.length ≤ cs.size → ((l.zipIdx j0).foldl (fun (cs : Array Value) (x : Value × Nat) => cs.setIfInBounds (o + x.2) x.1) cs).toList = cs.toList.take (o + j0) ++ l ++ cs.toList.drop (o + j0 + l.length) := by
  intro l
  induction l with
  | nil => intro o j0 cs h; simp
  | cons a l ih =>
    intro o j0 cs h
    simp only [List.length_cons] at h
    simp only [List.zipIdx_cons, List.foldl_cons]
    rw [ih o (j0 + 1) _ (by simp; omega)]
    have hlt : o + j0 < cs.toList.length := by rw [Array.length_toList]; omega
    have e1 : (cs.setIfInBounds (o + j0) a).toList = cs.toList.take (o + j0) ++ a :: cs.toList.drop (o + j0 + 1) := by
      rw [Array.toList_setIfInBounds, List.set_eq_take_append_cons_drop, if_pos hlt]
    have hl : (cs.toList.take (o + j0)).length = o + j0 := by rw [List.length_take]; omega
    rw [e1]
    generalize hA : cs.toList.take (o + j0) = A at hl ⊢
    have e2 : (A ++ a :: cs.toList.drop (o + j0 + 1)).take (o + (j0 + 1)) = A ++ [a] := by
      rw [show A ++ a :: cs.toList.drop (o + j0 + 1) = (A ++ [a]) ++ cs.toList.drop (o + j0 + 1) by simp, show o + (j0 + 1) = (A ++ [a]).length by simp [hl]; omega, List.take_left]
    have e3 : (A ++ a :: cs.toList.drop (o + j0 + 1)).drop (o + (j0 + 1) + l.length) = cs.toList.drop (o + j0 + (l.length + 1)) := by
      rw [show A ++ a :: cs.toList.drop (o + j0 + 1) = (A ++ [a]) ++ cs.toList.drop (o + j0 + 1) by simp, show o + (j0 + 1) + l.length = (A ++ [a]).length + l.length by simp [hl]; omega, ← List.drop_drop, List.drop_left, List.drop_drop]
      congr 1; omega
    rw [e2, e3]
    simp
theorem fill_one {cells : Array Value} {v : Value} {off : Nat} (h : off + v.cells.size ≤ cells.size) : (v.cells.zipIdx.foldl (fun cs (x : Value × Nat) => cs.setIfInBounds (off + x.2) x.1) cells).toList = cells.toList.take off ++ v.cells.toList ++ cells.toList.drop (off + v.cells.size) := by
  rw [← Array.foldl_toList, Array.toList_zipIdx]
  have := set_run v.cells.toList off 0 cells (by simpa using h)
  simpa using this
theorem flatten_set : ∀ {segs : List (List Value)} {i : Nat} {s c : List Value}, segs[i]? = some s → c.length = s.length → (segs.set i c).flatten = segs.flatten.take (segs.take i).flatten.length ++ c ++ segs.flatten.drop ((segs.take i).flatten.length + c.length) := by
  intro segs
  induction segs with
  | nil => intro i s c h; cases h
  | cons a l ih =>
    intro i s c h hl
    cases i with
    | zero =>
      cases h
      simp only [List.set_cons_zero, List.flatten_cons, List.take_zero, List.flatten_nil, List.length_nil, List.nil_append, Nat.zero_add]
      rw [hl, List.drop_left]
    | succ i =>
      have := ih (i := i) (s := s) (c := c) (by simpa using h) hl
      simp only [List.set_cons_succ, List.flatten_cons, List.take_succ_cons, List.length_append]
      rw [this]
      have e2 : (a ++ l.flatten).take (a.length + (l.take i).flatten.length) = a ++ l.flatten.take (l.take i).flatten.length := by
        rw [List.take_append, List.take_of_length_le (by omega), Nat.add_sub_cancel_left]
      have e3 : (a ++ l.flatten).drop (a.length + (l.take i).flatten.length + c.length) = l.flatten.drop ((l.take i).flatten.length + c.length) := by
        rw [Nat.add_assoc, ← List.drop_drop, List.drop_left]
      rw [e2, e3]
      simp [List.append_assoc]
theorem flatten_le : ∀ {segs : List (List Value)} {i : Nat} {s : List Value}, segs[i]? = some s → (segs.take i).flatten.length + s.length ≤ segs.flatten.length := by
  intro segs
  induction segs with
  | nil => intro i s h; cases h
  | cons a l ih =>
    intro i s h
    cases i with
    | zero => cases h; simp
    | succ i => have := ih (i := i) (s := s) (by simpa using h); simp only [List.take_succ_cons, List.flatten_cons, List.length_append]; omega
theorem fill_segs {place : Nat → Option (Nat × Nat)} : ∀ (parts : List (Nat × Value)) (segs : List (List Value)), (∀ (i : Nat) (s : List Value), segs[i]? = some s → place i = some ((segs.take i).flatten.length, s.length)) →
    (∀ p ∈ parts, ∃ s, segs[p.1]? = some s ∧ p.2.cells.size = s.length) → Instr.fill place segs.flatten.toArray parts = some (parts.foldl (fun (sg : List (List Value)) (p : Nat × Value) => sg.set p.1 p.2.cells.toList) segs).flatten.toArray := by
  intro parts
  induction parts with
  | nil => intro segs _ _; rfl
  | cons p parts ih =>
    obtain ⟨i, v⟩ := p
    intro segs hp hs
    obtain ⟨s, h1, h2⟩ := hs (i, v) (List.mem_cons_self ..)
    replace h1 : segs[i]? = some s := h1
    replace h2 : v.cells.size = s.length := h2
    have hle := flatten_le h1
    simp only [Instr.fill, hp i s h1]
    have hc : ¬ (v.cells.size ≠ s.length ∨ (segs.take i).flatten.length + v.cells.size > segs.flatten.toArray.size) := by
      rintro (h | h)
      · exact h h2
      · simp only [List.size_toArray] at h; rw [h2] at h; omega
    rw [if_neg (by simpa using hc)]
    have e1 : (v.cells.zipIdx.foldl (fun cs (x : Value × Nat) => cs.setIfInBounds ((segs.take i).flatten.length + x.2) x.1) segs.flatten.toArray) = (segs.set i v.cells.toList).flatten.toArray := by
      apply Array.toList_inj.1
      rw [fill_one (by simp only [List.size_toArray]; omega)]
      rw [flatten_set h1 (by simpa using h2)]
      simp [h2]
    rw [e1, List.foldl_cons]
    have hlen : ∀ (j : Nat), ((segs.set i v.cells.toList).take j).flatten.length = (segs.take j).flatten.length := by
      intro j
      rw [List.length_flatten, List.length_flatten, List.map_take, List.map_take, List.map_set]
      have : (segs.map List.length).set i v.cells.toList.length = segs.map List.length := by
        apply List.ext_getElem?
        intro q
        rw [List.getElem?_set]
        split
        · rename_i e; subst e
          split
          · rw [List.getElem?_map, h1]; simp [h2]
          · rename_i hq; rw [List.getElem?_eq_none (by omega)]
        · rfl
      rw [this]
    refine ih _ (fun j t hj => ?_) fun p hpm => ?_
    · rw [hlen]
      rw [List.getElem?_set] at hj
      split at hj
      · rename_i e; subst e
        split at hj
        · cases hj; rw [hp i s h1]; simp [h2]
        · cases hj
      · exact hp j t hj
    · obtain ⟨t, h3, h4⟩ := hs p (List.mem_cons_of_mem _ hpm)
      rcases Decidable.em (i = p.1) with e | e
      · refine ⟨v.cells.toList, by rw [← e, List.getElem?_set]; simp [(List.getElem?_eq_some_iff.1 h1).1], ?_⟩
        rw [← e] at h3; rw [h1] at h3; cases h3
        rw [h4]; simp [h2]
      · exact ⟨t, by rw [List.getElem?_set, if_neg e]; exact h3, h4⟩
/-- cells, value by value -/
theorem dn_cl {K : Kn} : ∀ {s : SV} {cs : List Value}, s.dn K .c cs → ∃ vs : List Value, s.dn K .l vs ∧ cs = (vs.map fun v => v.cells.toList).flatten := by
  intro s
  induction s with
  | pr a b iha ihb =>
    rintro cs ⟨v, d, rfl, h1, h2⟩
    obtain ⟨vs, h3, rfl⟩ := ihb h2
    exact ⟨v :: vs, ⟨v, vs, rfl, h1, h3⟩, by simp⟩
  | nl => intro cs h; exact ⟨[], rfl, by rw [show cs = [] from h]; rfl⟩
  | _ => intro cs h; cases h
theorem dn_lc {K : Kn} : ∀ {s : SV} {vs : List Value}, s.dn K .l vs → s.dn K .c (vs.map fun v => v.cells.toList).flatten := by
  intro s
  induction s with
  | pr a b iha ihb =>
    rintro vs ⟨v, d, rfl, h1, h2⟩
    exact ⟨v, _, by simp, h1, ihb h2⟩
  | nl => intro vs h; rw [show vs = [] from h]; rfl
  | _ => intro vs h; cases h
noncomputable def setS : SV → Nat → SV → Option SV
  | .pr a b, 0, v => match a.wd.1, v.wd.1 with
    | some x, some y => bif Nat.beq x y then some (.pr v b) else none
    | _, _ => none
  | .pr a b, i + 1, v => match setS b i v with
    | some b' => some (.pr a b')
    | none => none
  | _, _, _ => none
theorem setS_ok {K : Kn} : ∀ {s : SV} {i : Nat} {u s' : SV} {vs : List Value} {v : Value}, setS s i u = some s' → s.dn K .l vs → u.den K v → s'.dn K .l (vs.set i v) ∧ ∃ x, vs[i]? = some x ∧ v.cells.size = x.cells.size := by
  intro s
  induction s with
  | pr a b iha ihb =>
    intro i u s' vs v h hd hu
    obtain ⟨x, d, rfl, h1, h2⟩ := hd
    cases i with
    | zero =>
      simp only [setS] at h
      split at h <;> try (cases h; done)
      rename_i p q hp hq
      cases hb : Nat.beq p q with
      | false => rw [hb, cond_false] at h; cases h
      | true =>
      rw [hb, cond_true] at h; cases h
      exact ⟨⟨v, d, rfl, hu, h2⟩, x, rfl, by rw [(wd_ok).1 _ _ hu hq, (wd_ok).1 _ _ h1 hp, Nat.eq_of_beq_eq_true hb]⟩
    | succ i =>
      simp only [setS] at h
      split at h <;> try (cases h; done)
      rename_i b' hb
      cases h
      obtain ⟨h3, y, h4, h5⟩ := ihb hb h2 hu
      exact ⟨⟨x, _, rfl, h1, h3⟩, y, by simpa using h4, h5⟩
  | _ => intro i u s' vs v h; cases i <;> cases h
/-- fields lie where the widths say -/
noncomputable def fldsOk (T : TB) : List Field → SV → Nat → Bool
  | [], .nl, _ => true
  | f :: l, .pr a b, o => match tg T f.type, a.wd.1 with
    | some fi, some m => Nat.beq f.offset o && Nat.beq fi.size m && fldsOk T l b (o + m)
    | _, _ => false
  | _, _, _ => false
section
variable {P : Program} {n : Nat} {τ : Fr} {w : World} {β : Type} {dst : Option Tmp} {ty : TypeId} {pos : String} {af : Array Edge} {gd' : Option (Nat × Bool)} {K : Kn} {s : SS} {k : SV → SS → Option β} {r : β} {ρ : Rho} {T : TB}
theorem fldsOk_ok (hT : T.ok P) : ∀ {fs : List Field} {z : SV} {o : Nat} {vs : List Value}, fldsOk T fs z o = true → z.dn K .l vs → ∃ places : List (Nat × Nat), fs.mapM (fun f => (P.info? f.type).map fun i => (f.offset, i.size)) = some places ∧
    ∀ (i : Nat) (v : Value), vs[i]? = some v → places[i]? = some (o + ((vs.take i).map fun v => v.cells.toList).flatten.length, v.cells.toList.length) := by
  intro fs
  induction fs with
  | nil =>
    intro z o vs h hd
    cases z <;> simp only [fldsOk, Bool.false_eq_true] at h
    cases hd
    exact ⟨[], rfl, fun i v hv => by cases hv⟩
  | cons f l ih =>
    intro z o vs h hd
    cases z <;> simp only [fldsOk, Bool.false_eq_true] at h
    rename_i a b
    split at h <;> try (cases h; done)
    rename_i fi m hfi hm
    simp only [Bool.and_eq_true] at h
    obtain ⟨⟨h1, h2⟩, h3⟩ := h
    obtain ⟨v, d, rfl, hv, hd⟩ := hd
    obtain ⟨places, hp, hq⟩ := ih h3 hd
    have hsz := (tg_ok hT hfi).size
    have hvs := (wd_ok).1 _ _ hv hm
    refine ⟨(f.offset, fi.size) :: places, ?_, fun i u hu => ?_⟩
    · rw [List.mapM_cons]
      cases hi : P.info? f.type with
      | none => rw [hi] at hsz; cases hsz
      | some q =>
        rw [hi] at hsz
        have : q.size = fi.size := by simpa using hsz
        simp [hp, this]
    · cases i with
      | zero =>
        cases hu
        simp only [List.getElem?_cons_zero, List.take_zero, List.map_nil, List.flatten_nil, List.length_nil, Nat.add_zero]
        rw [Nat.eq_of_beq_eq_true h1, Nat.eq_of_beq_eq_true h2, Array.length_toList, hvs]
      | succ i =>
        have := hq i u (by simpa using hu)
        simp only [List.getElem?_cons_succ, List.take_succ_cons, List.map_cons, List.flatten_cons, List.length_append, Array.length_toList]
        rw [this, hvs]
        congr 2; omega
noncomputable def bldS (ρ : Rho) : List (Nat × Operand) → SV → Option SV
  | [], z => some z
  | (i, x) :: l, z => match ρ x with
    | some u => match setS z i u with
      | some z' => bldS ρ l z'
      | none => none
    | none => none
theorem bldS_ok {e : Operand → Value} (hρ : RhoOk K ρ e) : ∀ {l : List (Nat × Operand)} {z z' : SV} {vs : List Value}, bldS ρ l z = some z' → z.dn K .l vs →
    z'.dn K .l ((l.map fun p => (p.1, e p.2)).foldl (fun (sg : List Value) (p : Nat × Value) => sg.set p.1 p.2) vs) ∧ ∀ p ∈ l, ∃ x, vs[p.1]? = some x ∧ (e p.2).cells.size = x.cells.size := by
  intro l
  induction l with
  | nil => intro z z' vs h hd; cases h; exact ⟨hd, fun p hp => by cases hp⟩
  | cons a l ih =>
    obtain ⟨i, x⟩ := a
    intro z z' vs h hd
    simp only [bldS] at h
    split at h <;> try (cases h; done)
    rename_i u hu
    split at h <;> try (cases h; done)
    rename_i z1 hz1
    obtain ⟨h1, y, h2, h3⟩ := setS_ok hz1 hd (hρ _ _ hu)
    obtain ⟨h4, h5⟩ := ih h h1
    refine ⟨h4, fun p hp => ?_⟩
    rcases List.mem_cons.1 hp with rfl | hp
    · exact ⟨y, h2, h3⟩
    · obtain ⟨q, hq1, hq2⟩ := h5 p hp
      rcases Decidable.em (i = p.1) with e1 | e1
      · rw [← e1, List.getElem?_set] at hq1
        simp only [if_true] at hq1
        split at hq1
        · cases hq1
          exact ⟨y, by rw [← e1]; exact h2, by rw [hq2, h3]⟩
        · cases hq1
      · rw [List.getElem?_set, if_neg e1] at hq1
        exact ⟨q, hq1, hq2⟩
theorem map_foldl_set : ∀ (parts : List (Nat × Value)) (vs : List Value), parts.foldl (fun (sg : List (List Value)) (p : Nat × Value) => sg.set p.1 p.2.cells.toList) (vs.map fun v => v.cells.toList) = (parts.foldl (fun (sg : List Value) (p : Nat × Value) => sg.set p.1 p.2) vs).map fun v => v.cells.toList := by
  intro parts
  induction parts with
  | nil => intro vs; rfl
  | cons p l ih => intro vs; rw [List.foldl_cons, List.foldl_cons, ← ih, List.map_set]
/-- a struct put together -/
noncomputable def pBuild (T : TB) (ρ : Rho) (s : SS) (t : Nat) (ps : List (Nat × Operand)) (k : SV → SS → Option β) : Option β := match tg T t with
  | some i => match i.desc with
    | .struct fs => match i.zc.ldp.2 with
      | some z => bif fldsOk T fs.toList z 0 then (match bldS ρ ps z with
        | some c => k (.ag c) s
        | none => none) else none
      | none => none
    | _ => none
  | none => none
theorem pBuild_ok (hT : T.ok P) (hρ : RhoOk K ρ (AF n τ).eval) (i : Inv K s w) {t : Nat} {ps : Array (Nat × Operand)} (h : pBuild T ρ s t ps.toList k = some r) : PureR P n ⟨dst, .build t ps, ty, pos, af, gd'⟩ τ w K k r := by
  unfold pBuild at h
  split at h <;> try (cases h; done)
  rename_i ti hti
  have ok := tg_ok hT hti
  split at h <;> try (cases h; done)
  rename_i fs hfs
  split at h <;> try (cases h; done)
  rename_i z hz
  cases hfo : fldsOk T fs.toList z 0 with
  | false => rw [hfo, cond_false] at h; cases h
  | true =>
  rw [hfo, cond_true] at h
  split at h <;> try (cases h; done)
  rename_i c hc
  have hcz := (ld_ok (ren_ok (K := K) ok.ren)).2 z hz
  obtain ⟨vs, hvs, hcells⟩ := dn_cl hcz
  obtain ⟨places, hpl, hat⟩ := fldsOk_ok hT hfo hvs
  obtain ⟨h1, h2⟩ := bldS_ok hρ hc hvs
  refine PureR.mk i h ⟨_, rfl, dn_lc h1⟩ fun w' => ?_
  refine E.build (vs := ps.map fun (i, x) => (i, (AF n τ).eval x)) rfl (run_build w' t _ _ ?_)
  have hinfo : ∃ it, P.info? t = some it ∧ it.zero = some ti.z := by
    have := ok.info
    cases hq : P.info? t with
    | none => rw [hq] at this; cases this
    | some q => rw [hq] at this; simp at this; exact ⟨q, rfl, this.1⟩
  obtain ⟨it, hit, hzz⟩ := hinfo
  have hd := ok.desc
  rw [hfs] at hd
  unfold Program.built
  simp only [hit, hd, hzz, hpl]
  have e1 : (ps.map fun (i, x) => (i, (AF n τ).eval x)).toList = ps.toList.map fun p => (p.1, (AF n τ).eval p.2) := by simp
  have e2 : ti.z.cells = (vs.map fun v => v.cells.toList).flatten.toArray := by rw [← hcells]
  rw [e1, e2, fill_segs, map_foldl_set]
  · intro j sg hj
    rw [List.getElem?_map] at hj
    cases hv : vs[j]? with
    | none => rw [hv] at hj; cases hj
    | some v =>
      rw [hv] at hj; cases hj
      have := hat j v hv
      rw [Nat.zero_add] at this
      rw [← List.map_take]
      simpa using this
  · intro p hp
    obtain ⟨q, hq, rfl⟩ := List.mem_map.1 hp
    obtain ⟨x, hx1, hx2⟩ := h2 q hq
    exact ⟨x.cells.toList, by rw [List.getElem?_map, hx1]; rfl, by rw [hx2]; simp⟩
end
end Go.GX
namespace Go.GX
open Go.RowKit Go.SL
set_option linter.unusedVariables false
set_option linter.unusedSimpArgs false
set_option linter.unnecessarySimpa false
noncomputable def imin (a b : Int) : Int := if b < a then b else a
noncomputable def imax (a b : Int) : Int := if b > a then b else a
section
variable {P : Program} {n : Nat} {τ : Fr} {w : World} {β : Type} {dst : Option Tmp} {ty : TypeId} {pos : String} {af : Array Edge} {gd' : Option (Nat × Bool)} {K : Kn} {s : SS} {k : SV → SS → Option β} {r : β} {ρ : Rho} {T : TB}
noncomputable def pMakeFunc (ρ : Rho) (s : SS) (f : Fn) (bs cs : List Operand) (k : SV → SS → Option β) : Option β := match mapS ρ bs, mapS ρ cs with
  | some b, some c => k (.fn f b c) s
  | _, _ => none
theorem pMakeFunc_ok (hρ : RhoOk K ρ (AF n τ).eval) (i : Inv K s w) {f : Fn} {bs cs : Array Operand} (h : pMakeFunc ρ s f bs.toList cs.toList k = some r) : PureR P n ⟨dst, .makeFunc f bs cs, ty, pos, af, gd'⟩ τ w K k r := by
  unfold pMakeFunc at h
  split at h <;> try (cases h; done)
  rename_i b c hb hc
  have hd := mapS_ok hρ hc
  have hd2 := mapS_ok hρ hb
  exact PureR.mk i h ⟨_, _, rfl, hd2, hd⟩ fun w' => E.makeFunc (by obtain ⟨l⟩ := bs; simp) (by obtain ⟨l⟩ := cs; simp)
noncomputable def pMin (ρ : Rho) (s : SS) (x y : Operand) (k : SV → SS → Option β) : Option β := match ρ x, ρ y with
  | some a, some b => match scS a, scS b with
    | some (.i a), some (.i b) => k (.d .int (imin a b)) s
    | _, _ => none
  | _, _ => none
noncomputable def pMax (ρ : Rho) (s : SS) (x y : Operand) (k : SV → SS → Option β) : Option β := match ρ x, ρ y with
  | some a, some b => match scS a, scS b with
    | some (.i a), some (.i b) => k (.d .int (imax a b)) s
    | _, _ => none
  | _, _ => none
theorem pMin_ok (hρ : RhoOk K ρ (AF n τ).eval) (i : Inv K s w) {x y : Operand} {ts : Array TypeId} (h : pMin ρ s x y k = some r) : PureR P n ⟨dst, .call ⟨.builtin .min, #[x, y], ts⟩, ty, pos, af, gd'⟩ τ w K k r := by
  unfold pMin at h
  split at h <;> try (cases h; done)
  rename_i a b ha hb
  split at h <;> try (cases h; done)
  rename_i u v hu hv
  exact PureR.mk i h ⟨_, rfl, rfl⟩ fun w' => E.min (scS_ok hu (hρ _ _ ha)) (scS_ok hv (hρ _ _ hb)) rfl
theorem pMax_ok (hρ : RhoOk K ρ (AF n τ).eval) (i : Inv K s w) {x y : Operand} {ts : Array TypeId} (h : pMax ρ s x y k = some r) : PureR P n ⟨dst, .call ⟨.builtin .max, #[x, y], ts⟩, ty, pos, af, gd'⟩ τ w K k r := by
  unfold pMax at h
  split at h <;> try (cases h; done)
  rename_i a b ha hb
  split at h <;> try (cases h; done)
  rename_i u v hu hv
  exact PureR.mk i h ⟨_, rfl, rfl⟩ fun w' => E.max (scS_ok hu (hρ _ _ ha)) (scS_ok hv (hρ _ _ hb)) rfl
/-! ### a byte of a text -/
noncomputable def pIndexStr (T : TB) (ρ : Rho) (s : SS) (t : Nat) (x y : Operand) (k : SV → SS → Option β) : Option β := match ρ x, ρ y, tg T t with
  | some a, some z, some ti => match ti.desc with
    | .string => match strS a with
      | some l => natK z fun j => bnd (l[j]?) fun b => k (.d .u8 b) s
      | none => none
    | _ => none
  | _, _, _ => none
theorem pIndexStr_ok (hT : T.ok P) (hρ : RhoOk K ρ (AF n τ).eval) (i : Inv K s w) {t : Nat} {x y : Operand} (h : pIndexStr T ρ s t x y k = some r) : PureR P n ⟨dst, .index t x y, ty, pos, af, gd'⟩ τ w K k r := by
  unfold pIndexStr at h
  split at h <;> try (cases h; done)
  rename_i a z ti ha hz hti
  have hx := hρ _ _ ha
  have hd := (tg_ok hT hti).desc
  split at h <;> try (cases h; done)
  rename_i hdd
  rw [hdd] at hd
  split at h <;> try (cases h; done)
  rename_i l hl
  have e' := strS_ok hl hx
  obtain ⟨j, kk, hy, h⟩ := natK_ok h (hρ _ _ hz)
  obtain ⟨b, hb, hk⟩ := bnd_some h
  have hlt := (List.getElem?_eq_some_iff.1 hb).1
  refine PureR.mk i hk ⟨_, rfl, rfl⟩ fun w' => ?_
  have hl2 : (List.map UInt8.toBitVec ((l.map UInt8.ofBitVec).toArray).toList) = l := by
    simp only [List.map_map]
    exact (List.map_congr_left fun a _ => rfl).trans (List.map_id l)
  have := E.indexStr (P := P) (w := w') (dst := dst) (ty := ty) (pos := pos) (af := af) (gd := gd') hd e' hl2 hy rfl hlt
  rwa [List.getD_eq_getElem?_getD, hb] at this
/-! ### pieces -/
theorem E.sliceG {ρ : Operand → Value} {x : Operand} {lo hi : Option Operand} {t e : TypeId} {X : Option Addr} {l c : Nat} {sz : Nat} {i j : Nat} (ht : P.underlying t = some (.slice e)) (hz : (P.info? e).map (·.size) = some sz)
    (hx : ρ x = .slice X l c) (hlo : (match lo with | none => i = 0 | some y => ∃ kk, ρ y = .int kk i)) (hhi : (match hi with | none => j = l | some y => ∃ kk, ρ y = .int kk j)) (hij : i ≤ j) (hjc : j ≤ c) :
    Ev P ρ ⟨dst, .slice t x lo hi none, ty, pos, af, gd'⟩ w (.slice (if c = i then X else X.map (·.add (i * sz))) (j - i) (c - i)) := by
  cases hq : P.info? e with
  | none => simp [hq] at hz
  | some q =>
    have hsz : q.size = sz := by simpa [hq] using hz
    have h1 : (i : Int) ≤ (j : Int) := by omega
    have h2 : (j : Int) ≤ (c : Int) := by omega
    cases lo with
    | none =>
      simp only at hlo; subst hlo
      cases hi with
      | none =>
        simp only at hhi; subst hhi
        simp [Ev, execOp, Instr.sliceAt, run_underlying ht, Instr.slice, Instr.sliceBounds, hx, sizeOf, typeInfo, hq, hsz]
      | some y =>
        obtain ⟨kk, hhi⟩ := hhi
        simp [Ev, execOp, Instr.sliceAt, run_underlying ht, Instr.slice, Instr.sliceBounds, Instr.sliceBound, asIntOf, hx, sizeOf, typeInfo, hq, hsz, hhi, h2]; (intro h; omega)
    | some z =>
      obtain ⟨kk, hlo⟩ := hlo
      cases hi with
      | none =>
        simp only at hhi; subst hhi
        simp [Ev, execOp, Instr.sliceAt, run_underlying ht, Instr.slice, Instr.sliceBounds, Instr.sliceBound, asIntOf, hx, sizeOf, typeInfo, hq, hsz, hlo, h1]; (intro h; omega)
      | some y =>
        obtain ⟨kk', hhi⟩ := hhi
        simp [Ev, execOp, Instr.sliceAt, run_underlying ht, Instr.slice, Instr.sliceBounds, Instr.sliceBound, asIntOf, hx, sizeOf, typeInfo, hq, hsz, hlo, hhi, h1, h2]; try simp [hij, hjc]
theorem fz_cut {m : Mem} {t : Ty} {l : List t.T} {X : Option Addr} {c i j : Nat} (h : DenT m (.fz t) l [.slice X l.length c]) (hij : i ≤ j) (hjl : j ≤ l.length) :
    DenT m (.fz t) ((l.take j).drop i) [.slice (if c = i then X else X.map (·.add (i * t.w))) (j - i) (c - i)] := by
  obtain ⟨X', c', e, hc, h0⟩ := h
  cases e
  have hlen : ((l.take j).drop i).length = j - i := by rw [List.length_drop, List.length_take]; omega
  refine ⟨_, _, by rw [hlen], by omega, ?_⟩
  rcases Nat.eq_zero_or_pos (j - i) with h1 | h1
  · exact .inl (by omega)
  · right
    obtain ⟨b, o, ds, rfl, hat, hcat⟩ := h0.resolve_left (by omega)
    have hl : l = l.take i ++ ((l.take j).drop i ++ l.drop j) := by
      have e1 : l.take j = l.take i ++ (l.take j).drop i := by
        have := (List.take_append_drop i (l.take j)).symm
        rwa [List.take_take, Nat.min_eq_left hij] at this
      rw [← List.append_assoc, ← e1, List.take_append_drop]
    rw [hl] at hcat
    obtain ⟨a, b2, rfl, ha, hb⟩ := Cat.split hcat
    obtain ⟨b3, b4, rfl, hb3, _⟩ := Cat.split hb
    have hal : a.length = i * t.w := by rw [Cat.length (k := t.w) (fun x c h => DenT.length h) ha, List.length_take, Nat.min_eq_left (by omega)]
    refine ⟨b, o + i * t.w, b3, ?_, ?_, hb3⟩
    · rw [if_neg (by omega)]; simp [add_lit]
    · have := hat.mid; rwa [hal] at this
noncomputable def loK (ρ : Rho) (lo : Option Operand) (z : Nat) (k : Nat → Option β) : Option β := match lo with
  | none => k z
  | some y => match ρ y with
    | some v => natK v k
    | none => none
theorem loK_ok (hρ : RhoOk K ρ (AF n τ).eval) {lo : Option Operand} {z : Nat} {k : Nat → Option β} (h : loK ρ lo z k = some r) : ∃ i, (match lo with | none => i = z | some y => ∃ kk, (AF n τ).eval y = .int kk (i : Int)) ∧ k i = some r := by
  unfold loK at h
  split at h
  · exact ⟨z, rfl, h⟩
  · split at h <;> try (cases h; done)
    rename_i v hv
    obtain ⟨j, kk, h1, h2⟩ := natK_ok h (hρ _ _ hv)
    exact ⟨j, ⟨kk, h1⟩, h2⟩
/-- a row of which a piece is wanted lasts from now on -/
noncomputable def frz (s : SS) (a : SV) (k : SV → SS → Option β) : Option β := match a with
  | .vr id => match hget s.hp id with
    | some (.row _ t l) => bif t.pure then k (.d (.fz t) l) { s with hp := (id, .fro t l) :: hdel s.hp id } else none
    | _ => k (.vr id) s
  | a => k a s
theorem frz_ok {a : SV} {v : Value} (h : frz s a k = some r) (i : Inv K s w) (hd : a.den K v) : ∃ K' s' a', K.le K' ∧ Inv K' s' w ∧ a'.den K' v ∧ k a' s' = some r := by
  unfold frz at h
  split at h
  · rename_i id
    split at h
    · rename_i e t l hg
      cases hp : t.pure with
      | false => rw [hp, cond_false] at h; cases h
      | true =>
      rw [hp, cond_true] at h
      obtain ⟨X, m, c, hE, e1⟩ := hd
      have e' : v = .slice X m c := by simpa using e1
      subst e'
      obtain ⟨K', le, hEE, ⟨u, hu, hden⟩, s2⟩ := row_freeze hp (i.take hg)
      rw [hE] at hu; cases hu
      refine ⟨K', _, .d (.fz t) l, le, ⟨?_, ?_⟩, ⟨_, rfl, hden⟩, h⟩
      · rw [le.F]
        exact St.mkpu ⟨_, by rw [hEE.1]; exact hE, hden⟩ (St.asns le s2)
      · exact ⟨by rw [hEE.2]; exact i.nx.eq, fun k hk => by rw [hEE.1]; rw [hEE.2] at hk; exact i.nx.no k hk⟩
    · exact ⟨K, s, _, Kn.le.refl _, i, hd, h⟩
  · exact ⟨K, s, _, Kn.le.refl _, i, hd, h⟩
theorem PureR.le {P : Program} {n : Nat} {o : Oper} {τ : Fr} {K L : Kn} {k : SV → SS → Option β} (le : K.le L) (h : PureR P n o τ w L k r) : PureR P n o τ w K k r := by
  obtain ⟨v, sv, s', K', l, rest⟩ := h
  exact ⟨v, sv, s', K', le.trans l, rest⟩
theorem E.sliceArr {ρ : Operand → Value} {x : Operand} {lo hi : Option Operand} {t e : TypeId} {b o l : Nat} {sz : Nat} {i j : Nat} (ht : P.underlying t = some (.array l e)) (hz : (P.info? e).map (·.size) = some sz)
    (hx : ρ x = .pointer (some ⟨b, o, none⟩)) (hlo : (match lo with | none => i = 0 | some y => ∃ kk, ρ y = .int kk i)) (hhi : (match hi with | none => j = l | some y => ∃ kk, ρ y = .int kk j)) (hij : i ≤ j) (hjc : j ≤ l) :
    Ev P ρ ⟨dst, .slice t x lo hi none, ty, pos, af, gd'⟩ w (.slice (some (if l = i then ⟨b, o, none⟩ else ⟨b, o + i * sz, none⟩)) (j - i) (l - i)) := by
  cases hq : P.info? e with
  | none => simp [hq] at hz
  | some q =>
    have hsz : q.size = sz := by simpa [hq] using hz
    have h1 : (i : Int) ≤ (l : Int) := by omega
    have h2 : (j : Int) ≤ (l : Int) := by omega
    have h3 : (i : Int) ≤ (j : Int) := by omega
    cases lo with
    | none =>
      simp only at hlo; subst hlo
      cases hi with
      | none =>
        simp only at hhi; subst hhi
        simp [Ev, execOp, Instr.sliceAt, run_underlying ht, Instr.sureAddr, Instr.sliceBounds, Instr.sliceBound, asIntOf, hx, sizeOf, typeInfo, hq, hsz, add_lit] <;> (try (intro h; omega)) <;> (try simp [hij, hjc])
      | some y =>
        obtain ⟨kk, hhi⟩ := hhi
        simp [Ev, execOp, Instr.sliceAt, run_underlying ht, Instr.sureAddr, Instr.sliceBounds, Instr.sliceBound, asIntOf, hx, sizeOf, typeInfo, hq, hsz, hhi, h2, add_lit] <;> (try (intro h; omega)) <;> (try simp [hij, hjc])
    | some z =>
      obtain ⟨kk, hlo⟩ := hlo
      cases hi with
      | none =>
        simp only at hhi; subst hhi
        simp [Ev, execOp, Instr.sliceAt, run_underlying ht, Instr.sureAddr, Instr.sliceBounds, Instr.sliceBound, asIntOf, hx, sizeOf, typeInfo, hq, hsz, hlo, h1, add_lit] <;> (try (intro h; omega)) <;> (try simp [hij, hjc])
      | some y =>
        obtain ⟨kk', hhi⟩ := hhi
        simp [Ev, execOp, Instr.sliceAt, run_underlying ht, Instr.sureAddr, Instr.sliceBounds, Instr.sliceBound, asIntOf, hx, sizeOf, typeInfo, hq, hsz, hlo, hhi, h2, h3, add_lit] <;> (try (intro h; omega)) <;> (try simp [hij, hjc])
theorem strV_cut (l : List (BitVec 8)) {i j : Nat} (hij : i ≤ j) (hj : j ≤ l.length) : (⟨(l.map UInt8.ofBitVec).toArray⟩ : ByteArray).extract i j = ⟨(((l.take j).drop i).map UInt8.ofBitVec).toArray⟩ := by
  apply ByteArray.ext
  simp [ByteArray.data_extract, List.map_take, List.map_drop, List.drop_take]
theorem E.sliceStr {ρ : Operand → Value} {x : Operand} {lo hi : Option Operand} {t : TypeId} {l : List (BitVec 8)} {i j : Nat} (ht : P.underlying t = some .string)
    (hx : ρ x = strV l) (hlo : (match lo with | none => i = 0 | some y => ∃ kk, ρ y = .int kk i)) (hhi : (match hi with | none => j = l.length | some y => ∃ kk, ρ y = .int kk j)) (hij : i ≤ j) (hjc : j ≤ l.length) :
    Ev P ρ ⟨dst, .slice t x lo hi none, ty, pos, af, gd'⟩ w (strV ((l.take j).drop i)) := by
  have h1 : (i : Int) ≤ (l.length : Int) := by omega
  have h2 : (j : Int) ≤ (l.length : Int) := by omega
  have h3 : (i : Int) ≤ (j : Int) := by omega
  have hsz : (⟨(l.map UInt8.ofBitVec).toArray⟩ : ByteArray).size = l.length := by simp [ByteArray.size]
  have hcut := strV_cut l hij hjc
  have e0 : strV ((l.take j).drop i) = .string ((⟨(l.map UInt8.ofBitVec).toArray⟩ : ByteArray).extract i j) := by rw [hcut]
  rw [e0]
  have hx' : ρ x = .string ⟨(l.map UInt8.ofBitVec).toArray⟩ := hx
  cases lo with
  | none =>
    simp only at hlo; subst hlo
    cases hi with
    | none =>
      simp only at hhi; subst hhi
      rw [hcut]
      simp [Ev, execOp, Instr.sliceAt, run_underlying ht, Instr.slice, Instr.sliceBounds, Instr.sliceBound, asIntOf, hx', hsz]
    | some y =>
      obtain ⟨kk, hhi⟩ := hhi
      simp [Ev, execOp, Instr.sliceAt, run_underlying ht, Instr.slice, Instr.sliceBounds, Instr.sliceBound, asIntOf, hx', hsz, hhi, h2] <;> (try (intro h; omega)) <;> (try simp [hij, hjc])
  | some z =>
    obtain ⟨kk, hlo⟩ := hlo
    cases hi with
    | none =>
      simp only at hhi; subst hhi
      simp [Ev, execOp, Instr.sliceAt, run_underlying ht, Instr.slice, Instr.sliceBounds, Instr.sliceBound, asIntOf, hx', hsz, hlo, h1] <;> (try (intro h; omega)) <;> (try simp [hij, hjc])
    | some y =>
      obtain ⟨kk', hhi⟩ := hhi
      simp [Ev, execOp, Instr.sliceAt, run_underlying ht, Instr.slice, Instr.sliceBounds, Instr.sliceBound, asIntOf, hx', hsz, hlo, hhi, h2, h3] <;> (try (intro h; omega)) <;> (try simp [hij, hjc])
/-- an array within something, or in a block of its own -/
noncomputable def arrB (s : SS) (id : Nat) : List Step → Bool
  | [] => match hget s.hp id with
    | some (.blk _ _) => true
    | _ => false
  | _ :: _ => true
theorem add_zero0 (a : Addr) : a.add 0 = a := by cases a; simp [Addr.add]
noncomputable def pSlice (T : TB) (ρ : Rho) (s : SS) (t : Nat) (x : Operand) (lo hi : Option Operand) (k : SV → SS → Option β) : Option β := match ρ x, tg T t with
  | some a, some ti => match ti.desc with
    | .slice e => match tg T e with
      | some ei => (match a with
        | .nilS => loK ρ lo 0 fun i => loK ρ hi 0 fun j => gd (i ≤ j) (gd (j ≤ 0) (k .nilS s))
        | .vw id pa m => (match lastI pa with
          | some (p, l0, z) => bif Nat.beq ei.size z then loK ρ lo 0 fun i => loK ρ hi m fun j => gd (i ≤ j) (gd (j ≤ m) (k (.vw id (p ++ [.i (l0 + i) z]) (j - i)) s)) else none
          | none => none)
        | a => match slS s a with
          | some (.own id _ t' l) => bif Nat.beq ei.size t'.w then loK ρ lo 0 fun i => loK ρ hi l.length fun j => gd (i ≤ j) (gd (j ≤ l.length) (k (.vw id [.i i t'.w] (j - i)) s)) else none
          | some (.fro t' l) => bif Nat.beq ei.size t'.w then loK ρ lo 0 fun i => loK ρ hi l.length fun j => gd (i ≤ j) (gd (j ≤ l.length) (k (.d (.fz t') ((l.take j).drop i)) s)) else none
          | some (.bor t' l) => bif Nat.beq ei.size t'.w then loK ρ lo 0 fun i => loK ρ hi l.length fun j => gd (i ≤ j) (gd (j ≤ l.length) (k (.bd (.fz t') ((l.take j).drop i)) s)) else none
          | _ => none)
      | none => none
    | .array n e => match tg T e with
      | some ei => (match a with
        | .ptr id pa => bif arrB s id pa then loK ρ lo 0 fun i => loK ρ hi n fun j => gd (i ≤ j) (gd (j ≤ n) (k (.vw id (pa ++ [.i i ei.size]) (j - i)) s)) else none
        | .dp (.arr n' t') l => bif Nat.beq ei.size t'.w && Nat.beq n n' then loK ρ lo 0 fun i => loK ρ hi n fun j => gd (i ≤ j) (gd (j ≤ n) (k (.d (.fz t') ((l.take j).drop i)) s)) else none
        | _ => none)
      | none => none
    | .string => match strS a with
      | some l => loK ρ lo 0 fun i => loK ρ hi l.length fun j => gd (i ≤ j) (gd (j ≤ l.length) (k (.d .str ((l.take j).drop i)) s))
      | none => none
    | _ => none
  | _, _ => none
theorem pSlice_ok (hT : T.ok P) (hρ : RhoOk K ρ (AF n τ).eval) (i : Inv K s w) {t : Nat} {x : Operand} {lo hi : Option Operand} (h : pSlice T ρ s t x lo hi k = some r) : PureR P n ⟨dst, .slice t x lo hi none, ty, pos, af, gd'⟩ τ w K k r := by
  unfold pSlice at h
  split at h <;> try (cases h; done)
  rename_i a ti ha hti
  have hx := hρ _ _ ha
  have hd := (tg_ok hT hti).desc
  split at h <;> try (cases h; done)
  · rename_i e hdd
    rw [hdd] at hd
    split at h <;> try (cases h; done)
    rename_i ei hei
    have hes := (tg_ok hT hei).size
    split at h
    · have e' : (AF n τ).eval x = .slice none 0 0 := by have q : [_] = [_] := hx; simpa using q
      obtain ⟨p, hp, h⟩ := loK_ok hρ h
      obtain ⟨q, hq, h⟩ := loK_ok hρ h
      obtain ⟨hpq, h⟩ := gd_some h
      obtain ⟨hql, h⟩ := gd_some h
      refine PureR.mk i h (v := .slice none 0 0) rfl fun w' => ?_
      have q0 : q = 0 := by omega
      have p0 : p = 0 := by omega
      subst q0; subst p0
      exact E.sliceG hd hes e' hp hq (Nat.le_refl _) (Nat.le_refl _)
    · rename_i id pa m
      split at h <;> try (cases h; done)
      rename_i p0 l0 z hp0
      have hoff := lastI_ok hp0
      cases hb : Nat.beq ei.size z with
      | false => rw [hb, cond_false] at h; cases h
      | true =>
      rw [hb, cond_true] at h
      have hbw := Nat.eq_of_beq_eq_true hb
      obtain ⟨p, hp, h⟩ := loK_ok hρ h
      obtain ⟨q, hq, h⟩ := loK_ok hρ h
      obtain ⟨hpq, h⟩ := gd_some h
      obtain ⟨hql, h⟩ := gd_some h
      obtain ⟨X, c, e, hc, hX, u0, hu0, hcap⟩ := hx
      have e' : (AF n τ).eval x = .slice X m c := by simpa using e
      refine PureR.mk i h ⟨_, _, rfl, by omega, ?_, u0, hu0, ?_⟩ fun w' => E.sliceG hd hes e' hp hq hpq (Nat.le_trans hql hc)
      rotate_left
      · intro X0 n0 c0 z0 hu hpa
        have hp00 : p0 = [] ∧ l0 + p = 0 ∧ z = z0 := by
          cases p0 with
          | nil => simpa using hpa
          | cons a l => exact absurd (congrArg List.length hpa) (by simp)
        obtain ⟨hp1, hl1, hz1⟩ := hp00
        have hpap : pa = [.i 0 z] := by
          have := lastI_eq hp0
          rw [hp1, show l0 = 0 by omega] at this; simpa using this
        obtain ⟨rfl, rfl⟩ := hcap X0 n0 c0 z hu hpap
        have hp2 : p = 0 := by omega
        subst hp2
        refine ⟨?_, by omega⟩
        split
        · rfl
        · cases X with
          | none => rfl
          | some a => simp [add_zero0]
      rcases Nat.eq_zero_or_pos (q - p) with h0 | h0
      · exact .inl h0
      · right
        obtain ⟨u, b, hE, hB, rfl⟩ := hX.resolve_left (by omega)
        refine ⟨u, b, hE, hB, ?_⟩
        rw [if_neg (by omega), hbw]
        simp only [Option.map_some, add_lit, pOff_app, pOff, hoff, Nat.add_mul, Nat.add_assoc, Nat.add_zero]
    · split at h <;> try (cases h; done)
      · rename_i id e0 t' l hsl
        obtain ⟨⟨X, c, hv, hc⟩, hE, hg⟩ := slS_ok i hsl hx
        have hc : l.length ≤ c := hc
        cases hb : Nat.beq ei.size t'.w with
        | false => rw [hb, cond_false] at h; cases h
        | true =>
        rw [hb, cond_true] at h
        have hbw := Nat.eq_of_beq_eq_true hb
        obtain ⟨p, hp, h⟩ := loK_ok hρ h
        obtain ⟨q, hq, h⟩ := loK_ok hρ h
        obtain ⟨hpq, h⟩ := gd_some h
        obtain ⟨hql, h⟩ := gd_some h
        have hv' : (AF n τ).eval x = .slice X l.length c := hv
        refine PureR.mk i h ⟨_, _, rfl, by omega, ?_, _, hE, ?_⟩ fun w' => E.sliceG hd hes hv' hp hq hpq (Nat.le_trans hql hc)
        rotate_left
        · intro X0 n0 c0 z0 hu hpa
          rw [hv'] at hu
          cases hu
          have hp2 : p = 0 := by simpa using congrArg (fun l => match l with | [Step.i j _] => j | _ => 1) hpa
          subst hp2
          refine ⟨?_, by omega⟩
          split
          · rfl
          · cases X with
            | none => rfl
            | some a => simp [add_zero0]
        rcases Nat.eq_zero_or_pos (q - p) with h0 | h0
        · exact .inl h0
        · right
          obtain ⟨u, sta⟩ := (i.take hg).ex
          obtain ⟨xs, stb⟩ := sta.ex
          obtain ⟨hu, stc⟩ := stb.iff
          rw [hE] at hu; cases hu
          rw [hv'] at stc
          obtain ⟨_, ⟨A, he, hk0, _⟩ | ⟨g, cap, cur, he, _⟩⟩ := stc.sep.ownOpen
          · omega
          · cases he
            refine ⟨_, g, hE, by rw [hv']; rfl, ?_⟩
            rw [if_neg (by omega), hbw]
            simp [add_lit, pOff]
      · rename_i t' l hsl
        obtain ⟨⟨X, c, hv, hc⟩, hden⟩ := slS_ok i hsl hx
        have hc : l.length ≤ c := hc
        cases hb : Nat.beq ei.size t'.w with
        | false => rw [hb, cond_false] at h; cases h
        | true =>
        rw [hb, cond_true] at h
        have hbw := Nat.eq_of_beq_eq_true hb
        obtain ⟨p, hp, h⟩ := loK_ok hρ h
        obtain ⟨q, hq, h⟩ := loK_ok hρ h
        obtain ⟨hpq, h⟩ := gd_some h
        obtain ⟨hql, h⟩ := gd_some h
        have hv' : (AF n τ).eval x = .slice X l.length c := hv
        rw [hv'] at hden
        have hcut := fz_cut hden hpq hql
        rw [← hbw] at hcut
        exact PureR.mk i h ⟨_, rfl, hcut⟩ fun w' => E.sliceG hd hes hv' hp hq hpq (Nat.le_trans hql hc)
      · rename_i t' l hsl
        obtain ⟨⟨X, c, hv, hc⟩, hden⟩ := slS_ok i hsl hx
        have hc : l.length ≤ c := hc
        cases hb : Nat.beq ei.size t'.w with
        | false => rw [hb, cond_false] at h; cases h
        | true =>
        rw [hb, cond_true] at h
        have hbw := Nat.eq_of_beq_eq_true hb
        obtain ⟨p, hp, h⟩ := loK_ok hρ h
        obtain ⟨q, hq, h⟩ := loK_ok hρ h
        obtain ⟨hpq, h⟩ := gd_some h
        obtain ⟨hql, h⟩ := gd_some h
        have hv' : (AF n τ).eval x = .slice X l.length c := hv
        rw [hv'] at hden
        have hcut := fz_cut hden hpq hql
        rw [← hbw] at hcut
        exact PureR.mk i h ⟨_, rfl, hcut⟩ fun w' => E.sliceG hd hes hv' hp hq hpq (Nat.le_trans hql hc)
  · rename_i m e hdd
    rw [hdd] at hd
    split at h <;> try (cases h; done)
    rename_i ei hei
    have hes := (tg_ok hT hei).size
    split at h <;> try (cases h; done)
    · rename_i id pa
      cases hab : arrB s id pa with
      | false => rw [hab, cond_false] at h; cases h
      | true =>
      rw [hab, cond_true] at h
      obtain ⟨p, hp, h⟩ := loK_ok hρ h
      obtain ⟨q, hq, h⟩ := loK_ok hρ h
      obtain ⟨hpq, h⟩ := gd_some h
      obtain ⟨hql, h⟩ := gd_some h
      obtain ⟨u, b, hE, hB, e⟩ := hx
      have e' : (AF n τ).eval x = .pointer (some ⟨b, pOff pa, none⟩) := by simpa using e
      refine PureR.mk i h ⟨_, _, rfl, by omega, ?_, u, hE, ?_⟩ fun w' => E.sliceArr hd hes e' hp hq hpq hql
      rotate_left
      · intro X0 n0 c0 z0 hu hpa
        have : pa = [] ∧ p = 0 := by
          cases pa with
          | nil => simp at hpa; exact ⟨rfl, hpa.1⟩
          | cons a l => exact absurd (congrArg List.length hpa) (by simp)
        obtain ⟨rfl, rfl⟩ := this
        simp only [arrB] at hab
        split at hab
        · rename_i hg
          obtain ⟨b', st1⟩ := (i.take hg).ex
          obtain ⟨cs, st2⟩ := st1.ex
          obtain ⟨hE', _⟩ := st2.iff
          rw [hE, hu] at hE'; cases hE'
        · cases hab
      rcases Nat.eq_zero_or_pos (q - p) with h0 | h0
      · exact .inl h0
      · right
        refine ⟨u, b, hE, hB, ?_⟩
        rw [if_neg (by omega)]
        simp [pOff_app, pOff]
    · rename_i n' t' l
      cases hb : Nat.beq ei.size t'.w && Nat.beq m n' with
      | false => rw [hb, cond_false] at h; cases h
      | true =>
      rw [hb, cond_true] at h
      simp only [Bool.and_eq_true] at hb
      have hbw := Nat.eq_of_beq_eq_true hb.1
      have hmn := Nat.eq_of_beq_eq_true hb.2
      subst hmn
      obtain ⟨p, hp, h⟩ := loK_ok hρ h
      obtain ⟨q, hq, h⟩ := loK_ok hρ h
      obtain ⟨hpq, h⟩ := gd_some h
      obtain ⟨hql, h⟩ := gd_some h
      obtain ⟨b, o, cs, e, hat, hln, hcat⟩ := hx
      have e' : (AF n τ).eval x = .pointer (some ⟨b, o, none⟩) := by simpa using e
      have hden : DenT K.p.h (.fz t') l [.slice (some ⟨b, o, none⟩) l.length m] := ⟨_, m, rfl, by omega, .inr ⟨b, o, cs, rfl, hat, hcat⟩⟩
      have hcut := fz_cut hden hpq (by omega : q ≤ l.length)
      refine PureR.mk i h ⟨_, rfl, hcut⟩ fun w' => ?_
      have hev := E.sliceArr (P := P) (dst := dst) (ty := ty) (pos := pos) (af := af) (gd' := gd') (w := w') hd hes e' hp hq hpq hql
      rw [← hbw]
      have hsh : (if m = p then some (⟨b, o, none⟩ : Addr) else (some (⟨b, o, none⟩ : Addr)).map (·.add (p * ei.size))) = some (if m = p then ⟨b, o, none⟩ else ⟨b, o + p * ei.size, none⟩) := by
        split <;> simp [Addr.add]
      rw [hsh]; exact hev
  · rename_i hdd
    rw [hdd] at hd
    split at h <;> try (cases h; done)
    rename_i l hl
    have e' := strS_ok hl hx
    obtain ⟨p, hp, h⟩ := loK_ok hρ h
    obtain ⟨q, hq, h⟩ := loK_ok hρ h
    obtain ⟨hpq, h⟩ := gd_some h
    obtain ⟨hql, h⟩ := gd_some h
    exact PureR.mk i h ⟨_, rfl, rfl⟩ fun w' => E.sliceStr hd e' hp hq hpq hql
end
end Go.GX
namespace Go.GX
open Go.RowKit Go.SL
set_option linter.unusedVariables false
set_option linter.unusedSimpArgs false
set_option linter.unnecessarySimpa false

theorem fz_src {m : Mem} {w : World} (hm : ∀ k o, m k = some o → w.heap[k]? = some o) {t : Ty} {l : List t.T} {v : Value} (h : DenT m (.fz t) l [v]) : ∃ ys, SL.Src w t.w v l.length ys ∧ Cat (fun x c => DenT m t x c) l ys := by
  obtain ⟨X, c, e, hc, h0⟩ := h
  cases e
  cases l with
  | nil => exact ⟨[], ⟨by simp, X, c, rfl, hc, .inl rfl⟩, rfl⟩
  | cons x l =>
    obtain ⟨b, o, ds, rfl, ⟨cs, e, f, hb, hj⟩, hcat⟩ := h0.resolve_left (by simp)
    refine ⟨ds, ⟨Cat.length (fun x c h => DenT.length h) hcat, _, c, rfl, hc, .inr ⟨b, o, rfl, fun j u hu => ?_⟩⟩, hcat⟩
    rw [cell_of_row w b (o + j) cs e f (hm _ _ hb)]
    exact hj j u hu
section
variable {β : Type}
/-- the things that are put behind a row -/
noncomputable def appFrom (s : SS) (b : SV) (t : Ty) (k : List t.T → SS → Option β) : Option β := match b with
  | .vr id => match hget s.hp id with
    | some (.row _ t' l) => (match castT (.fz t') (.fz t) l with
      | some y => bif t'.pure then k y s else k y { s with hp := hdel s.hp id }
      | none => none)
    | some (.fro t' l) => (match castT (.fz t') (.fz t) l with
      | some y => bif t'.pure then k y s else none
      | none => none)
    | _ => none
  | .d (.fz t') l => (match castT (.fz t') (.fz t) l with
      | some y => bif t'.pure then k y s else none
      | none => none)
  | .bd (.fz t') l => (match castT (.fz t') (.fz t) l with
      | some y => bif t'.flat then k y s else none
      | none => none)
  | .nilS => k [] s
  | .vw id pa m => vwC s id pa m t fun y => k y s
  | _ => none
/-- the row that grows -/
noncomputable def appTo (s : SS) (a : SV) (e : Nat) (t : Ty) (k : List t.T → SS → Option β) : Option β := match a with
  | .vr id => match hget s.hp id with
    | some (.row e' t' l) => (match castT (.vec e' t') (.vec e t) l with
      | some y => k y { s with hp := hdel s.hp id }
      | none => none)
    | _ => none
  | .nilS => k [] s
  | .vw id [.i lo z] m => match hget s.hp id with
    | some (.row e' t' l) => (match castT (.vec e' t') (.vec e t) l with
      | some y => bif Nat.beq z t'.w && t'.pure then gd (lo = 0) (gd (m ≤ List.length y) (k (List.take m y) { s with hp := hdel s.hp id })) else none
      | none => none)
    | _ => none
  | _ => none
end
theorem catA_mk {m : Mem} {t : Ty} (ht : t.pure = true) {l : List t.T} {ys : List Value} (h : Cat (fun x c => DenT m t x c) l ys) : CatA (fun x c => OA m t x c) l ys none0 := by
  rw [catA_pure (S := fun x c => DenT m t x c) (fun x c => oa_pure m t ht x c)]
  exact ⟨rfl, h⟩
theorem appFrom_ok {β : Type} {r : β} {s : SS} {b : SV} {t : Ty} {k : List t.T → SS → Option β} {v : Value} (h : appFrom s b t k = some r) {K : Kn} {w : World} (i : Inv K s w) (hb : b.den K v) :
    ∃ K' l s' ys, K.le K' ∧ Nx K' s' ∧ SL.Src w t.w v l.length ys ∧ St K'.p w (CatA (fun x c => OA K'.p.h t x c) l ys :: (asns K' s'.hp ++ [Exact K'.F])) ∧ k l s' = some r := by
  have mk : ∀ {l : List t.T} {ys : List Value}, t.pure = true → k l s = some r → SL.Src w t.w v l.length ys → Cat (fun x c => DenT K.p.h t x c) l ys → ∃ K' l s' ys, K.le K' ∧ Nx K' s' ∧ SL.Src w t.w v l.length ys ∧ St K'.p w (CatA (fun x c => OA K'.p.h t x c) l ys :: (asns K' s'.hp ++ [Exact K'.F])) ∧ k l s' = some r := by
    intro l ys ht hk hs hc
    exact ⟨K, l, s, ys, Kn.le.refl _, i.nx, hs, i.st.none0.weaken fun x hx => by rw [show x = none0 from hx]; exact catA_mk ht hc, hk⟩
  cases b <;> simp only [appFrom, reduceCtorEq] at h
  case d t' l =>
    cases t' <;> simp only [reduceCtorEq] at h
    rename_i t'
    split at h <;> try (cases h; done)
    rename_i y hy
    obtain ⟨e, hc⟩ := castT_eq hy
    cases e; cases hc
    cases hp : t.pure with
    | false => rw [hp, cond_false] at h; cases h
    | true =>
    rw [hp, cond_true] at h
    obtain ⟨v', e, hd⟩ := hb; cases e
    obtain ⟨ys, h1, h2⟩ := fz_src i.st.memP hd
    exact mk hp h h1 h2
  case bd t' l =>
    cases t' <;> simp only [reduceCtorEq] at h
    rename_i t'
    split at h <;> try (cases h; done)
    rename_i y hy
    obtain ⟨e, hc⟩ := castT_eq hy
    cases e; cases hc
    cases hp : t.flat with
    | false => rw [hp, cond_false] at h; cases h
    | true =>
    rw [hp, cond_true] at h
    obtain ⟨v', e, hd⟩ := hb; cases e
    obtain ⟨ys, h1, h2⟩ := fz_src i.memR hd
    exact mk (flat_pure hp) h h1 (Cat.mono (fun x c q => flat_mem hp q) h2)
  case vw id pa m =>
    have i0 := i.st
    obtain ⟨h0, ha, hdj, hheap, _⟩ := i0
    obtain ⟨l, ⟨X, c, rfl, hc, hl⟩, hlm, hp, hk⟩ := vw_den (M := hm w) hdj ha (fun k o q => hheap k o q) hb h
    cases l with
    | nil => exact mk hp hk ⟨by simp, X, c, rfl, hc, .inl rfl⟩ rfl
    | cons x l =>
      obtain ⟨b, o, ds, rfl, ⟨cs, e, f, hbk, hj⟩, hcat⟩ := hl.resolve_left (by simp)
      refine mk hp hk ⟨Cat.length (fun x c h => DenT.length h) hcat, _, c, rfl, hc, .inr ⟨b, o, rfl, fun j u hu => ?_⟩⟩ hcat
      rw [cell_of_row w b (o + j) cs e f hbk]
      exact hj j u hu
  case nilS =>
    have : v = .slice none 0 0 := by have q : [v] = [_] := hb; simpa using q
    subst this
    refine ⟨K, [], s, [], Kn.le.refl _, i.nx, ⟨by simp, none, 0, rfl, Nat.le_refl _, .inl rfl⟩, ?_, h⟩
    exact i.st.none0.weaken fun x hx => ⟨hx, rfl⟩
  case vr id =>
    obtain ⟨X, m, c, hE, e⟩ := hb
    have e' : v = .slice X m c := by simpa using e
    subst e'
    split at h <;> try (cases h; done)
    · rename_i e' t' l hg
      split at h <;> try (cases h; done)
      rename_i y hy
      obtain ⟨e, hc⟩ := castT_eq hy
      cases e; cases hc
      have s1 := i.take hg
      have src : ∀ {u : Value} {xs : List Value} {H : List Assn}, K.E id = some u → St K.p w (Own e' t.w u l.length xs :: H) → SL.Src w t.w (.slice X m c) l.length xs := by
        intro u xs H hu st
        rw [hE] at hu; cases hu
        exact Own.src st
      obtain ⟨u, sta⟩ := s1.ex
      obtain ⟨xs, stb⟩ := sta.ex
      obtain ⟨hu, stc⟩ := stb.iff
      have hsrc := src hu stc.sep
      cases hp : t.pure with
      | true =>
        rw [hp, cond_true] at h
        have std := stc.sep
        rw [catA_pure (S := fun x c => DenT K.p.h t x c) (fun x c => oa_pure _ t hp x c)] at std
        obtain ⟨hcat, _⟩ := (std.take (.there .here)).pu
        exact mk hp h hsrc hcat
      | false =>
        rw [hp, cond_false] at h
        exact ⟨K, l, _, xs, Kn.le.refl _, i.nx.hp, hsrc, stc.sep.drop, h⟩
    · rename_i t' l hg
      split at h <;> try (cases h; done)
      rename_i y hy
      obtain ⟨e, hc⟩ := castT_eq hy
      cases e; cases hc
      cases hp : t.pure with
      | false => rw [hp, cond_false] at h; cases h
      | true =>
      rw [hp, cond_true] at h
      obtain ⟨⟨u, hu, hd⟩, _⟩ := (i.take hg).pu
      rw [hE] at hu; cases hu
      obtain ⟨ys, h1, h2⟩ := fz_src i.st.memP hd
      exact mk hp h h1 h2
theorem _root_.Go.SL.St.swap' {p : Pers} {w : World} {H : List Assn} {A B : Assn} (s : St p w (A :: H)) (h : B Go.SL.none0) : St p w (A :: B :: H) :=
  (s.none0.weaken (B := B) fun x hx => by rw [show x = none0 from hx]; exact h).swap
theorem appTo_ok {β : Type} {r : β} {s : SS} {a : SV} {e : Nat} {t : Ty} {k : List t.T → SS → Option β} {v : Value} (h : appTo s a e t k = some r) {K : Kn} {w : World} {X : List Assn} (hn : Nx K s) (st : St K.p w (asns K s.hp ++ X)) (ha : a.den K v) :
    ∃ l s' xs, Nx K s' ∧ St K.p w (Own e t.w v l.length xs :: CatA (fun x c => OA K.p.h t x c) l xs :: (asns K s'.hp ++ X)) ∧ k l s' = some r := by
  cases a <;> simp only [appTo, reduceCtorEq] at h
  case nilS =>
    have : v = .slice none 0 0 := by have q : [v] = [_] := ha; simpa using q
    subst this
    have st1 : St K.p w (CatA (fun x c => OA K.p.h t x c) [] [] :: (asns K s.hp ++ X)) := st.none0.weaken fun x hx => ⟨hx, rfl⟩
    exact ⟨[], s, [], hn, st1.ownNil none, h⟩
  case vw id pa m =>
    obtain ⟨Y, c, e1, hmc, hY, u0, hu0, hcap⟩ := ha
    have e' : v = .slice Y m c := by simpa using e1
    subst e'
    cases pa with
    | nil => simp only [reduceCtorEq] at h
    | cons a pa =>
    cases a with
    | f _ _ => simp only [reduceCtorEq] at h
    | i lo z =>
    cases pa with
    | cons _ _ => simp only [reduceCtorEq] at h
    | nil =>
    simp only at h
    split at h <;> try (cases h; done)
    rename_i e' t' l hg
    split at h <;> try (cases h; done)
    rename_i y hy
    obtain ⟨e2, hc⟩ := castT_eq hy
    cases e2; cases hc
    cases hb : Nat.beq z t.w && t.pure with
    | false => rw [hb, cond_false] at h; cases h
    | true =>
    rw [hb, cond_true] at h
    simp only [Bool.and_eq_true] at hb
    have := Nat.eq_of_beq_eq_true hb.1; subst this
    obtain ⟨hlo, hh1⟩ := gd_some h
    obtain ⟨hml, hh2⟩ := gd_some hh1
    clear h hh1
    subst hlo
    have hml' : m ≤ l.length := hml
    have s1 := st.take (hget_del (R := X) hg)
    obtain ⟨u, sta⟩ := s1.ex
    obtain ⟨xs, stb⟩ := sta.ex
    obtain ⟨hu, stc⟩ := stb.iff
    rw [hu0] at hu; cases hu
    have std := stc.sep
    rw [catA_pure (S := fun x c => DenT K.p.h t x c) (fun x c => oa_pure _ t hb.2 x c)] at std
    obtain ⟨hcat, ste⟩ := (std.take (.there .here)).pu
    have hsp : ∃ a b, xs = a ++ b ∧ Cat (fun x c => DenT K.p.h t x c) (l.take m) a ∧ Cat (fun x c => DenT K.p.h t x c) (l.drop m) b := Cat.split (by rw [List.take_append_drop]; exact hcat)
    obtain ⟨a, b, rfl, ha1, _⟩ := hsp
    have hal : a.length = m * t.w := by rw [Cat.length (k := t.w) (fun x c h => DenT.length h) ha1, List.length_take, Nat.min_eq_left hml']
    have hlt : (l.take m).length = m := by rw [List.length_take]; omega
    refine ⟨l.take m, { s with hp := hdel s.hp id }, a, hn.hp, ?_, hh2⟩
    have own : St K.p w (Own e t.w (.slice Y m c) m a :: (asns K (hdel s.hp id) ++ X)) := by
      obtain ⟨hln, ⟨A, he, h0, st0⟩ | ⟨g, cap, cur, he, stp, h1, h2, h3, h4⟩⟩ := ste.ownOpen
      · obtain ⟨hX, hcc⟩ := hcap _ _ _ _ he rfl
        have hm0 : m = 0 := by omega
        subst hm0
        have : a = [] := List.eq_nil_of_length_eq_zero (by rw [hal]; simp)
        subst this
        subst hcc
        exact St.ownNil Y st0
      · obtain ⟨rfl, rfl⟩ := hcap _ _ _ _ he rfl
        refine stp.ownNew (n := m) (by omega) h2 h3 ?_
        have : cur.toList.take (m * t.w) = (a ++ b).take (m * t.w) := by
          rw [← h4, List.take_take, Nat.min_eq_left (Nat.mul_le_mul_right _ hml')]
        rw [this, ← hal]; simp
    rw [hlt]
    exact (own.swap' (catA_mk hb.2 ha1))
  case vr id =>
    obtain ⟨Y, m, c, hE, e1⟩ := ha
    have e' : v = .slice Y m c := by simpa using e1
    subst e'
    split at h <;> try (cases h; done)
    rename_i e' t' l hg
    split at h <;> try (cases h; done)
    rename_i y hy
    obtain ⟨e2, hc⟩ := castT_eq hy
    cases e2; cases hc
    have s1 := st.take (hget_del (R := X) hg)
    obtain ⟨u, sta⟩ := s1.ex
    obtain ⟨xs, stb⟩ := sta.ex
    obtain ⟨hu, stc⟩ := stb.iff
    rw [hE] at hu; cases hu
    exact ⟨l, _, xs, hn.hp, stc.sep, h⟩
theorem CatA.append {α : Type} {R : α → List Value → Assn} : ∀ {l m : List α} {xs ys : List Value} {h1 h2 : Hp}, CatA R l xs h1 → CatA R m ys h2 → disj h1 h2 → CatA R (l ++ m) (xs ++ ys) (uni h1 h2) := by
  intro l
  induction l with
  | nil =>
    intro m xs ys h1 h2 a b d
    obtain ⟨rfl, rfl⟩ := a
    rw [none0_uni]; exact b
  | cons x l ih =>
    intro m xs ys h1 h2 a b d
    obtain ⟨c1, c2, rfl, p, q, d2, rfl, hx, hl⟩ := a
    obtain ⟨d3, d4⟩ := uni_disj.1 d
    rw [uni_assoc, List.append_assoc]
    exact ⟨c1, c2 ++ ys, rfl, p, uni q h2, disj_uni.2 ⟨d2, d3⟩, rfl, hx, ih hl b d4⟩
section
variable {P : Program} {n : Nat} {τ : Fr} {w : World} {β : Type} {dst : Option Tmp} {ty : TypeId} {pos : String} {af : Array Edge} {gd' : Option (Nat × Bool)} {K : Kn} {s : SS} {k : SV → SS → Option β} {r : β} {ρ : Rho} {T : TB}
/-- few enough for any memory -/
noncomputable def few (a b : Nat) : Prop := a + b ≤ 4294967296
instance (a b : Nat) : Decidable (few a b) := inferInstanceAs (Decidable (_ ≤ _))
noncomputable def opAppend (T : TB) (ρ : Rho) (s : SS) (t : Nat) (x y : Operand) (k : SV → SS → Option β) : Option β := match ρ x, ρ y, tg T t with
  | some a, some b, some ti => match ti.desc with
    | .slice e => match tg T e with
      | some ei => bif Nat.beq ei.size ei.ty.w && Nat.ble ei.bytes 32768 then
          appFrom s b ei.ty fun l2 s1 => appTo s1 a e ei.ty fun l1 s2 => gd (few l1.length l2.length) (k (.vr s2.nx) (add1 s2 (.row e ei.ty (l1 ++ l2)))) else none
      | none => none
    | _ => none
  | _, _, _ => none
theorem opAppend_ok (hT : T.ok P) (hρ : RhoOk K ρ (AF n τ).eval) (i : Inv K s w) {t : Nat} {x y : Operand} (h : opAppend T ρ s t x y k = some r) : OpR P n ⟨dst, .call ⟨.builtin .append, #[x, y], #[t, t]⟩, ty, pos, af, gd'⟩ τ w K k r := by
  unfold opAppend at h
  split at h <;> try (cases h; done)
  rename_i a b ti ha hb hti
  have hx := hρ _ _ ha
  have hy := hρ _ _ hb
  have hd := (tg_ok hT hti).desc
  split at h <;> try (cases h; done)
  rename_i e hdd
  rw [hdd] at hd
  split at h <;> try (cases h; done)
  rename_i ei hei
  have ok := tg_ok hT hei
  cases hq : Nat.beq ei.size ei.ty.w && Nat.ble ei.bytes 32768 with
  | false => rw [hq, cond_false] at h; cases h
  | true =>
  rw [hq, cond_true] at h
  simp only [Bool.and_eq_true] at hq
  have hw := Nat.eq_of_beq_eq_true hq.1
  have hbytes := Nat.le_of_ble_eq_true hq.2
  obtain ⟨K1, l2, s1, ys, le1, hn1, hsrc, st1, h⟩ := appFrom_ok h i hy
  have st1' : St K1.p w (asns K1 s1.hp ++ ([CatA (fun x c => OA K1.p.h ei.ty x c) l2 ys] ++ [Exact K1.F])) := st1.give (Del.mid _)
  obtain ⟨l1, s2, xs, hn2, st2, h⟩ := appTo_ok h hn1 st1' (SV.mono le1 hx)
  obtain ⟨hfew, hk⟩ := gd_some h
  have hones : ∀ u ∈ ys, u.oneCell' = true := by
    obtain ⟨hh, hall, _⟩ := id st1
    obtain ⟨p, q, _, _, hc, _⟩ := hall
    exact CatA.ones (fun _ _ _ => OA.ones) hc
  have hfit : (l1.length + l2.length) * ei.bytes ≤ 140737488355328 := Nat.le_trans (Nat.mul_le_mul hfew hbytes) (by decide)
  have h63 : l1.length + l2.length ≤ maxLen := Nat.le_trans hfew (by decide)
  have hsrc' : SL.Src w ei.ty.w ((AF n τ).eval y) l2.length ys := hsrc
  refine Go.SL.H.append (sz := ei.ty.w) (bytes := ei.bytes) (z := ei.z) hd (by rw [ok.info, hw]) (by rw [ok.zs, hw]) rfl rfl st2 .here hsrc' hones hfit h63 fun v w' _ st3 => ?_
  have st4 : St K1.p w' ((EN.row e ei.ty (l1 ++ l2)).asn (K1.name v) K1.nx :: (asns K1 s2.hp ++ ([] ++ [Exact K1.F]))) := by
    have q1 := St.perm st3 (l' := CatA (fun x c => OA K1.p.h ei.ty x c) l1 xs :: CatA (fun x c => OA K1.p.h ei.ty x c) l2 ys :: Own e ei.ty.w v (l1.length + l2.length) (xs ++ ys) :: (asns K1 s2.hp ++ [Exact K1.F])) (by
      refine (List.Perm.swap _ _ _).trans (List.Perm.cons _ ?_)
      refine (List.Perm.cons _ List.perm_middle).trans ?_
      exact List.Perm.swap _ _ _)
    have q2 := (St.mksep q1).weaken (B := CatA (fun x c => OA K1.p.h ei.ty x c) (l1 ++ l2) (xs ++ ys)) (by
      rintro h ⟨p, q, d, rfl, hp, hq⟩; exact CatA.append hp hq d)
    exact St.mkex v (St.mkex (xs ++ ys) (St.mkiff Kn.name_eq (St.mksep (by rw [List.length_append]; exact q2.swap))))
  have hv : ∃ Y c, v = .slice Y (l1 ++ l2).length c := by
    obtain ⟨hh, hall, _⟩ := id st3
    obtain ⟨p, q, _, _, hc, _⟩ := hall
    obtain ⟨Y, c, e⟩ := own_slice hc
    exact ⟨Y, c, by rw [List.length_append]; exact e⟩
  obtain ⟨Y, c, hv⟩ := hv
  obtain ⟨le, i'⟩ := Inv2.name hn2 st4
  exact ⟨.vr s2.nx, _, _, le1.trans le, i'.inv, ⟨Y, _, c, by rw [hn2.eq, ← hv]; exact Kn.name_eq, by rw [hv]⟩, hk⟩
end
end Go.GX
