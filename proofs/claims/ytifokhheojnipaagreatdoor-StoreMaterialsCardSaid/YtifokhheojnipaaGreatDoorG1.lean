/- Kinds of values, plainly: what a value of each kind is, how many cells it takes, and how cells tell it; what lies in memory that nobody writes any more, and what is held. -/
import Derived.Test.YtifokhheojnipaaGreatDoorA2
set_option linter.unusedVariables false
set_option linter.unusedSimpArgs false
set_option linter.unnecessarySimpa false
namespace Go.GX
open Go.RowKit Go.SL
set_option linter.unusedVariables false
set_option linter.unusedSimpArgs false

inductive Ty where
  | int | u8 | u16 | u32 | u64 | bool | str | unit
  | pair (a b : Ty)
  | arr (n : Nat) (a : Ty)
  | fz (a : Ty)
  | vec (e : Nat) (a : Ty)
  | box (e : Nat) (a : Ty)
  | obox (e : Nat) (a : Ty)
  | map (a : Ty)

@[reducible] def Ty.T : Ty → Type
  | .int => Int | .u8 => BitVec 8 | .u16 => BitVec 16 | .u32 => BitVec 32 | .u64 => BitVec 64 | .bool => Bool | .str => List (BitVec 8) | .unit => Unit
  | .pair a b => a.T × b.T
  | .arr _ a => List a.T
  | .fz a => List a.T
  | .vec _ a => List a.T
  | .box _ a => a.T
  | .obox _ a => Option a.T
  | .map a => List (Int × a.T)
/-- how many cells -/
def Ty.w : Ty → Nat
  | .unit => 0
  | .pair a b => a.w + b.w
  | .arr n a => n * a.w
  | _ => 1
/-- nothing in it is held -/
def Ty.pure : Ty → Bool
  | .pair a b => a.pure && b.pure
  | .arr _ a => a.pure
  | .fz a => a.pure
  | .vec _ _ | .box _ _ | .obox _ _ | .map _ => false
  | _ => true
/-- nothing in it leads anywhere -/
def Ty.flat : Ty → Bool
  | .pair a b => a.flat && b.flat
  | .arr _ a => a.flat
  | .fz _ | .vec _ _ | .box _ _ | .obox _ _ | .map _ => false
  | _ => true
/-- is a value of it cells, taken together? -/
def Ty.agg : Ty → Bool
  | .pair _ _ | .arr _ _ | .unit => true
  | _ => false
def Ty.beq : Ty → Ty → Bool
  | .int, .int | .u8, .u8 | .u16, .u16 | .u32, .u32 | .u64, .u64 | .bool, .bool | .str, .str | .unit, .unit => true
  | .pair a b, .pair c d => a.beq c && b.beq d
  | .arr n a, .arr m b => Nat.beq n m && a.beq b
  | .fz a, .fz b => a.beq b
  | .vec e a, .vec f b => Nat.beq e f && a.beq b
  | .box e a, .box f b => Nat.beq e f && a.beq b
  | .obox e a, .obox f b => Nat.beq e f && a.beq b
  | .map a, .map b => a.beq b
  | _, _ => false
theorem Ty.eq_of_beq : ∀ {a b : Ty}, a.beq b = true → a = b := by
  intro a
  induction a <;> intro b h <;> cases b <;> simp only [Ty.beq, Bool.and_eq_true, Bool.false_eq_true] at h <;> (try rfl)
  · rename_i iha ihb c d; rw [iha h.1, ihb h.2]
  · rename_i ih m b; rw [Nat.eq_of_beq_eq_true h.1, ih h.2]
  · rename_i ih b; rw [ih h]
  · rename_i ih m b; rw [Nat.eq_of_beq_eq_true h.1, ih h.2]
  · rename_i ih m b; rw [Nat.eq_of_beq_eq_true h.1, ih h.2]
  · rename_i ih m b; rw [Nat.eq_of_beq_eq_true h.1, ih h.2]
  · rename_i ih b; rw [ih h]
/-- a value of one kind as one of another, if it is the same kind -/
def castT (a b : Ty) (x : a.T) : Option b.T := if h : a.beq b = true then some (Ty.eq_of_beq h ▸ x) else none
theorem castT_eq {a b : Ty} {x : a.T} {y : b.T} (h : castT a b x = some y) : ∃ e : a = b, e ▸ x = y := by
  unfold castT at h
  split at h
  · exact ⟨Ty.eq_of_beq (by assumption), by simpa using h⟩
  · cases h

abbrev Mem := Nat → Option Obj
/-- the cells cs stand in block b, from o on -/
def At (m : Mem) (b o : Nat) (cs : List Value) : Prop := ∃ c e f, m b = some (.cells c e f) ∧ ∀ j v, cs[j]? = some v → c[o + j]? = some v
/-- the cells of some things, one behind the other -/
def Cat {α : Type} (R : α → List Value → Prop) : List α → List Value → Prop
  | [], cs => cs = []
  | x :: l, cs => ∃ a b, cs = a ++ b ∧ R x a ∧ Cat R l b
@[reducible] def strV (l : List (BitVec 8)) : Value := .string ⟨(l.map UInt8.ofBitVec).toArray⟩
/-- cells tell a value, by what lies in memory -/
def DenT (m : Mem) : (t : Ty) → t.T → List Value → Prop
  | .int, z, cs => cs = [.int .i64 z]
  | .u8, x, cs => cs = [.int .u8 (x.toNat : Int)]
  | .u16, x, cs => cs = [.int .u16 (x.toNat : Int)]
  | .u32, x, cs => cs = [.int .u32 (x.toNat : Int)]
  | .u64, x, cs => cs = [.int .u64 (x.toNat : Int)]
  | .bool, b, cs => cs = [.bool b]
  | .str, l, cs => cs = [strV l]
  | .unit, _, cs => cs = []
  | .pair a b, x, cs => ∃ c d, cs = c ++ d ∧ DenT m a x.1 c ∧ DenT m b x.2 d
  | .arr n a, l, cs => l.length = n ∧ Cat (fun x c => DenT m a x c) l cs
  | .fz a, l, cs => ∃ X c, cs = [.slice X l.length c] ∧ l.length ≤ c ∧ (l.length = 0 ∨ ∃ b o ds, X = some ⟨b, o, none⟩ ∧ At m b o ds ∧ Cat (fun x c => DenT m a x c) l ds)
  | .vec _ _, _, _ => False
  | .box _ _, _, _ => False
  | .obox _ _, _, _ => False
  | .map _, _, _ => False
/-- a value of a kind -/
def VD (m : Mem) (t : Ty) (x : t.T) (v : Value) : Prop := match t.agg with
  | true => ∃ cs : List Value, v = .agg cs.toArray ∧ DenT m t x cs
  | false => DenT m t x [v]
/-- what a map holds, key by key -/
def MRel (m : Mem) (t : Ty) : List (Int × t.T) → List (Int × Value) → Prop
  | [], [] => True
  | (k, x) :: l, (q, v) :: r => k = q ∧ VD m t x v ∧ MRel m t l r
  | _, _ => False

theorem At.sub {m n : Mem} {b o : Nat} {cs : List Value} (h : At m b o cs) (hm : ∀ k o, m k = some o → n k = some o) : At n b o cs := by
  obtain ⟨c, e, f, h1, h2⟩ := h
  exact ⟨c, e, f, hm _ _ h1, h2⟩
theorem Cat.mono {α : Type} {R S : α → List Value → Prop} (h : ∀ x c, R x c → S x c) : ∀ {l : List α} {cs : List Value}, Cat R l cs → Cat S l cs := by
  intro l
  induction l with
  | nil => intro cs h; exact h
  | cons x l ih => intro cs ⟨a, b, e, h1, h2⟩; exact ⟨a, b, e, h _ _ h1, ih h2⟩
theorem DenT.sub {m n : Mem} (hm : ∀ k o, m k = some o → n k = some o) : ∀ {t : Ty} {x : t.T} {cs : List Value}, DenT m t x cs → DenT n t x cs := by
  intro t
  induction t with
  | pair a b iha ihb => intro x cs ⟨c, d, e, h1, h2⟩; exact ⟨c, d, e, iha h1, ihb h2⟩
  | arr k a ih => intro x cs ⟨h1, h2⟩; exact ⟨h1, Cat.mono (fun x c h => ih h) h2⟩
  | fz a ih =>
    intro x cs ⟨X, c, e, hc, h⟩
    refine ⟨X, c, e, hc, h.imp id ?_⟩
    rintro ⟨b, o, ds, h1, h2, h3⟩
    exact ⟨b, o, ds, h1, h2.sub hm, Cat.mono (fun x c h => ih h) h3⟩
  | _ => intro x cs h; exact h
theorem Cat.length {α : Type} {R : α → List Value → Prop} {k : Nat} (h : ∀ x c, R x c → c.length = k) : ∀ {l : List α} {cs : List Value}, Cat R l cs → cs.length = l.length * k := by
  intro l
  induction l with
  | nil => intro cs h; rw [show cs = [] from h]; simp
  | cons x l ih => intro cs ⟨a, b, e, h1, h2⟩; rw [e, List.length_append, h _ _ h1, ih h2, List.length_cons, Nat.add_mul]; omega
theorem DenT.length {m : Mem} : ∀ {t : Ty} {x : t.T} {cs : List Value}, DenT m t x cs → cs.length = t.w := by
  intro t
  induction t with
  | pair a b iha ihb => intro x cs ⟨c, d, e, h1, h2⟩; rw [e, List.length_append, iha h1, ihb h2]; rfl
  | arr k a ih => intro x cs ⟨h1, h2⟩; rw [Cat.length (fun x c h => ih h) h2, h1]; rfl
  | fz a ih => intro x cs ⟨X, c, e, hc, h⟩; rw [e]; rfl
  | vec e a ih => intro x cs h; exact h.elim
  | box e a ih => intro x cs h; exact h.elim
  | obox e a ih => intro x cs h; exact h.elim
  | map a ih => intro x cs h; exact h.elim
  | unit => intro x cs h; rw [show cs = [] from h]; rfl
  | _ => intro x cs h; rw [show cs = [_] from h]; rfl
theorem Cat.ones {α : Type} {R : α → List Value → Prop} (h : ∀ x c, R x c → ∀ u ∈ c, u.oneCell' = true) : ∀ {l : List α} {cs : List Value}, Cat R l cs → ∀ u ∈ cs, u.oneCell' = true := by
  intro l
  induction l with
  | nil => intro cs h u hu; rw [show cs = [] from h] at hu; cases hu
  | cons x l ih =>
    intro cs ⟨a, b, e, h1, h2⟩ u hu
    rw [e] at hu
    rcases List.mem_append.1 hu with q | q
    · exact h _ _ h1 u q
    · exact ih h2 u q
theorem DenT.ones {m : Mem} : ∀ {t : Ty} {x : t.T} {cs : List Value}, DenT m t x cs → ∀ u ∈ cs, u.oneCell' = true := by
  intro t
  induction t with
  | pair a b iha ihb =>
    intro x cs ⟨c, d, e, h1, h2⟩ u hu
    rw [e] at hu
    rcases List.mem_append.1 hu with q | q
    · exact iha h1 u q
    · exact ihb h2 u q
  | arr k a ih => intro x cs ⟨h1, h2⟩; exact Cat.ones (fun x c h => ih h) h2
  | fz a ih => intro x cs ⟨X, c, e, hc, h⟩ u hu; rw [e, List.mem_singleton] at hu; subst hu; rfl
  | vec e a ih => intro x cs h; exact h.elim
  | box e a ih => intro x cs h; exact h.elim
  | obox e a ih => intro x cs h; exact h.elim
  | map a ih => intro x cs h; exact h.elim
  | unit => intro x cs h u hu; rw [show cs = [] from h] at hu; cases hu
  | _ => intro x cs h u hu; rw [show cs = [_] from h, List.mem_singleton] at hu; subst hu; rfl

/-! ### what is held -/
def sep (A B : Assn) : Assn := fun h => ∃ a b, disj a b ∧ h = uni a b ∧ A a ∧ B b
/-- something that is so, and holds nothing -/
def Pu (c : Prop) : Assn := fun h => h = none0 ∧ c
def CatA {α : Type} (R : α → List Value → Assn) : List α → List Value → Assn
  | [], cs => Pu (cs = [])
  | x :: l, cs => Ex fun a => Ex fun b => If (cs = a ++ b) (sep (R x a) (CatA R l b))
def OA (m : Mem) : (t : Ty) → t.T → List Value → Assn
  | .pair a b, x, cs => Ex fun c => Ex fun d => If (cs = c ++ d) (sep (OA m a x.1 c) (OA m b x.2 d))
  | .arr n a, l, cs => If (l.length = n) (CatA (fun x c => OA m a x c) l cs)
  | .vec e a, l, cs => Ex fun v => Ex fun xs => If (cs = [v]) (sep (Own e a.w v l.length xs) (CatA (fun x c => OA m a x c) l xs))
  | .box e a, x, cs => Ex fun b => Ex fun xs : List Value => If (cs = [.pointer (some ⟨b, 0, none⟩)]) (sep (pt b (.cells xs.toArray e)) (OA m a x xs))
  | .map a, l, cs => Ex fun b => Ex fun ks : List (Int × Value) => If (cs = [.map (some b)] ∧ a.pure = true) (sep (MapI b ks) (Pu (MRel m a l ks)))
  | .obox e a, o, cs => match o with
    | none => Pu (cs = [.pointer none])
    | some x => Ex fun b => Ex fun xs : List Value => If (cs = [.pointer (some ⟨b, 0, none⟩)]) (sep (pt b (.cells xs.toArray e)) (OA m a x xs))
  | t, x, cs => Pu (DenT m t x cs)

section
variable {p : Pers} {w : World} {H : List Assn} {A B : Assn}
theorem _root_.Go.SL.St.sep (s : St p w (sep A B :: H)) : St p w (A :: B :: H) := by
  obtain ⟨h, ⟨x, y, d, rfl, ⟨a, b, d2, rfl, hA, hB⟩, hy⟩, r⟩ := s
  obtain ⟨d3, d4⟩ := uni_disj.1 d
  exact ⟨_, ⟨a, uni b y, disj_uni.2 ⟨d2, d3⟩, uni_assoc _ _ _, hA, b, y, d4, rfl, hB, hy⟩, r⟩
theorem _root_.Go.SL.St.mksep (s : St p w (A :: B :: H)) : St p w (GX.sep A B :: H) := by
  obtain ⟨h, ⟨a, z, d, rfl, hA, b, y, d2, rfl, hB, hy⟩, r⟩ := s
  obtain ⟨d3, d4⟩ := disj_uni.1 d
  exact ⟨_, ⟨uni a b, y, uni_disj.2 ⟨d4, d2⟩, (uni_assoc _ _ _).symm, ⟨a, b, d3, rfl, hA, hB⟩, hy⟩, r⟩
theorem _root_.Go.SL.St.pu {c : Prop} (s : St p w (Pu c :: H)) : c ∧ St p w H := by
  obtain ⟨h, ⟨x, y, d, rfl, ⟨rfl, hc⟩, hy⟩, r⟩ := s
  exact ⟨hc, y, hy, by rw [none0_uni] at r; exact r⟩
theorem _root_.Go.SL.St.mkpu {c : Prop} (hc : c) (s : St p w H) : St p w (Pu c :: H) := s.none0.weaken fun x hx => ⟨hx, hc⟩
theorem _root_.Go.SL.St.mkiff {c : Prop} (hc : c) (s : St p w (A :: H)) : St p w (If c A :: H) := s.weaken fun x hx => ⟨hc, hx⟩
theorem _root_.Go.SL.St.mkex {α : Type} {A : α → Assn} (x : α) (s : St p w (A x :: H)) : St p w (Ex A :: H) := s.weaken fun y hy => ⟨x, hy⟩
/-- everything but this may be let go of, and taken again -/
theorem _root_.Go.SL.St.memP (s : St p w H) : ∀ k o, p.h k = some o → w.heap[k]? = some o := fun k o h => s.pers h
end

/-- of a kind that holds nothing: what is held is told -/
theorem catA_pure {α : Type} {R : α → List Value → Assn} {S : α → List Value → Prop} (h : ∀ x c, R x c = Pu (S x c)) : ∀ (l : List α) (cs : List Value), CatA R l cs = Pu (Cat S l cs) := by
  intro l
  induction l with
  | nil => intro cs; rfl
  | cons x l ih =>
    intro cs
    funext hp
    apply propext
    constructor
    · rintro ⟨a, b, e, x1, x2, d, rfl, hx, hl⟩
      rw [h] at hx; rw [ih] at hl
      obtain ⟨rfl, hx⟩ := hx
      obtain ⟨rfl, hl⟩ := hl
      exact ⟨by rw [none0_uni], a, b, e, hx, hl⟩
    · rintro ⟨rfl, a, b, e, hx, hl⟩
      refine ⟨a, b, e, none0, none0, disj_none0 _, by rw [none0_uni], ?_, ?_⟩
      · rw [h]; exact ⟨rfl, hx⟩
      · rw [ih]; exact ⟨rfl, hl⟩
theorem oa_pure (m : Mem) : ∀ (t : Ty), t.pure = true → ∀ (x : t.T) (cs : List Value), OA m t x cs = Pu (DenT m t x cs) := by
  intro t
  induction t with
  | pair a b iha ihb =>
    intro hp x cs
    simp only [Ty.pure, Bool.and_eq_true] at hp
    funext h
    apply propext
    constructor
    · rintro ⟨c, d, e, h1, h2, dj, rfl, ha, hb⟩
      rw [iha hp.1] at ha; rw [ihb hp.2] at hb
      obtain ⟨rfl, ha⟩ := ha
      obtain ⟨rfl, hb⟩ := hb
      exact ⟨by rw [none0_uni], c, d, e, ha, hb⟩
    · rintro ⟨rfl, c, d, e, ha, hb⟩
      refine ⟨c, d, e, none0, none0, disj_none0 _, by rw [none0_uni], ?_, ?_⟩
      · rw [iha hp.1]; exact ⟨rfl, ha⟩
      · rw [ihb hp.2]; exact ⟨rfl, hb⟩
  | arr n a ih =>
    intro hp x cs
    simp only [Ty.pure] at hp
    funext h
    apply propext
    show (x.length = n ∧ CatA _ x cs h) ↔ (h = none0 ∧ x.length = n ∧ Cat _ x cs)
    rw [catA_pure (S := fun x c => DenT m a x c) (fun x c => ih hp x c)]
    exact ⟨fun ⟨a, b, c⟩ => ⟨b, a, c⟩, fun ⟨a, b, c⟩ => ⟨b, a, c⟩⟩
  | vec e a ih => intro hp; cases hp
  | box e a ih => intro hp; cases hp
  | obox e a ih => intro hp; cases hp
  | map a ih => intro hp; cases hp
  | _ => intro hp x cs; rfl
end Go.GX
namespace Go.GX
open Go.RowKit Go.SL
set_option linter.unusedVariables false
set_option linter.unusedSimpArgs false

inductive Step where
  | f (k o : Nat)
  | i (j z : Nat)
def pOff : List Step → Nat
  | [] => 0
  | .f _ o :: l => o + pOff l
  | .i j z :: l => j * z + pOff l
/-- a symbolic value -/
inductive SV where
  | d (t : Ty) (x : t.T)
  | bd (t : Ty) (x : t.T)
  | dp (t : Ty) (x : t.T)
  | bp (t : Ty) (x : t.T)
  | ptr (id : Nat) (pa : List Step)
  | vr (id : Nat)
  | vw (id : Nat) (pa : List Step) (m : Nat)
  | nilS | nilP | nilF | nilM | nilI
  | fn (f : Fn) (b c : SV)
  | ag (c : SV)
  | tup (c : SV)
  | pr (a b : SV)
  | nl
  | ifc (t : TypeId) (s : SV)
  | mp (id : Nat)
  | lit (v : Value)
  | un
/-- what is known: what lasts, the names' values, what is beside -/
structure Kn where
  p : Pers
  E : Nat → Option Value
  F : Hp
  B : Nat → Hp
  nx : Nat
/-- what may be read, as long as the call goes on -/
def Kn.rd (K : Kn) : Mem := uni K.p.h K.F
structure Kn.le (K L : Kn) : Prop where
  p : K.p.le L.p
  E : ∀ k v, K.E k = some v → L.E k = some v
  F : L.F = K.F
  B : ∀ k v, K.E k = some v → L.B k = K.B k
  nx : K.nx ≤ L.nx
  N : ∀ k, k < K.nx → K.E k = none → L.E k = none
  rd : ∀ k o, K.rd k = some o → L.rd k = some o
theorem Kn.le.refl (K : Kn) : K.le K := ⟨Pers.le_refl _, fun _ _ h => h, rfl, fun _ _ _ => rfl, Nat.le_refl _, fun _ _ h => h, fun _ _ h => h⟩
theorem Kn.le.trans {K L M : Kn} (a : K.le L) (b : L.le M) : K.le M := ⟨a.p.trans b.p, fun k v h => b.E _ _ (a.E _ _ h), b.F.trans a.F, fun k v h => (b.B k v (a.E _ _ h)).trans (a.B k v h), Nat.le_trans a.nx b.nx, fun k h1 h2 => b.N k (Nat.lt_of_lt_of_le h1 a.nx) (a.N k h1 h2), fun k v h => b.rd _ _ (a.rd _ _ h)⟩
@[reducible] def Exact (F : Hp) : Assn := fun h => h = F
/-- what is told stays told -/
structure Kn.lw (K L : Kn) : Prop where
  p : K.p.le L.p
  E : ∀ k v, K.E k = some v → L.E k = some v
  B : ∀ k v, K.E k = some v → L.B k = K.B k
  rd : ∀ k o, K.rd k = some o → L.rd k = some o
theorem Kn.le.w {K L : Kn} (h : K.le L) : K.lw L := ⟨h.p, h.E, h.B, h.rd⟩
/-- one value, cells, or a list of values -/
inductive Vw where
  | v | c | l
@[reducible] def hm (w : World) : Mem := fun k => w.heap[k]?
/-- a name's value leads to the begin of block b -/
def Base : Value → Nat → Prop
  | .pointer (some a), b => a = ⟨b, 0, none⟩
  | .slice (some a) _ _, b => a = ⟨b, 0, none⟩
  | _, _ => False
def SV.dn (K : Kn) : SV → Vw → List Value → Prop
  | .d t x, .v, vs => ∃ v, vs = [v] ∧ VD K.p.h t x v
  | .bd t x, .v, vs => ∃ v, vs = [v] ∧ VD K.rd t x v
  | .dp t x, .v, vs => ∃ b o cs, vs = [.pointer (some ⟨b, o, none⟩)] ∧ At K.p.h b o cs ∧ DenT K.p.h t x cs
  | .bp t x, .v, vs => ∃ b o cs, vs = [.pointer (some ⟨b, o, none⟩)] ∧ At K.rd b o cs ∧ DenT K.rd t x cs
  | .ptr id pa, .v, vs => ∃ u b, K.E id = some u ∧ Base u b ∧ vs = [.pointer (some ⟨b, pOff pa, none⟩)]
  | .vr id, .v, vs => ∃ X n c, K.E id = some (.slice X n c) ∧ vs = [.slice X n c]
  | .vw id pa m, .v, vs => ∃ X c, vs = [.slice X m c] ∧ m ≤ c ∧ (m = 0 ∨ ∃ u b, K.E id = some u ∧ Base u b ∧ X = some ⟨b, pOff pa, none⟩) ∧ ∃ u, K.E id = some u ∧ ∀ X0 n0 c0 z, u = .slice X0 n0 c0 → pa = [.i 0 z] → X = X0 ∧ c = c0
  | .nilS, .v, vs => vs = [.slice none 0 0]
  | .nilP, .v, vs => vs = [.pointer none]
  | .nilF, .v, vs => vs = [.nilFunc]
  | .nilM, .v, vs => vs = [.map none]
  | .nilI, .v, vs => vs = [.nilIface]
  | .fn f b c, .v, vs => ∃ lb l, vs = [.func f lb.toArray l.toArray] ∧ b.dn K .l lb ∧ c.dn K .l l
  | .ag c, .v, vs => ∃ cs, vs = [.agg cs.toArray] ∧ c.dn K .c cs
  | .tup c, .v, vs => ∃ l, vs = [.tuple l.toArray] ∧ c.dn K .l l
  | .ifc t s, .v, vs => ∃ v, vs = [.iface t v] ∧ s.dn K .v [v]
  | .mp id, .v, vs => ∃ b, K.E id = some (.map (some b)) ∧ vs = [.map (some b)]
  | .lit v, .v, vs => vs = [v]
  | .un, .v, vs => vs = [undef]
  | .pr a b, .c, cs => ∃ v d, cs = v.cells.toList ++ d ∧ a.dn K .v [v] ∧ b.dn K .c d
  | .nl, .c, cs => cs = []
  | .pr a b, .l, vs => ∃ v d, vs = v :: d ∧ a.dn K .v [v] ∧ b.dn K .l d
  | .nl, .l, vs => vs = []
  | _, _, _ => False
@[reducible] def SV.den (K : Kn) (s : SV) (v : Value) : Prop := s.dn K .v [v]

theorem VD.sub {m n : Mem} (hm : ∀ k o, m k = some o → n k = some o) {t : Ty} {x : t.T} {v : Value} (h : VD m t x v) : VD n t x v := by
  unfold VD at h ⊢
  split at h
  · obtain ⟨cs, e, h⟩ := h; exact ⟨cs, e, DenT.sub hm h⟩
  · exact DenT.sub hm h
theorem SV.monoW {K L : Kn} (le : K.lw L) : ∀ {s : SV} {q : Vw} {vs : List Value}, s.dn K q vs → s.dn L q vs := by
  intro s
  induction s with
  | d t x => intro q vs h; cases q <;> simp only [SV.dn] at h ⊢ <;> obtain ⟨v, e, h⟩ := h; exact ⟨v, e, h.sub le.p.h⟩
  | bd t x => intro q vs h; cases q <;> simp only [SV.dn] at h ⊢ <;> obtain ⟨v, e, h⟩ := h; exact ⟨v, e, h.sub le.rd⟩
  | dp t x => intro q vs h; cases q <;> simp only [SV.dn] at h ⊢ <;> obtain ⟨b, o, cs, e, h1, h2⟩ := h; exact ⟨b, o, cs, e, h1.sub le.p.h, DenT.sub le.p.h h2⟩
  | bp t x => intro q vs h; cases q <;> simp only [SV.dn] at h ⊢ <;> obtain ⟨b, o, cs, e, h1, h2⟩ := h; exact ⟨b, o, cs, e, h1.sub le.rd, DenT.sub le.rd h2⟩
  | ptr id pa => intro q vs h; cases q <;> simp only [SV.dn] at h ⊢ <;> obtain ⟨u, b, e, h⟩ := h; exact ⟨u, b, le.E _ _ e, h⟩
  | vr id => intro q vs h; cases q <;> simp only [SV.dn] at h ⊢ <;> obtain ⟨X, n, c, e, h⟩ := h; exact ⟨X, n, c, le.E _ _ e, h⟩
  | vw id pa m => intro q vs h; cases q <;> simp only [SV.dn] at h ⊢ <;> obtain ⟨X, c, e, hc, h, u0, h0, h3⟩ := h; exact ⟨X, c, e, hc, h.imp (fun h => h) fun ⟨u, b, h1, h2⟩ => ⟨u, b, le.E _ _ h1, h2⟩, u0, le.E _ _ h0, h3⟩
  | fn f b c ihb ih => intro q vs h; cases q <;> simp only [SV.dn] at h ⊢ <;> obtain ⟨lb, l, e, h1, h2⟩ := h; exact ⟨lb, l, e, ihb h1, ih h2⟩
  | ag c ih => intro q vs h; cases q <;> simp only [SV.dn] at h ⊢ <;> obtain ⟨l, e, h⟩ := h; exact ⟨l, e, ih h⟩
  | tup c ih => intro q vs h; cases q <;> simp only [SV.dn] at h ⊢ <;> obtain ⟨l, e, h⟩ := h; exact ⟨l, e, ih h⟩
  | ifc t c ih => intro q vs h; cases q <;> simp only [SV.dn] at h ⊢ <;> obtain ⟨v, e, h⟩ := h; exact ⟨v, e, ih h⟩
  | mp id => intro q vs h; cases q <;> simp only [SV.dn] at h ⊢ <;> obtain ⟨b, e, h⟩ := h; exact ⟨b, le.E _ _ e, h⟩
  | pr a b iha ihb =>
    intro q vs h
    cases q <;> simp only [SV.dn] at h ⊢
    · obtain ⟨v, d, e, h1, h2⟩ := h; exact ⟨v, d, e, iha h1, ihb h2⟩
    · obtain ⟨v, d, e, h1, h2⟩ := h; exact ⟨v, d, e, iha h1, ihb h2⟩
  | _ => intro q vs h; cases q <;> exact h

theorem SV.mono {K L : Kn} (le : K.le L) {s : SV} {q : Vw} {vs : List Value} (h : s.dn K q vs) : s.dn L q vs := SV.monoW le.w h
/-! ### what lies in a block -/
inductive CT where
  | cel (s : SV)
  | dat (t : Ty) (x : t.T)
  | nl
  | pr (a b : CT)
def CT.w : CT → Nat
  | .cel _ => 1
  | .dat t _ => t.w
  | .nl => 0
  | .pr a b => a.w + b.w
def CA (K : Kn) : CT → List Value → Assn
  | .cel s, cs => Pu (∃ v, cs = [v] ∧ s.den K v ∧ v.oneCell' = true)
  | .dat t x, cs => OA K.p.h t x cs
  | .nl, cs => Pu (cs = [])
  | .pr a b, cs => Ex fun c => Ex fun d => If (cs = c ++ d) (sep (CA K a c) (CA K b d))
theorem sep_mono {A B A' B' : Assn} (h1 : ∀ h, A h → A' h) (h2 : ∀ h, B h → B' h) : ∀ h, sep A B h → sep A' B' h := fun h ⟨x, y, d, e, a, b⟩ => ⟨x, y, d, e, h1 _ a, h2 _ b⟩
theorem CatA.mono {α : Type} {R S : α → List Value → Assn} (hm : ∀ x c h, R x c h → S x c h) : ∀ {l : List α} {cs : List Value} {h : Hp}, CatA R l cs h → CatA S l cs h := by
  intro l
  induction l with
  | nil => intro cs h x; exact x
  | cons x l ih => intro cs h ⟨a, b, e, q⟩; exact ⟨a, b, e, sep_mono (fun _ => hm _ _ _) (fun _ => ih) _ q⟩
theorem MRel.sub {m n : Mem} (hm : ∀ k o, m k = some o → n k = some o) {t : Ty} : ∀ {l : List (Int × t.T)} {ks : List (Int × Value)}, MRel m t l ks → MRel n t l ks := by
  intro l
  induction l with
  | nil => intro ks h; cases ks <;> exact h
  | cons a l ih =>
    obtain ⟨k, x⟩ := a
    intro ks h
    cases ks with
    | nil => exact h
    | cons q ks => obtain ⟨h1, h2, h3⟩ := h; exact ⟨h1, VD.sub hm h2, ih h3⟩
theorem OA.sub {m n : Mem} (hm : ∀ k o, m k = some o → n k = some o) : ∀ {t : Ty} {x : t.T} {cs : List Value} {h : Hp}, OA m t x cs h → OA n t x cs h := by
  intro t
  induction t with
  | pair a b iha ihb => intro x cs h ⟨c, d, e, q⟩; exact ⟨c, d, e, sep_mono (fun _ => iha) (fun _ => ihb) _ q⟩
  | arr k a ih => intro x cs h ⟨e, q⟩; exact ⟨e, CatA.mono (fun _ _ _ => ih) q⟩
  | vec e a ih => intro x cs h ⟨v, xs, e, q⟩; exact ⟨v, xs, e, sep_mono (fun _ h => h) (fun _ => CatA.mono (fun _ _ _ => ih)) _ q⟩
  | box e a ih => intro x cs h ⟨v, xs, e, q⟩; exact ⟨v, xs, e, sep_mono (fun _ h => h) (fun _ => ih) _ q⟩
  | map a ih => intro x cs h ⟨b, ks, e, q⟩; exact ⟨b, ks, e, sep_mono (fun _ h => h) (fun _ ⟨h1, h2⟩ => ⟨h1, MRel.sub hm h2⟩) _ q⟩
  | obox e a ih =>
    intro x cs h q
    cases x with
    | none => exact q
    | some x => obtain ⟨v, xs, e, q⟩ := q; exact ⟨v, xs, e, sep_mono (fun _ h => h) (fun _ => ih) _ q⟩
  | _ => intro x cs h ⟨e, q⟩; exact ⟨e, DenT.sub hm q⟩
theorem CatA.len {α : Type} {R : α → List Value → Assn} {k : Nat} (hl : ∀ x c h, R x c h → c.length = k) : ∀ {l : List α} {cs : List Value} {h : Hp}, CatA R l cs h → cs.length = l.length * k := by
  intro l
  induction l with
  | nil => intro cs h x; rw [x.2]; simp
  | cons x l ih => intro cs h ⟨a, b, e, _, _, _, _, q1, q2⟩; rw [e, List.length_append, hl _ _ _ q1, ih q2, List.length_cons, Nat.add_mul]; omega
theorem OA.len {m : Mem} : ∀ {t : Ty} {x : t.T} {cs : List Value} {h : Hp}, OA m t x cs h → cs.length = t.w := by
  intro t
  induction t with
  | pair a b iha ihb => intro x cs h ⟨c, d, e, _, _, _, _, q1, q2⟩; rw [e, List.length_append, iha q1, ihb q2]; rfl
  | arr k a ih => intro x cs h ⟨e, q⟩; rw [CatA.len (fun _ _ _ => ih) q, e]; rfl
  | vec e a ih => intro x cs h ⟨v, xs, e, q⟩; rw [e]; rfl
  | box e a ih => intro x cs h ⟨v, xs, e, q⟩; rw [e]; rfl
  | map a ih => intro x cs h ⟨b, ks, e, q⟩; rw [e.1]; rfl
  | obox e a ih =>
    intro x cs h q
    cases x with
    | none => rw [q.2]; rfl
    | some x => obtain ⟨v, xs, e, q⟩ := q; rw [e]; rfl
  | _ => intro x cs h ⟨e, q⟩; exact DenT.length q
theorem CA.len {K : Kn} : ∀ {c : CT} {cs : List Value} {h : Hp}, CA K c cs h → cs.length = c.w := by
  intro c
  induction c with
  | cel s => intro cs h ⟨_, v, e, _⟩; rw [e]; rfl
  | dat t x => intro cs h q; exact OA.len q
  | nl => intro cs h q; rw [q.2]; rfl
  | pr a b iha ihb => intro cs h ⟨c, d, e, _, _, _, _, q1, q2⟩; rw [e, List.length_append, iha q1, ihb q2]; rfl
theorem CatA.ones {α : Type} {R : α → List Value → Assn} (hl : ∀ x c h, R x c h → ∀ u ∈ c, u.oneCell' = true) : ∀ {l : List α} {cs : List Value} {h : Hp}, CatA R l cs h → ∀ u ∈ cs, u.oneCell' = true := by
  intro l
  induction l with
  | nil => intro cs h x u hu; rw [x.2] at hu; cases hu
  | cons x l ih =>
    intro cs h ⟨a, b, e, _, _, _, _, q1, q2⟩ u hu
    rw [e] at hu
    rcases List.mem_append.1 hu with q | q
    · exact hl _ _ _ q1 u q
    · exact ih q2 u q
theorem own_slice {e : TypeId} {sz : Nat} {v : Value} {n : Nat} {xs : List Value} {h : Hp} (q : Own e sz v n xs h) : ∃ X c, v = .slice X n c := by
  obtain ⟨_, ⟨A, rfl, rfl, _⟩ | ⟨g, cap, cur, rfl, _⟩⟩ := q
  · exact ⟨_, _, rfl⟩
  · exact ⟨_, _, rfl⟩
theorem OA.ones {m : Mem} : ∀ {t : Ty} {x : t.T} {cs : List Value} {h : Hp}, OA m t x cs h → ∀ u ∈ cs, u.oneCell' = true := by
  intro t
  induction t with
  | pair a b iha ihb =>
    intro x cs h ⟨c, d, e, _, _, _, _, q1, q2⟩ u hu
    rw [e] at hu
    rcases List.mem_append.1 hu with q | q
    · exact iha q1 u q
    · exact ihb q2 u q
  | arr k a ih => intro x cs h ⟨e, q⟩; exact CatA.ones (fun _ _ _ => ih) q
  | vec e a ih =>
    intro x cs h ⟨v, xs, e, _, _, _, _, q, _⟩ u hu
    obtain ⟨X, c, rfl⟩ := own_slice q
    rw [e, List.mem_singleton] at hu; subst hu; rfl
  | box e a ih => intro x cs h ⟨v, xs, e, q⟩ u hu; rw [e, List.mem_singleton] at hu; subst hu; rfl
  | map a ih => intro x cs h ⟨b, ks, e, q⟩ u hu; rw [e.1, List.mem_singleton] at hu; subst hu; rfl
  | obox e a ih =>
    intro x cs h q u hu
    cases x with
    | none => rw [q.2, List.mem_singleton] at hu; subst hu; rfl
    | some x => obtain ⟨v, xs, e, q⟩ := q; rw [e, List.mem_singleton] at hu; subst hu; rfl
  | _ => intro x cs h ⟨e, q⟩; exact DenT.ones q
theorem CA.ones {K : Kn} : ∀ {c : CT} {cs : List Value} {h : Hp}, CA K c cs h → ∀ u ∈ cs, u.oneCell' = true := by
  intro c
  induction c with
  | cel s => intro cs h ⟨_, v, e, _, q⟩ u hu; rw [e, List.mem_singleton] at hu; subst hu; exact q
  | dat t x => intro cs h q; exact OA.ones q
  | nl => intro cs h q u hu; rw [q.2] at hu; cases hu
  | pr a b iha ihb =>
    intro cs h ⟨c, d, e, _, _, _, _, q1, q2⟩ u hu
    rw [e] at hu
    rcases List.mem_append.1 hu with q | q
    · exact iha q1 u q
    · exact ihb q2 u q
theorem CA.monoW {K L : Kn} (le : K.lw L) : ∀ {c : CT} {cs : List Value} {h : Hp}, CA K c cs h → CA L c cs h := by
  intro c
  induction c with
  | cel s => intro cs h ⟨e, v, e2, q, q2⟩; exact ⟨e, v, e2, SV.monoW le q, q2⟩
  | dat t x => intro cs h q; exact OA.sub le.p.h q
  | nl => intro cs h q; exact q
  | pr a b iha ihb => intro cs h ⟨c, d, e, q⟩; exact ⟨c, d, e, sep_mono (fun _ => iha) (fun _ => ihb) _ q⟩

theorem CA.mono {K L : Kn} (le : K.le L) {c : CT} {cs : List Value} {h : Hp} (q : CA K c cs h) : CA L c cs h := CA.monoW le.w q
/-! ### a row, of which one element is laid open -/
/-- the cells of l, but for those of the element j, which are as c tells -/
def FocA (K : Kn) (t : Ty) (l : List t.T) (j : Nat) (c : CT) (xs : List Value) : Assn := Ex fun a => Ex fun b => Ex fun d => If (xs = a ++ (b ++ d) ∧ a.length = j * t.w ∧ j < l.length) (sep (CA K c b) (sep (CatA (fun x c => OA K.p.h t x c) (l.take j) a) (CatA (fun x c => OA K.p.h t x c) (l.drop (j + 1)) d)))
theorem FocA.monoW {K L : Kn} (le : K.lw L) {t : Ty} {l : List t.T} {j : Nat} {c : CT} {xs : List Value} {h : Hp} (q : FocA K t l j c xs h) : FocA L t l j c xs h := by
  obtain ⟨a, b, d, e, q⟩ := q
  exact ⟨a, b, d, e, sep_mono (fun _ => CA.monoW le) (fun _ => sep_mono (fun _ => CatA.mono (fun _ _ _ => OA.sub le.p.h)) (fun _ => CatA.mono (fun _ _ _ => OA.sub le.p.h)) _) _ q⟩
/-! ### what is held, by its names -/
inductive EN where
  | blk (e : TypeId) (c : CT)
  | row (e : TypeId) (t : Ty) (l : List t.T)
  | foc (e : TypeId) (t : Ty) (l : List t.T) (j : Nat) (c : CT)
  | fro (t : Ty) (l : List t.T)
  | map (t : Ty) (l : List (Int × t.T))
  | held
def EN.asn (K : Kn) (id : Nat) : EN → Assn
  | .blk e c => Ex fun b => Ex fun cs : List Value => If (K.E id = some (.pointer (some ⟨b, 0, none⟩))) (sep (pt b (.cells cs.toArray e)) (CA K c cs))
  | .row e t l => Ex fun v => Ex fun xs => If (K.E id = some v) (sep (Own e t.w v l.length xs) (CatA (fun x c => OA K.p.h t x c) l xs))
  | .foc e t l j c => Ex fun v => Ex fun xs => If (K.E id = some v) (sep (Own e t.w v l.length xs) (FocA K t l j c xs))
  | .fro t l => Pu (∃ v, K.E id = some v ∧ DenT K.p.h (.fz t) l [v])
  | .map t l => Ex fun b => Ex fun ks : List (Int × Value) => If (K.E id = some (.map (some b)) ∧ t.pure = true) (sep (MapI b ks) (Pu (MRel K.p.h t l ks)))
  | .held => If (∃ v, K.E id = some v) (Exact (K.B id))
theorem EN.monoW {K L : Kn} (le : K.lw L) {id : Nat} : ∀ {n : EN} {h : Hp}, n.asn K id h → n.asn L id h := by
  intro n h q
  cases n with
  | blk e c => obtain ⟨b, cs, e1, q⟩ := q; exact ⟨b, cs, le.E _ _ e1, sep_mono (fun _ h => h) (fun _ => CA.monoW le) _ q⟩
  | row e t l => obtain ⟨v, xs, e1, q⟩ := q; exact ⟨v, xs, le.E _ _ e1, sep_mono (fun _ h => h) (fun _ => CatA.mono (fun _ _ _ => OA.sub le.p.h)) _ q⟩
  | foc e t l j c => obtain ⟨v, xs, e1, q⟩ := q; exact ⟨v, xs, le.E _ _ e1, sep_mono (fun _ h => h) (fun _ => FocA.monoW le) _ q⟩
  | fro t l => obtain ⟨e0, v, e1, q⟩ := q; exact ⟨e0, v, le.E _ _ e1, DenT.sub le.p.h q⟩
  | map t l => obtain ⟨b, ks, e1, q⟩ := q; exact ⟨b, ks, ⟨le.E _ _ e1.1, e1.2⟩, sep_mono (fun _ h => h) (fun _ ⟨h1, h2⟩ => ⟨h1, MRel.sub le.p.h h2⟩) _ q⟩
  | held => obtain ⟨⟨v, e1⟩, q⟩ := q; exact ⟨⟨v, le.E _ _ e1⟩, by rw [Exact, le.B _ _ e1]; exact q⟩
theorem EN.mono {K L : Kn} (le : K.le L) {id : Nat} {n : EN} {h : Hp} (q : n.asn K id h) : n.asn L id h := EN.monoW le.w q
abbrev HP := List (Nat × EN)
structure SS where
  hp : HP
  nx : Nat
@[reducible] def asns (K : Kn) (l : HP) : List Assn := l.map fun e => e.2.asn K e.1
/-- which names are not given yet -/
structure Nx (K : Kn) (s : SS) : Prop where
  eq : s.nx = K.nx
  no : ∀ k, K.nx ≤ k → K.E k = none
theorem Nx.hp {K : Kn} {s : SS} (h : Nx K s) {l : HP} : Nx K { s with hp := l } := ⟨h.eq, h.no⟩
/-- the world is as the state says -/
structure Inv (K : Kn) (s : SS) (w : World) : Prop where
  st : St K.p w (asns K s.hp ++ [Exact K.F])
  nx : Nx K s
def hget : HP → Nat → Option EN
  | [], _ => none
  | (k, n) :: l, id => bif Nat.beq k id then some n else hget l id
def hdel : HP → Nat → HP
  | [], _ => []
  | (k, n) :: l, id => bif Nat.beq k id then l else (k, n) :: hdel l id
theorem hget_del {K : Kn} {R : List Assn} : ∀ {l : HP} {id : Nat} {n : EN}, hget l id = some n → Del (n.asn K id) (asns K l ++ R) (asns K (hdel l id) ++ R) := by
  intro l
  induction l with
  | nil => intro id n h; cases h
  | cons a l ih =>
    intro id n h
    obtain ⟨k, m⟩ := a
    simp only [hget] at h
    simp only [hdel]
    cases hb : Nat.beq k id with
    | true =>
      rw [hb, cond_true] at h; cases h
      have := Nat.eq_of_beq_eq_true hb; subst this
      exact .here
    | false => rw [hb, cond_false] at h; exact .there (ih h)
theorem all_asnsW {K L : Kn} (le : K.lw L) (R : List Assn) : ∀ (l : HP) (h : Hp), all (asns K l ++ R) h → all (asns L l ++ R) h := by
  intro l
  induction l with
  | nil => intro h q; exact q
  | cons a l ih => intro h ⟨x, y, d, e, qa, qb⟩; exact ⟨x, y, d, e, EN.monoW le qa, ih _ qb⟩
theorem all_asns {K L : Kn} (le : K.le L) (R : List Assn) (l : HP) (h : Hp) (q : all (asns K l ++ R) h) : all (asns L l ++ R) h := all_asnsW le.w R l h q
/-- more is known: what is held stays told, if the lasting part has grown within the state -/
theorem St.asns {K L : Kn} (le : K.le L) {q : Pers} {w : World} {l : HP} {R : List Assn} (s : St q w (GX.asns K l ++ R)) : St q w (GX.asns L l ++ R) := by
  obtain ⟨h, ha, r⟩ := s
  exact ⟨h, all_asns le R l h ha, r⟩
theorem all_perm {l l' : List Assn} (h : l.Perm l') : ∀ x, all l x → all l' x := by
  induction h with
  | nil => exact fun _ q => q
  | cons A _ ih => exact fun x ⟨a, b, d, e, qa, qb⟩ => ⟨a, b, d, e, qa, ih _ qb⟩
  | swap A B l =>
    rintro x ⟨b, y, d, rfl, qb, a, z, d2, rfl, qa, qz⟩
    obtain ⟨d3, d4⟩ := disj_uni.1 d
    refine ⟨a, uni b z, disj_uni.2 ⟨disj_comm d3, d2⟩, ?_, qa, b, z, d4, rfl, qb, qz⟩
    rw [← uni_assoc, ← uni_assoc, uni_comm d3]
  | trans _ _ ih1 ih2 => exact fun x q => ih2 x (ih1 x q)
theorem _root_.Go.SL.St.perm {p : Pers} {w : World} {l l' : List Assn} (s : St p w l) (h : l.Perm l') : St p w l' := by
  obtain ⟨x, q, r⟩ := s
  exact ⟨x, all_perm h x q, r⟩
theorem Inv.take {K : Kn} {s : SS} {w : World} (i : Inv K s w) {id : Nat} {n : EN} (h : hget s.hp id = some n) : St K.p w (n.asn K id :: (asns K (hdel s.hp id) ++ [Exact K.F])) := i.st.take (hget_del h)
end Go.GX
namespace Go.GX
open Go.RowKit Go.SL
set_option linter.unusedVariables false
set_option linter.unusedSimpArgs false

/-! ### the words of a plain function -/
/-- the words are chosen, not told: nothing that computes looks into them -/
noncomputable def bndO : {f : (α β : Type) → Option α → (α → Option β) → Option β // f = fun α β x f => x.bind f} := Classical.choice ⟨⟨_, rfl⟩⟩
@[irreducible] noncomputable def bnd {α β : Type} (x : Option α) (f : α → Option β) : Option β := bndO.1 α β x f
theorem bnd_eq {α β : Type} (x : Option α) (f : α → Option β) : bnd x f = x.bind f := by unfold bnd; rw [bndO.2]
noncomputable def gdO : {f : (β : Type) → (c : Prop) → Decidable c → Option β → Option β // f = fun β c d x => @ite _ c d x none} := Classical.choice ⟨⟨_, rfl⟩⟩
@[irreducible] noncomputable def gd {β : Type} (c : Prop) [Decidable c] (x : Option β) : Option β := gdO.1 β c inferInstance x
theorem gd_eq {β : Type} (c : Prop) [Decidable c] (x : Option β) : gd c x = if c then x else none := by unfold gd; rw [gdO.2]
@[irreducible] noncomputable def br {β : Type} (c : Bool) (x y : Option β) : Option β := cond c x y
theorem br_eq {β : Type} (c : Bool) (x y : Option β) : br c x y = cond c x y := by unfold br; rfl
/-- rounds: f is one, told what the others come to -/
noncomputable def itn {α β : Type} (f : α → (α → Option β) → Option β) : Nat → α → Option β
  | 0, _ => none
  | n + 1, a => f a (itn f n)
@[irreducible] noncomputable def fuel : Nat := 1099511627776
noncomputable def iterO : {f : (α β : Type) → (α → (α → Option β) → Option β) → α → Option β // f = fun α β f a => itn f fuel a} := Classical.choice ⟨⟨_, rfl⟩⟩
@[irreducible] noncomputable def iter {α β : Type} (f : α → (α → Option β) → Option β) (a : α) : Option β := iterO.1 α β f a
theorem iter_eq {α β : Type} (f : α → (α → Option β) → Option β) (a : α) : iter f a = itn f fuel a := by unfold iter; rw [iterO.2]
noncomputable def jnO : {f : (α β : Type) → (α → Option β) → ((α → Option β) → Option β) → Option β // f = fun α β j f => f j} := Classical.choice ⟨⟨_, rfl⟩⟩
@[irreducible] noncomputable def jn {α β : Type} (j : α → Option β) (f : (α → Option β) → Option β) : Option β := jnO.1 α β j f
theorem jn_e {α β : Type} (j : α → Option β) (f : (α → Option β) → Option β) : jn j f = f j := by unfold jn; rw [jnO.2]
section
variable {α β : Type}
theorem bnd_some {x : Option α} {f : α → Option β} {r : β} (h : bnd x f = some r) : ∃ a, x = some a ∧ f a = some r := by
  rw [bnd_eq] at h
  cases x with
  | none => cases h
  | some a => exact ⟨a, rfl, h⟩
theorem gd_some {c : Prop} [Decidable c] {x : Option β} {r : β} (h : gd c x = some r) : c ∧ x = some r := by
  rw [gd_eq] at h
  split at h
  · exact ⟨‹_›, h⟩
  · cases h
theorem br_some {c : Bool} {x y : Option β} {r : β} (h : br c x y = some r) : (c = true ∧ x = some r) ∨ (c = false ∧ y = some r) := by
  rw [br_eq] at h
  cases c with
  | true => exact .inl ⟨rfl, h⟩
  | false => exact .inr ⟨rfl, h⟩
@[simp] theorem bnd_s (a : α) (f : α → Option β) : bnd (some a) f = f a := by rw [bnd_eq]; rfl
@[simp] theorem bnd_n (f : α → Option β) : bnd none f = none := by rw [bnd_eq]; rfl
theorem gd_t {c : Prop} [Decidable c] (h : c) (x : Option β) : gd c x = x := by rw [gd_eq, if_pos h]
@[simp] theorem br_t (x y : Option β) : br true x y = x := by rw [br_eq]; rfl
@[simp] theorem br_f (x y : Option β) : br false x y = y := by rw [br_eq]; rfl
end

/-! ### sep, turned about -/
theorem sep_comm {A B : Assn} : ∀ {h : Hp}, sep A B h → sep B A h := fun ⟨a, b, d, e, x, y⟩ => ⟨b, a, disj_comm d, by rw [e, uni_comm d], y, x⟩
theorem sep_assoc {A B C : Assn} : ∀ {h : Hp}, sep (sep A B) C h → sep A (sep B C) h := by
  rintro h ⟨ab, c, d, rfl, ⟨a, b, d2, rfl, x, y⟩, z⟩
  obtain ⟨d3, d4⟩ := uni_disj.1 d
  exact ⟨a, uni b c, disj_uni.2 ⟨d2, d3⟩, uni_assoc _ _ _, x, b, c, d4, rfl, y, z⟩
theorem sep_assoc' {A B C : Assn} : ∀ {h : Hp}, sep A (sep B C) h → sep (sep A B) C h := by
  rintro h ⟨a, bc, d, rfl, x, b, c, d2, rfl, y, z⟩
  obtain ⟨d3, d4⟩ := disj_uni.1 d
  exact ⟨uni a b, c, uni_disj.2 ⟨d4, d2⟩, (uni_assoc _ _ _).symm, ⟨a, b, d3, rfl, x, y⟩, z⟩

/-! ### the parts of a struct -/
noncomputable def opn : (t : Ty) → t.T → CT
  | .pair a b, x => .pr (.dat a x.1) (opn b x.2)
  | .unit, _ => .nl
  | t, x => .dat t x
theorem opn_ok {K : Kn} : ∀ {t : Ty} {x : t.T} {cs : List Value} {h : Hp}, CA K (.dat t x) cs h ↔ CA K (opn t x) cs h := by
  intro t
  induction t with
  | pair a b iha ihb =>
    intro x cs h
    constructor
    · rintro ⟨c, d, e, q⟩; exact ⟨c, d, e, sep_mono (fun _ h => h) (fun _ h => ihb.1 h) _ q⟩
    · rintro ⟨c, d, e, q⟩; exact ⟨c, d, e, sep_mono (fun _ h => h) (fun _ h => ihb.2 h) _ q⟩
  | unit => intro x cs h; exact Iff.rfl
  | _ => intro x cs h; exact Iff.rfl
noncomputable def open1 : CT → CT
  | .dat t x => opn t x
  | c => c
theorem open1_ok {K : Kn} {c : CT} {cs : List Value} {h : Hp} : CA K c cs h ↔ CA K (open1 c) cs h := by
  cases c <;> first | exact Iff.rfl | exact opn_ok
noncomputable def kth : CT → Nat → Option (Nat × CT × (CT → CT))
  | .pr a b, 0 => some (0, a, fun a' => .pr a' b)
  | .pr a b, k + 1 => match kth b k with
    | some (o, s, g) => some (a.w + o, s, fun s' => .pr a (g s'))
    | none => none
  | _, _ => none
/-- sub stands in c, o cells in; plug lays another there -/
noncomputable def Ctx (K : Kn) (c sub : CT) (plug : CT → CT) (o : Nat) : Prop :=
  ∀ cs h, CA K c cs h → ∃ c1 c2 c3 F, cs = c1 ++ (c2 ++ c3) ∧ c1.length = o ∧ sep (CA K sub c2) F h ∧
    ∀ K', K.le K' → ∀ s' c2' h', sep (CA K' s' c2') F h' → CA K' (plug s') (c1 ++ (c2' ++ c3)) h'
theorem kth_ok {K : Kn} : ∀ {c : CT} {k o : Nat} {s : CT} {g : CT → CT}, kth c k = some (o, s, g) → Ctx K c s g o := by
  intro c
  induction c with
  | pr a b iha ihb =>
    intro k o s g hk
    cases k with
    | zero =>
      simp only [kth, Option.some.injEq, Prod.mk.injEq] at hk
      obtain ⟨rfl, rfl, rfl⟩ := hk
      rintro cs h ⟨c, d, e, q⟩
      exact ⟨[], c, d, CA K b d, e, rfl, q, fun K' le s' c2' h' q' => ⟨c2', d, rfl, sep_mono (fun _ h => h) (fun _ => CA.mono le) _ q'⟩⟩
    | succ k =>
      simp only [kth] at hk
      split at hk
      · rename_i o2 s2 g2 hq
        simp only [Option.some.injEq, Prod.mk.injEq] at hk
        obtain ⟨rfl, rfl, rfl⟩ := hk
        rintro cs h ⟨c, d, e, x, y, dj, rfl, qa, qb⟩
        obtain ⟨c1, c2, c3, F, rfl, hl, q1, q2⟩ := ihb hq d y qb
        refine ⟨c ++ c1, c2, c3, sep F (CA K a c), by rw [e, List.append_assoc], by rw [List.length_append, hl, CA.len qa], ?_, ?_⟩
        · exact sep_assoc (sep_comm ⟨x, y, dj, rfl, qa, q1⟩)
        · intro K' le s' c2' h' q'
          obtain ⟨u, v, d2, rfl, h1, h2⟩ := sep_comm (sep_assoc' q')
          exact ⟨c, c1 ++ (c2' ++ c3), by rw [List.append_assoc], u, v, d2, rfl, CA.mono le h1, q2 K' le s' c2' v h2⟩
      · cases hk
  | _ => intro k o s g hk; cases k <;> cases hk
noncomputable def nav : CT → List Step → Option (CT × (CT → CT) × List Step)
  | c, [] => some (c, fun x => x, [])
  | c, .f k o :: r => match kth (open1 c) k with
    | some (o2, s, g) => bif Nat.beq o o2 then (match nav s r with
      | some (s2, g2, r2) => some (s2, fun x => g (g2 x), r2)
      | none => none) else none
    | none => none
  | c, .i j z :: r => some (c, fun x => x, .i j z :: r)
theorem nav_ok {K : Kn} : ∀ {pa : List Step} {c s : CT} {g : CT → CT} {r : List Step}, nav c pa = some (s, g, r) → ∃ o, pOff pa = o + pOff r ∧ Ctx K c s g o := by
  intro pa
  induction pa with
  | nil =>
    intro c s g r h
    simp only [nav, Option.some.injEq, Prod.mk.injEq] at h
    obtain ⟨rfl, rfl, rfl⟩ := h
    refine ⟨0, rfl, fun cs h q => ⟨[], cs, [], Pu True, by simp, rfl, ⟨h, none0, disj_none0 _, (uni_none0 _).symm, q, rfl, trivial⟩, ?_⟩⟩
    rintro K' le s' c2' h' ⟨a, b, d, rfl, q1, rfl, _⟩
    rw [uni_none0]; simpa using q1
  | cons st pa ih =>
    intro c s g r h
    cases st with
    | i j z =>
      simp only [nav, Option.some.injEq, Prod.mk.injEq] at h
      obtain ⟨rfl, rfl, rfl⟩ := h
      refine ⟨0, by simp, fun cs h q => ⟨[], cs, [], Pu True, by simp, rfl, ⟨h, none0, disj_none0 _, (uni_none0 _).symm, q, rfl, trivial⟩, ?_⟩⟩
      rintro K' le s' c2' h' ⟨a, b, d, rfl, q1, rfl, _⟩
      rw [uni_none0]; simpa using q1
    | f k o =>
      simp only [nav] at h
      split at h
      · rename_i o2 s1 g1 hk
        cases hb : Nat.beq o o2 with
        | false => rw [hb, cond_false] at h; cases h
        | true =>
          rw [hb, cond_true] at h
          have := Nat.eq_of_beq_eq_true hb; subst this
          split at h
          · rename_i s2 g2 r2 hn
            simp only [Option.some.injEq, Prod.mk.injEq] at h
            obtain ⟨rfl, rfl, rfl⟩ := h
            obtain ⟨o3, ho, hc⟩ := ih hn
            refine ⟨o + o3, by simp only [pOff, ho]; omega, ?_⟩
            intro cs h q
            obtain ⟨c1, c2, c3, F, rfl, hl, q1, q2⟩ := kth_ok hk cs h (open1_ok.1 q)
            obtain ⟨x, y, dj, rfl, qs, qF⟩ := q1
            obtain ⟨d1, d2, d3, G, rfl, hl2, q3, q4⟩ := hc c2 x qs
            refine ⟨c1 ++ d1, d2, d3 ++ c3, sep G F, by simp [List.append_assoc], by rw [List.length_append, hl, hl2], sep_assoc ⟨x, y, dj, rfl, q3, qF⟩, ?_⟩
            intro K' le s' c2' h' q'
            obtain ⟨u, v, d', rfl, h1, h2⟩ := sep_assoc' q'
            have := q2 K' le (g2 s') (d1 ++ (c2' ++ d3)) _ ⟨u, v, d', rfl, q4 K' le s' c2' u h1, h2⟩
            simpa [List.append_assoc] using this
          · cases h
      · cases h

/-! ### what is read -/
noncomputable def CT.agg : CT → Bool
  | .cel _ => false
  | .dat t _ => t.agg
  | _ => true
noncomputable def aggV : Value → Bool
  | .agg _ => true
  | _ => false
noncomputable def CT.ldp : CT → Option SV × Option SV
  | .cel s => (some s, none)
  | .dat t x => (bif t.pure then some (.d t x) else none, none)
  | .nl => (some (.ag .nl), some .nl)
  | .pr a b => match a.ldp.1, b.ldp.2 with
    | some x, some y => (some (.ag (.pr x y)), some (.pr x y))
    | _, _ => (none, none)
theorem one_cells {v : Value} (h : v.oneCell' = true) : v.cells.toList = [v] := by
  cases v <;> first | rfl | cases h
theorem one_agg {v : Value} (h : v.oneCell' = true) : aggV v = false := by
  cases v <;> first | rfl | cases h
theorem w_one {t : Ty} (h : t.agg = false) : t.w = 1 := by cases t <;> first | rfl | cases h
theorem VD.cells {m : Mem} {t : Ty} {x : t.T} {v : Value} (h : VD m t x v) : DenT m t x v.cells.toList ∧ aggV v = t.agg := by
  unfold VD at h
  split at h
  · obtain ⟨cs, rfl, h⟩ := h; exact ⟨h, by simp [aggV, *]⟩
  · have h1 := DenT.ones h v (by simp)
    rw [one_cells h1]; exact ⟨h, by rw [one_agg h1]; simp [*]⟩
theorem VD.mk {m : Mem} {t : Ty} {x : t.T} {cs : List Value} (h : DenT m t x cs) : ∃ v, VD m t x v ∧ v.cells.toList = cs ∧ aggV v = t.agg := by
  cases ha : t.agg with
  | true => exact ⟨.agg cs.toArray, by unfold VD; rw [ha]; exact ⟨cs, rfl, h⟩, by simp [Value.cells], rfl⟩
  | false =>
    have hl := DenT.length h
    rw [w_one ha] at hl
    obtain ⟨v, rfl⟩ := List.length_eq_one_iff.1 hl
    have h1 := DenT.ones h v (by simp)
    exact ⟨v, by unfold VD; rw [ha]; exact h, one_cells h1, one_agg h1⟩
theorem ld_ok {K : Kn} : ∀ {c : CT} {cs : List Value} {h : Hp}, CA K c cs h →
    (∀ s, c.ldp.1 = some s → ∃ v, s.den K v ∧ v.cells.toList = cs ∧ aggV v = c.agg) ∧ (∀ s, c.ldp.2 = some s → s.dn K .c cs) := by
  intro c
  induction c with
  | cel s =>
    rintro cs h ⟨_, v, rfl, q, h1⟩
    refine ⟨fun s' e => ?_, fun s' e => by cases e⟩
    cases e
    exact ⟨v, q, one_cells h1, one_agg h1⟩
  | dat t x =>
    intro cs h q
    refine ⟨fun s' e => ?_, fun s' e => by cases e⟩
    cases hp : t.pure with
    | false => simp [CT.ldp, hp] at e
    | true =>
      simp only [CT.ldp, hp, cond_true, Option.some.injEq] at e
      subst e
      have q' : OA K.p.h t x cs h := q
      rw [oa_pure _ t hp] at q'
      obtain ⟨v, h1, h2, h3⟩ := VD.mk q'.2
      exact ⟨v, ⟨v, rfl, h1⟩, h2, h3⟩
  | nl =>
    rintro cs h ⟨_, rfl⟩
    refine ⟨fun s e => ?_, fun s e => ?_⟩
    · cases e; exact ⟨.agg #[], ⟨[], rfl, rfl⟩, rfl, rfl⟩
    · cases e; rfl
  | pr a b iha ihb =>
    rintro cs h ⟨c, d, rfl, x, y, dj, rfl, qa, qb⟩
    have hab : ∀ s1 s2, a.ldp.1 = some s1 → b.ldp.2 = some s2 → SV.dn K (.pr s1 s2) .c (c ++ d) := fun s1 s2 h1 h2 => by
      obtain ⟨v, q1, q2, _⟩ := (iha qa).1 s1 h1
      exact ⟨v, d, by rw [q2], q1, (ihb qb).2 s2 h2⟩
    refine ⟨fun s e => ?_, fun s e => ?_⟩
    · simp only [CT.ldp] at e
      split at e
      · rename_i s1 s2 h1 h2
        cases e
        exact ⟨.agg (c ++ d).toArray, ⟨_, rfl, hab _ _ h1 h2⟩, by simp [Value.cells], rfl⟩
      · cases e
    · simp only [CT.ldp] at e
      split at e
      · rename_i s1 s2 h1 h2
        cases e
        exact hab _ _ h1 h2
      · cases e

/-! ### within plain values -/
noncomputable def fldL {β : Type} : (t : Ty) → t.T → Nat → Nat → ((a : Ty) → a.T → Option β) → Option β
  | .pair a _, x, 0, o, k => bif Nat.beq o 0 then k a x.1 else none
  | .pair a b, x, n + 1, o, k => bif Nat.ble a.w o then fldL b x.2 n (o - a.w) k else none
  | _, _, _, _, _ => none
theorem fldL_ok {m : Mem} {β : Type} {k : (a : Ty) → a.T → Option β} {r : β} : ∀ {t : Ty} {x : t.T} {n o : Nat} {cs : List Value}, DenT m t x cs → fldL t x n o k = some r →
    ∃ a y c1 c2 c3, cs = c1 ++ (c2 ++ c3) ∧ c1.length = o ∧ DenT m a y c2 ∧ k a y = some r := by
  intro t
  induction t with
  | pair a b iha ihb =>
    rintro x n o cs ⟨c, d, rfl, h1, h2⟩ h
    cases n with
    | zero =>
      simp only [fldL] at h
      cases hb : Nat.beq o 0 with
      | false => rw [hb, cond_false] at h; cases h
      | true =>
        rw [hb, cond_true] at h
        have := Nat.eq_of_beq_eq_true hb; subst this
        exact ⟨a, x.1, [], c, d, rfl, rfl, h1, h⟩
    | succ n =>
      simp only [fldL] at h
      cases hb : Nat.ble a.w o with
      | false => rw [hb, cond_false] at h; cases h
      | true =>
        rw [hb, cond_true] at h
        have hle := Nat.le_of_ble_eq_true hb
        obtain ⟨a', y, c1, c2, c3, rfl, hl, hd, hk⟩ := ihb h2 h
        exact ⟨a', y, c ++ c1, c2, c3, by rw [List.append_assoc], by rw [List.length_append, DenT.length h1, hl]; omega, hd, hk⟩
  | _ => intro x n o cs _ h; cases n <;> cases h
noncomputable def getL {β : Type} : (t : Ty) → t.T → List Step → ((a : Ty) → a.T → Option β) → Option β
  | t, x, [], k => k t x
  | t, x, .f n o :: r, k => fldL t x n o fun a y => getL a y r k
  | .arr _ a, l, .i j z :: r, k => bif Nat.beq z a.w then bnd (l[j]?) fun y => getL a y r k else none
  | _, _, _, _ => none
theorem Cat.at {α : Type} {R : α → List Value → Prop} {z : Nat} (hw : ∀ x c, R x c → c.length = z) : ∀ {l : List α} {j : Nat} {y : α} {cs : List Value}, Cat R l cs → l[j]? = some y → ∃ c1 c2 c3, cs = c1 ++ (c2 ++ c3) ∧ c1.length = j * z ∧ R y c2 := by
  intro l
  induction l with
  | nil => intro j y cs _ h; cases h
  | cons x l ih =>
    rintro j y cs ⟨a, b, rfl, h1, h2⟩ h
    cases j with
    | zero => cases h; exact ⟨[], a, b, rfl, by simp, h1⟩
    | succ j =>
      obtain ⟨c1, c2, c3, rfl, hl, hr⟩ := ih h2 (by simpa using h)
      exact ⟨a ++ c1, c2, c3, by rw [List.append_assoc], by rw [List.length_append, hw _ _ h1, hl, Nat.add_mul]; omega, hr⟩
theorem getL_ok {m : Mem} {β : Type} {k : (a : Ty) → a.T → Option β} {r : β} : ∀ {pa : List Step} {t : Ty} {x : t.T} {cs : List Value}, DenT m t x cs → getL t x pa k = some r →
    ∃ a y c1 c2 c3, cs = c1 ++ (c2 ++ c3) ∧ c1.length = pOff pa ∧ DenT m a y c2 ∧ k a y = some r := by
  intro pa
  induction pa with
  | nil => intro t x cs hd h; simp only [getL] at h; exact ⟨t, x, [], cs, [], by simp, rfl, hd, h⟩
  | cons st pa ih =>
    intro t x cs hd h
    cases st with
    | f n o =>
      have h' : (fldL t x n o fun a y => getL a y pa k) = some r := by cases t <;> exact h
      obtain ⟨a, y, c1, c2, c3, rfl, hl, hd2, hk⟩ := fldL_ok hd h'
      obtain ⟨a', y', d1, d2, d3, rfl, hl2, hd3, hk2⟩ := ih hd2 hk
      exact ⟨a', y', c1 ++ d1, d2, d3 ++ c3, by simp [List.append_assoc], by rw [List.length_append, hl, hl2]; rfl, hd3, hk2⟩
    | i j z =>
      cases t <;> simp only [getL, reduceCtorEq] at h
      rename_i n a
      cases hb : Nat.beq z a.w with
      | false => rw [hb, cond_false] at h; cases h
      | true =>
        rw [hb, cond_true] at h
        have := Nat.eq_of_beq_eq_true hb; subst this
        obtain ⟨y, hy, hk⟩ := bnd_some h
        obtain ⟨c1, c2, c3, rfl, hl, hd2⟩ := Cat.at (fun x c h => DenT.length h) hd.2 hy
        obtain ⟨a', y', d1, d2, d3, rfl, hl2, hd3, hk2⟩ := ih hd2 hk
        exact ⟨a', y', c1 ++ d1, d2, d3 ++ c3, by simp [List.append_assoc], by rw [List.length_append, hl, hl2]; rfl, hd3, hk2⟩
end Go.GX
namespace Go.GX
open Go.RowKit Go.SL
set_option linter.unusedVariables false
set_option linter.unusedSimpArgs false

/-! ### how many cells a value has -/
noncomputable def SV.wd : SV → Option Nat × Option Nat
  | .d t _ | .bd t _ => (some t.w, none)
  | .ag c => (c.wd.2, none)
  | .nl => (none, some 0)
  | .pr a b => (none, match a.wd.1, b.wd.2 with | some x, some y => some (x + y) | _, _ => none)
  | .tup _ | .lit _ | .un => (none, none)
  | _ => (some 1, none)
noncomputable def SV.agg : SV → Bool
  | .d t _ | .bd t _ => t.agg
  | .ag _ => true
  | _ => false
theorem wd_ok {K : Kn} : ∀ {s : SV}, (∀ v n, s.den K v → s.wd.1 = some n → v.cells.size = n) ∧ (∀ cs n, s.dn K .c cs → s.wd.2 = some n → cs.length = n) := by
  have vd : ∀ (m : Mem) (t : Ty) (x : t.T) (v : Value), VD m t x v → v.cells.size = t.w := fun m t x v h => by
    have := DenT.length h.cells.1; simpa using this
  intro s
  induction s with
  | d t x =>
    refine ⟨fun v n h e => ?_, fun cs n h e => by cases e⟩
    cases e; obtain ⟨v', e', h⟩ := h; cases e'; exact vd _ _ _ _ h
  | bd t x =>
    refine ⟨fun v n h e => ?_, fun cs n h e => by cases e⟩
    cases e; obtain ⟨v', e', h⟩ := h; cases e'; exact vd _ _ _ _ h
  | ag c ih =>
    refine ⟨fun v n h e => ?_, fun cs n h e => by cases e⟩
    obtain ⟨cs, e', h⟩ := h; cases e'
    simp only [Value.cells, List.size_toArray]; exact ih.2 cs n h e
  | nl => exact ⟨fun v n h e => (by cases e), fun cs n h e => (by cases e; rw [show cs = [] from h]; rfl)⟩
  | pr a b iha ihb =>
    refine ⟨fun v n h e => (by cases e), fun cs n h e => ?_⟩
    obtain ⟨v, d, rfl, h1, h2⟩ := h
    simp only [SV.wd] at e
    split at e
    · rename_i x y ha hb
      cases e
      rw [List.length_append, ihb.2 _ _ h2 hb]
      have := iha.1 _ _ h1 ha
      simp [this]
    · cases e
  | dp t x => exact ⟨fun v n h e => by (cases e; obtain ⟨b, o, cs, e', _⟩ := h; cases e'; rfl), fun cs n h e => by cases e⟩
  | bp t x => exact ⟨fun v n h e => by (cases e; obtain ⟨b, o, cs, e', _⟩ := h; cases e'; rfl), fun cs n h e => by cases e⟩
  | ptr id pa => exact ⟨fun v n h e => by (cases e; obtain ⟨u, b, _, _, e'⟩ := h; cases e'; rfl), fun cs n h e => by cases e⟩
  | vr id => exact ⟨fun v n h e => by (cases e; obtain ⟨X, m, c, _, e'⟩ := h; cases e'; rfl), fun cs n h e => by cases e⟩
  | vw id pa m => exact ⟨fun v n h e => by (cases e; obtain ⟨X, c, e', _⟩ := h; cases e'; rfl), fun cs n h e => by cases e⟩
  | fn f b c ihb ih => exact ⟨fun v n h e => by (cases e; obtain ⟨lb, l, e', _⟩ := h; cases e'; rfl), fun cs n h e => by cases e⟩
  | ifc t c ih => exact ⟨fun v n h e => by (cases e; obtain ⟨l, e', _⟩ := h; cases e'; rfl), fun cs n h e => by cases e⟩
  | mp id => exact ⟨fun v n h e => by (cases e; obtain ⟨l, _, e'⟩ := h; cases e'; rfl), fun cs n h e => by cases e⟩
  | tup c ih => exact ⟨fun v n h e => (by cases e), fun cs n h e => by cases e⟩
  | lit v => exact ⟨fun v n h e => (by cases e), fun cs n h e => by cases e⟩
  | un => exact ⟨fun v n h e => (by cases e), fun cs n h e => by cases e⟩
  | _ => exact ⟨fun v n h e => by (cases e; cases h; rfl), fun cs n h e => by cases e⟩
theorem agg_ok {K : Kn} {s : SV} {v : Value} {n : Nat} (h : s.den K v) (hn : s.wd.1 = some n) : aggV v = s.agg := by
  cases s <;> simp only [SV.wd, reduceCtorEq] at hn
  case d t x => obtain ⟨v', e', h⟩ := h; cases e'; exact h.cells.2
  case bd t x => obtain ⟨v', e', h⟩ := h; cases e'; exact h.cells.2
  case ag c => obtain ⟨cs, e', h⟩ := h; cases e'; rfl
  case dp t x => obtain ⟨b, o, cs, e', _⟩ := h; cases e'; rfl
  case bp t x => obtain ⟨b, o, cs, e', _⟩ := h; cases e'; rfl
  case ptr id pa => obtain ⟨u, b, _, _, e'⟩ := h; cases e'; rfl
  case vr id => obtain ⟨X, m, c, _, e'⟩ := h; cases e'; rfl
  case vw id pa m => obtain ⟨X, c, e', _⟩ := h; cases e'; rfl
  case fn f b c => obtain ⟨lb, l, e', _⟩ := h; cases e'; rfl
  case ifc t c => obtain ⟨l, e', _⟩ := h; cases e'; rfl
  case mp id => obtain ⟨l, _, e'⟩ := h; cases e'; rfl
  all_goals (cases h; rfl)

/-! ### cells of a world -/
theorem At.cell {w : World} {b o : Nat} {cs : List Value} (h : At (hm w) b o cs) {j : Nat} {u : Value} (hj : cs[j]? = some u) : w.cell? ⟨b, o + j, none⟩ = some u := by
  obtain ⟨c, e, f, h1, h2⟩ := h
  have h1' : w.heap[b]? = some (.cells c e f) := h1
  simp only [World.cell?, h1']
  exact h2 j u hj
theorem At.mid {m : Mem} {b o : Nat} {c1 c2 c3 : List Value} (h : At m b o (c1 ++ (c2 ++ c3))) : At m b (o + c1.length) c2 := by
  obtain ⟨c, e, f, h1, h2⟩ := h
  refine ⟨c, e, f, h1, fun j v hj => ?_⟩
  have hlt := (List.getElem?_eq_some_iff.1 hj).1
  have := h2 (c1.length + j) v (by rw [List.getElem?_append_right (by omega), Nat.add_sub_cancel_left, List.getElem?_append_left hlt]; exact hj)
  rwa [← Nat.add_assoc] at this
theorem Inv.memR {K : Kn} {s : SS} {w : World} (i : Inv K s w) : ∀ k o, K.rd k = some o → w.heap[k]? = some o := by
  obtain ⟨h, ha, d, r, _⟩ := i.st
  obtain ⟨x, y, dj, rfl, _, z, u, _, rfl, rfl, rfl⟩ := (all_append _ _ _).1 ha
  intro k o hk
  refine r k o ?_
  rw [uni_none0] at d dj ⊢
  rcases uni_some.1 hk with e | ⟨e1, e2⟩
  · exact uni_some.2 (.inl e)
  · exact uni_some.2 (.inr ⟨e1, sub_uni_right dj k o e2⟩)
theorem _root_.Go.SL.St.atP {p : Pers} {w : World} {H : List Assn} (s : St p w H) {b o : Nat} {cs : List Value} (h : At p.h b o cs) : At (hm w) b o cs := h.sub s.memP

/-! ### a load -/
theorem flat_pure : ∀ {t : Ty}, t.flat = true → t.pure = true := by
  intro t
  induction t with
  | pair a b iha ihb => intro h; simp only [Ty.flat, Bool.and_eq_true] at h; simp [Ty.pure, iha h.1, ihb h.2]
  | arr n a ih => intro h; exact ih h
  | fz a ih => intro h; cases h
  | vec e a ih => intro h; cases h
  | box e a ih => intro h; cases h
  | obox e a ih => intro h; cases h
  | map a ih => intro h; cases h
  | _ => intro h; rfl
theorem flat_mem {m n : Mem} : ∀ {t : Ty}, t.flat = true → ∀ {x : t.T} {cs : List Value}, DenT m t x cs → DenT n t x cs := by
  intro t
  induction t with
  | pair a b iha ihb =>
    intro h x cs ⟨c, d, e, h1, h2⟩
    simp only [Ty.flat, Bool.and_eq_true] at h
    exact ⟨c, d, e, iha h.1 h1, ihb h.2 h2⟩
  | arr k a ih => intro h x cs ⟨h1, h2⟩; exact ⟨h1, Cat.mono (fun x c q => ih h q) h2⟩
  | fz a ih => intro h; cases h
  | vec e a ih => intro h; cases h
  | box e a ih => intro h; cases h
  | obox e a ih => intro h; cases h
  | map a ih => intro h; cases h
  | _ => intro h x cs q; exact q

noncomputable def navRd {β : Type} (c : CT) (q : List Step) (k : SV → Option β) : Option β := match nav c q with
  | some (sub, _, []) => (match sub.ldp.1 with
    | some v => k v
    | none => none)
  | some (.dat t x, _, r) => bif t.pure then getL t x r fun a y => k (.d a y) else none
  | _ => none
noncomputable def ldAt {β : Type} (s : SS) (a : SV) (k : SV → Option β) : Option β :=
  match a with
  | .dp t x => k (.d t x)
  | .bp t x => bif t.flat then k (.d t x) else k (.bd t x)
  | .ptr id pa => match hget s.hp id with
    | some (.blk e c) => match nav c pa with
      | some (sub, _, []) => match sub.ldp.1 with
        | some v => k v
        | none => none
      | some (.dat t x, _, r) => bif t.pure then getL t x r fun a y => k (.d a y) else none
      | _ => none
    | some (.row e t l) => match pa with
      | .i j z :: r => bif t.pure && Nat.beq z t.w then bnd (l[j]?) fun y => getL t y r fun a y => k (.d a y) else none
      | _ => none
    | some (.fro t l) => match pa with
      | .i j z :: r => bif Nat.beq z t.w then bnd (l[j]?) fun y => getL t y r fun a y => k (.d a y) else none
      | _ => none
    | some (.foc e t l j c) => match pa with
      | .i j' z :: q => bif Nat.beq z t.w then gd (j' = j) (navRd c q k) else none
      | _ => none
    | _ => none
  | _ => none
/-- the cells of v stand behind a pointer -/
noncomputable def Reads (w : World) (a v : Value) : Prop := ∃ b o, a = .pointer (some ⟨b, o, none⟩) ∧ At (hm w) b o v.cells.toList
theorem own_at {p : Pers} {w : World} {H : List Assn} {e : TypeId} {sz : Nat} {v : Value} {n b : Nat} {xs : List Value} (s : St p w (Own e sz v n xs :: H)) (hb : Base v b) (hn : 0 < n) : At (hm w) b 0 xs := by
  obtain ⟨hl, ⟨A, rfl, rfl, s2⟩ | ⟨g, cap, cur, rfl, s2, h1, h2, h3, h4⟩⟩ := s.ownOpen
  · omega
  · cases hb
    refine ⟨cur, e, _, s2.block, fun j u hu => ?_⟩
    rw [← h4, List.getElem?_take] at hu
    split at hu
    · simpa using hu
    · cases hu
theorem foc_st {K : Kn} {t : Ty} {l : List t.T} {j : Nat} {c : CT} {xs : List Value} {p : Pers} {w : World} {H : List Assn} (st : St p w (FocA K t l j c xs :: H)) :
    ∃ a b d F, xs = a ++ (b ++ d) ∧ a.length = j * t.w ∧ j < l.length ∧ St p w (CA K c b :: F :: H) ∧
      ∀ K', K.le K' → ∀ c' b' (q : Pers) (w' : World) (H' : List Assn), St q w' (CA K' c' b' :: F :: H') → St q w' (FocA K' t l j c' (a ++ (b' ++ d)) :: H') := by
  obtain ⟨a, st1⟩ := st.ex
  obtain ⟨b, st1⟩ := st1.ex
  obtain ⟨d, st1⟩ := st1.ex
  obtain ⟨⟨e, hal, hjl⟩, st1⟩ := st1.iff
  refine ⟨a, b, d, _, e, hal, hjl, st1.sep, ?_⟩
  intro K' le c' b' q w' H' s'
  refine St.mkex a (St.mkex b' (St.mkex d (St.mkiff ⟨rfl, hal, hjl⟩ (St.mksep ?_))))
  exact (s'.swap.weaken fun h q => sep_mono (fun _ => CatA.mono fun _ _ _ => OA.sub le.p.h) (fun _ => CatA.mono fun _ _ _ => OA.sub le.p.h) _ q).swap
theorem navRd_ok {β : Type} {K : Kn} {w : World} {H : List Assn} {c : CT} {cs : List Value} {b o0 : Nat} {q : List Step} {k : SV → Option β} {r : β} (st : St K.p w (CA K c cs :: H)) (hat : At (hm w) b o0 cs) (h : navRd c q k = some r) :
    ∃ v sv, At (hm w) b (o0 + pOff q) v.cells.toList ∧ sv.den K v ∧ k sv = some r := by
  obtain ⟨hh, ⟨x1, y1, d1, rfl, hC, hY⟩, _⟩ := st
  unfold navRd at h
  split at h
  · rename_i sub g hn
    obtain ⟨o, ho, hc⟩ := nav_ok (K := K) hn
    obtain ⟨c1, c2, c3, F, rfl, hl, ⟨z1, z2, dz, rfl, qs, _⟩, _⟩ := hc _ _ hC
    split at h
    · rename_i v hv
      obtain ⟨v', q1, q2, q3⟩ := (ld_ok qs).1 _ hv
      refine ⟨v', v, ?_, q1, h⟩
      rw [q2, ho]; have := hat.mid; rw [hl] at this; simpa [pOff] using this
    · cases h
  · rename_i t x g r hne hn
    cases hp : t.pure with
    | false => rw [hp, cond_false] at h; cases h
    | true =>
      rw [hp, cond_true] at h
      obtain ⟨o, ho, hc⟩ := nav_ok (K := K) hn
      obtain ⟨c1, c2, c3, F, rfl, hl, ⟨z1, z2, dz, rfl, qs, _⟩, _⟩ := hc _ _ hC
      have qs' : OA K.p.h t x c2 z1 := qs
      rw [oa_pure _ t hp] at qs'
      obtain ⟨a, y, d1, d2, d3, rfl, hl2, hd, hk⟩ := getL_ok qs'.2 h
      have h1 := hat.mid
      rw [hl] at h1
      have h2 := h1.mid
      rw [hl2] at h2
      obtain ⟨v, q1, q2, q3⟩ := VD.mk hd
      refine ⟨v, .d _ _, ?_, ⟨v, rfl, q1⟩, hk⟩
      rw [q2, ho, ← Nat.add_assoc]; exact h2
  · cases h
theorem ldAt_ok {β : Type} {K : Kn} {s : SS} {w : World} {a : SV} {va : Value} {k : SV → Option β} {r : β} (i : Inv K s w) (ha : a.den K va) (h : ldAt s a k = some r) :
    ∃ v sv, Reads w va v ∧ sv.den K v ∧ k sv = some r := by
  have mk : ∀ {t : Ty} {x : t.T} {b o : Nat} {cs : List Value}, At (hm w) b o cs → DenT K.p.h t x cs → va = .pointer (some ⟨b, o, none⟩) → k (.d t x) = some r → ∃ v sv, Reads w va v ∧ sv.den K v ∧ k sv = some r := by
    intro t x b o cs h1 h2 h3 h4
    obtain ⟨v, q1, q2, q3⟩ := VD.mk h2
    exact ⟨v, .d t x, ⟨b, o, h3, by rw [q2]; exact h1⟩, ⟨v, rfl, q1⟩, h4⟩
  cases a <;> simp only [ldAt, reduceCtorEq] at h
  case dp t x =>
    obtain ⟨b, o, cs, e, h1, h2⟩ := ha; cases e
    exact mk (i.st.atP h1) h2 rfl h
  case bp t x =>
    obtain ⟨b, o, cs, e, h1, h2⟩ := ha; cases e
    cases hf : t.flat with
    | true =>
      rw [hf, cond_true] at h
      obtain ⟨v, q1, q2, q3⟩ := VD.mk (flat_mem (n := K.p.h) hf h2)
      exact ⟨v, .d t x, ⟨b, o, rfl, by rw [q2]; exact h1.sub i.memR⟩, ⟨v, rfl, q1⟩, h⟩
    | false =>
      rw [hf, cond_false] at h
      obtain ⟨v, q1, q2, q3⟩ := VD.mk h2
      exact ⟨v, .bd t x, ⟨b, o, rfl, by rw [q2]; exact h1.sub i.memR⟩, ⟨v, rfl, q1⟩, h⟩
  case ptr id pa =>
    obtain ⟨u, b, hE, hB, e⟩ := ha; cases e
    split at h
    · rename_i e c hg
      have s1 := i.take hg
      obtain ⟨b', s1⟩ := s1.ex
      obtain ⟨cs, s1⟩ := s1.ex
      obtain ⟨hE', s1⟩ := s1.iff
      rw [hE] at hE'; cases hE'
      cases hB
      have s2 := s1.sep
      have hat : At (hm w) b 0 cs := ⟨_, e, _, s2.block, fun j v hj => by rw [Nat.zero_add]; simpa using hj⟩
      obtain ⟨hh, ⟨x1, y1, d1, rfl, hA, x2, y2, d2, rfl, hC, hY⟩, _⟩ := s2
      split at h
      · rename_i sub g hn
        obtain ⟨o, ho, hc⟩ := nav_ok (K := K) hn
        obtain ⟨c1, c2, c3, F, rfl, hl, ⟨z1, z2, dz, rfl, qs, _⟩, _⟩ := hc _ _ hC
        split at h
        · rename_i v hv
          obtain ⟨v', q1, q2, q3⟩ := (ld_ok qs).1 _ hv
          refine ⟨v', v, ⟨b, _, rfl, ?_⟩, q1, h⟩
          rw [q2, ho]; have := hat.mid; rw [hl, Nat.zero_add] at this; exact this
        · cases h
      · rename_i t x g r hne hn
        cases hp : t.pure with
        | false => rw [hp, cond_false] at h; cases h
        | true =>
          rw [hp, cond_true] at h
          obtain ⟨o, ho, hc⟩ := nav_ok (K := K) hn
          obtain ⟨c1, c2, c3, F, rfl, hl, ⟨z1, z2, dz, rfl, qs, _⟩, _⟩ := hc _ _ hC
          have qs' : OA K.p.h t x c2 z1 := qs
          rw [oa_pure _ t hp] at qs'
          obtain ⟨a, y, d1, d2, d3, rfl, hl2, hd, hk⟩ := getL_ok qs'.2 h
          have h1 := hat.mid
          rw [hl, Nat.zero_add] at h1
          have h2 := h1.mid
          rw [hl2, ← ho] at h2
          exact mk h2 hd rfl hk
      · cases h
    · rename_i e t l hg
      have s1 := i.take hg
      obtain ⟨v, s1⟩ := s1.ex
      obtain ⟨xs, s1⟩ := s1.ex
      obtain ⟨hE', s1⟩ := s1.iff
      rw [hE] at hE'; cases hE'
      have s2 := s1.sep
      split at h
      · rename_i j z r
        cases hp : t.pure && Nat.beq z t.w with
        | false => rw [hp, cond_false] at h; cases h
        | true =>
          rw [hp, cond_true] at h
          simp only [Bool.and_eq_true] at hp
          have := Nat.eq_of_beq_eq_true hp.2; subst this
          obtain ⟨y, hy, hk⟩ := bnd_some h
          have hlt := (List.getElem?_eq_some_iff.1 hy).1
          have hat := own_at s2 hB (by omega)
          rw [catA_pure (S := fun x c => DenT K.p.h t x c) (fun x c => oa_pure _ t hp.1 x c)] at s2
          obtain ⟨hcat, _⟩ := (s2.take (.there .here)).pu
          obtain ⟨c1, c2, c3, rfl, hl, hd⟩ := Cat.at (fun x c h => DenT.length h) hcat hy
          obtain ⟨a, y', d1, d2, d3, rfl, hl2, hd2, hk2⟩ := getL_ok hd hk
          have h1 := hat.mid
          have h2 := h1.mid
          rw [hl, hl2, Nat.zero_add] at h2
          exact mk h2 hd2 rfl hk2
      · cases h
    · rename_i t l hg
      have s1 := i.take hg
      obtain ⟨⟨v, hE', X, c, hv, hc, hX⟩, _⟩ := s1.pu
      rw [hE] at hE'; cases hE'
      split at h
      · rename_i j z r
        cases hp : Nat.beq z t.w with
        | false => rw [hp, cond_false] at h; cases h
        | true =>
          rw [hp, cond_true] at h
          have := Nat.eq_of_beq_eq_true hp; subst this
          obtain ⟨y, hy, hk⟩ := bnd_some h
          have hlt := (List.getElem?_eq_some_iff.1 hy).1
          obtain ⟨b2, o2, ds, rfl, hat, hcat⟩ := hX.resolve_left (by omega)
          cases hv
          have hB' : (⟨b2, o2, none⟩ : Addr) = ⟨b, 0, none⟩ := hB
          cases hB'
          obtain ⟨c1, c2, c3, rfl, hl, hd⟩ := Cat.at (fun x c h => DenT.length h) hcat hy
          obtain ⟨a, y', d1, d2, d3, rfl, hl2, hd2, hk2⟩ := getL_ok hd hk
          have h1 := (i.st.atP hat).mid
          have h2 := h1.mid
          rw [hl, hl2, Nat.zero_add] at h2
          exact mk h2 hd2 rfl hk2
      · cases h
    · rename_i e t l j c hg
      obtain ⟨v, s1⟩ := (i.take hg).ex
      obtain ⟨xs, s1⟩ := s1.ex
      obtain ⟨hE', s1⟩ := s1.iff
      rw [hE] at hE'; cases hE'
      have s2 := s1.sep
      split at h
      · rename_i j' z q
        cases hp : Nat.beq z t.w with
        | false => rw [hp, cond_false] at h; cases h
        | true =>
          rw [hp, cond_true] at h
          have := Nat.eq_of_beq_eq_true hp; subst this
          obtain ⟨hj, h9⟩ := gd_some h
          subst hj
          obtain ⟨a, b0, d, F0, rfl, hal, hjl, st1, _⟩ := foc_st s2.swap
          have hat := (own_at s2 hB (by omega)).mid
          rw [hal, Nat.zero_add] at hat
          obtain ⟨v', sv, h1, h2, h3⟩ := navRd_ok st1 hat h9
          exact ⟨v', sv, ⟨b, _, rfl, by simpa [pOff, Nat.add_comm] using h1⟩, h2, h3⟩
      · cases h
    · cases h
end Go.GX
namespace Go.GX
open Go.RowKit Go.SL
set_option linter.unusedVariables false
set_option linter.unusedSimpArgs false

theorem Cat.split {α : Type} {R : α → List Value → Prop} : ∀ {l m : List α} {cs : List Value}, Cat R (l ++ m) cs → ∃ a b, cs = a ++ b ∧ Cat R l a ∧ Cat R m b := by
  intro l
  induction l with
  | nil => intro m cs h; exact ⟨[], cs, rfl, rfl, h⟩
  | cons x l ih =>
    intro m cs h
    obtain ⟨c, d, rfl, h1, h2⟩ := h
    obtain ⟨a, b, rfl, h3, h4⟩ := ih h2
    exact ⟨c ++ a, b, by simp, ⟨c, a, rfl, h1, h3⟩, h4⟩
/-- v is a slice of l: its cells lie in M, and are told by m -/
noncomputable def SlM (M m : Mem) (t : Ty) (l : List t.T) (v : Value) : Prop := ∃ X c, v = .slice X l.length c ∧ l.length ≤ c ∧ (l.length = 0 ∨ ∃ b o ds, X = some ⟨b, o, none⟩ ∧ At M b o ds ∧ Cat (fun x c => DenT m t x c) l ds)
theorem SlM.sub {M M' m : Mem} (hM : ∀ k o, M k = some o → M' k = some o) {t : Ty} {l : List t.T} {v : Value} (h : SlM M m t l v) : SlM M' m t l v := by
  obtain ⟨X, c, e, hc, h⟩ := h
  exact ⟨X, c, e, hc, h.imp (fun h => h) fun ⟨b, o, ds, h1, h2, h3⟩ => ⟨b, o, ds, h1, h2.sub hM, h3⟩⟩
theorem SlM.den {M m : Mem} (hM : ∀ k o, m k = some o → M k = some o) {t : Ty} {l : List t.T} {v : Value} (h : SlM M m t l v) : DenT M (.fz t) l [v] := by
  obtain ⟨X, c, rfl, hc, h⟩ := h
  exact ⟨X, c, rfl, hc, h.imp (fun h => h) fun ⟨b, o, ds, h1, h2, h3⟩ => ⟨b, o, ds, h1, h2, Cat.mono (fun x c q => DenT.sub hM q) h3⟩⟩
theorem SlM.of {m : Mem} {t : Ty} {l : List t.T} {v : Value} (h : DenT m (.fz t) l [v]) : SlM m m t l v := by
  obtain ⟨X, c, e, hc, h⟩ := h
  exact ⟨X, c, by simpa using e, hc, h⟩
theorem row_viewM {K : Kn} {id : Nat} {e : TypeId} {t : Ty} {l : List t.T} {v : Value} {G : Hp} {R : List Assn} (hd : disj K.p.h G) (ht : t.pure = true) (ha : all ((EN.row e t l).asn K id :: R) G) (hE : K.E id = some v) : SlM (uni K.p.h G) K.p.h t l v := by
  obtain ⟨x, y, dj, rfl, ⟨u, xs, hu, a, b, dj2, rfl, hO, hC⟩, _⟩ := ha
  rw [hE] at hu; cases hu
  rw [catA_pure (S := fun x c => DenT K.p.h t x c) (fun x c => oa_pure _ t ht x c)] at hC
  obtain ⟨rfl, hC⟩ := hC
  rw [uni_none0] at hd dj ⊢
  obtain ⟨hl, ⟨A, rfl, h0, _⟩ | ⟨g, cap, cur, rfl, hp, hn, hc, hs, hx⟩⟩ := hO
  · exact ⟨A, 0, by rw [h0], by omega, .inl h0⟩
  · refine ⟨_, cap, rfl, hn, .inr ⟨g, 0, xs, rfl, ⟨cur, e, (0, 0), ?_, ?_⟩, hC⟩⟩
    · have hg : a g = some (.cells cur e) := by rw [show a = _ from hp]; simp
      refine uni_some.2 (.inr ⟨?_, ?_⟩)
      · rcases hd g with q | q
        · exact q
        · rw [uni_some.2 (.inl hg)] at q; cases q
      · exact uni_some.2 (.inl hg)
    · intro j u hj
      rw [Nat.zero_add, ← Array.getElem?_toList]
      rw [← hx, List.getElem?_take] at hj
      split at hj
      · exact hj
      · cases hj
theorem row_view {K : Kn} {id : Nat} {e : TypeId} {t : Ty} {l : List t.T} {v : Value} {G : Hp} {R : List Assn} (hd : disj K.p.h G) (ht : t.pure = true) (ha : all ((EN.row e t l).asn K id :: R) G) (hE : K.E id = some v) : DenT (uni K.p.h G) (.fz t) l [v] :=
  (row_viewM hd ht ha hE).den fun k o h => uni_some.2 (.inl h)
noncomputable def lastI : List Step → Option (List Step × Nat × Nat)
  | [] => none
  | [.i j z] => some ([], j, z)
  | a :: l => match lastI l with
    | some (p, j, z) => some (a :: p, j, z)
    | none => none
theorem lastI_ok : ∀ {pa p : List Step} {j z : Nat}, lastI pa = some (p, j, z) → pOff pa = pOff p + j * z := by
  intro pa
  induction pa with
  | nil => intro p j z h; cases h
  | cons a l ih =>
    intro p j z h
    unfold lastI at h
    split at h
    · cases h
    · rename_i e; cases e; cases h; simp [pOff]
    · rename_i e; cases e
      split at h <;> try (cases h; done)
      rename_i p' j' z' hq
      cases h
      have := ih hq
      cases a <;> simp only [pOff, this] <;> omega
theorem lastI_eq : ∀ {pa p : List Step} {j z : Nat}, lastI pa = some (p, j, z) → pa = p ++ [.i j z] := by
  intro pa
  induction pa with
  | nil => intro p j z h; cases h
  | cons a l ih =>
    intro p j z h
    unfold lastI at h
    split at h
    · cases h
    · rename_i e; cases e; cases h; rfl
    · rename_i e; cases e
      split at h <;> try (cases h; done)
      rename_i p' j' z' hq
      cases h
      rw [ih hq]; rfl
theorem fz_seg {M m : Mem} {t : Ty} {l : List t.T} {b o lo n c : Nat} {ds : List Value} (hat : At M b o ds) (hcat : Cat (fun x c => DenT m t x c) l ds) (hl : lo + n ≤ l.length) (hc : n ≤ c) {X : Option Addr} (hX : n = 0 ∨ X = some ⟨b, o + lo * t.w, none⟩) :
    SlM M m t ((l.drop lo).take n) (.slice X n c) := by
  have hlen : ((l.drop lo).take n).length = n := by rw [List.length_take, List.length_drop]; omega
  refine ⟨X, c, by rw [hlen], by rw [hlen]; exact hc, ?_⟩
  rcases hX with h0 | rfl
  · exact .inl (by rw [hlen]; exact h0)
  · right
    have hl2 : l = l.take lo ++ ((l.drop lo).take n ++ (l.drop lo).drop n) := by rw [List.take_append_drop, List.take_append_drop]
    rw [hl2] at hcat
    obtain ⟨a, b2, rfl, ha, hb⟩ := Cat.split hcat
    obtain ⟨b3, b4, rfl, hb3, _⟩ := Cat.split hb
    have hal : a.length = lo * t.w := by rw [Cat.length (k := t.w) (fun x c h => DenT.length h) ha, List.length_take, Nat.min_eq_left (by omega)]
    refine ⟨b, o + lo * t.w, b3, rfl, ?_, hb3⟩
    have := hat.mid; rwa [hal] at this
theorem slm_nil {M m : Mem} {t : Ty} {l : List t.T} {X : Option Addr} {c lo : Nat} : SlM M m t ((l.drop lo).take 0) (.slice X 0 c) := ⟨X, c, by simp, by simp, .inl (by simp)⟩
section
variable {β : Type}
noncomputable def segK (t t' : Ty) (l : List t'.T) (lo m z : Nat) (k : List t.T → Option β) : Option β := bif Nat.beq z t'.w && t'.pure then (match castT (.fz t') (.fz t) l with
  | some y => gd (lo + m ≤ List.length y) (k (List.take m (List.drop lo y)))
  | none => none) else none
/-- what a piece of what is held is -/
noncomputable def vwC (s : SS) (id : Nat) (pa : List Step) (m : Nat) (t : Ty) (k : List t.T → Option β) : Option β := match lastI pa with
  | some (p, lo, z) => (match hget s.hp id with
    | some (.row _ t' l) => (match p with
      | [] => segK t t' l lo m z k
      | .i j z0 :: q => bif t'.pure && Nat.beq z0 t'.w then bnd (l[j]?) fun y => getL t' y q fun a y2 => (match a, y2 with
        | .arr _ t2, l2 => segK t t2 l2 lo m z k
        | _, _ => none) else none
      | _ => none)
    | some (.fro t' l) => (match p with
      | [] => segK t t' l lo m z k
      | _ => none)
    | some (.blk _ c) => (match nav c p with
      | some (.dat t0 x, _, r) => bif t0.pure then getL t0 x r fun a y => (match a, y with
          | .arr _ t', l => segK t t' l lo m z k
          | _, _ => none) else none
      | _ => none)
    | _ => none)
  | none => none
theorem segK_ok {t t' : Ty} {l : List t'.T} {lo m z : Nat} {k : List t.T → Option β} {r : β} (h : segK t t' l lo m z k = some r) : z = t'.w ∧ t'.pure = true ∧ t' = t ∧ lo + m ≤ l.length ∧ ∃ l' : List t.T, HEq l' l ∧ k ((l'.drop lo).take m) = some r := by
  unfold segK at h
  cases hb : Nat.beq z t'.w && t'.pure with
  | false => rw [hb, cond_false] at h; cases h
  | true =>
  rw [hb, cond_true] at h
  simp only [Bool.and_eq_true] at hb
  split at h <;> try (cases h; done)
  rename_i y hy
  obtain ⟨e, hx⟩ := castT_eq hy
  cases e; cases hx
  obtain ⟨h1, h2⟩ := gd_some h
  exact ⟨Nat.eq_of_beq_eq_true hb.1, hb.2, rfl, h1, l, HEq.rfl, h2⟩
theorem hget_all {K : Kn} {R : List Assn} {l : HP} {id : Nat} {n : EN} {h : Hp} (hg : hget l id = some n) (ha : all (asns K l ++ R) h) : all (n.asn K id :: (asns K (hdel l id) ++ R)) h := (all_del (hget_del hg)).1 ha
theorem vw_den {K : Kn} {s : SS} {R : List Assn} {h0 : Hp} {M : Mem} {id : Nat} {pa : List Step} {m : Nat} {t : Ty} {k : List t.T → Option β} {r : β} {v : Value} (hd : disj K.p.h h0) (ha : all (asns K s.hp ++ R) h0) (hM : ∀ k o, uni K.p.h h0 k = some o → M k = some o) (hx : (SV.vw id pa m).den K v) (h : vwC s id pa m t k = some r) :
    ∃ l : List t.T, SlM M K.p.h t l v ∧ l.length = m ∧ t.pure = true ∧ k l = some r := by
  obtain ⟨X, c, e, hc, hX, _⟩ := hx
  have e' : v = .slice X m c := by simpa using e
  subst e'
  unfold vwC at h
  split at h <;> try (cases h; done)
  rename_i p lo z hp
  have hoff := lastI_ok hp
  split at h <;> try (cases h; done)
  · rename_i e0 t' l hg
    split at h <;> try (cases h; done)
    rotate_left
    · rename_i j z0 q
      cases hpb : t'.pure && Nat.beq z0 t'.w with
      | false => rw [hpb, cond_false] at h; cases h
      | true =>
      rw [hpb, cond_true] at h
      simp only [Bool.and_eq_true] at hpb
      have hz0 := Nat.eq_of_beq_eq_true hpb.2
      obtain ⟨y, hy, h⟩ := bnd_some h
      have hlt := (List.getElem?_eq_some_iff.1 hy).1
      have hal := hget_all hg ha
      have hal2 := hal
      obtain ⟨_, _, _, _, ⟨u, xs, hu, _⟩, _⟩ := hal2
      obtain ⟨X', c', e2, hc', h0'⟩ := row_viewM hd hpb.1 hal hu
      obtain ⟨b', o, ds, rfl, hat, hcat⟩ := h0'.resolve_left (by omega)
      obtain ⟨c1, c2, c3, rfl, hl1, hdy⟩ := Cat.at (fun x c h => DenT.length h) hcat hy
      obtain ⟨a, y2, d1, d2, d3, rfl, hl2, hd2, hk⟩ := getL_ok hdy h
      cases a <;> simp only [reduceCtorEq] at hk
      rename_i n t2
      obtain ⟨rfl, hpu, rfl, hle, l', hl', hk⟩ := segK_ok hk
      cases hl'
      refine ⟨_, ?_, by rw [List.length_take, List.length_drop]; omega, hpu, hk⟩
      rcases Nat.eq_zero_or_pos m with hm | hm
      · subst hm
        exact slm_nil
      · obtain ⟨u2, b, hE, hB, rfl⟩ := hX.resolve_left (by omega)
        rw [hu] at hE; cases hE
        subst e2
        have hB' : (⟨b', o, none⟩ : Addr) = ⟨b, 0, none⟩ := hB
        cases hB'
        have h1 := (hat.sub hM).mid
        have h2 := h1.mid
        rw [hl1, hl2, Nat.zero_add] at h2
        exact fz_seg h2 hd2.2 hle hc (.inr (by rw [hoff]; simp [pOff, hz0]))
    obtain ⟨rfl, hpu, rfl, hle, l', hl', hk⟩ := segK_ok h
    cases hl'
    refine ⟨_, ?_, by rw [List.length_take, List.length_drop]; omega, hpu, hk⟩
    have hal := hget_all hg ha
    have hal2 := hal
    obtain ⟨_, _, _, _, ⟨u, xs, hu, _⟩, _⟩ := hal2
    obtain ⟨X', c', e2, hc', h0'⟩ := (row_viewM hd hpu hal hu).sub hM
    rcases Nat.eq_zero_or_pos m with hm | hm
    · subst hm
      exact slm_nil
    · obtain ⟨b', o, ds, rfl, hat, hcat⟩ := h0'.resolve_left (by omega)
      obtain ⟨u2, b, hE, hB, rfl⟩ := hX.resolve_left (by omega)
      rw [hu] at hE; cases hE
      subst e2
      have hB' : (⟨b', o, none⟩ : Addr) = ⟨b, 0, none⟩ := hB
      cases hB'
      exact fz_seg hat hcat hle hc (.inr (by rw [hoff]; simp [pOff]))
  · rename_i t' l hg
    split at h <;> try (cases h; done)
    obtain ⟨rfl, hpu, rfl, hle, l', hl', hk⟩ := segK_ok h
    cases hl'
    refine ⟨_, ?_, by rw [List.length_take, List.length_drop]; omega, hpu, hk⟩
    have hal := hget_all hg ha
    obtain ⟨_, _, _, _, ⟨_, u, hu, hden0⟩, _⟩ := hal
    obtain ⟨X', c', e2, hc', h0'⟩ := (SlM.of hden0).sub fun k o h => hM k o (uni_some.2 (.inl h))
    rcases Nat.eq_zero_or_pos m with hm | hm
    · subst hm
      exact slm_nil
    · obtain ⟨b', o, ds, rfl, hat, hcat⟩ := h0'.resolve_left (by omega)
      obtain ⟨u2, b, hE, hB, rfl⟩ := hX.resolve_left (by omega)
      rw [hu] at hE; cases hE
      subst e2
      have hB' : (⟨b', o, none⟩ : Addr) = ⟨b, 0, none⟩ := hB
      cases hB'
      exact fz_seg hat hcat hle hc (.inr (by rw [hoff]; simp [pOff]))
  · rename_i e0 ct hg
    split at h <;> try (cases h; done)
    rename_i t0 x g q hnav
    cases hpu0 : t0.pure with
    | false => rw [hpu0, cond_false] at h; cases h
    | true =>
    rw [hpu0, cond_true] at h
    have hal := hget_all hg ha
    obtain ⟨y1, y2, dj, rfl, ⟨b, cs, hE, z1, z2, dj2, rfl, hpt, hca⟩, _⟩ := hal
    obtain ⟨o, ho, hctx⟩ := nav_ok (K := K) hnav
    obtain ⟨c1, c2, c3, F, rfl, hl1, hsep, _⟩ := hctx cs z2 hca
    obtain ⟨w1, w2, dj3, rfl, hOA, _⟩ := hsep
    have hOA' : OA K.p.h t0 x c2 w1 := hOA
    rw [oa_pure _ _ hpu0] at hOA'
    obtain ⟨a, y, d1, d2, d3, rfl, hl2, hdy, hk⟩ := getL_ok hOA'.2 h
    cases a <;> simp only [reduceCtorEq] at hk
    rename_i n t'
    obtain ⟨rfl, hpu, rfl, hle, l', hl', hk⟩ := segK_ok hk
    cases hl'
    refine ⟨_, ?_, by rw [List.length_take, List.length_drop]; omega, hpu, hk⟩
    have hat : At M b (pOff p) d2 := by
      have hb : uni K.p.h (uni (uni z1 (uni w1 w2)) y2) b = some (.cells (c1 ++ ((d1 ++ (d2 ++ d3)) ++ c3)).toArray e0) := by
        have hz : z1 b = some (.cells (c1 ++ ((d1 ++ (d2 ++ d3)) ++ c3)).toArray e0) := by rw [show z1 = _ from hpt]; simp
        have hq := uni_some.2 (.inl (uni_some.2 (.inl hz)) : _ ∨ ((uni z1 (uni w1 w2)) b = none ∧ y2 b = some (.cells (c1 ++ ((d1 ++ (d2 ++ d3)) ++ c3)).toArray e0)))
        refine uni_some.2 (.inr ⟨?_, hq⟩)
        rcases hd b with q | q
        · exact q
        · rw [hq] at q; cases q
      refine ⟨_, _, _, hM _ _ hb, fun j v hj => ?_⟩
      have hlt := (List.getElem?_eq_some_iff.1 hj).1
      rw [List.getElem?_toArray, ho, ← hl1, ← hl2, List.append_assoc, List.append_assoc]
      rw [List.getElem?_append_right (by omega), List.getElem?_append_right (by omega)]
      rw [List.getElem?_append_left (by omega), ← hj]
      congr 1; omega
    obtain ⟨_, hcat⟩ := hdy
    refine fz_seg hat hcat hle hc ?_
    rcases hX with hm | ⟨u2, b2, hE2, hB, rfl⟩
    · exact .inl hm
    · rw [hE] at hE2; cases hE2
      have hB' : (⟨b, 0, none⟩ : Addr) = ⟨b2, 0, none⟩ := hB
      cases hB'
      exact .inr (by rw [hoff])
end
end Go.GX
namespace Go.GX
open Go.RowKit Go.SL
set_option linter.unusedVariables false
set_option linter.unusedSimpArgs false

/-- the lasting part has grown, within a state that still holds what is beside -/
noncomputable def Kn.grow (K : Kn) (q : Pers) : Kn := { K with p := q }
theorem Kn.grow_le {K : Kn} {q : Pers} {w : World} {X : List Assn} (le : K.p.le q) (s : St q w (X ++ [Exact K.F])) : K.le (K.grow q) := by
  refine ⟨le, fun _ _ h => h, rfl, fun _ _ _ => rfl, Nat.le_refl _, fun _ _ h => h, fun k o hk => ?_⟩
  obtain ⟨h, ha, d, r, _⟩ := s
  obtain ⟨x, y, dj, rfl, _, z, u, dj2, rfl, rfl, rfl⟩ := (all_append _ _ _).1 ha
  rw [uni_none0] at d dj
  rcases uni_some.1 hk with e | ⟨e1, e2⟩
  · exact uni_some.2 (.inl (le.h _ _ e))
  · refine uni_some.2 (.inr ⟨?_, e2⟩)
    rcases (disj_uni.1 d).2 k with q1 | q1
    · exact q1
    · rw [e2] at q1; cases q1
/-- a new name -/
noncomputable def Kn.name (K : Kn) (v : Value) : Kn := { K with E := fun j => if j = K.nx then some v else K.E j, nx := K.nx + 1 }
theorem Kn.name_le {K : Kn} {v : Value} (h : K.E K.nx = none) : K.le (K.name v) := by
  refine ⟨Pers.le_refl _, fun j u hj => ?_, rfl, fun _ _ _ => rfl, Nat.le_succ _, fun j hj h2 => ?_, fun _ _ h => h⟩
  · show (if j = K.nx then some v else K.E j) = some u
    split
    · rename_i e; subst e; rw [h] at hj; cases hj
    · exact hj
  · show (if j = K.nx then some v else K.E j) = none
    rw [if_neg (by omega)]; exact h2
theorem Kn.name_eq {K : Kn} {v : Value} : (K.name v).E K.nx = some v := by simp [Kn.name]
theorem Nx.name {K : Kn} {s : SS} {v : Value} (h : Nx K s) (hp : HP) : Nx (K.name v) ⟨hp, s.nx + 1⟩ := by
  refine ⟨by rw [h.eq]; rfl, fun k hk => ?_⟩
  have hk' : K.nx + 1 ≤ k := hk
  show (if k = K.nx then some v else K.E k) = none
  rw [if_neg (by omega)]; exact h.no k (by omega)

/-! ### a row that lasts from now on -/
theorem row_freeze {K : Kn} {w : World} {id : Nat} {e : TypeId} {t : Ty} {l : List t.T} {X : List Assn} (ht : t.pure = true) (s : St K.p w ((EN.row e t l).asn K id :: (X ++ [Exact K.F]))) :
    ∃ K', K.le K' ∧ (K'.E = K.E ∧ K'.nx = K.nx) ∧ (∃ v, K.E id = some v ∧ DenT K'.p.h (.fz t) l [v]) ∧ St K'.p w (X ++ [Exact K.F]) := by
  obtain ⟨v, s1⟩ := s.ex
  obtain ⟨xs, s1⟩ := s1.ex
  obtain ⟨hE, s1⟩ := s1.iff
  have s2 := s1.sep
  rw [catA_pure (S := fun x c => DenT K.p.h t x c) (fun x c => oa_pure _ t ht x c)] at s2
  obtain ⟨hcat, s3⟩ := (s2.take (.there .here)).pu
  obtain ⟨q, le, hlas, s4⟩ := s3.ownKeep
  have hle := Kn.grow_le le s4
  refine ⟨K.grow q, hle, ⟨rfl, rfl⟩, ⟨v, hE, ?_⟩, s4⟩
  obtain ⟨hl, X', c, rfl, hc, h0⟩ := hlas
  refine ⟨X', c, rfl, hc, h0.imp (fun h => h) ?_⟩
  rintro ⟨b, o, cur, e', fr, rfl, hp, hcell⟩
  exact ⟨b, o, xs, rfl, ⟨cur, e', fr, hp, hcell⟩, Cat.mono (fun x c h => DenT.sub le.h h) hcat⟩

/-! ### values as plain ones -/
mutual
noncomputable def outV : Nat → SS → SV → (t : Ty) → Option (t.T × SS)
  | 0, _, _, _ => none
  | f + 1, s, v, t => match v with
    | .d t' x => match castT t' t x with
      | some y => bif t'.pure then some (y, s) else none
      | none => none
    | .bd t' x => bif t'.flat then (match castT t' t x with
      | some y => some (y, s)
      | none => none) else none
    | .nilS => (match t with
      | .fz a => some (([] : List a.T), s)
      | .vec e a => some (([] : List a.T), s)
      | _ => none)
    | .nilP => (match t with
      | .obox e a => some ((none : Option a.T), s)
      | _ => none)
    | .vr id => (match hget s.hp id with
      | some (.row e t' l) => match t with
        | .fz a => bif t'.pure then (match castT (.fz t') (.fz a) l with
          | some y => some (y, { s with hp := (id, .fro t' l) :: hdel s.hp id })
          | none => none) else none
        | .vec e2 a => (match castT (.vec e t') (.vec e2 a) l with
          | some y => some (y, { s with hp := hdel s.hp id })
          | none => none)
        | _ => none
      | some (.fro t' l) => (match castT (.fz t') t l with
        | some y => some (y, s)
        | none => none)
      | some (.foc e t' l j c) => (match t with
        | .vec e2 a => (match outC f { s with hp := hdel s.hp id } c t' with
          | some (y, s1) => (match castT (.vec e t') (.vec e2 a) (l.set j y) with
            | some z => some (z, s1)
            | none => none)
          | none => none)
        | _ => none)
      | _ => none)
    | .ag c => outL f s c t
    | .mp id => (match hget s.hp id with
      | some (.map t' l) => (match castT (.map t') t l with
        | some y => some (y, { s with hp := hdel s.hp id })
        | none => none)
      | _ => none)
    | .ptr id [] => (match hget s.hp id with
      | some (.blk e c) => (match t with
        | .box e2 a => bif Nat.beq e e2 then (match outC f { s with hp := hdel s.hp id } c a with
          | some (y, s') => some ((y : a.T), s')
          | none => none) else none
        | .obox e2 a => bif Nat.beq e e2 then (match outC f { s with hp := hdel s.hp id } c a with
          | some (y, s') => some (some (y : a.T), s')
          | none => none) else none
        | _ => none)
      | _ => none)
    | _ => none
noncomputable def outL : Nat → SS → SV → (t : Ty) → Option (t.T × SS)
  | 0, _, _, _ => none
  | f + 1, s, v, t => match v, t with
    | .nl, .unit => some ((), s)
    | .pr x y, .pair a b => (match outV f s x a with
      | some (u, s1) => (match outL f s1 y b with
        | some (u2, s2) => some ((u, u2), s2)
        | none => none)
      | none => none)
    | _, _ => none
noncomputable def outC : Nat → SS → CT → (t : Ty) → Option (t.T × SS)
  | 0, _, _, _ => none
  | f + 1, s, c, t => match c with
    | .cel v => bif t.agg then none else outV f s v t
    | .dat t' x => (match castT t' t x with
      | some y => some (y, s)
      | none => none)
    | .nl => (match t with
      | .unit => some ((), s)
      | _ => none)
    | .pr x y => (match t with
      | .pair a b => (match outC f s x a with
        | some (u, s1) => (match outC f s1 y b with
          | some (u2, s2) => some ((u, u2), s2)
          | none => none)
        | none => none)
      | _ => none)
end

/-- what a conversion does: beside what is held there is a plain value -/
noncomputable def OutOk (K : Kn) (s : SS) (t : Ty) (x : t.T) (cs : List Value) (s' : SS) (w : World) (X : List Assn) : Prop :=
  ∃ K', K.le K' ∧ (K'.E = K.E ∧ K'.nx = K.nx) ∧ s'.nx = s.nx ∧ St K'.p w (asns K' s'.hp ++ (OA K'.p.h t x cs :: (X ++ [Exact K.F])))
theorem OutOk.pure {K : Kn} {s : SS} {w : World} {X : List Assn} {t : Ty} {x : t.T} {cs : List Value} (st : St K.p w (asns K s.hp ++ (X ++ [Exact K.F]))) (ht : OA K.p.h t x cs = Pu (DenT K.p.h t x cs)) (h : DenT K.p.h t x cs) : OutOk K s t x cs s w X := by
  refine ⟨K, Kn.le.refl _, ⟨rfl, rfl⟩, rfl, ?_⟩
  rw [ht]
  exact (St.mkpu h st).give (Del.mid _)
theorem sep_left {A B C : Assn} {h : Hp} (q : sep A (sep B C) h) : sep B (sep A C) h := sep_assoc (sep_mono (fun _ => sep_comm) (fun _ h => h) _ (sep_assoc' q))
theorem CatA.foc {α : Type} {R : α → List Value → Assn} {k : Nat} (hl : ∀ x c h, R x c h → c.length = k) : ∀ {l : List α} {j : Nat} {y : α} {cs : List Value} {h : Hp}, CatA R l cs h → l[j]? = some y →
    ∃ a b d, cs = a ++ (b ++ d) ∧ a.length = j * k ∧ sep (R y b) (sep (CatA R (l.take j) a) (CatA R (l.drop (j + 1)) d)) h := by
  intro l
  induction l with
  | nil => intro j y cs h _ e; cases e
  | cons x l ih =>
    intro j y cs h hc hj
    obtain ⟨a0, b0, rfl, q⟩ := hc
    cases j with
    | zero =>
      cases hj
      refine ⟨[], a0, b0, rfl, by simp, sep_mono (fun _ h => h) (fun z q => ?_) _ q⟩
      exact ⟨none0, z, fun _ => .inl rfl, (none0_uni z).symm, ⟨rfl, rfl⟩, q⟩
    | succ j =>
      obtain ⟨u, v, dj, rfl, q1, q2⟩ := q
      obtain ⟨a, b, d, rfl, hal, q3⟩ := ih q2 (by simpa using hj)
      refine ⟨a0 ++ a, b, d, by simp, by rw [List.length_append, hl _ _ _ q1, hal, Nat.add_mul]; omega, ?_⟩
      have q4 := sep_left (A := R x a0) ⟨u, v, dj, rfl, q1, q3⟩
      refine sep_mono (fun _ h => h) (fun z q => ?_) _ q4
      exact sep_mono (fun z q => (⟨a0, a, rfl, q⟩ : CatA R (x :: l.take j) (a0 ++ a) z)) (fun _ h => h) _ (sep_assoc' q)
theorem CatA.unfoc {α : Type} {R : α → List Value → Assn} {y : α} {b d : List Value} : ∀ {l : List α} {j : Nat} {a : List Value} {h : Hp}, j < l.length → sep (R y b) (sep (CatA R (l.take j) a) (CatA R (l.drop (j + 1)) d)) h → CatA R (l.set j y) (a ++ (b ++ d)) h := by
  intro l
  induction l with
  | nil => intro j a h hj; cases hj
  | cons x l ih =>
    intro j a h hj q
    cases j with
    | zero =>
      obtain ⟨u, v, dj, rfl, q1, u2, v2, dj2, rfl, ⟨rfl, rfl⟩, q2⟩ := q
      rw [none0_uni] at dj ⊢
      exact ⟨b, d, rfl, u, v2, dj, rfl, q1, q2⟩
    | succ j =>
      have q0 : sep (R y b) (sep (CatA R (x :: l.take j) a) (CatA R (l.drop (j + 1)) d)) h := q
      obtain ⟨u, v, dj, rfl, q1, u2, v2, dj2, rfl, ⟨a0, a1, rfl, q3⟩, q2⟩ := q0
      have q4 : sep (R y b) (sep (R x a0) (sep (CatA R (l.take j) a1) (CatA R (l.drop (j + 1)) d))) (uni u (uni u2 v2)) := ⟨u, _, dj, rfl, q1, sep_assoc ⟨u2, v2, dj2, rfl, q3, q2⟩⟩
      have q5 := sep_left q4
      show CatA R (x :: l.set j y) _ _
      exact ⟨a0, a1 ++ (b ++ d), by simp, sep_mono (fun _ h => h) (fun _ q => ih (by simpa using hj) q) _ q5⟩
theorem foc_close {f : Nat} (ihC : ∀ {s : SS} {c : CT} {t : Ty} {x : t.T} {s' : SS}, outC f s c t = some (x, s') → ∀ {K : Kn} {w : World} {X : List Assn} {cs : List Value}, St K.p w (CA K c cs :: (asns K s.hp ++ (X ++ [Exact K.F]))) → OutOk K s t x cs s' w X)
    {s : SS} {e : TypeId} {t : Ty} {l : List t.T} {j : Nat} {c : CT} {K : Kn} {w : World} {X : List Assn} {y : t.T} {s1 : SS} {xs : List Value} {v : Value} (h : outC f s c t = some (y, s1)) (st : St K.p w (Own e t.w v l.length xs :: FocA K t l j c xs :: (asns K s.hp ++ (X ++ [Exact K.F])))) :
    ∃ K', K.le K' ∧ (K'.E = K.E ∧ K'.nx = K.nx) ∧ s1.nx = s.nx ∧ St K'.p w (sep (Own e t.w v (l.set j y).length xs) (CatA (fun x c => OA K'.p.h t x c) (l.set j y) xs) :: (asns K' s1.hp ++ (X ++ [Exact K.F]))) := by
  obtain ⟨a, st1⟩ := st.swap.ex
  obtain ⟨b, st1⟩ := st1.ex
  obtain ⟨d, st1⟩ := st1.ex
  obtain ⟨⟨rfl, hal, hjl⟩, st1⟩ := st1.iff
  have st2 := st1.sep
  have st3 := st2.perm (List.Perm.cons _ (List.perm_append_comm_assoc [_, _] (asns K s.hp) (X ++ [Exact K.F])))
  obtain ⟨K', le, hEE, hnx, st4⟩ := ihC (X := _ :: _ :: X) h st3
  refine ⟨K', le, hEE, hnx, ?_⟩
  have st5 := st4.perm (List.perm_append_comm_assoc (asns K' s1.hp) [_, _, _] (X ++ [Exact K.F]))
  have st6 := (St.mksep st5).weaken fun h q => CatA.unfoc (R := fun x c => OA K'.p.h t x c) (d := d) hjl (sep_mono (fun _ h => h) (fun _ => sep_mono (fun _ => CatA.mono fun _ _ _ => OA.sub le.p.h) (fun _ => CatA.mono fun _ _ _ => OA.sub le.p.h) _) _ q)
  rw [List.length_set]
  exact St.mksep st6.swap
theorem out_ok : ∀ (f : Nat),
    (∀ {s : SS} {v : SV} {t : Ty} {x : t.T} {s' : SS}, outV f s v t = some (x, s') → ∀ {K : Kn} {w : World} {X : List Assn} {u : Value}, St K.p w (asns K s.hp ++ (X ++ [Exact K.F])) → v.den K u → OutOk K s t x u.cells.toList s' w X ∧ aggV u = t.agg) ∧
    (∀ {s : SS} {v : SV} {t : Ty} {x : t.T} {s' : SS}, outL f s v t = some (x, s') → ∀ {K : Kn} {w : World} {X : List Assn} {cs : List Value}, St K.p w (asns K s.hp ++ (X ++ [Exact K.F])) → v.dn K .c cs → OutOk K s t x cs s' w X ∧ t.agg = true) ∧
    (∀ {s : SS} {c : CT} {t : Ty} {x : t.T} {s' : SS}, outC f s c t = some (x, s') → ∀ {K : Kn} {w : World} {X : List Assn} {cs : List Value}, St K.p w (CA K c cs :: (asns K s.hp ++ (X ++ [Exact K.F]))) → OutOk K s t x cs s' w X) := by
  intro f
  induction f with
  | zero => exact ⟨fun h => (by simp [outV] at h), fun h => (by simp [outL] at h), fun h => (by simp [outC] at h)⟩
  | succ f ih =>
    obtain ⟨ihV, ihL, ihC⟩ := ih
    refine ⟨?_, ?_, ?_⟩
    · intro s v t x s' h K w X u st hd
      cases v <;> simp only [outV, reduceCtorEq] at h
      case d t' y =>
        obtain ⟨u', e, hd⟩ := hd; cases e
        split at h
        · rename_i z hz
          obtain ⟨rfl, hx⟩ := castT_eq hz
          cases hp : t'.pure with
          | false => rw [hp, cond_false] at h; cases h
          | true =>
            rw [hp, cond_true] at h; cases h
            cases hx
            exact ⟨OutOk.pure st (oa_pure _ _ hp _ _) hd.cells.1, hd.cells.2⟩
        · cases h
      case bd t' y =>
        obtain ⟨u', e, hd⟩ := hd; cases e
        cases hp : t'.flat with
        | false => rw [hp, cond_false] at h; cases h
        | true =>
          rw [hp, cond_true] at h
          split at h
          · rename_i z hz
            obtain ⟨rfl, hx⟩ := castT_eq hz
            cases h; cases hx
            exact ⟨OutOk.pure st (oa_pure _ _ (flat_pure hp) _ _) (flat_mem hp hd.cells.1), hd.cells.2⟩
          · cases h
      case nilS =>
        cases hd
        cases t <;> simp only [reduceCtorEq] at h
        · cases h
          exact ⟨OutOk.pure st rfl ⟨none, 0, rfl, Nat.le_refl _, .inl rfl⟩, rfl⟩
        · cases h
          rename_i e a
          refine ⟨⟨K, Kn.le.refl _, ⟨rfl, rfl⟩, rfl, ?_⟩, rfl⟩
          refine St.give ?_ (Del.mid _)
          refine St.mkex (.slice none 0 0) (St.mkex [] (St.mkiff rfl (St.mksep ?_)))
          exact (St.mkpu rfl st).ownNil none
      case nilP =>
        cases hd
        cases t <;> simp only [reduceCtorEq] at h
        cases h
        refine ⟨⟨K, Kn.le.refl _, ⟨rfl, rfl⟩, rfl, ?_⟩, rfl⟩
        exact (St.mkpu rfl st).give (Del.mid _)
      case vr id =>
        obtain ⟨Y, n, c, hE, e⟩ := hd; cases e
        split at h
        · rename_i e t' l hg
          cases t <;> simp only [reduceCtorEq] at h
          · rename_i a
            cases hp : t'.pure with
            | false => rw [hp, cond_false] at h; cases h
            | true =>
              rw [hp, cond_true] at h
              split at h
              · rename_i z hz
                obtain ⟨e1, hx⟩ := castT_eq hz
                cases e1; cases hx; cases h
                have s1 := st.take (hget_del (R := X ++ [Exact K.F]) hg)
                rw [← List.append_assoc] at s1
                obtain ⟨K', le, hEE, ⟨v, hv, hden⟩, s2⟩ := row_freeze hp s1
                rw [hE] at hv; cases hv
                refine ⟨⟨K', le, hEE, rfl, ?_⟩, rfl⟩
                refine St.give ?_ (Del.mid _)
                refine St.mkpu hden ?_
                refine St.mkpu ⟨_, by rw [hEE.1]; exact hE, hden⟩ ?_
                rw [List.append_assoc] at s2
                exact St.asns le s2
              · cases h
          · rename_i e2 a
            split at h
            · rename_i z hz
              obtain ⟨e1, hx⟩ := castT_eq hz
              cases e1; cases hx; cases h
              have s1 := st.take (hget_del (R := X ++ [Exact K.F]) hg)
              refine ⟨⟨K, Kn.le.refl _, ⟨rfl, rfl⟩, rfl, ?_⟩, rfl⟩
              refine St.give ?_ (Del.mid _)
              obtain ⟨v, s1⟩ := s1.ex
              obtain ⟨xs, s1⟩ := s1.ex
              obtain ⟨hv, s1⟩ := s1.iff
              rw [hE] at hv; cases hv
              exact St.mkex _ (St.mkex xs (St.mkiff rfl s1))
            · cases h
        · rename_i t' l hg
          split at h
          · rename_i z hz
            obtain ⟨e1, hx⟩ := castT_eq hz
            subst e1; cases hx; cases h
            obtain ⟨⟨v, hv, hden⟩, s1⟩ := (st.take (hget_del (R := X ++ [Exact K.F]) hg)).pu
            rw [hE] at hv; cases hv
            exact ⟨OutOk.pure st rfl hden, rfl⟩
          · cases h
        · rename_i e t' l j c hg
          cases t <;> simp only [reduceCtorEq] at h
          rename_i e2 a
          split at h <;> try (cases h; done)
          rename_i y s1 hq
          split at h <;> try (cases h; done)
          rename_i z hz
          obtain ⟨e1, hx⟩ := castT_eq hz
          cases e1; cases hx; cases h
          obtain ⟨v, st1⟩ := (st.take (hget_del (R := X ++ [Exact K.F]) hg)).ex
          obtain ⟨xs, st1⟩ := st1.ex
          obtain ⟨hv, st1⟩ := st1.iff
          rw [hE] at hv; cases hv
          obtain ⟨K', le, hEE, hnx, st2⟩ := foc_close (s := { s with hp := hdel s.hp id }) ihC hq st1.sep
          refine ⟨⟨K', le, hEE, hnx, ?_⟩, rfl⟩
          refine St.give ?_ (Del.mid _)
          exact St.mkex _ (St.mkex xs (St.mkiff rfl st2))
        · cases h
      case mp id =>
        obtain ⟨b, hE, e⟩ := hd; cases e
        split at h <;> try (cases h; done)
        rename_i t' l hg
        split at h <;> try (cases h; done)
        rename_i z hz
        obtain ⟨e1, hx⟩ := castT_eq hz
        cases e1; cases hx; cases h
        have s1 := st.take (hget_del (R := X ++ [Exact K.F]) hg)
        refine ⟨⟨K, Kn.le.refl _, ⟨rfl, rfl⟩, rfl, ?_⟩, rfl⟩
        refine St.give ?_ (Del.mid _)
        obtain ⟨b', s1⟩ := s1.ex
        obtain ⟨ks, s1⟩ := s1.ex
        obtain ⟨hv, s1⟩ := s1.iff
        rw [hE] at hv
        obtain ⟨hv1, hv2⟩ := hv
        cases hv1
        exact St.mkex b (St.mkex ks (St.mkiff ⟨rfl, hv2⟩ s1))
      case ag c =>
        obtain ⟨cs, e, hd⟩ := hd; cases e
        obtain ⟨h1, h2⟩ := ihL h st hd
        exact ⟨by simpa [Value.cells] using h1, by rw [h2]; rfl⟩
      case ptr id pa =>
        cases pa with
        | cons a b => simp only [outV] at h; cases h
        | nil =>
          obtain ⟨u0, b, hE, hB, e⟩ := hd; cases e
          simp only [outV] at h
          split at h
          · rename_i e c hg
            have s1 := st.take (hget_del (R := X ++ [Exact K.F]) hg)
            obtain ⟨b', s1⟩ := s1.ex
            obtain ⟨cs, s1⟩ := s1.ex
            obtain ⟨hv, s1⟩ := s1.iff
            rw [hE] at hv; cases hv
            cases hB
            have s2 := s1.sep
            have key : ∀ {a : Ty} {y : a.T} {s1 : SS}, outC f { s with hp := hdel s.hp id } c a = some (y, s1) → ∃ K', K.le K' ∧ (K'.E = K.E ∧ K'.nx = K.nx) ∧ s1.nx = s.nx ∧
                St K'.p w ((Ex fun b2 => Ex fun xs : List Value => If ([Value.pointer (some ⟨b, 0, none⟩)] = [Value.pointer (some ⟨b2, 0, none⟩)]) (sep (pt b2 (.cells xs.toArray e)) (OA K'.p.h a y xs))) :: (asns K' s1.hp ++ (X ++ [Exact K.F]))) := by
              intro a y s1 hq
              have s4 : St K.p w (CA K c cs :: (asns K (hdel s.hp id) ++ ((pt b (.cells cs.toArray e) :: X) ++ [Exact K.F]))) := s2.give (.there (Del.mid _))
              obtain ⟨K', le, hEE, hnx, s5⟩ := ihC hq s4
              refine ⟨K', le, hEE, hnx, ?_⟩
              refine St.mkex b (St.mkex cs (St.mkiff rfl (St.mksep ?_)))
              have d1 : Del (pt b (.cells cs.toArray e)) (asns K' s1.hp ++ (OA K'.p.h a y cs :: ((pt b (.cells cs.toArray e) :: X) ++ [Exact K.F]))) (asns K' s1.hp ++ (OA K'.p.h a y cs :: (X ++ [Exact K.F]))) := by
                have := Del.mid (A := pt b (.cells cs.toArray e)) (l2 := X ++ [Exact K.F]) (asns K' s1.hp ++ [OA K'.p.h a y cs])
                simpa using this
              have s6 := s5.take d1
              exact s6.take (.there (Del.mid _)) |>.swap
            cases t <;> simp only [reduceCtorEq] at h
            · rename_i e2 a
              cases hb : Nat.beq e e2 with
              | false => rw [hb, cond_false] at h; cases h
              | true =>
                rw [hb, cond_true] at h
                have := Nat.eq_of_beq_eq_true hb; subst this
                split at h
                · rename_i y s3 hq
                  cases h
                  obtain ⟨K', le, hEE, hnx, s4⟩ := key hq
                  exact ⟨⟨K', le, hEE, hnx, s4.give (Del.mid _)⟩, rfl⟩
                · cases h
            · rename_i e2 a
              cases hb : Nat.beq e e2 with
              | false => rw [hb, cond_false] at h; cases h
              | true =>
                rw [hb, cond_true] at h
                have := Nat.eq_of_beq_eq_true hb; subst this
                split at h
                · rename_i y s3 hq
                  cases h
                  obtain ⟨K', le, hEE, hnx, s4⟩ := key hq
                  exact ⟨⟨K', le, hEE, hnx, s4.give (Del.mid _)⟩, rfl⟩
                · cases h
          · cases h
    · intro s v t x s' h K w X cs st hd
      cases v <;> cases t <;> simp only [outL, reduceCtorEq] at h
      case pr.pair v1 v2 a b =>
        obtain ⟨u1, d, rfl, h1, h2⟩ := hd
        split at h
        · rename_i y1 s1 hq
          split at h
          · rename_i y2 s2 hq2
            cases h
            obtain ⟨⟨K1, le1, hE1, hn1, st1⟩, _⟩ := ihV hq st h1
            have st1' : St K1.p w (asns K1 s1.hp ++ ((OA K1.p.h a y1 u1.cells.toList :: X) ++ [Exact K1.F])) := by rw [le1.F]; exact st1
            obtain ⟨⟨K2, le2, hE2, hn2, st2⟩, _⟩ := ihL hq2 st1' (SV.mono le1 h2)
            refine ⟨⟨K2, le1.trans le2, ⟨hE2.1.trans hE1.1, hE2.2.trans hE1.2⟩, hn2.trans hn1, ?_⟩, rfl⟩
            rw [le1.F] at st2
            have d1 : Del (OA K2.p.h b y2 d) (asns K2 s'.hp ++ (OA K2.p.h b y2 d :: (OA K1.p.h a y1 u1.cells.toList :: X ++ [Exact K.F]))) (asns K2 s'.hp ++ (OA K1.p.h a y1 u1.cells.toList :: X ++ [Exact K.F])) := Del.mid _
            have st3 := (st2.take d1).take (.there (Del.mid _))
            have st4 := st3.weaken fun h q => OA.sub le2.p.h q
            refine St.give (A := OA K2.p.h (.pair a b) (y1, y2) (u1.cells.toList ++ d)) ?_ (Del.mid _)
            exact St.mkex _ (St.mkex _ (St.mkiff rfl (St.mksep st4)))
          · cases h
        · cases h
      case nl.unit =>
        cases h
        exact ⟨OutOk.pure st rfl hd, rfl⟩
    · intro s c t x s' h K w X cs st
      cases c <;> simp only [outC, reduceCtorEq] at h
      case cel v =>
        obtain ⟨⟨u, rfl, hd, h1⟩, st1⟩ := st.pu
        cases ha : t.agg with
        | true => rw [ha, cond_true] at h; cases h
        | false =>
          rw [ha, cond_false] at h
          have := (ihV h st1 hd).1
          rwa [one_cells h1] at this
      case dat t' y =>
        split at h
        · rename_i z hz
          obtain ⟨rfl, hx⟩ := castT_eq hz
          cases hx; cases h
          exact ⟨K, Kn.le.refl _, ⟨rfl, rfl⟩, rfl, st.give (Del.mid _)⟩
        · cases h
      case nl =>
        cases t <;> simp only [reduceCtorEq] at h
        cases h
        obtain ⟨rfl, st1⟩ := st.pu
        exact OutOk.pure st1 rfl rfl
      case pr c1 c2 =>
        cases t <;> simp only [reduceCtorEq] at h
        rename_i a b
        split at h
        · rename_i y1 s1 hq
          split at h
          · rename_i y2 s2 hq2
            cases h
            obtain ⟨d1, sta⟩ := st.ex
            obtain ⟨d2, stb⟩ := sta.ex
            obtain ⟨rfl, stc⟩ := stb.iff
            have st1 := stc.sep
            -- the second part waits beside
            have st2 : St K.p w (CA K c1 d1 :: (asns K s.hp ++ ((CA K c2 d2 :: X) ++ [Exact K.F]))) := st1.swap.give (.there (Del.mid _))
            obtain ⟨K1, le1, hE1, hn1, st3⟩ := ihC hq st2
            have e1 : Del (CA K c2 d2) (asns K1 s1.hp ++ (OA K1.p.h a y1 d1 :: ((CA K c2 d2 :: X) ++ [Exact K.F]))) (asns K1 s1.hp ++ (OA K1.p.h a y1 d1 :: (X ++ [Exact K.F]))) := by
              have := Del.mid (A := CA K c2 d2) (l2 := X ++ [Exact K.F]) (asns K1 s1.hp ++ [OA K1.p.h a y1 d1])
              simpa using this
            have st4 := (st3.take e1).weaken fun h q => CA.mono le1 q
            have st4' : St K1.p w (CA K1 c2 d2 :: (asns K1 s1.hp ++ ((OA K1.p.h a y1 d1 :: X) ++ [Exact K1.F]))) := by rw [le1.F]; exact st4
            obtain ⟨K2, le2, hE2, hn2, st5⟩ := ihC hq2 st4'
            refine ⟨K2, le1.trans le2, ⟨hE2.1.trans hE1.1, hE2.2.trans hE1.2⟩, hn2.trans hn1, ?_⟩
            rw [le1.F] at st5
            have f1 : Del (OA K2.p.h b y2 d2) (asns K2 s'.hp ++ (OA K2.p.h b y2 d2 :: (OA K1.p.h a y1 d1 :: X ++ [Exact K.F]))) (asns K2 s'.hp ++ (OA K1.p.h a y1 d1 :: X ++ [Exact K.F])) := Del.mid _
            have st6 := (st5.take f1).take (.there (Del.mid _))
            have st7 := st6.weaken fun h q => OA.sub le2.p.h q
            refine St.give (A := OA K2.p.h (.pair a b) (y1, y2) (d1 ++ d2)) ?_ (Del.mid _)
            exact St.mkex _ (St.mkex _ (St.mkiff rfl (St.mksep st7)))
          · cases h
        · cases h
end Go.GX
namespace Go.GX
open Go.RowKit Go.SL
set_option linter.unusedVariables false
set_option linter.unusedSimpArgs false

noncomputable def ob0 {α β : Type} (x : Option α) (a : Option β) (f : α → Option β) : Option β := match x with
  | none => a
  | some y => f y
noncomputable def obO : {f : (α β : Type) → Option α → Option β → (α → Option β) → Option β // f = fun α β x a f => ob0 x a f} := Classical.choice ⟨⟨_, rfl⟩⟩
@[irreducible] noncomputable def ob {α β : Type} (x : Option α) (a : Option β) (f : α → Option β) : Option β := obO.1 α β x a f
theorem ob_eq {α β : Type} (x : Option α) (a : Option β) (f : α → Option β) : ob x a f = ob0 x a f := by unfold ob; rw [obO.2]
@[simp] theorem ob_n {α β : Type} (a : Option β) (f : α → Option β) : ob none a f = a := by rw [ob_eq]; rfl
@[simp] theorem ob_s {α β : Type} (y : α) (a : Option β) (f : α → Option β) : ob (some y) a f = f y := by rw [ob_eq]; rfl
theorem ob_some {α β : Type} {x : Option α} {a : Option β} {f : α → Option β} {r : β} (h : ob x a f = some r) : (x = none ∧ a = some r) ∨ ∃ y, x = some y ∧ f y = some r := by
  rw [ob_eq] at h; unfold ob0 at h
  cases x with
  | none => exact .inl ⟨rfl, h⟩
  | some y => exact .inr ⟨y, rfl, h⟩
noncomputable def add1 (s : SS) (n : EN) : SS := ⟨(s.nx, n) :: s.hp, s.nx + 1⟩
mutual
noncomputable def inV {β : Type} : (t : Ty) → t.T → SS → (SV → SS → Option β) → Option β
  | .vec e a, l, s, k => k (.vr s.nx) (add1 s (.row e a l))
  | .box e a, x, s, k => k (.ptr s.nx []) (add1 s (.blk e (.dat a x)))
  | .map a, x, s, k => k (.mp s.nx) (add1 s (.map a x))
  | .obox e a, o, s, k => ob o (k .nilP s) fun x => k (.ptr s.nx []) (add1 s (.blk e (.dat a x)))
  | .pair a b, x, s, k => bif (Ty.pair a b).pure then k (.d (.pair a b) x) s else inV a x.1 s fun u s1 => inL b x.2 s1 fun u2 s2 => k (.ag (.pr u u2)) s2
  | t, x, s, k => bif t.pure then k (.d t x) s else none
noncomputable def inL {β : Type} : (t : Ty) → t.T → SS → (SV → SS → Option β) → Option β
  | .pair a b, x, s, k => inV a x.1 s fun u s1 => inL b x.2 s1 fun u2 s2 => k (.pr u u2) s2
  | .unit, _, s, k => k .nl s
  | _, _, _, _ => none
end
/-- beside other things a state holds what is told -/
structure Inv2 (K : Kn) (X : List Assn) (s : SS) (w : World) : Prop where
  st : St K.p w (asns K s.hp ++ (X ++ [Exact K.F]))
  nx : Nx K s
theorem Inv2.inv {K : Kn} {s : SS} {w : World} (i : Inv2 K [] s w) : Inv K s w := ⟨i.st, i.nx⟩
/-- a new name for what stands in front -/
theorem Inv2.name {K : Kn} {X : List Assn} {s : SS} {w : World} {n : EN} {v : Value} (hn : Nx K s) (st : St K.p w (n.asn (K.name v) K.nx :: (asns K s.hp ++ (X ++ [Exact K.F])))) :
    K.le (K.name v) ∧ Inv2 (K.name v) X (add1 s n) w := by
  have le := Kn.name_le (v := v) (hn.no _ (Nat.le_refl _))
  refine ⟨le, ?_, hn.name _⟩
  obtain ⟨h, ⟨a, b, d, e, ha, hb⟩, r⟩ := st
  exact ⟨h, ⟨a, b, d, e, by rw [hn.eq]; exact ha, all_asns le _ _ _ hb⟩, r⟩
theorem in_ok {β : Type} {r : β} : ∀ (t : Ty),
    (∀ {x : t.T} {s : SS} {k : SV → SS → Option β}, inV t x s k = some r → ∀ {K : Kn} {w : World} {X : List Assn} {cs : List Value}, Nx K s → St K.p w (OA K.p.h t x cs :: (asns K s.hp ++ (X ++ [Exact K.F]))) →
      ∃ K' u sv s', K.le K' ∧ K'.p = K.p ∧ Inv2 K' X s' w ∧ sv.den K' u ∧ u.cells.toList = cs ∧ aggV u = t.agg ∧ k sv s' = some r) ∧
    (∀ {x : t.T} {s : SS} {k : SV → SS → Option β}, inL t x s k = some r → ∀ {K : Kn} {w : World} {X : List Assn} {cs : List Value}, Nx K s → St K.p w (OA K.p.h t x cs :: (asns K s.hp ++ (X ++ [Exact K.F]))) →
      ∃ K' sv s', K.le K' ∧ K'.p = K.p ∧ Inv2 K' X s' w ∧ sv.dn K' .c cs ∧ k sv s' = some r) := by
  have pu : ∀ (t : Ty), t.pure = true → ∀ {x : t.T} {s : SS} {k : SV → SS → Option β}, k (.d t x) s = some r → ∀ {K : Kn} {w : World} {X : List Assn} {cs : List Value}, Nx K s → St K.p w (OA K.p.h t x cs :: (asns K s.hp ++ (X ++ [Exact K.F]))) →
      ∃ K' u sv s', K.le K' ∧ K'.p = K.p ∧ Inv2 K' X s' w ∧ sv.den K' u ∧ u.cells.toList = cs ∧ aggV u = t.agg ∧ k sv s' = some r := by
    intro t ht x s k hk K w X cs hn st
    rw [oa_pure _ t ht] at st
    obtain ⟨hd, st⟩ := st.pu
    obtain ⟨u, h1, h2, h3⟩ := VD.mk hd
    exact ⟨K, u, .d t x, s, Kn.le.refl _, rfl, ⟨st, hn⟩, ⟨u, rfl, h1⟩, h2, h3, hk⟩
  have bx : ∀ (e : Nat) (a : Ty) {x : a.T} {s : SS} {k : SV → SS → Option β}, k (.ptr s.nx []) (add1 s (.blk e (.dat a x))) = some r → ∀ {K : Kn} {w : World} {X : List Assn} {cs : List Value}, Nx K s → St K.p w (OA K.p.h (.box e a) x cs :: (asns K s.hp ++ (X ++ [Exact K.F]))) →
      ∃ K' u sv s', K.le K' ∧ K'.p = K.p ∧ Inv2 K' X s' w ∧ sv.den K' u ∧ u.cells.toList = cs ∧ aggV u = false ∧ k sv s' = some r := by
    intro e a x s k hk K w X cs hn st
    obtain ⟨b, sta⟩ := st.ex
    obtain ⟨xs, stb⟩ := sta.ex
    obtain ⟨rfl, stc⟩ := stb.iff
    have st2 : St K.p w ((EN.blk e (.dat a x)).asn (K.name (.pointer (some ⟨b, 0, none⟩))) K.nx :: (asns K s.hp ++ (X ++ [Exact K.F]))) :=
      stc.weaken fun h q => ⟨b, xs, Kn.name_eq, q⟩
    obtain ⟨le, i⟩ := Inv2.name hn st2
    exact ⟨_, .pointer (some ⟨b, 0, none⟩), .ptr s.nx [], _, le, rfl, i, ⟨.pointer (some ⟨b, 0, none⟩), b, by rw [hn.eq]; exact Kn.name_eq, rfl, rfl⟩, rfl, rfl, hk⟩
  intro t
  induction t with
  | pair a b iha ihb =>
    have key : ∀ {x : (Ty.pair a b).T} {s : SS} {k : SV → SS → Option β}, (inV a x.1 s fun u s1 => inL b x.2 s1 fun u2 s2 => k (.pr u u2) s2) = some r → ∀ {K : Kn} {w : World} {X : List Assn} {cs : List Value}, Nx K s → St K.p w (OA K.p.h (.pair a b) x cs :: (asns K s.hp ++ (X ++ [Exact K.F]))) →
        ∃ K' sv s', K.le K' ∧ K'.p = K.p ∧ Inv2 K' X s' w ∧ sv.dn K' .c cs ∧ k sv s' = some r := by
      intro x s k hk K w X cs hn st
      obtain ⟨c, st1⟩ := st.ex
      obtain ⟨d, st2⟩ := st1.ex
      obtain ⟨rfl, st3⟩ := st2.iff
      have st4 := st3.sep
      have st5 : St K.p w (OA K.p.h a x.1 c :: (asns K s.hp ++ ((OA K.p.h b x.2 d :: X) ++ [Exact K.F]))) := st4.swap.give (.there (Del.mid _))
      obtain ⟨K1, u1, sv1, s1, le1, hp1, i1, hd1, rfl, _, hk1⟩ := iha.1 hk hn st5
      have st6 : St K1.p w (OA K1.p.h b x.2 d :: (asns K1 s1.hp ++ (X ++ [Exact K1.F]))) := by
        have := i1.st.take (Del.mid (A := OA K.p.h b x.2 d) (l2 := X ++ [Exact K1.F]) _)
        rw [hp1] at this ⊢
        exact this
      obtain ⟨K2, sv2, s2, le2, hp2, i2, hd2, hk2⟩ := ihb.2 hk1 i1.nx st6
      exact ⟨K2, .pr sv1 sv2, s2, le1.trans le2, hp2.trans hp1, i2, ⟨u1, d, rfl, SV.mono le2 hd1, hd2⟩, hk2⟩
    refine ⟨?_, fun h => key h⟩
    intro x s k h K w X cs hn st
    simp only [inV] at h
    cases hp : (Ty.pair a b).pure with
    | true =>
      rw [hp, cond_true] at h
      exact pu _ hp h hn st
    | false =>
      rw [hp, cond_false] at h
      obtain ⟨K', sv, s', le, h1, h2, h3, h4⟩ := key (k := fun c s => k (.ag c) s) (by
        have : (fun u s1 => inL b x.2 s1 fun u2 s2 => k (.ag (.pr u u2)) s2) = (fun u s1 => inL b x.2 s1 fun u2 s2 => (fun c s => k (.ag c) s) (.pr u u2) s2) := rfl
        exact h) hn st
      exact ⟨K', .agg cs.toArray, .ag sv, s', le, h1, h2, ⟨cs, rfl, h3⟩, by simp [Value.cells], rfl, h4⟩
  | vec e a ih =>
    refine ⟨?_, fun h => by simp [inL] at h⟩
    intro x s k h K w X cs hn st
    simp only [inV] at h
    obtain ⟨v, st1⟩ := st.ex
    obtain ⟨xs, st2⟩ := st1.ex
    obtain ⟨rfl, st3⟩ := st2.iff
    have hv : ∃ Y c, v = .slice Y x.length c := by
      obtain ⟨_, ⟨_, _, _, _, ⟨_, _, _, _, q, _⟩, _⟩, _⟩ := st3
      exact own_slice q
    obtain ⟨Y, c, rfl⟩ := hv
    have st4 : St K.p w ((EN.row e a x).asn (K.name (.slice Y x.length c)) K.nx :: (asns K s.hp ++ (X ++ [Exact K.F]))) :=
      st3.weaken fun h q => ⟨_, xs, Kn.name_eq, q⟩
    obtain ⟨le, i⟩ := Inv2.name hn st4
    exact ⟨_, .slice Y x.length c, .vr s.nx, _, le, rfl, i, ⟨Y, _, c, by rw [hn.eq]; exact Kn.name_eq, rfl⟩, rfl, rfl, h⟩
  | box e a ih =>
    exact ⟨fun h => by simp only [inV] at h; exact bx e a h, fun h => by simp [inL] at h⟩
  | map a ih =>
    refine ⟨?_, fun h => by simp [inL] at h⟩
    intro x s k h K w X cs hn st
    simp only [inV] at h
    obtain ⟨b, st1⟩ := st.ex
    obtain ⟨ks, st2⟩ := st1.ex
    obtain ⟨⟨rfl, hp⟩, st3⟩ := st2.iff
    have st4 : St K.p w ((EN.map a x).asn (K.name (.map (some b))) K.nx :: (asns K s.hp ++ (X ++ [Exact K.F]))) :=
      st3.weaken fun h q => ⟨b, ks, ⟨Kn.name_eq, hp⟩, q⟩
    obtain ⟨le, i⟩ := Inv2.name hn st4
    exact ⟨_, .map (some b), .mp s.nx, _, le, rfl, i, ⟨b, by rw [hn.eq]; exact Kn.name_eq, rfl⟩, rfl, rfl, h⟩
  | obox e a ih =>
    refine ⟨?_, fun h => by simp [inL] at h⟩
    intro x s k h K w X cs hn st
    simp only [inV] at h
    rcases ob_some h with ⟨rfl, hk⟩ | ⟨y, rfl, hk⟩
    · obtain ⟨rfl, st1⟩ := st.pu
      exact ⟨K, .pointer none, .nilP, s, Kn.le.refl _, rfl, ⟨st1, hn⟩, rfl, rfl, rfl, hk⟩
    · exact bx e a hk hn st
  | unit =>
    refine ⟨fun h => pu .unit rfl (by simpa [inV, Ty.pure] using h), ?_⟩
    intro x s k h K w X cs hn st
    simp only [inL] at h
    obtain ⟨hd, st⟩ := st.pu
    exact ⟨K, .nl, s, Kn.le.refl _, rfl, ⟨st, hn⟩, hd, h⟩
  | arr n a ih =>
    refine ⟨?_, fun h => by simp [inL] at h⟩
    intro x s k h
    simp only [inV] at h
    cases hp : (Ty.arr n a).pure with
    | true => rw [hp, cond_true] at h; exact pu _ hp h
    | false => rw [hp, cond_false] at h; cases h
  | fz a ih =>
    refine ⟨?_, fun h => by simp [inL] at h⟩
    intro x s k h
    simp only [inV] at h
    cases hp : (Ty.fz a).pure with
    | true => rw [hp, cond_true] at h; exact pu _ hp h
    | false => rw [hp, cond_false] at h; cases h
  | _ => exact ⟨fun h => pu _ rfl (by simpa [inV, Ty.pure] using h), fun h => by simp [inL] at h⟩

/-! ### stores -/
/-- what is lent, cell by cell -/
noncomputable def bdO : (t : Ty) → t.T → Option CT
  | .unit, _ => some .nl
  | .pair a b, x => (match bdO a x.1, bdO b x.2 with
    | some c, some d => some (.pr c d)
    | _, _ => none)
  | t, x => bif t.flat then some (.dat t x) else bif t.agg then none else some (.cel (.bd t x))
noncomputable def CT.ofp : SV → Option CT × Option CT
  | .d t x => (bif t.pure then some (.dat t x) else none, none)
  | .bd t x => (bif t.flat then some (.dat t x) else bdO t x, none)
  | .ag c => ((CT.ofp c).2, none)
  | .nl => (none, some .nl)
  | .pr a b => (none, match (CT.ofp a).1, (CT.ofp b).2 with
    | some x, some y => some (.pr x y)
    | _, _ => none)
  | .tup _ => (none, none)
  | .lit _ => (none, none)
  | .un => (none, none)
  | s => (some (.cel s), none)
theorem den_one {K : Kn} {s : SV} {v : Value} (h : s.den K v) (hw : s.wd.1 = some 1) (ha : s.agg = false) : v.oneCell' = true := by
  have h1 := agg_ok h hw
  have h2 := (wd_ok (K := K) (s := s)).1 v 1 h hw
  rw [ha] at h1
  cases v <;> first | rfl | (simp [aggV] at h1) | skip
  -- a tuple is no value of one cell
  cases s <;> simp only [SV.wd, reduceCtorEq] at hw
  case d t x => 
    obtain ⟨v', e', h⟩ := h; cases e'
    unfold VD at h
    split at h
    · obtain ⟨cs, e, _⟩ := h; cases e
    · exact DenT.ones h _ (by simp)
  case bd t x => 
    obtain ⟨v', e', h⟩ := h; cases e'
    unfold VD at h
    split at h
    · obtain ⟨cs, e, _⟩ := h; cases e
    · exact DenT.ones h _ (by simp)
  case ag c => obtain ⟨cs, e', h⟩ := h; cases e'
  case dp t x => obtain ⟨b, o, cs, e', _⟩ := h; cases e'
  case bp t x => obtain ⟨b, o, cs, e', _⟩ := h; cases e'
  case ptr id pa => obtain ⟨u, b, _, _, e'⟩ := h; cases e'
  case vr id => obtain ⟨X, m, c, _, e'⟩ := h; cases e'
  case vw id pa m => obtain ⟨X, c, e', _⟩ := h; cases e'
  case fn f b c => obtain ⟨lb, l, e', _⟩ := h; cases e'
  case ifc t c => obtain ⟨l, e', _⟩ := h; cases e'
  case mp id => obtain ⟨l, _, e'⟩ := h; cases e'
  all_goals (cases h)
theorem bdO_ok {K : Kn} : ∀ {t : Ty} {x : t.T} {c : CT} {cs : List Value}, bdO t x = some c → DenT K.rd t x cs → CA K c cs none0 := by
  have leaf : ∀ {t : Ty} {x : t.T} {c : CT} {cs : List Value}, (bif t.flat then some (.dat t x) else bif t.agg then none else some (.cel (.bd t x))) = some c → DenT K.rd t x cs → CA K c cs none0 := by
    intro t x c cs h hd
    cases hp : t.flat with
    | true =>
      rw [hp, cond_true] at h; cases h
      show OA K.p.h t x cs none0
      rw [oa_pure _ t (flat_pure hp)]
      exact ⟨rfl, flat_mem hp hd⟩
    | false =>
      rw [hp, cond_false] at h
      cases ha : t.agg with
      | true => rw [ha, cond_true] at h; cases h
      | false =>
        rw [ha, cond_false] at h; cases h
        have hl := DenT.length hd
        rw [w_one ha] at hl
        obtain ⟨v, rfl⟩ : ∃ v, cs = [v] := by
          cases cs with
          | nil => cases hl
          | cons v r => cases r with
            | nil => exact ⟨v, rfl⟩
            | cons _ _ => simp at hl
        refine ⟨rfl, v, rfl, ⟨v, rfl, ?_⟩, DenT.ones hd v (by simp)⟩
        unfold VD; rw [ha]; exact hd
  intro t
  induction t with
  | unit => intro x c cs h hd; cases h; exact ⟨rfl, hd⟩
  | pair a b iha ihb =>
    intro x c cs h hd
    simp only [bdO] at h
    split at h
    · rename_i c1 c2 h1 h2
      cases h
      obtain ⟨e, d, rfl, q1, q2⟩ := hd
      exact ⟨e, d, rfl, none0, none0, disj_none0 _, by rw [none0_uni], iha h1 q1, ihb h2 q2⟩
    · cases h
  | _ => intro x c cs h hd; exact leaf h hd
theorem ofp_ok {K : Kn} : ∀ {s : SV},
    (∀ {c : CT} {v : Value}, (CT.ofp s).1 = some c → s.den K v → CA K c v.cells.toList none0) ∧ (∀ {c : CT} {cs : List Value}, (CT.ofp s).2 = some c → s.dn K .c cs → CA K c cs none0) := by
  have one : ∀ {s : SV} {v : Value}, s.wd.1 = some 1 → s.agg = false → s.den K v → CA K (.cel s) v.cells.toList none0 := by
    intro s v hw ha hd
    have := den_one hd hw ha
    rw [one_cells this]
    exact ⟨rfl, v, rfl, hd, this⟩
  have pur : ∀ {t : Ty} {x : t.T} {cs : List Value}, t.pure = true → DenT K.p.h t x cs → CA K (.dat t x) cs none0 := by
    intro t x cs hp hd
    show OA K.p.h t x cs none0
    rw [oa_pure _ t hp]; exact ⟨rfl, hd⟩
  intro s
  induction s with
  | d t x =>
    refine ⟨fun {c v} h hd => ?_, fun h => by simp [CT.ofp] at h⟩
    simp only [CT.ofp] at h
    cases hp : t.pure with
    | false => rw [hp, cond_false] at h; cases h
    | true =>
      rw [hp, cond_true] at h; cases h
      obtain ⟨v', e, hd⟩ := hd; cases e
      exact pur hp hd.cells.1
  | bd t x =>
    refine ⟨fun {c v} h hd => ?_, fun h => by simp [CT.ofp] at h⟩
    simp only [CT.ofp] at h
    cases hp : t.flat with
    | true =>
      rw [hp, cond_true] at h; cases h
      obtain ⟨v', e, hd⟩ := hd; cases e
      exact pur (flat_pure hp) (flat_mem hp hd.cells.1)
    | false =>
      rw [hp, cond_false] at h
      obtain ⟨v', e, hd⟩ := hd; cases e
      exact bdO_ok h hd.cells.1
  | ag c ih =>
    refine ⟨fun {c v} h hd => ?_, fun h => by simp [CT.ofp] at h⟩
    obtain ⟨cs, e, hd⟩ := hd; cases e
    simpa [Value.cells] using ih.2 h hd
  | nl =>
    refine ⟨fun h => by simp [CT.ofp] at h, fun {c cs} h hd => ?_⟩
    simp only [CT.ofp, Option.some.injEq] at h; subst h
    exact ⟨rfl, hd⟩
  | pr a b iha ihb =>
    refine ⟨fun h => by simp [CT.ofp] at h, fun {c cs} h hd => ?_⟩
    simp only [CT.ofp] at h
    split at h
    · rename_i x y hx hy
      cases h
      obtain ⟨v, d, rfl, h1, h2⟩ := hd
      exact ⟨_, _, rfl, none0, none0, disj_none0 _, by rw [none0_uni], iha.1 hx h1, ihb.2 hy h2⟩
    · cases h
  | tup c => exact ⟨fun h => by simp [CT.ofp] at h, fun h => by simp [CT.ofp] at h⟩
  | lit v => exact ⟨fun h => by simp [CT.ofp] at h, fun h => by simp [CT.ofp] at h⟩
  | un => exact ⟨fun h => by simp [CT.ofp] at h, fun h => by simp [CT.ofp] at h⟩
  | _ => exact ⟨fun {c v} h hd => by (simp only [CT.ofp, Option.some.injEq] at h; subst h; exact one rfl rfl hd), fun h => by simp [CT.ofp] at h⟩
end Go.GX
