/- A small logic of owned memory over the model's worlds: what a call holds is a list of assertions on blocks, apart from one another; what nobody writes any more is kept in a lasting part. -/
import Derived.WalkKit
import Derived.OrdersHeld
import Derived.WalkSpells
import Derived.WalkLawsBesides
import Derived.Maps.Own
import Derived.Laws.CopyOwn
import Derived.Deep.RegionHeld3
import Derived.MapKept
import Derived.Deep.Slices
import Derived.Lib.SmallJoins
import Derived.OpenShut
import Derived.ProofKit
set_option linter.unusedVariables false
set_option linter.unusedSimpArgs false
set_option linter.unnecessarySimpa false
namespace Go.SL
open Go.RowKit
set_option linter.unusedVariables false
set_option linter.unusedSimpArgs false

/-- a piece of memory: some blocks -/
abbrev Hp := Nat → Option Obj
abbrev Assn := Hp → Prop
def none0 : Hp := fun _ => none
def disj (a b : Hp) : Prop := ∀ k, a k = none ∨ b k = none
def uni (a b : Hp) : Hp := fun k => (a k).or (b k)
def sub (a b : Hp) : Prop := ∀ k o, a k = some o → b k = some o
/-- one block -/
def pt (b : Nat) (o : Obj) : Assn := fun h => h = fun k => if k = b then some o else none
def all : List Assn → Assn
  | [] => fun h => h = none0
  | A :: l => fun h => ∃ a b, disj a b ∧ h = uni a b ∧ A a ∧ all l b

theorem disj_comm {a b : Hp} (h : disj a b) : disj b a := fun k => (h k).symm
theorem uni_comm {a b : Hp} (h : disj a b) : uni a b = uni b a := by
  funext k; unfold uni; rcases h k with e | e <;> rw [e] <;> simp
theorem uni_assoc (a b c : Hp) : uni (uni a b) c = uni a (uni b c) := by
  funext k; unfold uni; simp [Option.or_assoc]
theorem uni_none0 (a : Hp) : uni a none0 = a := by funext k; simp [uni, none0]
theorem none0_uni (a : Hp) : uni none0 a = a := by funext k; simp [uni, none0]
theorem disj_none0 (a : Hp) : disj a none0 := fun k => .inr rfl
theorem disj_uni {a b c : Hp} : disj a (uni b c) ↔ disj a b ∧ disj a c := by
  constructor
  · intro h
    refine ⟨fun k => ?_, fun k => ?_⟩ <;> (have := h k; simp [uni] at this ⊢; rcases this with e | ⟨e1, e2⟩ <;> simp [*])
  · rintro ⟨h1, h2⟩ k
    have a1 := h1 k; have a2 := h2 k
    simp only [uni]
    rcases a1 with e | e
    · exact .inl e
    · rcases a2 with f | f
      · exact .inl f
      · exact .inr (by rw [e, f]; rfl)
theorem uni_disj {a b c : Hp} : disj (uni b c) a ↔ disj b a ∧ disj c a :=
  ⟨fun h => let ⟨x, y⟩ := disj_uni.1 (disj_comm h); ⟨disj_comm x, disj_comm y⟩, fun ⟨x, y⟩ => disj_comm (disj_uni.2 ⟨disj_comm x, disj_comm y⟩)⟩
theorem uni_some {a b : Hp} {k : Nat} {o : Obj} : uni a b k = some o ↔ a k = some o ∨ (a k = none ∧ b k = some o) := by
  simp [uni, Option.or_eq_some_iff]
theorem sub_uni_left (a b : Hp) : sub a (uni a b) := fun k o h => by simp [uni, h]
theorem sub_uni_right {a b : Hp} (d : disj a b) : sub b (uni a b) := fun k o h => by
  rcases d k with e | e
  · simp [uni, e, h]
  · rw [h] at e; cases e
theorem sub_trans {a b c : Hp} (h : sub a b) (k : sub b c) : sub a c := fun i o e => k i o (h i o e)

/-- the lasting part: blocks that nobody writes any more, and the streams -/
structure Pers where
  h : Hp
  os : Os
  tape : Nat → Question → Nat
  output : Array (Nat × ByteArray)
structure Pers.le (p q : Pers) : Prop where
  h : sub p.h q.h
  os : q.os = p.os
  tape : q.tape = p.tape
  output : q.output = p.output
theorem Pers.le_refl (p : Pers) : p.le p := ⟨fun _ _ h => h, rfl, rfl, rfl⟩
theorem Pers.le.trans {p q r : Pers} (a : p.le q) (b : q.le r) : p.le r :=
  ⟨sub_trans a.h b.h, b.os.trans a.os, b.tape.trans a.tape, b.output.trans a.output⟩

theorem Pers.le.le {p q r : Pers} (a : p.le q) (b : q.le r) : p.le r := a.trans b
/-- THE STATE: of the world w the call holds H (each assertion on blocks of its own), beside the lasting part p. -/
def St (p : Pers) (w : World) (H : List Assn) : Prop :=
  ∃ h, all H h ∧ disj p.h h ∧ (∀ k o, uni p.h h k = some o → w.heap[k]? = some o) ∧ w.os = p.os ∧ w.tape = p.tape ∧ w.output = p.output

section
variable {p : Pers} {w : World} {H : List Assn}

theorem St.swap {A B : Assn} (s : St p w (A :: B :: H)) : St p w (B :: A :: H) := by
  obtain ⟨h, ⟨a, b, d, rfl, ha, c, e, d2, rfl, hb, hr⟩, dp, r⟩ := s
  obtain ⟨d1, d3⟩ := disj_uni.1 d
  refine ⟨_, ⟨c, uni a e, disj_uni.2 ⟨disj_comm d1, d2⟩, ?_, hb, a, e, d3, rfl, ha, hr⟩, dp, r⟩
  rw [← uni_assoc, ← uni_assoc, uni_comm d1]
/-- a list of which one is taken out -/
inductive Del (A : Assn) : List Assn → List Assn → Prop
  | here {l : List Assn} : Del A (A :: l) l
  | there {B : Assn} {l l' : List Assn} (h : Del A l l') : Del A (B :: l) (B :: l')
/-- a list of which one takes another's place -/
inductive Rep (A A' : Assn) : List Assn → List Assn → Prop
  | here {l : List Assn} : Rep A A' (A :: l) (A' :: l)
  | there {B : Assn} {l l' : List Assn} (h : Rep A A' l l') : Rep A A' (B :: l) (B :: l')
theorem all_cons {A : Assn} {l : List Assn} {h : Hp} : all (A :: l) h ↔ ∃ a b, disj a b ∧ h = uni a b ∧ A a ∧ all l b := Iff.rfl
theorem all_del {A : Assn} {l l' : List Assn} (d : Del A l l') : ∀ {h : Hp}, all l h ↔ all (A :: l') h := by
  induction d with
  | here => exact Iff.rfl
  | @there B l l' d ih =>
    intro h
    constructor
    · rintro ⟨a, b, dj, rfl, hB, hb⟩
      obtain ⟨x, y, d2, rfl, hA, hy⟩ := ih.1 hb
      obtain ⟨d3, d4⟩ := disj_uni.1 dj
      exact ⟨x, uni a y, disj_uni.2 ⟨disj_comm d3, d2⟩, by rw [← uni_assoc, ← uni_assoc, uni_comm d3], hA, a, y, d4, rfl, hB, hy⟩
    · rintro ⟨x, z, dj, rfl, hA, a, y, d2, rfl, hB, hy⟩
      obtain ⟨d3, d4⟩ := disj_uni.1 dj
      exact ⟨a, uni x y, disj_uni.2 ⟨disj_comm d3, d2⟩, by rw [← uni_assoc, ← uni_assoc, uni_comm d3], hB, ih.2 ⟨x, y, d4, rfl, hA, hy⟩⟩
theorem St.take {A : Assn} {H' : List Assn} (s : St p w H) (d : Del A H H') : St p w (A :: H') := by
  obtain ⟨h, ha, r⟩ := s
  exact ⟨h, (all_del d).1 ha, r⟩
theorem St.give {A : Assn} {H' : List Assn} (s : St p w (A :: H')) (d : Del A H H') : St p w H := by
  obtain ⟨h, ha, r⟩ := s
  exact ⟨h, (all_del d).2 ha, r⟩
theorem Rep.dels {A A' : Assn} {l l' : List Assn} (r : Rep A A' l l') : ∃ m, Del A l m ∧ Del A' l' m := by
  induction r with
  | here => exact ⟨_, .here, .here⟩
  | there _ ih => obtain ⟨m, a, b⟩ := ih; exact ⟨_, .there a, .there b⟩
/-- an assertion gives way to what follows from it -/
theorem St.weaken {A B : Assn} (s : St p w (A :: H)) (h : ∀ x, A x → B x) : St p w (B :: H) := by
  obtain ⟨x, ⟨a, b, d, e, ha, hr⟩, r⟩ := s
  exact ⟨x, ⟨a, b, d, e, h _ ha, hr⟩, r⟩
theorem St.block {b : Nat} {o : Obj} (s : St p w (pt b o :: H)) : w.heap[b]? = some o := by
  obtain ⟨h, ⟨x, y, d, rfl, hx, _⟩, dp, r, _⟩ := s
  refine r b o ?_
  have hb : x b = some o := by rw [show x = _ from hx]; simp
  rcases dp b with e | e
  · simp [uni, e, hb]
  · simp [uni, hb] at e
theorem St.blockAt {b : Nat} {o : Obj} {H' : List Assn} (s : St p w H) (d : Del (pt b o) H H') : w.heap[b]? = some o := (s.take d).block
theorem St.pers {k : Nat} {o : Obj} (s : St p w H) (h : p.h k = some o) : w.heap[k]? = some o := by
  obtain ⟨x, _, _, r, _⟩ := s
  exact r k o (by simp [uni, h])
/-- one block of what is held turns -/
theorem St.turn {b : Nat} {o o' : Obj} {w' : World} (s : St p w (pt b o :: H)) (hb : w'.heap[b]? = some o') (hk : ∀ k, k ≠ b → w'.heap[k]? = w.heap[k]?)
    (ho : w'.os = w.os) (ht : w'.tape = w.tape) (hu : w'.output = w.output) : St p w' (pt b o' :: H) := by
  obtain ⟨h, ⟨x, y, d, rfl, hx, hy⟩, dp, r, r1, r2, r3⟩ := s
  have hx' : x = fun k => if k = b then some o else none := hx
  subst hx'
  obtain ⟨d1, d2⟩ := disj_uni.1 dp
  have yb : y b = none := by rcases d b with e | e; · simp at e
                             · exact e
  have pb : p.h b = none := by rcases d1 b with e | e; · exact e
                               · simp at e
  refine ⟨uni (fun k => if k = b then some o' else none) y, ⟨_, y, ?_, rfl, rfl, hy⟩, disj_uni.2 ⟨?_, d2⟩, ?_, ho.trans r1, ht.trans r2, hu.trans r3⟩
  · intro k; by_cases e : k = b
    · subst e; exact .inr yb
    · simp [e]
  · intro k; by_cases e : k = b
    · subst e; exact .inl pb
    · simp [e]
  · intro k q hq
    by_cases e : k = b
    · subst e
      simp [uni, pb] at hq
      rw [hb, hq]
    · rw [hk k e]
      refine r k q ?_
      simpa [uni, e] using hq
theorem St.set {b : Nat} {c : Array Value} {t : TypeId} {f : Nat × Nat} (s : St p w (pt b (.cells c t f) :: H)) (i : Nat) (v : Value) :
    St p (w.setCell ⟨b, i, none⟩ v) (pt b (.cells (c.setIfInBounds i v) t f) :: H) :=
  s.turn (by have hb := s.block; simp only [World.setCell, Array.getElem?_modify, if_pos, hb]; rfl) (fun k hk => Below.heap_setCell _ _ _ _ hk) rfl rfl rfl
/-- a new block -/
theorem St.alloc (s : St p w H) (o : Obj) : St p (w.alloc o) (pt w.heap.size o :: H) := by
  obtain ⟨h, ha, dp, r, r1, r2, r3⟩ := s
  have hn : uni p.h h w.heap.size = none := by
    cases e : uni p.h h w.heap.size with
    | none => rfl
    | some q => have := r _ _ e; simp at this
  have hp : p.h w.heap.size = none ∧ h w.heap.size = none := by simpa [uni] using hn
  refine ⟨uni (fun k => if k = w.heap.size then some o else none) h, ⟨_, h, ?_, rfl, rfl, ha⟩, disj_uni.2 ⟨?_, dp⟩, ?_, r1, r2, r3⟩
  · intro k; by_cases e : k = w.heap.size
    · subst e; exact .inr hp.2
    · simp [e]
  · intro k; by_cases e : k = w.heap.size
    · subst e; exact .inl hp.1
    · simp [e]
  · intro k q hq
    by_cases e : k = w.heap.size
    · subst e
      simp [uni, hp.1] at hq
      rw [← hq]; exact heap_alloc_new w o
    · have : w.heap[k]? = some q := r k q (by simpa [uni, e] using hq)
      rw [Below.heap_alloc w o k (Array.getElem?_eq_some_iff.1 this).1]
      exact this
theorem St.drew (s : St p w H) : St p w.drew H := s
/-- what is held is let go of -/
theorem St.drop {A : Assn} (s : St p w (A :: H)) : St p w H := by
  obtain ⟨h, ⟨x, y, d, rfl, hx, hy⟩, dp, r, r1⟩ := s
  obtain ⟨d1, d2⟩ := disj_uni.1 dp
  refine ⟨y, hy, d2, fun k o hk => r k o ?_, r1⟩
  rcases uni_some.1 hk with e | ⟨e, f⟩
  · simp [uni, e]
  · rcases d k with e2 | e2
    · simp [uni, e, e2, f]
    · rw [f] at e2; cases e2
/-- a block that is held lasts from now on -/
def Pers.with (p : Pers) (x : Hp) : Pers := { p with h := uni p.h x }
theorem St.keep {A : Assn} (s : St p w (A :: H)) : ∃ x, A x ∧ disj p.h x ∧ p.le (p.with x) ∧ St (p.with x) w H := by
  obtain ⟨h, ⟨x, y, d, rfl, hx, hy⟩, dp, r, r1⟩ := s
  obtain ⟨d1, d2⟩ := disj_uni.1 dp
  refine ⟨x, hx, d1, ⟨sub_uni_left _ _, rfl, rfl, rfl⟩, y, hy, uni_disj.2 ⟨d2, d⟩, fun k o hk => r k o ?_, r1⟩
  show uni p.h (uni x y) k = some o
  rw [← uni_assoc]; exact hk
theorem St.keepPt {b : Nat} {o : Obj} (s : St p w (pt b o :: H)) : ∃ q, p.le q ∧ q.h b = some o ∧ St q w H := by
  obtain ⟨x, hx, d, le, s'⟩ := s.keep
  refine ⟨_, le, ?_, s'⟩
  have hx' : x b = some o := by rw [show x = _ from hx]; simp
  rcases d b with e | e
  · show (p.h b).or (x b) = some o
    rw [e, hx']; rfl
  · rw [hx'] at e; cases e
theorem all_append (l H : List Assn) : ∀ h, all (l ++ H) h ↔ ∃ a b, disj a b ∧ h = uni a b ∧ all l a ∧ all H b := by
  induction l with
  | nil =>
    intro h
    constructor
    · intro x; exact ⟨none0, h, fun _ => .inl rfl, (none0_uni h).symm, rfl, x⟩
    · rintro ⟨a, b, d, rfl, ha, hb⟩
      have ha' : a = none0 := ha
      subst ha'
      rw [none0_uni]; exact hb
  | cons A l ih =>
    intro h
    constructor
    · rintro ⟨a, b, d, rfl, hA, hb⟩
      obtain ⟨x, y, d2, rfl, hx, hy⟩ := (ih b).1 hb
      obtain ⟨d3, d4⟩ := disj_uni.1 d
      exact ⟨uni a x, y, uni_disj.2 ⟨d4, d2⟩, (uni_assoc _ _ _).symm, ⟨a, x, d3, rfl, hA, hx⟩, hy⟩
    · rintro ⟨ax, y, d, rfl, ⟨a, x, d3, rfl, hA, hx⟩, hy⟩
      obtain ⟨d4, d2⟩ := uni_disj.1 d
      exact ⟨a, uni x y, disj_uni.2 ⟨d3, d4⟩, uni_assoc _ _ _, hA, (ih _).2 ⟨x, y, d2, rfl, hx, hy⟩⟩
/-- an assertion of several -/
theorem St.split {l : List Assn} (s : St p w (all l :: H)) : St p w (l ++ H) := by
  obtain ⟨h, ⟨x, y, d, e, hx, hy⟩, r⟩ := s
  exact ⟨h, (all_append l H h).2 ⟨x, y, d, e, hx, hy⟩, r⟩
theorem St.join {l : List Assn} (s : St p w (l ++ H)) : St p w (all l :: H) := by
  obtain ⟨h, ha, r⟩ := s
  obtain ⟨x, y, d, e, hx, hy⟩ := (all_append l H h).1 ha
  exact ⟨h, ⟨x, y, d, e, hx, hy⟩, r⟩
/-- there is such a one -/
def Ex {α : Type} (A : α → Assn) : Assn := fun h => ∃ x, A x h
/-- .. if this is so -/
def If (c : Prop) (A : Assn) : Assn := fun h => c ∧ A h
theorem St.ex {α : Type} {A : α → Assn} (s : St p w (Ex A :: H)) : ∃ x, St p w (A x :: H) := by
  obtain ⟨h, ⟨a, b, d, e, ⟨x, ha⟩, hr⟩, r⟩ := s
  exact ⟨x, h, ⟨a, b, d, e, ha, hr⟩, r⟩
theorem St.iff {c : Prop} {A : Assn} (s : St p w (If c A :: H)) : c ∧ St p w (A :: H) := by
  obtain ⟨h, ⟨a, b, d, e, ⟨hc, ha⟩, hr⟩, r⟩ := s
  exact ⟨hc, h, ⟨a, b, d, e, ha, hr⟩, r⟩
end
end Go.SL
namespace Go.SL
open Go.RowKit
set_option linter.unusedVariables false
set_option linter.unusedSimpArgs false

abbrev Fr := Nat → Value
def upd (τ : Fr) (d : Nat) (v : Value) : Fr := fun x => bif Nat.beq x d then v else τ x
def upo (τ : Fr) (d : Option Nat) (v : Value) : Fr := match d with | some d => upd τ d v | none => τ
theorem tp {τ : Fr} {d : Nat} {v : Value} : upo τ (some d) v d = v := by
  simp [upo, upd]
theorem up {τ : Fr} {d x : Nat} {u v : Value} (hn : Nat.beq x d = false) (h : τ x = v) : upo τ (some d) u x = v := by
  simp [upo, upd, hn, h]
theorem u0 {τ : Fr} {x : Nat} {u v : Value} (h : τ x = v) : upo τ none u x = v := h
def AF (n : Nat) (τ : Fr) : Act := ⟨Array.ofFn (n := n) (fun i => τ i.val), []⟩
theorem AF_get {n : Nat} {τ : Fr} {x : Nat} (h : x < n) : (AF n τ).tmps.getD x undef = τ x := by
  simp [AF, h]
theorem AF_ev {n : Nat} {τ : Fr} {x : Nat} {v : Value} (h : Nat.blt x n = true) (e : τ x = v) : (AF n τ).eval (.tmp x) = v := by
  rw [← e]; exact AF_get (Nat.le_of_ble_eq_true h)
theorem AF_put (n : Nat) (τ : Fr) (d : Option Nat) (v : Value) : (AF n τ).put d v = AF n (upo τ d v) := by
  cases d with
  | none => rfl
  | some d =>
    simp only [Act.put, AF, upo, Act.mk.injEq, and_true]
    apply Array.ext
    · simp
    · intro i h1 h2
      simp only [Array.size_setIfInBounds, Array.size_ofFn] at h1
      simp only [Array.getElem_ofFn, upd]
      by_cases e : i = d
      · subst e; simp [Nat.beq_refl]
      · rw [Array.getElem_setIfInBounds_ne (by simpa using h1) (fun h => e h.symm)]; have : Nat.beq i d = false := by cases hq : Nat.beq i d with | false => rfl | true => exact absurd (Nat.eq_of_beq_eq_true hq) e
        simp [this]
theorem AF_of (a : Act) (hd : a.defers = []) : a = AF a.tmps.size (fun x => a.tmps.getD x undef) := by
  cases a with
  | mk t d =>
    simp only at hd; subst hd
    simp only [AF, Act.mk.injEq, and_true]
    apply Array.ext
    · simp
    · intro i h1 h2; simp

/-- the post of code, over frames that are functions -/
def On (n : Nat) (Q : Exit → Fr → World → Prop) : Exit → Act → World → Prop := fun e a w => ∃ τ, a = AF n τ ∧ Q e τ w
def CW (P : Program) (n : Nat) (c : Code) (Q : Exit → Fr → World → Prop) (τ : Fr) (w : World) : Prop := c.wp P (On n Q) (AF n τ) w
def Th (K : Fr → World → Prop) (Q : Exit → Fr → World → Prop) : Exit → Fr → World → Prop
  | .normal => K
  | e => Q e
def Bl (id : Nat) (Q : Exit → Fr → World → Prop) : Exit → Fr → World → Prop
  | .exit i => if i = id then Q .normal else Q (.exit i)
  | e => Q e
section
variable {K : Fr → World → Prop} {Q : Exit → Fr → World → Prop} {τ : Fr} {w : World}
theorem Th.n (h : K τ w) : Th K Q .normal τ w := h
theorem Th.r (h : Q .ret τ w) : Th K Q .ret τ w := h
theorem Th.x {i : Nat} (h : Q (.exit i) τ w) : Th K Q (.exit i) τ w := h
theorem Bl.n {id : Nat} (h : Q .normal τ w) : Bl id Q .normal τ w := h
theorem Bl.r {id : Nat} (h : Q .ret τ w) : Bl id Q .ret τ w := h
theorem Bl.x {i : Nat} (h : Q .normal τ w) : Bl i Q (.exit i) τ w := by simp only [Bl, if_pos]; exact h
theorem Bl.y {i id : Nat} (hi : i ≠ id) (h : Q (.exit i) τ w) : Bl id Q (.exit i) τ w := by simp only [Bl, if_neg hi]; exact h
end
section
variable {P : Program} {n : Nat} {Q : Exit → Fr → World → Prop} {τ : Fr} {w : World}
theorem CW.mono {c : Code} {Q' : Exit → Fr → World → Prop} (h : CW P n c Q τ w) (hq : ∀ e τ w, Q e τ w → Q' e τ w) : CW P n c Q' τ w :=
  wp_mono h fun e a w ⟨σ, ha, hs⟩ => ⟨σ, ha, hq _ _ _ hs⟩
theorem CW.skip (h : Q .normal τ w) : CW P n .skip Q τ w := wp_skip ⟨τ, rfl, h⟩
theorem CW.label {l : Nat} (h : Q .normal τ w) : CW P n (.label l) Q τ w := wp_label ⟨τ, rfl, h⟩
theorem CW.ret (h : Q .ret τ w) : CW P n .ret Q τ w := wp_ret ⟨τ, rfl, h⟩
theorem CW.exit {id : Nat} (h : Q (.exit id) τ w) : CW P n (.exit id) Q τ w := wp_exit ⟨τ, rfl, h⟩
theorem CW.seq {x y : Code} (h : CW P n x (Th (CW P n y Q) Q) τ w) : CW P n (.seq x y) Q τ w := by
  refine wp_seq (wp_mono h fun e a w ⟨σ, ha, hs⟩ => ?_)
  cases e <;> first | exact ⟨σ, ha, hs⟩ | (subst ha; exact hs)
theorem CW.block {id : Nat} {c : Code} (h : CW P n c (Bl id Q) τ w) : CW P n (.block id c) Q τ w := by
  refine wp_block (wp_mono h fun e a w ⟨σ, ha, hs⟩ => ?_)
  cases e <;> first | exact ⟨σ, ha, hs⟩ | skip
  rename_i i
  simp only [Bl] at hs
  simp only [Exit.inBlock]
  split <;> rename_i hi
  · rw [if_pos hi] at hs; exact ⟨σ, ha, hs⟩
  · rw [if_neg hi] at hs; exact ⟨σ, ha, hs⟩
theorem CW.condT {x : Operand} {a b : Code} (hx : (AF n τ).eval x = .bool true) (h : CW P n a Q τ w) : CW P n (.cond x a b) Q τ w := wp_cond_true hx h
theorem CW.condF {x : Operand} {a b : Code} (hx : (AF n τ).eval x = .bool false) (h : CW P n b Q τ w) : CW P n (.cond x a b) Q τ w := wp_cond_false hx h
theorem CW.cond {x : Operand} {a b : Code} {t : Bool} (hx : (AF n τ).eval x = .bool t) (h1 : t = true → CW P n a Q τ w) (h2 : t = false → CW P n b Q τ w) : CW P n (.cond x a b) Q τ w := by
  cases t
  · exact CW.condF hx (h2 rfl)
  · exact CW.condT hx (h1 rfl)
theorem least {p : Nat → Prop} (h : ∃ k, p k) : ∃ k, p k ∧ ∀ j, p j → k ≤ j := by
  obtain ⟨k, hk⟩ := h
  induction k using Nat.strongRecOn with
  | ind k ih =>
    by_cases h : ∃ j, j < k ∧ p j
    · obtain ⟨j, hj, hjj⟩ := h; exact ih j hj hjj
    · exact ⟨k, hk, fun j hj => Nat.le_of_not_lt fun hlt => h ⟨j, hlt, hj⟩⟩
open Classical in
noncomputable def lm (p : Nat → Prop) : Nat := if h : ∃ k, p k then (least h).choose else 0
theorem lm_spec {p : Nat → Prop} (h : ∃ k, p k) : p (lm p) ∧ ∀ j, p j → lm p ≤ j := by
  unfold lm; rw [dif_pos h]; exact (least h).choose_spec
theorem CW.loop {c : Code} (I : Nat → Fr → World → Prop) (m : Nat) (h0 : I m τ w)
    (round : ∀ k τ w, I k τ w → CW P n c (Th (fun τ' w' => ∃ k', k' < k ∧ I k' τ' w') Q) τ w) : CW P n (.loop c) Q τ w := by
  refine wp_loop (P := P) (fun a w => ∃ k, ∃ τ, a = AF n τ ∧ I k τ w) (fun a w => lm fun k => ∃ τ, a = AF n τ ∧ I k τ w) ⟨m, τ, rfl, h0⟩ ?_
  intro a w hI
  obtain ⟨τ, ha, hk⟩ := (lm_spec hI).1
  have hr := round _ τ w hk
  unfold CW at hr
  rw [← ha] at hr
  refine wp_mono hr fun e a' w' ⟨σ, ha', hs⟩ => ?_
  cases e <;> first | exact ⟨σ, ha', hs⟩ | skip
  obtain ⟨k', hlt, hI'⟩ := hs
  exact ⟨⟨k', σ, ha', hI'⟩, Nat.lt_of_le_of_lt ((lm_spec (p := fun k => ∃ τ, a' = AF n τ ∧ I k τ w') ⟨k', σ, ha', hI'⟩).2 k' ⟨σ, ha', hI'⟩) hlt⟩

/-! ### a region in its own order -/
def RW (P : Program) (n : Nat) (ops : Array Oper) (Q : Exit → Fr → World → Prop) (l : List Oper) (τ : Fr) (w : World) : Prop := wpList P ops (On n Q) l (AF n τ) w
theorem CW.region {id : Nat} {ops : Array Oper} (h : RW P n ops Q ops.toList τ w) : CW P n (.region id ops false) Q τ w := wp_region_list h
variable {ops : Array Oper} {rest : List Oper} {o : Oper}
theorem RW.fin {K : Fr → World → Prop} (F : Fr → Prop) (hF : F τ) (h : ∀ τ, F τ → K τ w) : RW P n ops (Th K Q) [] τ w := ⟨τ, rfl, h τ hF⟩
theorem RW.gen {l : List Oper} (F : Fr → Prop) (hF : F τ) (h : ∀ τ, F τ → RW P n ops Q l τ w) : RW P n ops Q l τ w := h τ hF
theorem CW.gen {c : Code} (F : Fr → Prop) (hF : F τ) (h : ∀ τ, F τ → CW P n c Q τ w) : CW P n c Q τ w := h τ hF
/-- code that turns no block, and leads on: its outcome told; and code that may turn some -/
theorem CW.cut {c : Code} {K : Fr → World → Prop} (F : Fr → Prop) (h1 : CW P n c (fun e σ w' => e = .normal ∧ w' = w ∧ F σ) τ w) (h2 : ∀ τ, F τ → K τ w) : CW P n c (Th K Q) τ w :=
  CW.mono h1 (by rintro e σ w' ⟨rfl, rfl, h⟩; exact h2 σ h)
theorem RW.nil (h : Q .normal τ w) : RW P n ops Q [] τ w := ⟨τ, rfl, h⟩
def Ev (P : Program) (ρ : Operand → Value) (o : Oper) (w : World) (v : Value) : Prop := (execOp ρ o).run P w = .ok (.value v) w
/-- is the operation carried out? -/
def Wd (n : Nat) (ops : Array Oper) (o : Oper) (τ : Fr) (b : Bool) : Prop := Region.wanted o (yielded ops (AF n τ).tmps) = b
theorem Wd.a {dst : Option Tmp} {op : Op} {t : TypeId} {pos : String} {af : Array Edge} : Wd n ops ⟨dst, op, t, pos, af, none⟩ τ true := rfl
theorem Wd.g {dst : Option Tmp} {op : Op} {t : TypeId} {pos : String} {af : Array Edge} {j : Nat} {c b : Bool} {x : Nat}
    (hj : (ops[j]?).bind (·.dst) = some x) (hx : (AF n τ).eval (.tmp x) = .bool b) : Wd n ops ⟨dst, op, t, pos, af, some (j, c)⟩ τ (b == c) := by
  have h2 : (AF n τ).tmps[x]? = some (Value.bool b) := by
    have hx' : (AF n τ).tmps.getD x undef = .bool b := hx
    rcases Nat.lt_or_ge x (AF n τ).tmps.size with h | h
    · simp [h] at hx' ⊢; exact hx'
    · simp [Array.getElem?_eq_none h, undef] at hx'
  simp only [Wd, Region.wanted, yielded, hj, Option.bind_some, h2]
  cases b <;> cases c <;> rfl
theorem Wd.yes {dst : Option Tmp} {op : Op} {t : TypeId} {pos : String} {af : Array Edge} {j : Nat} {c : Bool} {x : Nat}
    (hj : (ops[j]?).bind (·.dst) = some x) (hx : (AF n τ).eval (.tmp x) = .bool c) : Wd n ops ⟨dst, op, t, pos, af, some (j, c)⟩ τ true := by
  have := Wd.g (dst := dst) (op := op) (t := t) (pos := pos) (af := af) (c := c) hj hx
  simpa using this
theorem Wd.no {dst : Option Tmp} {op : Op} {t : TypeId} {pos : String} {af : Array Edge} {j : Nat} {b c : Bool} {x : Nat}
    (hj : (ops[j]?).bind (·.dst) = some x) (hx : (AF n τ).eval (.tmp x) = .bool b) (hbc : (b == c) = false) : Wd n ops ⟨dst, op, t, pos, af, some (j, c)⟩ τ false := by
  have := Wd.g (dst := dst) (op := op) (t := t) (pos := pos) (af := af) (c := c) hj hx
  rwa [hbc] at this
/-- .. of one that is not: its guard was not carried out either -/
theorem Wd.u {dst : Option Tmp} {op : Op} {t : TypeId} {pos : String} {af : Array Edge} {j : Nat} {c : Bool} {x : Nat}
    (hj : (ops[j]?).bind (·.dst) = some x) (hx : (AF n τ).eval (.tmp x) = undef) : Wd n ops ⟨dst, op, t, pos, af, some (j, c)⟩ τ false := by
  have hx' : (AF n τ).tmps.getD x undef = undef := hx
  simp only [Wd, Region.wanted, yielded, hj, Option.bind_some]
  rcases Nat.lt_or_ge x (AF n τ).tmps.size with h | h
  · simp only [Array.getD_eq_getD_getElem?, Array.getElem?_eq_getElem h, Option.getD_some] at hx' ⊢
    rw [hx']; rfl
  · simp only [Array.getElem?_eq_none h]; rfl
theorem RW.soft (hw : Wd n ops o τ true) {v : Value} (hx : Ev P (AF n τ).eval o w v) (h : RW P n ops Q rest (upo τ o.dst v) w) : RW P n ops Q (o :: rest) τ w := by
  unfold RW wpList
  rw [if_pos (show Region.wanted o (yielded ops (AF n τ).tmps) = true from hw)]
  refine .inl ?_
  unfold Oper.wp
  rw [show (execOp (AF n τ).eval o).run P w = _ from hx]
  show wpList P ops (On n Q) rest ((AF n τ).put o.dst v) w
  rw [AF_put]; exact h
theorem RW.pass (hw : Wd n ops o τ false) (h : RW P n ops Q rest (upo τ o.dst undef) w) : RW P n ops Q (o :: rest) τ w := by
  unfold RW wpList
  rw [if_neg (by rw [show Region.wanted o (yielded ops (AF n τ).tmps) = false from hw]; simp), AF_put]; exact h
/-- what an operation does that turns the world -/
def Hd (P : Program) (n : Nat) (o : Oper) (τ : Fr) (w : World) (K : Value → World → Prop) : Prop :=
  ∀ Q : Exit → Act → World → Prop, o.wp P (AF n τ) w (fun a w' => ∃ v, a = AF n (upo τ o.dst v) ∧ K v w') Q
theorem RW.hard (hw : Wd n ops o τ true) (hh : Hd P n o τ w fun v w' => RW P n ops Q rest (upo τ o.dst v) w') : RW P n ops Q (o :: rest) τ w := by
  unfold RW wpList
  rw [if_pos (show Region.wanted o (yielded ops (AF n τ).tmps) = true from hw)]
  refine .inl (Oper.wp_mono ?_ (hh _))
  rintro a w ⟨v, rfl, h⟩; exact h
theorem Hd.mono {K K' : Value → World → Prop} (h : Hd P n o τ w K) (hk : ∀ v w, K v w → K' v w) : Hd P n o τ w K' := fun Q =>
  Oper.wp_mono (fun a w' ⟨v, ha, hv⟩ => ⟨v, ha, hk _ _ hv⟩) (h Q)
theorem Hd.value {K : Value → World → Prop} {v : Value} {w' : World} (hx : (execOp (AF n τ).eval o).run P w = .ok (.value v) w') (h : K v w') : Hd P n o τ w K := fun Q => by
  unfold Oper.wp
  rw [hx]
  exact ⟨v, AF_put _ _ _ _, h⟩
theorem Hd.skip {K : Value → World → Prop} {w' : World} (hx : (execOp (AF n τ).eval o).run P w = .ok .skip w') (h : K undef w') : Hd P n o τ w K := fun Q => by
  unfold Oper.wp
  rw [hx]
  exact ⟨undef, AF_put _ _ _ _, h⟩
theorem Hd.enter {K : Value → World → Prop} {f : FuncId} {args : Array Value} {w' : World} (hx : (execOp (AF n τ).eval o).run P w = .ok (.enter f args) w')
    (h : Calls P f args w' fun e w'' => ∃ v, e = .returned v ∧ K v w'') : Hd P n o τ w K := fun Q => by
  unfold Oper.wp
  rw [hx]
  refine Calls.mono h ?_
  rintro e w'' ⟨v, rfl, hk⟩
  exact ⟨v, AF_put _ _ _ _, hk⟩
/-- entering a function -/
theorem enter {f : FuncId} {fn : Func} {c : Code} {args : Array Value} {R : Ending → World → Prop} (hf : P.funcs[f]? = some fn) (hb : fn.body = some c)
    (hs : args.size ≤ n) (hn : fn.ntmps = n) (h : ∀ τ : Fr, (∀ i (hi : i < args.size), τ i = args[i]) → CW P n c (fun e σ w => bodyPost P fn R e (AF n σ) w) τ w) : Calls P f args w R := by
  refine calls_of_wp hf hb ?_
  have e := AF_of { tmps := args ++ Array.replicate (fn.ntmps - args.size) undef, defers := [] } rfl
  have hsz : (args ++ Array.replicate (fn.ntmps - args.size) undef).size = n := by simp; omega
  rw [hsz] at e
  rw [e]
  refine wp_mono (h _ fun i hi => ?_) fun e a w ⟨σ, ha, hs⟩ => ha ▸ hs
  simp [Array.getElem?_append, hi]
end
end Go.SL
namespace Go.SL
open Go.RowKit
set_option linter.unusedVariables false
set_option linter.unusedSimpArgs false

section
variable {P : Program} {ρ : Operand → Value} {w : World} {dst : Option Tmp} {ty : TypeId} {pos : String} {af : Array Edge} {gd : Option (Nat × Bool)}
theorem E.move {x : Operand} {v : Value} (h : ρ x = v) : Ev P ρ ⟨dst, .move x, ty, pos, af, gd⟩ w v := by simp [Ev, execOp, h]
theorem E.b {o : Oper} {a b : Bool} (h : Ev P ρ o w (.bool a)) (e : a = b) : Ev P ρ o w (.bool b) := e ▸ h
theorem E.assign {x : Operand} {v : Value} (h : ρ x = v) : Ev P ρ ⟨dst, .assign x, ty, pos, af, gd⟩ w v := by simp [Ev, execOp, h]
theorem E.pick {c x y : Operand} {b : Bool} {v : Value} (hc : ρ c = .bool b) (h : (if b then ρ x else ρ y) = v) : Ev P ρ ⟨dst, .pick c x y, ty, pos, af, gd⟩ w v := by
  cases b <;> simp at h <;> simp [Ev, execOp, hc, asBool, h]
theorem E.pickT {c x y : Operand} {v : Value} (hc : ρ c = .bool true) (h : ρ x = v) : Ev P ρ ⟨dst, .pick c x y, ty, pos, af, gd⟩ w v := E.pick hc h
theorem E.pickF {c x y : Operand} {v : Value} (hc : ρ c = .bool false) (h : ρ y = v) : Ev P ρ ⟨dst, .pick c x y, ty, pos, af, gd⟩ w v := E.pick hc h
section
variable {x y : Operand} {t t' : TypeId} {k : IntKind} {a b c : Int}
theorem E.add (hx : ρ x = .int k a) (hy : ρ y = .int k b) (hc : k.wrap (a + b) = c) : Ev P ρ ⟨dst, .binOp .add t x y t', ty, pos, af, gd⟩ w (.int k c) := by
  simp [Ev, execOp, eqGuard, binOp, Op.intArith, hx, hy, hc]
theorem E.sub (hx : ρ x = .int k a) (hy : ρ y = .int k b) (hc : k.wrap (a - b) = c) : Ev P ρ ⟨dst, .binOp .sub t x y t', ty, pos, af, gd⟩ w (.int k c) := by
  simp [Ev, execOp, eqGuard, binOp, Op.intArith, hx, hy, hc]
theorem E.mul (hx : ρ x = .int k a) (hy : ρ y = .int k b) (hc : k.wrap (a * b) = c) : Ev P ρ ⟨dst, .binOp .mul t x y t', ty, pos, af, gd⟩ w (.int k c) := by
  simp [Ev, execOp, eqGuard, binOp, Op.intArith, hx, hy, hc]
theorem E.quo (hx : ρ x = .int k a) (hy : ρ y = .int k b) (h0 : b ≠ 0) (hc : k.wrap (a.tdiv b) = c) : Ev P ρ ⟨dst, .binOp .quo t x y t', ty, pos, af, gd⟩ w (.int k c) := by
  simp [Ev, execOp, eqGuard, binOp, Op.intDiv, hx, hy, hc, h0]
theorem E.rem (hx : ρ x = .int k a) (hy : ρ y = .int k b) (h0 : b ≠ 0) (hc : a.tmod b = c) : Ev P ρ ⟨dst, .binOp .rem t x y t', ty, pos, af, gd⟩ w (.int k c) := by
  simp [Ev, execOp, eqGuard, binOp, Op.intDiv, hx, hy, hc, h0]
theorem E.eql (hx : ρ x = .int k a) (hy : ρ y = .int k b) : Ev P ρ ⟨dst, .binOp .eql t x y t', ty, pos, af, gd⟩ w (.bool (a == b)) := by
  simp [Ev, execOp, eqGuard, binOp, Op.intCmp, hx, hy]
theorem E.neq (hx : ρ x = .int k a) (hy : ρ y = .int k b) : Ev P ρ ⟨dst, .binOp .neq t x y t', ty, pos, af, gd⟩ w (.bool (a != b)) := by
  simp [Ev, execOp, eqGuard, binOp, Op.intCmp, hx, hy]
theorem E.lss (hx : ρ x = .int k a) (hy : ρ y = .int k b) : Ev P ρ ⟨dst, .binOp .lss t x y t', ty, pos, af, gd⟩ w (.bool (decide (a < b))) := by
  simp [Ev, execOp, eqGuard, binOp, Op.intCmp, hx, hy]
theorem E.leq (hx : ρ x = .int k a) (hy : ρ y = .int k b) : Ev P ρ ⟨dst, .binOp .leq t x y t', ty, pos, af, gd⟩ w (.bool (decide (a ≤ b))) := by
  simp [Ev, execOp, eqGuard, binOp, Op.intCmp, hx, hy]
theorem E.gtr (hx : ρ x = .int k a) (hy : ρ y = .int k b) : Ev P ρ ⟨dst, .binOp .gtr t x y t', ty, pos, af, gd⟩ w (.bool (decide (a > b))) := by
  simp [Ev, execOp, eqGuard, binOp, Op.intCmp, hx, hy]
theorem E.geq (hx : ρ x = .int k a) (hy : ρ y = .int k b) : Ev P ρ ⟨dst, .binOp .geq t x y t', ty, pos, af, gd⟩ w (.bool (decide (a ≥ b))) := by
  simp [Ev, execOp, eqGuard, binOp, Op.intCmp, hx, hy]
theorem E.neg (hx : ρ x = .int k a) (hc : k.wrap (0 - a) = c) : Ev P ρ ⟨dst, .unOp .neg t x, ty, pos, af, gd⟩ w (.int k c) := by
  simp only [Ev, execOp, Op.unary, Op.intArith, hx, hc]; rfl
theorem E.convInt {k' : IntKind} {src dt : TypeId} (hs : (P.underlying src).isSome = true) (hd : P.underlying dt = some (.int k')) (hx : ρ x = .int k a) (hc : k'.wrap a = c) :
    Ev P ρ ⟨dst, .convert src dt x, ty, pos, af, gd⟩ w (.int k' c) := by
  simp [Ev, execOp, hx, run_convert_int w src dt k a hs, hd, hc, go_sem]
end
theorem E.not {x : Operand} {t : TypeId} {b : Bool} (hx : ρ x = .bool b) : Ev P ρ ⟨dst, .unOp .not t x, ty, pos, af, gd⟩ w (.bool (!b)) := by
  simp [Ev, execOp, Op.unary, hx]
theorem E.eqlB {x y : Operand} {t t' : TypeId} {a b : Bool} (ht : P.underlying t = some .bool) (hx : ρ x = .bool a) (hy : ρ y = .bool b) : Ev P ρ ⟨dst, .binOp .eql t x y t', ty, pos, af, gd⟩ w (.bool (a == b)) := by
  simp [Ev, execOp, eqGuard, binOp, hx, hy, run_equal_bool, ht]
theorem E.neqB {x y : Operand} {t t' : TypeId} {a b : Bool} (ht : P.underlying t = some .bool) (hx : ρ x = .bool a) (hy : ρ y = .bool b) : Ev P ρ ⟨dst, .binOp .neq t x y t', ty, pos, af, gd⟩ w (.bool (a != b)) := by
  simp [Ev, execOp, eqGuard, binOp, hx, hy, run_equal_bool, ht, bne]
theorem eqIn_ptr (d : Nat) {t e : TypeId} {p : Option Addr} (ht : P.underlying t = some (.pointer e)) : (Op.equalIn (d + 1) t (.pointer p) (.pointer none)).run P w = .ok p.isNone w := by
  cases p <;> simp [Op.equalIn, run_underlying ht]
theorem eq_ptr {t e : TypeId} {p : Option Addr} (ht : P.underlying t = some (.pointer e)) : (Op.equal t (.pointer p) (.pointer none)).run P w = .ok p.isNone w := eqIn_ptr 9999 ht
theorem eqIn_slc (d : Nat) {t e : TypeId} {p : Option Addr} {l c : Nat} (ht : P.underlying t = some (.slice e)) : (Op.equalIn (d + 1) t (.slice p l c) (.slice none 0 0)).run P w = .ok p.isNone w := by
  cases p <;> simp [Op.equalIn, run_underlying ht]
theorem eq_slc {t e : TypeId} {p : Option Addr} {l c : Nat} (ht : P.underlying t = some (.slice e)) : (Op.equal t (.slice p l c) (.slice none 0 0)).run P w = .ok p.isNone w := eqIn_slc 9999 ht
/-- a pointer against nil -/
theorem E.eqlP {x y : Operand} {t t' e : TypeId} {p : Option Addr} (ht : P.underlying t = some (.pointer e)) (hx : ρ x = .pointer p) (hy : ρ y = .pointer none) : Ev P ρ ⟨dst, .binOp .eql t x y t', ty, pos, af, gd⟩ w (.bool p.isNone) := by
  simp [Ev, execOp, eqGuard, binOp, hx, hy, eq_ptr ht]
theorem E.neqP {x y : Operand} {t t' e : TypeId} {p : Option Addr} (ht : P.underlying t = some (.pointer e)) (hx : ρ x = .pointer p) (hy : ρ y = .pointer none) : Ev P ρ ⟨dst, .binOp .neq t x y t', ty, pos, af, gd⟩ w (.bool (!p.isNone)) := by
  simp [Ev, execOp, eqGuard, binOp, hx, hy, eq_ptr ht]
/-- a slice against nil -/
theorem E.eqlS {x y : Operand} {t t' e : TypeId} {p : Option Addr} {l c : Nat} (ht : P.underlying t = some (.slice e)) (hx : ρ x = .slice p l c) (hy : ρ y = .slice none 0 0) : Ev P ρ ⟨dst, .binOp .eql t x y t', ty, pos, af, gd⟩ w (.bool p.isNone) := by
  simp [Ev, execOp, eqGuard, binOp, hx, hy, eq_slc ht]
theorem E.nilCheck {x : Operand} {a : Addr} (hx : ρ x = .pointer (some a)) : Ev P ρ ⟨dst, .nilCheck x, ty, pos, af, gd⟩ w (.pointer (some a)) := by
  simp [Ev, execOp, hx]
theorem add_lit (b o n : Nat) : (⟨b, o, none⟩ : Addr).add n = ⟨b, o + n, none⟩ := by
  unfold Addr.add; split
  · rename_i h; subst h; rfl
  · rfl
theorem E.fieldAddr {x : Operand} {s : TypeId} {i b o : Nat} {fs : Array Field} {f : Field} {sz : Nat} (hx : ρ x = .pointer (some ⟨b, o, none⟩)) (hs : P.underlying s = some (.struct fs)) (hf : fs[i]? = some f)
    (hz : (P.info? f.type).map (·.size) = some (sz + 1)) {o' : Nat} (ho : o + f.offset = o') : Ev P ρ ⟨dst, .fieldAddr s x i, ty, pos, af, gd⟩ w (.pointer (some ⟨b, o', none⟩)) := by
  cases hq : P.info? f.type with
  | none => simp [hq] at hz
  | some q =>
    have hsz : q.size = sz + 1 := by simpa [hq] using hz
    simp [Ev, execOp, Instr.fieldAt, Instr.sureAddr, fieldPlace, run_underlying hs, hf, hx, sizeOf, typeInfo, hq, hsz, add_lit, ho]
theorem E.extract {x : Operand} {i : Nat} {vs : Array Value} {v : Value} (hx : ρ x = .tuple vs) (hv : vs[i]? = some v) : Ev P ρ ⟨dst, .extract x i, ty, pos, af, gd⟩ w v := by
  simp [Ev, execOp, Instr.extract, hx, hv]
theorem E.indexAddr {x y : Operand} {t e : TypeId} {b o l c : Nat} {k : IntKind} {i : Int} {sz : Nat} (ht : P.underlying t = some (.slice e)) (hz : (P.info? e).map (·.size) = some sz)
    (hx : ρ x = .slice (some ⟨b, o, none⟩) l c) (hy : ρ y = .int k i) (h0 : 0 ≤ i) (h1 : i < l) {o' : Nat} (ho : o + i.toNat * sz = o') : Ev P ρ ⟨dst, .indexAddr t x y, ty, pos, af, gd⟩ w (.pointer (some ⟨b, o', none⟩)) := by
  cases hq : P.info? e with
  | none => simp [hq] at hz
  | some q =>
    have hsz : q.size = sz := by simpa [hq] using hz
    simp [Ev, execOp, Instr.indexAt, asIntOf, run_underlying ht, hx, hy, h0, h1, sizeOf, typeInfo, hq, hsz, add_lit, ho]
theorem E.indexAddrA {x y : Operand} {t e : TypeId} {b o l : Nat} {k : IntKind} {i : Int} {sz : Nat} (ht : P.underlying t = some (.array l e)) (hz : (P.info? e).map (·.size) = some sz)
    (hx : ρ x = .pointer (some ⟨b, o, none⟩)) (hy : ρ y = .int k i) (h0 : 0 ≤ i) (h1 : i < l) {o' : Nat} (ho : o + i.toNat * sz = o') : Ev P ρ ⟨dst, .indexAddr t x y, ty, pos, af, gd⟩ w (.pointer (some ⟨b, o', none⟩)) := by
  cases hq : P.info? e with
  | none => simp [hq] at hz
  | some q =>
    have hsz : q.size = sz := by simpa [hq] using hz
    simp [Ev, execOp, Instr.indexAt, Instr.sureAddr, asIntOf, run_underlying ht, hx, hy, h0, h1, sizeOf, typeInfo, hq, hsz, add_lit, ho]
theorem E.lenS {x : Operand} {t e : TypeId} {p : Option Addr} {l c : Nat} (ht : P.underlying t = some (.slice e)) (hx : ρ x = .slice p l c) : Ev P ρ ⟨dst, .call ⟨.builtin .len, #[x], #[t]⟩, ty, pos, af, gd⟩ w (.int .i64 l) := by
  simp [Ev, execOp, resolve, invoke, builtin, Builtin.len_, run_underlying ht, hx, goInt]
theorem E.lenStr {x : Operand} {t : TypeId} {s : ByteArray} (ht : P.underlying t = some .string) (hx : ρ x = .string s) : Ev P ρ ⟨dst, .call ⟨.builtin .len, #[x], #[t]⟩, ty, pos, af, gd⟩ w (.int .i64 s.size) := by
  simp [Ev, execOp, resolve, invoke, builtin, Builtin.len_, run_underlying ht, hx, goInt]
theorem E.max {x y : Operand} {ts : Array TypeId} {k : IntKind} {a b c : Int} (hx : ρ x = .int k a) (hy : ρ y = .int k b) (hc : (if b > a then b else a) = c) : Ev P ρ ⟨dst, .call ⟨.builtin .max, #[x, y], ts⟩, ty, pos, af, gd⟩ w (.int k c) := by
  subst hc; simp [Ev, execOp, resolve, invoke, builtin, Builtin.max_, Builtin.max2, hx, hy]
theorem E.min {x y : Operand} {ts : Array TypeId} {k : IntKind} {a b c : Int} (hx : ρ x = .int k a) (hy : ρ y = .int k b) (hc : (if b < a then b else a) = c) : Ev P ρ ⟨dst, .call ⟨.builtin .min, #[x, y], ts⟩, ty, pos, af, gd⟩ w (.int k c) := by
  subst hc; simp [Ev, execOp, resolve, invoke, builtin, Builtin.min_, Builtin.min2, hx, hy]
/-- x[lo:hi] of a slice that leads somewhere -/
theorem E.slice {x : Operand} {lo hi : Option Operand} {t e : TypeId} {b o l c : Nat} {sz : Nat} {i j : Nat} (ht : P.underlying t = some (.slice e)) (hz : (P.info? e).map (·.size) = some sz)
    (hx : ρ x = .slice (some ⟨b, o, none⟩) l c) (hlo : (match lo with | none => i = 0 | some y => ρ y = .int .i64 i)) (hhi : (match hi with | none => j = l | some y => ρ y = .int .i64 j)) (hij : i ≤ j) (hjc : j ≤ c)
    {v : Value} (hv : .slice (some ⟨b, if i = c then o else o + i * sz, none⟩) (j - i) (c - i) = v) : Ev P ρ ⟨dst, .slice t x lo hi none, ty, pos, af, gd⟩ w v := by
  subst hv
  cases hq : P.info? e with
  | none => simp [hq] at hz
  | some q =>
    have hsz : q.size = sz := by simpa [hq] using hz
    cases lo with
    | none =>
      simp only at hlo; subst hlo
      cases hi with
      | none =>
        simp only at hhi; subst hhi
        by_cases hc : 0 = c
        · subst hc; simp [Ev, execOp, Instr.sliceAt, run_underlying ht, Instr.slice, Instr.sliceBounds, hx, sizeOf, typeInfo, hq, hsz]
        · have hc2 : ¬ c = 0 := fun h => hc h.symm
          simp [Ev, execOp, Instr.sliceAt, run_underlying ht, Instr.slice, Instr.sliceBounds, hx, sizeOf, typeInfo, hq, hsz, hc, hc2, add_lit]
      | some y =>
        simp only at hhi
        have h1 : (j : Int) ≤ (c : Int) := by omega
        by_cases hc : 0 = c
        · subst hc; simp [Ev, execOp, Instr.sliceAt, run_underlying ht, Instr.slice, Instr.sliceBounds, Instr.sliceBound, asIntOf, hx, sizeOf, typeInfo, hq, hsz, hhi, h1]; intro h; omega
        · have hc2 : ¬ c = 0 := fun h => hc h.symm
          simp [Ev, execOp, Instr.sliceAt, run_underlying ht, Instr.slice, Instr.sliceBounds, Instr.sliceBound, asIntOf, hx, sizeOf, typeInfo, hq, hsz, hhi, h1, hc, hc2, add_lit]; intro h; omega
    | some z =>
      simp only at hlo
      cases hi with
      | none =>
        simp only at hhi; subst hhi
        have h1 : (i : Int) ≤ (j : Int) := by omega
        by_cases hc : i = c
        · subst hc; simp [Ev, execOp, Instr.sliceAt, run_underlying ht, Instr.slice, Instr.sliceBounds, Instr.sliceBound, asIntOf, hx, sizeOf, typeInfo, hq, hsz, hlo, h1]; intro h; omega
        · have hc2 : ¬ c = i := fun h => hc h.symm
          simp [Ev, execOp, Instr.sliceAt, run_underlying ht, Instr.slice, Instr.sliceBounds, Instr.sliceBound, asIntOf, hx, sizeOf, typeInfo, hq, hsz, hlo, h1, hc, hc2, add_lit]; intro h; omega
      | some y =>
        simp only at hhi
        have h1 : (i : Int) ≤ (j : Int) := by omega
        have h2 : (j : Int) ≤ (c : Int) := by omega
        by_cases hc : i = c
        · subst hc; simp [Ev, execOp, Instr.sliceAt, run_underlying ht, Instr.slice, Instr.sliceBounds, Instr.sliceBound, asIntOf, hx, sizeOf, typeInfo, hq, hsz, hlo, hhi, h1, h2]; simp [hij, hjc]
        · have hc2 : ¬ c = i := fun h => hc h.symm
          simp [Ev, execOp, Instr.sliceAt, run_underlying ht, Instr.slice, Instr.sliceBounds, Instr.sliceBound, asIntOf, hx, sizeOf, typeInfo, hq, hsz, hlo, hhi, h1, h2, hc, hc2, add_lit]; simp [hij, hjc, hc, hc2, add_lit]
/-- a variable of one cell is read -/
theorem E.load {x : Operand} {t : TypeId} {d : TypeDesc} {a : Addr} {v : Value} (ht : P.underlying t = some d) (hd : (match d with | .struct _ | .array _ _ => true | _ => false) = false)
    (hx : ρ x = .pointer (some a)) (hc : w.cell? a = some v) : Ev P ρ ⟨dst, .load t x, ty, pos, af, gd⟩ w v := by
  have hagg : (isAgg t).run P w = .ok false w := by
    unfold isAgg
    rw [Sem.run_bind, run_underlying ht w]
    cases d <;> simp_all
  simp [Ev, execOp, Instr.loadAt, Instr.sureAddr, loadVar, hx, Sem.run_bind, hagg, hc]
/-- a struct, or an array -/
theorem E.loadN {x : Operand} {t : TypeId} {d : TypeDesc} {b o sz : Nat} {cs : List Value} (ht : P.underlying t = some d) (hd : (match d with | .struct _ | .array _ _ => true | _ => false) = true)
    (hz : (P.info? t).map (·.size) = some sz) (hx : ρ x = .pointer (some ⟨b, o, none⟩)) (hl : cs.length = sz) (hc : ∀ j v, cs[j]? = some v → w.cell? ⟨b, o + j, none⟩ = some v) :
    Ev P ρ ⟨dst, .load t x, ty, pos, af, gd⟩ w (.agg cs.toArray) := by
  cases hq : P.info? t with
  | none => simp [hq] at hz
  | some i =>
    have hs : i.size = cs.length := by rw [hl]; simpa [hq] using hz
    have hagg : (isAgg t).run P w = .ok true w := by
      unfold isAgg
      rw [Sem.run_bind, run_underlying ht w]
      cases d <;> simp_all
    have hld : (loadCells ⟨b, o, none⟩ cs.length).run P w = .ok cs.toArray w :=
      run_loadCells_list (P := P) w ⟨b, o, none⟩ cs (fun j v hv => by rw [add_lit]; exact hc j v hv)
    simp [Ev, execOp, Instr.loadAt, Instr.sureAddr, loadVar, hx, Sem.run_bind, hagg, sizeOf, typeInfo, hq, hs, hld]
theorem E.run {o : Oper} {v : Value} (h : (execOp ρ o).run P w = .ok (.value v) w) : Ev P ρ o w v := h
theorem E.build {t : TypeId} {ps : Array (Nat × Operand)} {vs : Array (Nat × Value)} {v : Value} (hp : (ps.map fun (i, x) => (i, ρ x)) = vs) (h : (Instr.build t vs).run P w = .ok v w) : Ev P ρ ⟨dst, .build t ps, ty, pos, af, gd⟩ w v := by
  subst hp
  have h' : (Instr.build t (Array.map (fun x => (x.fst, ρ x.snd)) ps)).run P w = .ok v w := h
  simp [Ev, execOp, h']
theorem E.makeFunc {fn : Fn} {first cap : Array Operand} {a b : Array Value} (ha : first.map ρ = a) (hb : cap.map ρ = b) : Ev P ρ ⟨dst, .makeFunc fn first cap, ty, pos, af, gd⟩ w (.func fn a b) := by
  simp [Ev, execOp, Instr.makeFunc, ha, hb]
theorem E.index {x y : Operand} {t e : TypeId} {l : Nat} {k : IntKind} {i : Int} {cs : Array Value} {v : Value} (ht : P.underlying t = some (.array l e)) (hx : ρ x = .agg cs) (hy : ρ y = .int k i) (h0 : 0 ≤ i) (h1 : i < l)
    (hz : (P.info? e).map (·.size) = some 1) {d : TypeDesc} (he : P.underlying e = some d) (hd : (match d with | .struct _ | .array _ _ => true | _ => false) = false) (hv : cs[i.toNat]? = some v) : Ev P ρ ⟨dst, .index t x y, ty, pos, af, gd⟩ w v := by
  cases hq : P.info? e with
  | none => simp [hq] at hz
  | some q =>
    have hsz : q.size = 1 := by simpa [hq] using hz
    have hagg : (isAgg e).run P w = .ok false w := by
      unfold isAgg
      rw [Sem.run_bind, run_underlying he w]
      cases d <;> simp_all
    simp [Ev, execOp, Instr.index, asIntOf, run_underlying ht, hx, hy, h0, h1, sizeOf, typeInfo, hq, hsz, part, hagg, hv]
end
end Go.SL
namespace Go.SL
open Go.RowKit
set_option linter.unusedVariables false
set_option linter.unusedSimpArgs false

section
variable {P : Program} {n : Nat} {τ : Fr} {w : World} {dst : Option Tmp} {ty : TypeId} {pos : String} {af : Array Edge} {gd : Option (Nat × Bool)} {K : Value → World → Prop} {p : Pers} {H H' : List Assn}

theorem H.alloc {e : TypeId} {z : Value} (hz : (P.info? e).bind (·.zero) = some z) (s : St p w H) (h : ∀ b w', St p w' (pt b (.cells z.cells e) :: H) → K (.pointer (some ⟨b, 0, none⟩)) w') :
    Hd P n ⟨dst, .alloc e, ty, pos, af, gd⟩ τ w K := by
  cases hq : P.info? e with
  | none => simp [hq] at hz
  | some i =>
    have hi : i.zero = some z := by simpa [hq] using hz
    refine Hd.value (v := .pointer (some ⟨w.heap.size, 0, none⟩)) (w' := w.alloc (.cells z.cells e)) ?_ (h _ _ (s.alloc _))
    simp [execOp, Instr.alloc, zeroValue, typeInfo, hq, hi, newVar, newRow]
theorem H.box {e : TypeId} {x : Operand} {v : Value} (hx : (Act.eval (AF n τ)) x = v) (s : St p w H) (h : ∀ b w', St p w' (pt b (.cells v.cells e) :: H) → K (.pointer (some ⟨b, 0, none⟩)) w') :
    Hd P n ⟨dst, .box e x, ty, pos, af, gd⟩ τ w K := by
  refine Hd.value (v := .pointer (some ⟨w.heap.size, 0, none⟩)) (w' := w.alloc (.cells v.cells e)) ?_ (h _ _ (s.alloc _))
  simp [execOp, Instr.box, hx, newVar, newRow]
theorem H.buildSlice {t e : TypeId} {len : Nat} {ps : Array (Nat × Operand)} {vs : Array (Nat × Value)} {cs : Array Value} (hp : (ps.map fun (i, x) => (i, (Act.eval (AF n τ)) x)) = vs)
    (hr : ∀ w, (Instr.buildSlice t len vs).run P w = .ok (.slice (some ⟨w.heap.size, 0, none⟩) len len) (w.alloc (.cells cs e)))
    (s : St p w H) (h : ∀ b w', St p w' (pt b (.cells cs e) :: H) → K (.slice (some ⟨b, 0, none⟩) len len) w') : Hd P n ⟨dst, .buildSlice t len ps, ty, pos, af, gd⟩ τ w K := by
  refine Hd.value (v := .slice (some ⟨w.heap.size, 0, none⟩) len len) (w' := w.alloc (.cells cs e)) ?_ (h _ _ (s.alloc _))
  subst hp
  have h' : (Instr.buildSlice t len (Array.map (fun x => (x.fst, (Act.eval (AF n τ)) x.snd)) ps)).run P w = _ := hr w
  simp [execOp, h']
theorem H.makeMap {t : TypeId} (s : St p w H) (h : ∀ b w', St p w' (pt b (.map #[] 0) :: H) → K (.map (some b)) w') : Hd P n ⟨dst, .makeMap t none, ty, pos, af, gd⟩ τ w K := by
  refine Hd.value (v := .map (some w.heap.size)) (w' := w.alloc (.map #[] 0)) ?_ (h _ _ (s.alloc _))
  have := run_makeMap (P := P) t w
  simp [execOp, this]

/-- cells laid over others, from o on -/
def over (c : Array Value) (o : Nat) (l : List Value) : Array Value := (c.toList.take o ++ l ++ c.toList.drop (o + l.length)).toArray
theorem St.over {b : Nat} {c : Array Value} {e : TypeId} (s : St p w (pt b (.cells c e) :: H)) (o : Nat) (l : List Value) : St p (w.setRow b (over c o l)) (pt b (.cells (SL.over c o l) e) :: H) :=
  s.turn (setRow_heap w b c _ e _ s.block) (fun k hk => setRow_other w b k _ hk) rfl rfl rfl
theorem run_store_over {t : TypeId} {b o : Nat} {c : Array Value} {e : TypeId} {v : Value} (hb : w.heap[b]? = some (.cells c e)) (hz : (P.info? t).map (·.size) = some v.cells.size) (ho : o + v.cells.size ≤ c.size)
    (h1 : ∀ u ∈ v.cells.toList, u.oneCell' = true) : (Instr.storeAt t (.pointer (some ⟨b, o, none⟩)) v).run P w = .ok () (w.setRow b (over c o v.cells.toList)) := by
  cases hq : P.info? t with
  | none => simp [hq] at hz
  | some i =>
    have hi : i.size = v.cells.size := by simpa [hq] using hz
    have hs := run_storeCells_at P b o e v.cells.toList 0 c w hb (by simpa using ho) h1
    simp only [Nat.add_zero] at hs
    simp [Instr.storeAt, Instr.sureAddr, storeVar, sizeOf, typeInfo, hq, hi, hs, over]
theorem H.store {t : TypeId} {x y : Operand} {b o : Nat} {c : Array Value} {e : TypeId} {v : Value} {c' : Array Value} (hx : (Act.eval (AF n τ)) x = .pointer (some ⟨b, o, none⟩)) (hy : (Act.eval (AF n τ)) y = v)
    (s : St p w H) (hr : Rep (pt b (.cells c e)) (pt b (.cells c' e)) H H') (hz : (P.info? t).map (·.size) = some v.cells.size) (ho : o + v.cells.size ≤ c.size)
    (h1 : ∀ u ∈ v.cells.toList, u.oneCell' = true) (hc : over c o v.cells.toList = c') (h : ∀ w', St p w' H' → K undef w') : Hd P n ⟨dst, .store t x y, ty, pos, af, gd⟩ τ w K := by
  obtain ⟨m, d1, d2⟩ := hr.dels
  have s1 := s.take d1
  subst hc
  refine Hd.skip (w' := w.setRow b (over c o v.cells.toList)) ?_ (h _ ((s1.over o v.cells.toList).give d2))
  have := run_store_over (P := P) (t := t) s1.block hz ho h1
  simp [execOp, hx, hy, this]

/-! ### calls -/
theorem H.call {k : FuncId} {fn : Func} {f : Operand} {xs : Array Operand} {ts : Array TypeId} {as cap : Array Value} (hf : (Act.eval (AF n τ)) f = .func (.func k) #[] cap) (hfn : P.funcs[k]? = some fn) (hnm : (fn.name == "runtime.NumGoroutine") = false)
    (hb : fn.body.isNone = false) (ha : xs.map (Act.eval (AF n τ)) = as) (h : Calls P k (as ++ cap) w fun e w' => ∃ v, e = .returned v ∧ K v w') : Hd P n ⟨dst, .call ⟨.value f, xs, ts⟩, ty, pos, af, gd⟩ τ w K := by
  refine Hd.enter (f := k) (args := as ++ cap) (w' := w) ?_ h
  have h1 : ¬ fn.name = "runtime.NumGoroutine" := by simpa using hnm
  have h2 : ¬ fn.body = none := by intro e; rw [e] at hb; cases hb
  simp [execOp, resolve, hf, Deferred.ofValue, invoke, callFunc, hfn, h1, h2, ha]
/-! ### slices that are held -/
/-- v is a slice of n elements of sz cells each, xs, and its row is held -/
def Own (e : TypeId) (sz : Nat) (v : Value) (n : Nat) (xs : List Value) : Assn := fun h =>
  xs.length = n * sz ∧ ((∃ A, v = .slice A 0 0 ∧ n = 0 ∧ h = none0) ∨
    ∃ g cap cur, v = .slice (some ⟨g, 0, none⟩) n cap ∧ pt g (.cells cur e) h ∧ n ≤ cap ∧ cap ≤ maxLen ∧ cap * sz ≤ cur.size ∧ cur.toList.take (n * sz) = xs)
theorem St.none0 (s : St p w H) : St p w ((fun h => h = none0) :: H) := by
  obtain ⟨h, ha, r⟩ := s
  exact ⟨h, ⟨SL.none0, h, fun _ => .inl rfl, (none0_uni h).symm, rfl, ha⟩, r⟩
theorem St.ownNil {e : TypeId} {sz : Nat} (A : Option Addr) (s : St p w H) : St p w (Own e sz (.slice A 0 0) 0 [] :: H) :=
  s.none0.weaken fun x hx => ⟨by simp, .inl ⟨A, rfl, rfl, hx⟩⟩
theorem St.ownNew {e : TypeId} {sz g n cap : Nat} {cur : Array Value} {xs : List Value} (s : St p w (pt g (.cells cur e) :: H)) (hn : n ≤ cap) (hc : cap ≤ maxLen) (hs : cap * sz ≤ cur.size) (hx : cur.toList.take (n * sz) = xs) :
    St p w (Own e sz (.slice (some ⟨g, 0, none⟩) n cap) n xs :: H) :=
  s.weaken fun x hx' => ⟨by rw [← hx, List.length_take, Array.length_toList]; exact Nat.min_eq_left (Nat.le_trans (Nat.mul_le_mul_right _ hn) hs), .inr ⟨g, cap, cur, rfl, hx', hn, hc, hs, hx⟩⟩
/-- the held row laid open -/
theorem St.ownOpen {e : TypeId} {sz : Nat} {v : Value} {n : Nat} {xs : List Value} (s : St p w (Own e sz v n xs :: H)) : xs.length = n * sz ∧
    ((∃ A, v = .slice A 0 0 ∧ n = 0 ∧ St p w H) ∨ ∃ g cap cur, v = .slice (some ⟨g, 0, none⟩) n cap ∧ St p w (pt g (.cells cur e) :: H) ∧ n ≤ cap ∧ cap ≤ maxLen ∧ cap * sz ≤ cur.size ∧ cur.toList.take (n * sz) = xs) := by
  obtain ⟨h, ⟨x, y, d, e', ⟨hl, hx⟩, hy⟩, r⟩ := s
  refine ⟨hl, ?_⟩
  rcases hx with ⟨A, rfl, rfl, rfl⟩ | ⟨g, cap, cur, rfl, hp, r2⟩
  · rw [none0_uni] at e'; subst e'
    exact .inl ⟨A, rfl, rfl, _, hy, r⟩
  · exact .inr ⟨g, cap, cur, rfl, ⟨h, ⟨x, y, d, e', hp, hy⟩, r⟩, r2⟩
/-- what a slice's first m elements are, wherever they lie -/
def Src (w : World) (sz : Nat) (x : Value) (m : Nat) (xs : List Value) : Prop :=
  xs.length = m * sz ∧ ∃ X c, x = .slice X m c ∧ m ≤ c ∧ (m = 0 ∨ ∃ b o, X = some ⟨b, o, none⟩ ∧ ∀ j u, xs[j]? = some u → w.cell? ⟨b, o + j, none⟩ = some u)
theorem Own.src {e : TypeId} {sz : Nat} {v : Value} {n : Nat} {xs : List Value} (s : St p w (Own e sz v n xs :: H)) : Src w sz v n xs := by
  obtain ⟨hl, ⟨A, rfl, rfl, _⟩ | ⟨g, cap, cur, rfl, hp, hn, hc, hs, hx⟩⟩ := s.ownOpen
  · exact ⟨hl, A, 0, rfl, Nat.le_refl _, .inl rfl⟩
  · refine ⟨hl, _, cap, rfl, hn, .inr ⟨g, 0, rfl, fun j u hu => ?_⟩⟩
    have hb := hp.block
    rw [Nat.zero_add, cell_of_row w g j cur e (0, 0) hb]
    rw [← hx, List.getElem?_take] at hu
    split at hu
    · simpa using hu
    · cases hu
def isNil : Value → Bool
  | .slice none _ _ => true
  | _ => false
theorem run_append_zero {t e : TypeId} {i : TypeInfo} (ht : P.underlying t = some (.slice e)) (hi : P.info? e = some i) (A : Option Addr) (sLen sCap : Nat) (h : sLen ≤ sCap) (X : Option Addr) (c : Nat) :
    (Builtin.append_ #[t, t] ty #[.slice A sLen sCap, .slice X 0 c]).run P w = .ok (.slice A sLen sCap) w := by
  cases X <;> cases A <;> simp [Builtin.append_, run_underlying ht, sizeOf, typeInfo, hi, Builtin.lenOf, Builtin.firstCells, loadCells, loadCellsFrom, h, storeCells]
theorem run_append_grow0 {t e : TypeId} {i : TypeInfo} {z : Value} (ht : P.underlying t = some (.slice e)) (hi : P.info? e = some i) (hz : i.zero = some z) (A : Option Addr)
    (a : Addr) (m c : Nat) (news : List Value) (hl : news.length = m * i.size) (hnews : ∀ j v, news[j]? = some v → w.cell? (a.add j) = some v) (h0 : 0 < m) (h63 : (m : Int) ≤ 9223372036854775807) (h48 : m * i.bytes ≤ 140737488355328) :
    (Builtin.append_ #[t, t] ty #[.slice A 0 0, .slice (some a) m c]).run P w =
      .ok (.slice (some ⟨w.heap.size, 0, none⟩) m (grownCap w m 0 e)) (w.drew.alloc (.cells (news.toArray ++ Builtin.zeroCells z.cells (grownCap w m 0 e - m)) e)) := by
  cases A with
  | none => exact run_append_nil (P := P) w t ty e i z ht hi hz a m c news hl hnews h0 h63 (by omega)
  | some b =>
    have := run_append_grow (P := P) w t ty e i z ht hi hz b 0 0 [] (by simp) (by simp) a m c news hl hnews (by omega) (by omega) (growslice_fits (by omega) (by simpa using h48))
    simpa using this
theorem H.append {x y : Operand} {t e : TypeId} {z : Value} {sz bytes : Nat} {s0 x0 : Value} {k m : Nat} {xs news : List Value} (ht : P.underlying t = some (.slice e))
    (hi : (P.info? e).map (fun i => (i.zero, i.size, i.bytes)) = some (some z, sz, bytes)) (hzs : z.cells.size = sz) (hx : (Act.eval (AF n τ)) x = s0) (hy : (Act.eval (AF n τ)) y = x0)
    (s : St p w H) (hd : Del (Own e sz s0 k xs) H H') (hsrc : Src w sz x0 m news) (h1 : ∀ u ∈ news, u.oneCell' = true) (hfit : (k + m) * bytes ≤ 140737488355328) (h63 : k + m ≤ maxLen)
    (h : ∀ v w', (isNil v = true ↔ isNil s0 = true ∧ m = 0) → St p w' (Own e sz v (k + m) (xs ++ news) :: H') → K v w') : Hd P n ⟨dst, .call ⟨.builtin .append, #[x, y], #[t, t]⟩, ty, pos, af, gd⟩ τ w K := by
  obtain ⟨i, hq, hz0, hz1, hz2⟩ := info_parts hi
  subst hz1; subst hz2
  have h63' : ((k + m : Nat) : Int) ≤ 9223372036854775807 := by simp only [maxLen] at h63; omega
  have go : ∀ v w', (Builtin.append_ #[t, t] ty #[s0, x0]).run P w = .ok v w' → K v w' → Hd P n ⟨dst, .call ⟨.builtin .append, #[x, y], #[t, t]⟩, ty, pos, af, gd⟩ τ w K := by
    intro v w' hr hk
    refine Hd.value (v := v) (w' := w') ?_ hk
    simp [execOp, resolve, invoke, builtin, hx, hy, hr]
  have s1 := s.take hd
  obtain ⟨hlx, hX⟩ := s1.ownOpen
  obtain ⟨hln, X, c, rfl, hmc, hS⟩ := hsrc
  have grown : ∀ (s2 : St p w H') (old : Nat), old < k + m → St p (w.drew.alloc (.cells (xs.toArray ++ news.toArray ++ Builtin.zeroCells z.cells (grownCap w (k + m) old e - (k + m))) e))
      (Own e i.size (.slice (some ⟨w.heap.size, 0, none⟩) (k + m) (grownCap w (k + m) old e)) (k + m) (xs ++ news) :: H') := by
    intro s2 old ho
    have hge := grownCap_ge w (k + m) old e
    have hcm : grownCap w (k + m) old e ≤ maxLen := grownCap_le_maxLen w (k + m) old e h63
    have hlen : (xs ++ news).length = (k + m) * i.size := by rw [List.length_append, hlx, hln, Nat.add_mul]
    have s3 := (s2.drew).alloc (.cells (xs.toArray ++ news.toArray ++ Builtin.zeroCells z.cells (grownCap w (k + m) old e - (k + m))) e)
    refine s3.ownNew hge hcm (Nat.le_of_eq (Eq.symm ?_)) ?_
    · simp only [Array.size_append, List.size_toArray, size_zeroCells, hzs, hlx, hln, ← Nat.add_mul]
      congr 1
      omega
    · simp only [Array.toList_append, List.append_assoc]
      rw [← List.append_assoc, ← hlen]
      exact List.take_left
  rcases hX with ⟨A, rfl, rfl, s2⟩ | ⟨g, cap, cur, rfl, s2, hnc, hcm, hcs, htake⟩
  · have hxs : xs = [] := List.eq_nil_of_length_eq_zero (by simpa using hlx)
    subst hxs
    by_cases hm : m = 0
    · subst hm
      have hn : news = [] := List.eq_nil_of_length_eq_zero (by simpa using hln)
      subst hn
      exact go _ _ (run_append_zero ht hq A 0 0 (Nat.le_refl _) X c) (h _ _ (by simp) (by simpa using s2.ownNil A))
    · obtain ⟨b, o, rfl, hcell⟩ := hS.resolve_left hm
      have hr := run_append_grow0 (P := P) (w := w) (ty := ty) ht hq hz0 A ⟨b, o, none⟩ m c news hln (fun j v hv => by rw [add_lit]; exact hcell j v hv) (by omega) (by omega) (by simpa using hfit)
      have hg := grown s2 0 (by omega)
      simp only [Nat.zero_add, List.nil_append, Array.empty_append] at hg ⊢
      exact go _ _ hr (h _ _ (by simp [isNil, hm]) (by simpa using hg))
  · by_cases hm : m = 0
    · subst hm
      have hn : news = [] := List.eq_nil_of_length_eq_zero (by simpa using hln)
      subst hn
      exact go _ _ (run_append_zero ht hq _ k cap hnc X c) (h _ _ (by simp [isNil]) (by simpa using s1))
    · obtain ⟨b, o, rfl, hcell⟩ := hS.resolve_left hm
      have hcell' : ∀ j v, news[j]? = some v → w.cell? ((⟨b, o, none⟩ : Addr).add j) = some v := fun j v hv => by rw [add_lit]; exact hcell j v hv
      by_cases hroom : k + m ≤ cap
      · have hfit' : k * i.size + news.length ≤ cur.size := by rw [hln, ← Nat.add_mul]; exact Nat.le_trans (Nat.mul_le_mul_right _ hroom) hcs
        have hr := run_append_room (P := P) w t ty e i ht hq g k cap cur s2.block ⟨b, o, none⟩ m c news hln hcell' h1 hroom hfit'
        refine go _ _ hr (h _ _ (by simp [isNil]) ((s2.over (k * i.size) news).ownNew hroom hcm ?_ ?_))
        · simp only [SL.over, List.size_toArray, List.length_append, List.length_take, List.length_drop, Array.length_toList]
          omega
        · have hlen : (xs ++ news).length = (k + m) * i.size := by rw [List.length_append, hlx, hln, Nat.add_mul]
          simp only [SL.over]
          rw [htake, ← hlen]
          exact List.take_left
      · have holds : ∀ j u, xs[j]? = some u → w.cell? ((⟨g, 0, none⟩ : Addr).add j) = some u := fun j u hu => by
          rw [add_lit, Nat.zero_add, cell_of_row w g j cur e (0, 0) s2.block]
          rw [← htake, List.getElem?_take] at hu
          split at hu
          · simpa using hu
          · cases hu
        have hr := run_append_grow (P := P) w t ty e i z ht hq hz0 ⟨g, 0, none⟩ k cap xs hlx holds ⟨b, o, none⟩ m c news hln hcell' (by omega) h63' (growslice_fits (by omega) hfit)
        exact go _ _ hr (h _ _ (by simp [isNil]) (grown s2.drop cap (by omega)))
end
end Go.SL
namespace Go.SL
open Go.RowKit
set_option linter.unusedVariables false
set_option linter.unusedSimpArgs false

/-- may one of the soft operations come up behind number j? -/
def needs (ops : Array Oper) (soft : List Nat) (j : Nat) : Bool :=
  soft.any fun k => k != j && !((ops[j]?).any fun o => o.after.any fun e => Region.binds .any e && e.on == k)
def wpC (P : Program) (ops : Array Oper) (soft : List Nat) (S : World → Prop) (Q : Exit → Act → World → Prop) : Nat → Array Bool → Act → World → Prop
  | 0, listed, a, w => Region.ready .any ops listed = [] ∧ Q .normal a w
  | f + 1, listed, a, w => (Region.ready .any ops listed = [] → Q .normal a w) ∧
      ∀ i ∈ Region.ready .any ops listed, wpOp P ops Q i (fun a' w' => (needs ops soft i = true → S w') ∧ wpC P ops soft S Q f (listed.setIfInBounds i true) a' w') a w
section
variable {P : Program} {ops : Array Oper} {soft : List Nat} {S : World → Prop} {Q : Exit → Act → World → Prop}
theorem needs_of {i j : Nat} {oj : Oper} (hs : i ∈ soft) (hij : i ≠ j) (hj : ops[j]? = some oj) (hno : ∀ e ∈ oj.after, Region.binds .any e = true → e.on ≠ i) : needs ops soft j = true := by
  unfold needs
  rw [List.any_eq_true]
  refine ⟨i, hs, ?_⟩
  have h1 : (i != j) = true := by simpa using hij
  have h2 : (oj.after.any fun e => Region.binds .any e && e.on == i) = false := by
    cases hb : oj.after.any fun e => Region.binds .any e && e.on == i with
    | false => rfl
    | true =>
      obtain ⟨e, he, hc⟩ := Array.any_eq_true'.1 hb
      simp only [Bool.and_eq_true, beq_iff_eq] at hc
      exact absurd hc.2 (hno e he hc.1)
  simp [h1, hj, h2]
theorem wpC_first {i : Nat} {oi : Oper} {v : Value} (hi : ops[i]? = some oi) (hso : i ∈ soft) (hsel : Region.noSelect ops = true) (hQ : ∀ c a w, Q (.panic c) (a.put oi.dst v) w → Q (.panic c) a w) :
    ∀ (f : Nat) (listed : Array Bool) (a : Act) (w : World), (∀ j oj, ops[j]? = some oj → j ≠ i → listed.getD j true = false → (∀ e ∈ oj.after, Region.binds .any e = true → e.on ≠ i) → oi.apart ops oj = true) →
      i ∈ Region.ready .any ops listed → YieldsIf P ops S oi v a → S w → wpC P ops soft S Q f (listed.setIfInBounds i true) (a.put oi.dst v) w → wpC P ops soft S Q (f + 1) listed a w := by
  have sel := fun j o cs b (ho : ops[j]? = some o) => Region.noSelect_spec hsel j o cs b ho
  intro f
  induction f with
  | zero =>
    intro listed a w _ hr hy hS H
    refine ⟨fun h0 => absurd hr (by rw [h0]; exact List.not_mem_nil), fun j hj => ?_⟩
    rcases Decidable.em (j = i) with e | e
    · subst e; exact hy.wpOp hi hS ⟨fun _ => hS, H⟩
    · exact absurd (ready_mono hj e) (by rw [H.1]; exact List.not_mem_nil)
  | succ f ih =>
    intro listed a w hap hr hy hS H
    refine ⟨fun h0 => absurd hr (by rw [h0]; exact List.not_mem_nil), fun j hj => ?_⟩
    rcases Decidable.em (j = i) with e | e
    · subst e; exact hy.wpOp hi hS ⟨fun _ => hS, H⟩
    · obtain ⟨hjl, oj, hoj, hall⟩ := mem_ready.1 hj
      have hil := (mem_ready.1 hr).1
      have hno : ∀ e ∈ oj.after, Region.binds .any e = true → e.on ≠ i := by
        intro e he hb heq
        have h1 := hall e he hb
        rw [heq] at h1
        rcases Nat.lt_or_ge i listed.size with h' | h'
        · simp [h'] at hil h1; rw [hil] at h1; cases h1
        · simp [Array.getElem?_eq_none h'] at h1
      have h2 := wpOp_putIf hoj (hap j oj hoj e hjl hno) (fun cs b => sel i oi cs b hi) (fun cs b => sel j oj cs b hoj) hQ hy (H.2 j (ready_mono hj e))
      have hn : needs ops soft j = true := needs_of hso (Ne.symm e) hoj hno
      refine wpOp_mono (fun a' w' k => ⟨k.2.1, ih (listed.setIfInBounds j true) a' w' ?_ (ready_mono hr (Ne.symm e)) k.1 (k.2.1 hn) ?_⟩) h2
      · intro m om hm hmi hml hmo
        refine hap m om hm hmi ?_ hmo
        rcases Decidable.em (j = m) with q | q
        · subst q; exact hjl
        · rw [getD_set_ne true q] at hml; exact hml
      · rw [Array.setIfInBounds_comm _ _ e]; exact k.2.2
end

/-- a region that leaves its order open, over frames that are functions -/
def RD (P : Program) (n : Nat) (ops : Array Oper) (soft : List Nat) (S : World → Prop) (Q : Exit → Fr → World → Prop) (f : Nat) (listed : Array Bool) (τ : Fr) (w : World) : Prop :=
  wpC P ops soft S (NoPanic (On n Q)) f listed (AF n τ) w
section
variable {P : Program} {n : Nat} {ops : Array Oper} {soft : List Nat} {S : World → Prop} {Q : Exit → Fr → World → Prop} {f : Nat} {listed : Array Bool} {τ : Fr} {w : World} {p : Pers} {H : List Assn}
/-- number i is taken first -/
theorem RD.take (i : Nat) {oi : Oper} {v : Value} (hi : ops[i]? = some oi) (hc : (Region.noSelect ops && soft.contains i && Region.free .any ops listed i && (Region.ready .any ops listed).contains i) = true)
    (hw : Wd n ops oi τ true) (hx : ∀ w, S w → Ev P (AF n τ).eval oi w v) (hS : S w) (h : RD P n ops soft S Q f (listed.setIfInBounds i true) (upo τ oi.dst v) w) : RD P n ops soft S Q (f + 1) listed τ w := by
  simp only [Bool.and_eq_true] at hc
  obtain ⟨⟨⟨h1, h2⟩, h3⟩, h4⟩ := hc
  refine wpC_first hi (by simpa using h2) h1 (fun c a w hp => hp) f listed (AF n τ) w (fun j oj hj hne hun hno => Region.free_spec hi h3 j oj hj hne hun hno) (by simpa using h4) (.inl ⟨hw, hx⟩) hS ?_
  rw [AF_put]; exact h
/-- .. one that is not carried out -/
theorem RD.pass (i : Nat) {oi : Oper} (hi : ops[i]? = some oi) (hc : (Region.noSelect ops && soft.contains i && Region.free .any ops listed i && (Region.ready .any ops listed).contains i) = true)
    (hw : Wd n ops oi τ false) (hS : S w) (h : RD P n ops soft S Q f (listed.setIfInBounds i true) (upo τ oi.dst undef) w) : RD P n ops soft S Q (f + 1) listed τ w := by
  simp only [Bool.and_eq_true] at hc
  obtain ⟨⟨⟨h1, h2⟩, h3⟩, h4⟩ := hc
  refine wpC_first hi (by simpa using h2) h1 (fun c a w hp => hp) f listed (AF n τ) w (fun j oj hj hne hun hno => Region.free_spec hi h3 j oj hj hne hun hno) (by simpa using h4) (.inr ⟨hw, rfl⟩) hS ?_
  rw [AF_put]; exact h
theorem RD.hardOp {i : Nat} {oi : Oper} (hi : ops[i]? = some oi) (hw : Wd n ops oi τ true) (hh : Hd P n oi τ w fun v w' => (needs ops soft i = true → S w') ∧ RD P n ops soft S Q f (listed.setIfInBounds i true) (upo τ oi.dst v) w') :
    wpOp P ops (NoPanic (On n Q)) i (fun a' w' => (needs ops soft i = true → S w') ∧ wpC P ops soft S (NoPanic (On n Q)) f (listed.setIfInBounds i true) a' w') (AF n τ) w := by
  unfold wpOp
  simp only [hi]
  rw [if_pos (show Region.wanted oi (yielded ops (AF n τ).tmps) = true from hw)]
  refine .inl (Oper.wp_mono ?_ (hh _))
  rintro a w ⟨v, rfl, h1, h2⟩; exact ⟨h1, h2⟩
/-- number i alone may come up -/
theorem RD.only (i : Nat) {oi : Oper} (hi : ops[i]? = some oi) (hc : Region.ready .any ops listed = [i]) (hw : Wd n ops oi τ true)
    (hh : Hd P n oi τ w fun v w' => (needs ops soft i = true → S w') ∧ RD P n ops soft S Q f (listed.setIfInBounds i true) (upo τ oi.dst v) w') : RD P n ops soft S Q (f + 1) listed τ w := by
  unfold RD wpC
  refine ⟨fun h => (by rw [hc] at h; cases h), fun j hj => ?_⟩
  rw [hc] at hj
  obtain rfl : j = i := by simpa using hj
  exact RD.hardOp hi hw hh
theorem RD.two (i j : Nat) {oi oj : Oper} (hi : ops[i]? = some oi) (hj : ops[j]? = some oj) (hc : Region.ready .any ops listed = [i, j]) (hw : Wd n ops oi τ true) (hw2 : Wd n ops oj τ true)
    (hh : Hd P n oi τ w fun v w' => (needs ops soft i = true → S w') ∧ RD P n ops soft S Q f (listed.setIfInBounds i true) (upo τ oi.dst v) w')
    (hh2 : Hd P n oj τ w fun v w' => (needs ops soft j = true → S w') ∧ RD P n ops soft S Q f (listed.setIfInBounds j true) (upo τ oj.dst v) w') : RD P n ops soft S Q (f + 1) listed τ w := by
  unfold RD wpC
  refine ⟨fun h => (by rw [hc] at h; cases h), fun k hk => ?_⟩
  rw [hc] at hk
  rcases (show k = i ∨ k = j by simpa using hk) with rfl | rfl
  · exact RD.hardOp hi hw hh
  · exact RD.hardOp hj hw2 hh2
theorem RD.fin {K : Fr → World → Prop} (hc : Region.ready .any ops listed = []) (F : Fr → Prop) (hF : F τ) (h : ∀ τ, F τ → K τ w) : RD P n ops soft S (Th K Q) f listed τ w := by
  have hn : NoPanic (On n (Th K Q)) .normal (AF n τ) w := ⟨τ, rfl, h τ hF⟩
  cases f with
  | zero => exact ⟨hc, hn⟩
  | succ f => exact ⟨fun _ => hn, by rw [hc]; intro i hi; cases hi⟩
theorem RD.gen (F : Fr → Prop) (hF : F τ) (h : ∀ τ, F τ → RD P n ops soft S Q f listed τ w) : RD P n ops soft S Q f listed τ w := h τ hF
theorem RD.done (hc : Region.ready .any ops listed = []) (h : Q .normal τ w) : RD P n ops soft S Q f listed τ w := by
  cases f with
  | zero => exact ⟨hc, τ, rfl, h⟩
  | succ f => exact ⟨fun _ => ⟨τ, rfl, h⟩, by rw [hc]; intro i hi; cases hi⟩

/-! ### returns -/
/-- what a result variable holds -/
inductive Rv (P : Program) (n : Nat) (τ : Fr) (w : World) : List ResultVar → List Value → Prop
  | nil : Rv P n τ w [] []
  | tmp {t : Tmp} {v : Value} {rs : List ResultVar} {vs : List Value} (h : (AF n τ).eval (.tmp t) = v) (r : Rv P n τ w rs vs) : Rv P n τ w (.tmp t :: rs) (v :: vs)
  | cell {t : Tmp} {ty : TypeId} {d : TypeDesc} {b : Nat} {cs : Array Value} {e : TypeId} {fr : Nat × Nat} {rs : List ResultVar} {vs : List Value} (h : (AF n τ).eval (.tmp t) = .pointer (some ⟨b, 0, none⟩)) (hb : w.heap[b]? = some (.cells cs e fr))
      (hu : P.underlying ty = some d) (hd : (match d with | .struct _ | .array _ _ => true | _ => false) = true) (hz : (P.info? ty).map (·.size) = some cs.size) (r : Rv P n τ w rs vs) : Rv P n τ w (.cell t ty :: rs) (.agg cs :: vs)
  | one {t : Tmp} {ty : TypeId} {d : TypeDesc} {b : Nat} {v : Value} {e : TypeId} {fr : Nat × Nat} {rs : List ResultVar} {vs : List Value} (h : (AF n τ).eval (.tmp t) = .pointer (some ⟨b, 0, none⟩)) (hb : w.heap[b]? = some (.cells #[v] e fr))
      (hu : P.underlying ty = some d) (hd : (match d with | .struct _ | .array _ _ => true | _ => false) = false) (r : Rv P n τ w rs vs) : Rv P n τ w (.cell t ty :: rs) (v :: vs)
def rvSem (tmps : Array Value) : ResultVar → Sem Value
  | .tmp t => pure (tmps.getD t undef)
  | .cell a t => do loadVar t (← asAddr (tmps.getD a undef))
theorem rv_tmp {t : Tmp} {v : Value} (h : (AF n τ).eval (.tmp t) = v) : (rvSem (AF n τ).tmps (.tmp t)).run P w = .ok v w := by
  have h' : (AF n τ).tmps.getD t undef = v := h
  simp only [rvSem, h']; rfl
theorem rv_cell {t : Tmp} {ty : TypeId} {a : Addr} {v : Value} (h : (AF n τ).eval (.tmp t) = .pointer (some a)) (hl : (loadVar ty a).run P w = .ok v w) : (rvSem (AF n τ).tmps (.cell t ty)).run P w = .ok v w := by
  have h' : (AF n τ).tmps.getD t undef = .pointer (some a) := h
  simp only [rvSem, h', asAddr]; simp [hl]
theorem Rv.run {rs : List ResultVar} {vs : List Value} (h : Rv P n τ w rs vs) : (rs.mapM (rvSem (AF n τ).tmps)).run P w = .ok vs w := by
  induction h with
  | nil => rfl
  | tmp h r ih => simp only [List.mapM_cons, Sem.run_bind, Sem.run_pure, Result.andThen_ok, rv_tmp (P := P) (w := w) h, ih]
  | cell h hb hu hd hz r ih => simp only [List.mapM_cons, Sem.run_bind, Sem.run_pure, Result.andThen_ok, rv_cell h (run_loadVar_row (P := P) w _ _ _ _ _ _ hb hu hd hz), ih]
  | @one t ty d b v e fr rs vs h hb hu hd r ih =>
    have hagg : (isAgg ty).run P w = .ok false w := by
      unfold isAgg
      rw [Sem.run_bind, run_underlying hu w]
      cases d <;> simp_all
    have hc : w.cell? ⟨b, 0, none⟩ = some v := by simp [World.cell?, hb]
    have hl : (loadVar ty ⟨b, 0, none⟩).run P w = .ok v w := by simp [loadVar, Sem.run_bind, hagg, hc]
    simp only [List.mapM_cons, Sem.run_bind, Sem.run_pure, Result.andThen_ok, rv_cell h hl, ih]
theorem results_eq (fn : Func) (tmps : Array Value) : results fn tmps = (do let vs ← fn.results.mapM (rvSem tmps); pure (if h : vs.size = 1 then vs[0] else .tuple vs)) := rfl
end
end Go.SL
namespace Go.SL
open Go.RowKit
set_option linter.unusedVariables false
set_option linter.unusedSimpArgs false

section
variable {p : Pers} {w : World} {H H' : List Assn}
theorem St.cell {b : Nat} {c : Array Value} {e : TypeId} {fr : Nat × Nat} {j : Nat} {v : Value} (s : St p w H) (d : Del (pt b (.cells c e fr)) H H') (h : c[j]? = some v) : w.cell? ⟨b, j, none⟩ = some v := by
  rw [cell_of_row w b j c e fr (s.blockAt d)]; exact h
theorem St.pcell {b : Nat} {c : Array Value} {e : TypeId} {fr : Nat × Nat} {j : Nat} {v : Value} (s : St p w H) (hp : p.h b = some (.cells c e fr)) (h : c[j]? = some v) : w.cell? ⟨b, j, none⟩ = some v := by
  rw [cell_of_row w b j c e fr (s.pers hp)]; exact h
end

/-! ### a map by ints -/
def MapI (b : Nat) (ks : List (Int × Value)) : Assn := fun h => ∃ es clock, pt b (.map es clock) h ∧ es.toList.map (fun e => (e.key, e.val)) = (ks.map fun q => (Value.int .i64 q.1, q.2)) ∧ MapKept.Stamped es clock
def aget (ks : List (Int × Value)) (k : Int) : Option Value := (ks.find? fun q => q.1 == k).map (·.2)
def aput : List (Int × Value) → Int → Value → List (Int × Value)
  | [], k, v => [(k, v)]
  | q :: r, k, v => if q.1 = k then (k, v) :: r else q :: aput r k v
def adel : List (Int × Value) → Int → List (Int × Value)
  | [], _ => []
  | q :: r, k => if q.1 = k then r else q :: adel r k
section
variable {P : Program} {p : Pers} {w : World} {H H' : List Assn}
theorem St.mapOpen {b : Nat} {ks : List (Int × Value)} (s : St p w (MapI b ks :: H)) : ∃ es clock, St p w (pt b (.map es clock) :: H) ∧ es.toList.map (fun e => (e.key, e.val)) = (ks.map fun q => (Value.int .i64 q.1, q.2)) ∧ MapKept.Stamped es clock := by
  obtain ⟨h, ⟨x, y, d, e', ⟨es, cl, hp, he⟩, hy⟩, r⟩ := s
  exact ⟨es, cl, ⟨h, ⟨x, y, d, e', hp, hy⟩, r⟩, he⟩
theorem St.mapClose {b clock : Nat} {es : Array MapEntry} {ks : List (Int × Value)} (s : St p w (pt b (.map es clock) :: H)) (he : es.toList.map (fun e => (e.key, e.val)) = ks.map fun q => (Value.int .i64 q.1, q.2)) (hs : MapKept.Stamped es clock := by exact MapKept.stamped_empty _) : St p w (MapI b ks :: H) :=
  s.weaken fun x hx => ⟨es, clock, hx, he, hs⟩
theorem findNow_ints (k : Int) : ∀ (l : List MapEntry) (ks : List (Int × Value)) (i : Nat), l.map (fun e => (e.key, e.val)) = ks.map (fun q => (Value.int .i64 q.1, q.2)) →
    Instr.findNow (.int .i64) (.int .i64 k) l i = some ((ks.findIdx? fun q => q.1 == k).map fun j => (i + j, ((aget ks k).getD undef))) := by
  intro l
  induction l with
  | nil => intro ks i h; cases ks with
    | nil => rfl
    | cons q r => simp at h
  | cons e l ih =>
    intro ks i h
    cases ks with
    | nil => simp at h
    | cons q r =>
      simp only [List.map_cons, List.cons.injEq, Prod.mk.injEq] at h
      obtain ⟨⟨hk, hv⟩, hr⟩ := h
      have hs : Instr.sameNow (.int .i64) (.int .i64 k) e.key = some (k == q.1) := by rw [hk]; simp [Instr.sameNow]
      unfold Instr.findNow
      rw [hs]
      by_cases hq : k = q.1
      · subst hq
        simp [List.findIdx?_cons, aget, hv]
      · have h1 : (k == q.1) = false := by simpa using hq
        have h2 : (q.1 == k) = false := by simpa using fun h => hq h.symm
        rw [h1]
        simp only [ih r (i + 1) hr, List.findIdx?_cons, h2, aget, List.find?_cons]
        cases (r.findIdx? fun q => q.1 == k) <;> simp [Nat.add_assoc, Nat.add_comm 1]
theorem aget_some {ks : List (Int × Value)} {k : Int} : (aget ks k).isSome = (ks.findIdx? fun q => q.1 == k).isSome := by
  rw [Bool.eq_iff_iff]; simp [aget, List.findIdx?_isSome, List.find?_isSome]
theorem checkKey_int {t : TypeId} (ht : P.underlying t = some (.int .i64)) (em : Bool) (k : Int) : (Instr.checkKey em 10000 t (.int .i64 k)).run P w = .ok () w := by
  show (Instr.checkKey em (9999 + 1) t (.int .i64 k)).run P w = .ok () w
  unfold Instr.checkKey
  rw [Sem.run_bind, run_underlying ht w]
  rfl
theorem findKey_ints {t : TypeId} (ht : P.underlying t = some (.int .i64)) {es : Array MapEntry} {ks : List (Int × Value)} (he : es.toList.map (fun e => (e.key, e.val)) = ks.map fun q => (Value.int .i64 q.1, q.2)) (k : Int) :
    (Instr.findKey t (.int .i64 k) es.toList).run P w = .ok ((ks.findIdx? fun q => q.1 == k).map fun j => (j, ((aget ks k).getD undef))) w := by
  unfold Instr.findKey
  rw [Sem.run_bind, run_underlying ht w]
  simp [findNow_ints k es.toList ks 0 he]
variable {n : Nat} {τ : Fr} {dst : Option Tmp} {ty : TypeId} {pos : String} {af : Array Edge} {gd : Option (Nat × Bool)} {K : Value → World → Prop}
theorem run_getObj_map {b clock : Nat} {es : Array MapEntry} (hb : w.heap[b]? = some (.map es clock)) : (getObj b).run P w = .ok (.map es clock) w := by simp [getObj, Sem.run, hb]
theorem E.lookup {ρ : Operand → Value} {x y : Operand} {t kt et : TypeId} {b : Nat} {ks : List (Int × Value)} {k : Int} {z : Value} (ht : P.underlying t = some (.map kt et)) (hk : P.underlying kt = some (.int .i64)) (hz : (P.info? et).bind (·.zero) = some z)
    (hx : ρ x = .map (some b)) (hy : ρ y = .int .i64 k) (s : St p w H) (d : Del (MapI b ks) H H') : Ev P ρ ⟨dst, .lookup t x y true, ty, pos, af, gd⟩ w (.tuple #[(aget ks k).getD z, .bool (aget ks k).isSome]) := by
  obtain ⟨es, cl, s2, he, hstm⟩ := (s.take d).mapOpen
  have hg := run_getObj_map (P := P) s2.block
  have hf := findKey_ints (P := P) (w := w) hk he k
  have hc := checkKey_int (P := P) (w := w) hk es.isEmpty k
  have hzv : (zeroValue et).run P w = .ok z w := by
    cases hq : P.info? et with
    | none => simp [hq] at hz
    | some i => have : i.zero = some z := by simpa [hq] using hz
                simp [zeroValue, typeInfo, hq, this]
  have hs := aget_some (ks := ks) (k := k)
  cases hi : ks.findIdx? fun q => q.1 == k with
  | none =>
    rw [hi] at hs hf
    have hn : aget ks k = none := by simpa using hs
    simp [Ev, execOp, Instr.lookup, run_underlying ht, hx, hy, hg, hc, hf, hzv, hn]
  | some j =>
    rw [hi] at hs hf
    obtain ⟨v, hv⟩ := Option.isSome_iff_exists.1 (by simpa using hs)
    simp [Ev, execOp, Instr.lookup, run_underlying ht, hx, hy, hg, hc, hf, hv]
theorem E.lookupN {ρ : Operand → Value} {x y : Operand} {t kt et : TypeId} {b : Nat} {ks : List (Int × Value)} {k : Int} {z : Value} (hg : aget ks k = none) (ht : P.underlying t = some (.map kt et)) (hk : P.underlying kt = some (.int .i64)) (hz : (P.info? et).bind (·.zero) = some z)
    (hx : ρ x = .map (some b)) (hy : ρ y = .int .i64 k) (s : St p w H) (d : Del (MapI b ks) H H') : Ev P ρ ⟨dst, .lookup t x y true, ty, pos, af, gd⟩ w (.tuple #[z, .bool false]) := by
  have q := E.lookup (dst := dst) (ty := ty) (pos := pos) (af := af) (gd := gd) ht hk hz hx hy s d
  rw [hg] at q; exact q
theorem E.lookupS {ρ : Operand → Value} {x y : Operand} {t kt et : TypeId} {b : Nat} {ks : List (Int × Value)} {k : Int} {z v : Value} (hg : aget ks k = some v) (ht : P.underlying t = some (.map kt et)) (hk : P.underlying kt = some (.int .i64)) (hz : (P.info? et).bind (·.zero) = some z)
    (hx : ρ x = .map (some b)) (hy : ρ y = .int .i64 k) (s : St p w H) (d : Del (MapI b ks) H H') : Ev P ρ ⟨dst, .lookup t x y true, ty, pos, af, gd⟩ w (.tuple #[v, .bool true]) := by
  have q := E.lookup (dst := dst) (ty := ty) (pos := pos) (af := af) (gd := gd) ht hk hz hx hy s d
  rw [hg] at q; exact q
theorem E.lenMap {ρ : Operand → Value} {x : Operand} {t kt et : TypeId} {b : Nat} {ks : List (Int × Value)} (ht : P.underlying t = some (.map kt et)) (hx : ρ x = .map (some b)) (s : St p w H) (d : Del (MapI b ks) H H') :
    Ev P ρ ⟨dst, .call ⟨.builtin .len, #[x], #[t]⟩, ty, pos, af, gd⟩ w (.int .i64 ks.length) := by
  obtain ⟨es, cl, s2, he, hstm⟩ := (s.take d).mapOpen
  have hg := run_getObj_map (P := P) s2.block
  have hl : es.size = ks.length := by have := congrArg List.length he; simpa using this
  simp [Ev, execOp, resolve, invoke, builtin, Builtin.len_, run_underlying ht, hx, goInt, hg, hl]
theorem map_erase {α β : Type} (f : α → β) : ∀ (l : List α) (i : Nat), (l.eraseIdx i).map f = (l.map f).eraseIdx i
  | [], _ => rfl
  | _ :: _, 0 => rfl
  | _ :: l, i + 1 => congrArg _ (map_erase f l i)
theorem aput_none {ks : List (Int × Value)} {k : Int} (v : Value) (h : ks.findIdx? (fun q => q.1 == k) = none) : aput ks k v = ks ++ [(k, v)] := by
  induction ks with
  | nil => rfl
  | cons q r ih =>
    rw [List.findIdx?_eq_none_iff] at h ih
    have h1 : ¬ q.1 = k := by simpa using h q (List.mem_cons_self)
    simp only [aput, if_neg h1, List.cons_append]
    rw [ih fun x hx => h x (List.mem_cons_of_mem _ hx)]
theorem aput_some {ks : List (Int × Value)} {k : Int} (v : Value) : ∀ {j : Nat}, ks.findIdx? (fun q => q.1 == k) = some j → aput ks k v = ks.set j (k, v) := by
  induction ks with
  | nil => intro j h; simp at h
  | cons q r ih =>
    intro j h
    rw [List.findIdx?_cons] at h
    by_cases h1 : q.1 = k
    · have : (q.1 == k) = true := by simpa using h1
      simp [this] at h; subst h
      simp [aput, h1]
    · have : (q.1 == k) = false := by simpa using h1
      simp [this] at h
      obtain ⟨i, hi, rfl⟩ := h
      simp [aput, h1, ih hi]
theorem adel_eq {ks : List (Int × Value)} {k : Int} : adel ks k = (match ks.findIdx? (fun q => q.1 == k) with | some j => ks.eraseIdx j | none => ks) := by
  induction ks with
  | nil => rfl
  | cons q r ih =>
    by_cases h1 : q.1 = k
    · simp [adel, h1, List.findIdx?_cons]
    · have h2 : (q.1 == k) = false := by simpa using h1
      simp only [adel, if_neg h1, List.findIdx?_cons, h2, ih]
      cases r.findIdx? (fun q => q.1 == k) <;> simp
theorem run_setObj_map {b clock : Nat} {es : Array MapEntry} {o : Obj} (hb : w.heap[b]? = some (.map es clock)) : (setObj b o).run P w = .ok () { w with heap := w.heap.setIfInBounds b o } := by simp [setObj, Sem.run, hb]
theorem St.putObj {b : Nat} {o o' : Obj} (s : St p w (pt b o :: H)) : St p { w with heap := w.heap.setIfInBounds b o' } (pt b o' :: H) :=
  s.turn (by have := (Array.getElem?_eq_some_iff.1 s.block).1; simp [this]) (fun k hk => by simp [Array.getElem?_setIfInBounds_ne (Ne.symm hk)]) rfl rfl rfl
theorem H.mapUpdate {x y z : Operand} {t kt et : TypeId} {b : Nat} {ks : List (Int × Value)} {k : Int} {v : Value} (ht : P.underlying t = some (.map kt et)) (hk : P.underlying kt = some (.int .i64))
    (hx : (AF n τ).eval x = .map (some b)) (hy : (AF n τ).eval y = .int .i64 k) (hz : (AF n τ).eval z = v) (s : St p w H) (d : Rep (MapI b ks) (MapI b (aput ks k v)) H H')
    (h : ∀ w', St p w' H' → K undef w') : Hd P n ⟨dst, .mapUpdate t x y z, ty, pos, af, gd⟩ τ w K := by
  obtain ⟨m, d1, d2⟩ := d.dels
  obtain ⟨es, cl, s2, he, hstm⟩ := (s.take d1).mapOpen
  have hg := run_getObj_map (P := P) s2.block
  have hf := findKey_ints (P := P) (w := w) hk he k
  have hc := checkKey_int (P := P) (w := w) hk false k
  have hs := fun o => run_setObj_map (P := P) (o := o) s2.block
  have hl : es.size = ks.length := by have := congrArg List.length he; simpa using this
  cases hi : ks.findIdx? fun q => q.1 == k with
  | none =>
    rw [hi] at hf
    refine Hd.skip (w' := { w with heap := w.heap.setIfInBounds b (.map (es.push { key := .int .i64 k, val := v, born := cl }) (cl + 1)) }) ?_ (h _ (St.give ((s2.putObj).mapClose ?_ ?_) d2))
    · simp [execOp, Instr.mapUpdate, run_underlying ht, hx, hy, hz, hg, hc, hf, hs]
    · rw [aput_none v hi]; simp [he]
    · refine MapKept.stamped_push hstm fun x hx e => ?_
      obtain ⟨i, hi1, hi2⟩ := List.getElem_of_mem hx
      have h3 := congrArg (fun l => l[i]?) he
      have hik : i < ks.length := by rw [Array.length_toList] at hi1; omega
      simp only [List.getElem?_map, List.getElem?_eq_getElem hi1, List.getElem?_eq_getElem hik, Option.map_some, Option.some.injEq, Prod.mk.injEq] at h3
      rw [List.findIdx?_eq_none_iff] at hi
      have h4 := hi _ (List.getElem_mem hik)
      rw [hi2, e] at h3
      have h5 := h3.1
      simp only [Value.int.injEq, true_and] at h5
      rw [← h5] at h4; simp at h4
  | some j =>
    rw [hi] at hf
    have hj : j < ks.length := by have := (List.findIdx?_eq_some_iff_getElem.1 hi).1; exact this
    have hkj : ks[j].1 = k := by have := (List.findIdx?_eq_some_iff_getElem.1 hi).2.1; simpa using this
    have hje : j < es.size := by omega
    have hke : es[j].key = .int .i64 k := by
      have := congrArg (fun l => l[j]?) he
      simp [hje, hj] at this
      rw [this.1, hkj]
    have hsb : Instr.sameBits 10000 (.int .i64 k) (.int .i64 k) = true := by simp [Instr.sameBits]
    have hks : (Instr.keyThatStays (.int .i64 k) (.int .i64 k)).run P w = .ok (.int .i64 k) w := by simp [Instr.keyThatStays, hsb]
    refine Hd.skip (w' := { w with heap := w.heap.setIfInBounds b (.map (es.modify j fun e => { e with key := .int .i64 k, val := v }) cl) }) ?_ (h _ (St.give ((s2.putObj).mapClose ?_ ?_) d2))
    · simp [execOp, Instr.mapUpdate, run_underlying ht, hx, hy, hz, hg, hc, hf, hs, hje, hke, hks]
    · rw [aput_some v hi]
      apply List.ext_getElem
      · simp [hl]
      · intro i h1 h2
        simp at h1 h2
        have := congrArg (fun l => l[i]?) he
        simp [h1, h2] at this
        by_cases hij : j = i
        · subst hij; simp
        · simp [Array.getElem_modify, hij, this, List.getElem_set]
    · refine MapKept.stamped_modify hstm j _ (fun _ _ => rfl) fun e he1 he2 => ?_
      rw [Array.getElem?_eq_getElem hje] at he2; cases he2; exact hke.symm
theorem H.delete {x y : Operand} {t u kt et : TypeId} {b : Nat} {ks : List (Int × Value)} {k : Int} (ht : P.underlying t = some (.map kt et)) (hk : P.underlying kt = some (.int .i64))
    (hx : (AF n τ).eval x = .map (some b)) (hy : (AF n τ).eval y = .int .i64 k) (s : St p w H) (d : Rep (MapI b ks) (MapI b (adel ks k)) H H')
    (h : ∀ w', St p w' H' → K (.tuple #[]) w') : Hd P n ⟨dst, .call ⟨.builtin .delete, #[x, y], #[t, u]⟩, ty, pos, af, gd⟩ τ w K := by
  obtain ⟨m, d1, d2⟩ := d.dels
  obtain ⟨es, cl, s2, he, hstm⟩ := (s.take d1).mapOpen
  have hg := run_getObj_map (P := P) s2.block
  have hf := findKey_ints (P := P) (w := w) hk he k
  have hc := checkKey_int (P := P) (w := w) hk es.isEmpty k
  have hs := fun o => run_setObj_map (P := P) (o := o) s2.block
  have hl : es.size = ks.length := by have := congrArg List.length he; simpa using this
  cases hi : ks.findIdx? fun q => q.1 == k with
  | none =>
    rw [hi] at hf
    refine Hd.value (v := .tuple #[]) (w' := { w with heap := w.heap.setIfInBounds b (.map es cl) }) ?_ (h _ (St.give ((s2.putObj).mapClose ?_ ?_) d2))
    · simp [execOp, resolve, invoke, builtin, Builtin.delete_, run_underlying ht, hx, hy, hg, hc, hf, hs]
    · rw [adel_eq, hi]; exact he
    · exact hstm
  | some j =>
    rw [hi] at hf
    have hj : j < ks.length := (List.findIdx?_eq_some_iff_getElem.1 hi).1
    have hje : j < es.size := by omega
    refine Hd.value (v := .tuple #[]) (w' := { w with heap := w.heap.setIfInBounds b (.map (es.eraseIdxIfInBounds j) cl) }) ?_ (h _ (St.give ((s2.putObj).mapClose ?_ ?_) d2))
    · simp [execOp, resolve, invoke, builtin, Builtin.delete_, run_underlying ht, hx, hy, hg, hc, hf, hs]
    · rw [adel_eq, hi]
      simp only [Array.eraseIdxIfInBounds, hje, dif_pos, Array.toList_eraseIdx]
      rw [map_erase, he, map_erase]
    · exact MapKept.stamped_erase hstm j
end

section
variable {p : Pers} {w : World} {H : List Assn}
theorem Src.len {sz m n c : Nat} {X : Option Addr} {xs : List Value} (h : Src w sz (.slice X m c) n xs) : m = n ∧ n ≤ c ∧ xs.length = n * sz := by
  obtain ⟨hl, X', c', he, hc, _⟩ := h
  cases he; exact ⟨rfl, hc, hl⟩
/-- nothing -/
def Emp : Assn := fun h => h = none0
theorem St.emp (s : St p w H) : St p w (Emp :: H) := s.none0
/-- elements that last: told by the lasting part alone -/
def Las (p : Pers) (sz : Nat) (x : Value) (m : Nat) (xs : List Value) : Prop :=
  xs.length = m * sz ∧ ∃ X c, x = .slice X m c ∧ m ≤ c ∧ (m = 0 ∨ ∃ b o cur e fr, X = some ⟨b, o, none⟩ ∧ p.h b = some (.cells cur e fr) ∧ ∀ j u, xs[j]? = some u → cur[o + j]? = some u)
theorem Las.src {sz m : Nat} {x : Value} {xs : List Value} (l : Las p sz x m xs) (s : St p w H) : Src w sz x m xs := by
  obtain ⟨hl, X, c, rfl, hc, h0 | ⟨b, o, cur, e, fr, rfl, hp, hcell⟩⟩ := l
  · exact ⟨hl, X, c, rfl, hc, .inl h0⟩
  · exact ⟨hl, _, c, rfl, hc, .inr ⟨b, o, rfl, fun j u hu => s.pcell hp (hcell j u hu)⟩⟩
theorem Las.le {q : Pers} {sz m : Nat} {x : Value} {xs : List Value} (l : Las p sz x m xs) (h : p.le q) : Las q sz x m xs := by
  obtain ⟨hl, X, c, rfl, hc, h0 | ⟨b, o, cur, e, fr, rfl, hp, hcell⟩⟩ := l
  · exact ⟨hl, X, c, rfl, hc, .inl h0⟩
  · exact ⟨hl, _, c, rfl, hc, .inr ⟨b, o, cur, e, fr, rfl, h.h _ _ hp, hcell⟩⟩
/-- a held row lasts from now on -/
theorem St.ownKeep {e : TypeId} {sz n : Nat} {v : Value} {xs : List Value} (s : St p w (Own e sz v n xs :: H)) : ∃ q, p.le q ∧ Las q sz v n xs ∧ St q w H := by
  obtain ⟨hl, ⟨A, rfl, rfl, s2⟩ | ⟨g, cap, cur, rfl, s2, hn, hc, hs, hx⟩⟩ := s.ownOpen
  · exact ⟨p, p.le_refl, ⟨hl, A, 0, rfl, Nat.le_refl _, .inl rfl⟩, s2⟩
  · obtain ⟨q, le, hq, s3⟩ := s2.keepPt
    refine ⟨q, le, ⟨hl, _, cap, rfl, hn, .inr ⟨g, 0, cur, e, _, rfl, hq, fun j u hu => ?_⟩⟩, s3⟩
    rw [Nat.zero_add]
    rw [← hx, List.getElem?_take] at hu
    split at hu
    · simpa using hu
    · cases hu
end
/-! ### bytes -/
def bv (ns : List Int) : List Value := ns.map (Value.int .u8)
def bstr (ns : List Int) : ByteArray := ns.foldl (fun r n => r.push (UInt8.ofNat n.toNat)) ByteArray.empty
section
variable {P : Program} {ρ : Operand → Value} {w : World} {dst : Option Tmp} {ty : TypeId} {pos : String} {af : Array Edge} {gd : Option (Nat × Bool)}
theorem E.bytesStr {x : Operand} {src dt e : TypeId} {v : Value} {m : Nat} {ns : List Int} (hs : P.underlying src = some (.slice e)) (he : P.underlying e = some (.int .u8)) (hd : P.underlying dt = some .string)
    (hx : ρ x = v) (hsrc : Src w 1 v m (bv ns)) : Ev P ρ ⟨dst, .convert src dt x, ty, pos, af, gd⟩ w (.string (bstr ns)) := by
  obtain ⟨hl, X, c, rfl, hc, h⟩ := hsrc
  have hr : (Conv.bytesToString (.slice X m c)).run P w = .ok (.string (bstr ns)) w := by
    rcases h with rfl | ⟨b, o, rfl, hcell⟩
    · have hn : ns = [] := by have : ns.length = 0 := by simpa [bv] using hl
                              exact List.eq_nil_of_length_eq_zero this
      subst hn
      cases X with
      | none => rfl
      | some a => exact run_bytesToString w a 0 c [] rfl
    · refine run_bytesToString w _ m c ns ?_
      have hm : m = (bv ns).length := by omega
      rw [hm]
      exact run_loadCells_list (P := P) w ⟨b, o, none⟩ (bv ns) (fun j v hv => by rw [add_lit]; exact hcell j v hv)
  simp [Ev, execOp, hx, run_convert_bytes_string w src dt e X m c hs he hd, hr]
theorem E.eqlStr {x y : Operand} {t t' : TypeId} {a b : ByteArray} (hx : ρ x = .string a) (hy : ρ y = .string b) : Ev P ρ ⟨dst, .binOp .eql t x y t', ty, pos, af, gd⟩ w (.bool (a.toList == b.toList)) := by
  simp [Ev, execOp, eqGuard, binOp, Op.stringOp, hx, hy]
theorem E.neqStr {x y : Operand} {t t' : TypeId} {a b : ByteArray} (hx : ρ x = .string a) (hy : ρ y = .string b) : Ev P ρ ⟨dst, .binOp .neq t x y t', ty, pos, af, gd⟩ w (.bool (!(a.toList == b.toList))) := by
  simp [Ev, execOp, eqGuard, binOp, Op.stringOp, hx, hy]
theorem Src.take {sz m c k : Nat} {X : Option Addr} {xs : List Value} (h : Src w sz (.slice X m c) m xs) (hk : k ≤ m) : Src w sz (.slice X k c) k (xs.take (k * sz)) := by
  obtain ⟨hl, X', c', he, hc, h2⟩ := h
  cases he
  refine ⟨by rw [List.length_take, hl]; exact Nat.min_eq_left (Nat.mul_le_mul_right _ hk), X, c, rfl, by omega, ?_⟩
  rcases h2 with rfl | ⟨b, o, rfl, hcell⟩
  · exact .inl (by omega)
  · exact .inr ⟨b, o, rfl, fun j u hu => hcell j u (by rw [List.getElem?_take] at hu; split at hu; · exact hu
                                                       · cases hu)⟩
end
section
variable {p : Pers} {w : World} {H : List Assn}
theorem flat_get {α : Type} {f : α → List Value} {sz : Nat} (hf : ∀ a, (f a).length = sz) : ∀ {l : List α} {i : Nat} {a : α}, l[i]? = some a → ∀ {j : Nat} {u : Value}, (f a)[j]? = some u → (l.flatMap f)[i * sz + j]? = some u
  | [], i, a, h, _, _, _ => by simp at h
  | x :: l, 0, a, h, j, u, hu => by
    simp at h; subst h
    have hj : j < (f x).length := (List.getElem?_eq_some_iff.1 hu).1
    rw [List.flatMap_cons, Nat.zero_mul, Nat.zero_add, List.getElem?_append_left hj]; exact hu
  | x :: l, i + 1, a, h, j, u, hu => by
    simp at h
    have := flat_get hf (l := l) h hu
    rw [List.flatMap_cons, List.getElem?_append_right (by rw [hf, Nat.add_mul]; omega), hf]
    rw [show (i + 1) * sz + j - sz = i * sz + j by rw [Nat.add_mul]; omega]
    exact this
theorem flat_len {α : Type} {f : α → List Value} {sz : Nat} (hf : ∀ a, (f a).length = sz) (l : List α) : (l.flatMap f).length = l.length * sz := by
  induction l with
  | nil => simp
  | cons a l ih => rw [List.flatMap_cons, List.length_append, hf, ih, List.length_cons, Nat.add_mul]; omega
/-- where the elements that last lie -/
theorem Las.place {sz m c : Nat} {X : Option Addr} {xs : List Value} (l : Las p sz (.slice X m c) m xs) (h : 0 < m) : ∃ b o, X = some ⟨b, o, none⟩ ∧ ∀ {w H}, St p w H → ∀ j u, xs[j]? = some u → w.cell? ⟨b, o + j, none⟩ = some u := by
  obtain ⟨hl, X', c', he, hc, h0 | ⟨b, o, cur, e, fr, rfl, hp, hcell⟩⟩ := l
  · omega
  · cases he
    exact ⟨b, o, rfl, fun s j u hu => s.pcell hp (hcell j u hu)⟩
end
end Go.SL
namespace Go.SL
open Go.RowKit Go.ChangeShapes Go.Joins Go.Deep
set_option linter.unusedVariables false
set_option linter.unusedSimpArgs false

/-- all that is there when the call begins lasts -/
def P0 (W : World) : Pers := ⟨fun k => W.heap[k]?, W.os, W.tape, W.output⟩
theorem st0 (W : World) : St (P0 W) W [] := ⟨none0, rfl, disj_none0 _, fun k o h => by rw [uni_none0] at h; exact h, rfl, rfl, rfl⟩
theorem below_of {W w : World} {q : Pers} {H : List Assn} (l : (P0 W).le q) (s : St q w H) : Below W.heap.size W w := by
  have hb : ∀ k o, W.heap[k]? = some o → w.heap[k]? = some o := fun k o h => s.pers (l.h k o h)
  obtain ⟨h, _, _, _, h1, h2, h3⟩ := s
  refine ⟨h1.trans l.os, h2.trans l.tape, h3.trans l.output, ?_, fun k hk => ?_⟩
  · rcases Nat.eq_zero_or_pos W.heap.size with h0 | h0
    · omega
    · obtain ⟨o, ho⟩ : ∃ o, W.heap[W.heap.size - 1]? = some o := ⟨W.heap[W.heap.size - 1], by simp⟩
      have := (Array.getElem?_eq_some_iff.1 (hb _ _ ho)).1
      omega
  · obtain ⟨o, ho⟩ : ∃ o, W.heap[k]? = some o := ⟨W.heap[k], by simp [hk]⟩
    rw [ho, hb k o ho]
section
variable {H : Type} {enc : TypeId × Value → H} {P : Program} {W : World} {base : Nat} {spare : Nat → Bool} {held : Bool}
theorem cells_block {a : Addr} {v : Value} (h : W.cell? a = some v) : ∃ cur e fr, W.heap[a.block]? = some (.cells cur e fr) ∧ a.spot = none ∧ cur[a.off]? = some v := by
  unfold World.cell? at h
  split at h
  · rename_i c e f hb
    cases hs : a.spot with
    | none => rw [hs] at h; exact ⟨c, e, f, hb, rfl, by simpa using h⟩
    | some x => rw [hs] at h; simp at h
  · cases h
/-- elements whose cells stand in the world at the beginning -/
theorem las_of {sz m c : Nat} {X : Option Addr} {xs : List Value} (hl : xs.length = m * sz) (hc : m ≤ c) (hX : m = 0 ∨ ∃ a, X = some a ∧ ∀ j u, xs[j]? = some u → W.cell? (a.add j) = some u) (hz : m = 0 ∨ 0 < sz) : Las (P0 W) sz (.slice X m c) m xs := by
  refine ⟨hl, X, c, rfl, hc, ?_⟩
  rcases hX with h | ⟨a, rfl, hcell⟩
  · exact .inl h
  · rcases Nat.eq_zero_or_pos m with h0 | h0
    · exact .inl h0
    · right
      have hp : 0 < xs.length := by rw [hl]; exact Nat.mul_pos h0 (hz.resolve_left (by omega))
      obtain ⟨b, o, spot⟩ := a
      have h1 := hcell 0 xs[0] (by simp [hp])
      obtain ⟨cur, e, fr, hb, hs, _⟩ := cells_block h1
      have hadd : (⟨b, o, spot⟩ : Addr).add 0 = ⟨b, o, spot⟩ := by simp [Addr.add]
      rw [hadd] at hb hs
      have hs' : spot = none := hs
      subst hs'
      refine ⟨b, o, cur, e, fr, rfl, hb, fun j u hu => ?_⟩
      have h2 := hcell j u hu
      rw [add_lit, cell_of_row W b (o + j) cur e fr hb] at h2
      exact h2
/-- a slice of elements that each read -/
theorem read_slice {α : Type} {enc' : α → List Value} {Q : α → Prop} {sz : Nat} {t e : TypeId} {fuel : Nat} {v : Value} {y : DataW H × List MemPlace} (ht : P.underlying t = some (.slice e)) (hc : P.cellsOf e = sz) (hz : 0 < sz) (hsz : ∀ a, (enc' a).length = sz)
    (hd : ∀ cs n z, DataW.trod enc P W base spare held n e cs = some z → ∃ a, cs = enc' a ∧ Q a) (h : DataW.trod enc P W base spare held fuel t [v] = some y) :
    ∃ (X : Option Addr) (xs : List α) (c : Nat), v = .slice X xs.length c ∧ xs.length ≤ c ∧ c ≤ maxLen ∧ Las (P0 W) sz v xs.length (xs.flatMap enc') ∧ ∀ a ∈ xs, Q a := by
  rcases open_slice ht h with ⟨hcs, _⟩ | ⟨a, len, cap, m, n, D, Pl, hcs, _, hl, hm, hmm, _, hx⟩
  · cases hcs
    exact ⟨none, [], 0, rfl, Nat.le_refl _, by simp [maxLen], las_of (by simp) (Nat.le_refl _) (.inl rfl) (.inl rfl), by simp⟩
  · cases hcs
    have hlm : len ≤ m := by rw [hmm]; split <;> omega
    rw [hc] at hx
    obtain ⟨V, hV⟩ : ∃ V : Fin len → α, ∀ i : Fin len, W.cells? base (a.add (i.1 * sz)) sz = some (enc' (V i)) ∧ Q (V i) := by
      have : ∀ i : Fin len, ∃ x : α, W.cells? base (a.add (i.1 * sz)) sz = some (enc' x) ∧ Q x := fun i => by
        obtain ⟨cs', h1, h2⟩ := hx i.1 (by omega)
        obtain ⟨x, rfl, hq⟩ := hd _ _ _ h2
        exact ⟨x, h1, hq⟩
      exact ⟨fun i => (this i).choose, fun i => (this i).choose_spec⟩
    have hlen : (List.ofFn V).length = len := by simp
    refine ⟨some a, List.ofFn V, cap, by rw [hlen], by omega, hm, ?_, ?_⟩
    · rw [hlen]
      refine las_of (by rw [flat_len hsz, hlen]) hl (.inr ⟨a, rfl, fun j u hu => ?_⟩) (.inr hz)
      have hj : j < ((List.ofFn V).flatMap enc').length := (List.getElem?_eq_some_iff.1 hu).1
      rw [flat_len hsz, hlen] at hj
      have hi : j / sz < len := Nat.div_lt_of_lt_mul (by rw [Nat.mul_comm]; exact hj)
      obtain ⟨h1, _⟩ := hV ⟨j / sz, hi⟩
      have hr : j % sz < (enc' (V ⟨j / sz, hi⟩)).length := by rw [hsz]; exact Nat.mod_lt _ hz
      have h3 := flat_get (sz := sz) hsz (l := List.ofFn V) (i := j / sz) (a := V ⟨j / sz, hi⟩) (by simp [hi]) (List.getElem?_eq_getElem hr)
      have hdm : j / sz * sz + j % sz = j := by rw [Nat.mul_comm]; exact Nat.div_add_mod j sz
      rw [hdm, hu] at h3
      obtain ⟨_, hl2, h2⟩ := World.cells?_some h1
      have h4 := h2 (j % sz) (by rw [hsz] at hr; exact hr)
      rw [Addr.add_add, hdm, List.getElem?_eq_getElem hr, ← h3] at h4
      exact h4
    · intro x hx
      obtain ⟨i, rfl⟩ := List.mem_ofFn.1 hx
      exact (hV i).2
/-- a field that is a struct -/
theorem read_sub {t : TypeId} {fs : Array Field} {f : Field} {i : Nat} {fuel : Nat} {cs : List Value} {y : DataW H × List MemPlace} (ht : P.underlying t = some (.struct fs)) (hf : fs[i]? = some f)
    (h : DataW.trod enc P W base spare held fuel t cs = some y) : ∃ n z, DataW.trod enc P W base spare held n f.type ((cs.drop f.offset).take (P.cellsOf f.type)) = some z := by
  obtain ⟨xs, n, _, _, hl, hlen, hx⟩ := DataW.trod_struct ht h
  have hi : i < xs.length := by rw [hlen]; exact (Array.getElem?_eq_some_iff.1 hf).1
  exact ⟨n, xs[i], by rw [hx i f hf]; simp [hi]⟩
theorem read_len {t : TypeId} {fs : Array Field} {fuel : Nat} {cs : List Value} {y : DataW H × List MemPlace} (ht : P.underlying t = some (.struct fs)) (h : DataW.trod enc P W base spare held fuel t cs = some y) : cs.length = P.cellsOf t := by
  obtain ⟨xs, n, _, _, hl, _⟩ := DataW.trod_struct ht h
  exact hl
end
end Go.SL
