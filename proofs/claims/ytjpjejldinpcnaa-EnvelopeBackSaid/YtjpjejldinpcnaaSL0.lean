/- A small logic of owned memory over the model's worlds: what a call holds is a list of assertions on blocks, apart from one another; what nobody writes any more is kept in a lasting part. -/
import Derived.WalkKit
namespace Go.SL
open Go.RowKit
set_option linter.unusedVariables false
set_option linter.unusedSimpArgs false

/-- a piece of memory: some blocks -/
abbrev Hp := Nat → Option Obj
abbrev Assn := Hp → Prop
def none0 : Hp := fun _ => none
def disj (a b : Hp) : Prop := ∀ k, a k = none ∨ b k = none
def uni (a b : Hp) : Hp := fun k => (a k).or (b k)
def sub (a b : Hp) : Prop := ∀ k o, a k = some o → b k = some o
/-- one block -/
def pt (b : Nat) (o : Obj) : Assn := fun h => h = fun k => if k = b then some o else none
def all : List Assn → Assn
  | [] => fun h => h = none0
  | A :: l => fun h => ∃ a b, disj a b ∧ h = uni a b ∧ A a ∧ all l b

theorem disj_comm {a b : Hp} (h : disj a b) : disj b a := fun k => (h k).symm
theorem uni_comm {a b : Hp} (h : disj a b) : uni a b = uni b a := by
  funext k; unfold uni; rcases h k with e | e <;> rw [e] <;> simp
theorem uni_assoc (a b c : Hp) : uni (uni a b) c = uni a (uni b c) := by
  funext k; unfold uni; simp [Option.or_assoc]
theorem uni_none0 (a : Hp) : uni a none0 = a := by funext k; simp [uni, none0]
theorem none0_uni (a : Hp) : uni none0 a = a := by funext k; simp [uni, none0]
theorem disj_none0 (a : Hp) : disj a none0 := fun k => .inr rfl
theorem disj_uni {a b c : Hp} : disj a (uni b c) ↔ disj a b ∧ disj a c := by
  constructor
  · intro h
    refine ⟨fun k => ?_, fun k => ?_⟩ <;> (have := h k; simp [uni] at this ⊢; rcases this with e | ⟨e1, e2⟩ <;> simp [*])
  · rintro ⟨h1, h2⟩ k
    have a1 := h1 k; have a2 := h2 k
    simp only [uni]
    rcases a1 with e | e
    · exact .inl e
    · rcases a2 with f | f
      · exact .inl f
      · exact .inr (by rw [e, f]; rfl)
theorem uni_disj {a b c : Hp} : disj (uni b c) a ↔ disj b a ∧ disj c a :=
  ⟨fun h => let ⟨x, y⟩ := disj_uni.1 (disj_comm h); ⟨disj_comm x, disj_comm y⟩, fun ⟨x, y⟩ => disj_comm (disj_uni.2 ⟨disj_comm x, disj_comm y⟩)⟩
theorem uni_some {a b : Hp} {k : Nat} {o : Obj} : uni a b k = some o ↔ a k = some o ∨ (a k = none ∧ b k = some o) := by
  simp [uni, Option.or_eq_some_iff]
theorem sub_uni_left (a b : Hp) : sub a (uni a b) := fun k o h => by simp [uni, h]
theorem sub_uni_right {a b : Hp} (d : disj a b) : sub b (uni a b) := fun k o h => by
  rcases d k with e | e
  · simp [uni, e, h]
  · rw [h] at e; cases e
theorem sub_trans {a b c : Hp} (h : sub a b) (k : sub b c) : sub a c := fun i o e => k i o (h i o e)

/-- the lasting part: blocks that nobody writes any more, and the streams -/
structure Pers where
  h : Hp
  os : Os
  tape : Nat → Question → Nat
  output : Array (Nat × ByteArray)
structure Pers.le (p q : Pers) : Prop where
  h : sub p.h q.h
  os : q.os = p.os
  tape : q.tape = p.tape
  output : q.output = p.output
theorem Pers.le_refl (p : Pers) : p.le p := ⟨fun _ _ h => h, rfl, rfl, rfl⟩
theorem Pers.le.trans {p q r : Pers} (a : p.le q) (b : q.le r) : p.le r :=
  ⟨sub_trans a.h b.h, b.os.trans a.os, b.tape.trans a.tape, b.output.trans a.output⟩

theorem Pers.le.le {p q r : Pers} (a : p.le q) (b : q.le r) : p.le r := a.trans b
/-- THE STATE: of the world w the call holds H (each assertion on blocks of its own), beside the lasting part p. -/
def St (p : Pers) (w : World) (H : List Assn) : Prop :=
  ∃ h, all H h ∧ disj p.h h ∧ (∀ k o, uni p.h h k = some o → w.heap[k]? = some o) ∧ w.os = p.os ∧ w.tape = p.tape ∧ w.output = p.output

section
variable {p : Pers} {w : World} {H : List Assn}

theorem St.swap {A B : Assn} (s : St p w (A :: B :: H)) : St p w (B :: A :: H) := by
  obtain ⟨h, ⟨a, b, d, rfl, ha, c, e, d2, rfl, hb, hr⟩, dp, r⟩ := s
  obtain ⟨d1, d3⟩ := disj_uni.1 d
  refine ⟨_, ⟨c, uni a e, disj_uni.2 ⟨disj_comm d1, d2⟩, ?_, hb, a, e, d3, rfl, ha, hr⟩, dp, r⟩
  rw [← uni_assoc, ← uni_assoc, uni_comm d1]
/-- a list of which one is taken out -/
inductive Del (A : Assn) : List Assn → List Assn → Prop
  | here {l : List Assn} : Del A (A :: l) l
  | there {B : Assn} {l l' : List Assn} (h : Del A l l') : Del A (B :: l) (B :: l')
/-- a list of which one takes another's place -/
inductive Rep (A A' : Assn) : List Assn → List Assn → Prop
  | here {l : List Assn} : Rep A A' (A :: l) (A' :: l)
  | there {B : Assn} {l l' : List Assn} (h : Rep A A' l l') : Rep A A' (B :: l) (B :: l')
theorem all_cons {A : Assn} {l : List Assn} {h : Hp} : all (A :: l) h ↔ ∃ a b, disj a b ∧ h = uni a b ∧ A a ∧ all l b := Iff.rfl
theorem all_del {A : Assn} {l l' : List Assn} (d : Del A l l') : ∀ {h : Hp}, all l h ↔ all (A :: l') h := by
  induction d with
  | here => exact Iff.rfl
  | @there B l l' d ih =>
    intro h
    constructor
    · rintro ⟨a, b, dj, rfl, hB, hb⟩
      obtain ⟨x, y, d2, rfl, hA, hy⟩ := ih.1 hb
      obtain ⟨d3, d4⟩ := disj_uni.1 dj
      exact ⟨x, uni a y, disj_uni.2 ⟨disj_comm d3, d2⟩, by rw [← uni_assoc, ← uni_assoc, uni_comm d3], hA, a, y, d4, rfl, hB, hy⟩
    · rintro ⟨x, z, dj, rfl, hA, a, y, d2, rfl, hB, hy⟩
      obtain ⟨d3, d4⟩ := disj_uni.1 dj
      exact ⟨a, uni x y, disj_uni.2 ⟨disj_comm d3, d2⟩, by rw [← uni_assoc, ← uni_assoc, uni_comm d3], hB, ih.2 ⟨x, y, d4, rfl, hA, hy⟩⟩
theorem St.take {A : Assn} {H' : List Assn} (s : St p w H) (d : Del A H H') : St p w (A :: H') := by
  obtain ⟨h, ha, r⟩ := s
  exact ⟨h, (all_del d).1 ha, r⟩
theorem St.give {A : Assn} {H' : List Assn} (s : St p w (A :: H')) (d : Del A H H') : St p w H := by
  obtain ⟨h, ha, r⟩ := s
  exact ⟨h, (all_del d).2 ha, r⟩
theorem Rep.dels {A A' : Assn} {l l' : List Assn} (r : Rep A A' l l') : ∃ m, Del A l m ∧ Del A' l' m := by
  induction r with
  | here => exact ⟨_, .here, .here⟩
  | there _ ih => obtain ⟨m, a, b⟩ := ih; exact ⟨_, .there a, .there b⟩
/-- an assertion gives way to what follows from it -/
theorem St.weaken {A B : Assn} (s : St p w (A :: H)) (h : ∀ x, A x → B x) : St p w (B :: H) := by
  obtain ⟨x, ⟨a, b, d, e, ha, hr⟩, r⟩ := s
  exact ⟨x, ⟨a, b, d, e, h _ ha, hr⟩, r⟩
theorem St.block {b : Nat} {o : Obj} (s : St p w (pt b o :: H)) : w.heap[b]? = some o := by
  obtain ⟨h, ⟨x, y, d, rfl, hx, _⟩, dp, r, _⟩ := s
  refine r b o ?_
  have hb : x b = some o := by rw [show x = _ from hx]; simp
  rcases dp b with e | e
  · simp [uni, e, hb]
  · simp [uni, hb] at e
theorem St.blockAt {b : Nat} {o : Obj} {H' : List Assn} (s : St p w H) (d : Del (pt b o) H H') : w.heap[b]? = some o := (s.take d).block
theorem St.pers {k : Nat} {o : Obj} (s : St p w H) (h : p.h k = some o) : w.heap[k]? = some o := by
  obtain ⟨x, _, _, r, _⟩ := s
  exact r k o (by simp [uni, h])
/-- one block of what is held turns -/
theorem St.turn {b : Nat} {o o' : Obj} {w' : World} (s : St p w (pt b o :: H)) (hb : w'.heap[b]? = some o') (hk : ∀ k, k ≠ b → w'.heap[k]? = w.heap[k]?)
    (ho : w'.os = w.os) (ht : w'.tape = w.tape) (hu : w'.output = w.output) : St p w' (pt b o' :: H) := by
  obtain ⟨h, ⟨x, y, d, rfl, hx, hy⟩, dp, r, r1, r2, r3⟩ := s
  have hx' : x = fun k => if k = b then some o else none := hx
  subst hx'
  obtain ⟨d1, d2⟩ := disj_uni.1 dp
  have yb : y b = none := by rcases d b with e | e; · simp at e
                             · exact e
  have pb : p.h b = none := by rcases d1 b with e | e; · exact e
                               · simp at e
  refine ⟨uni (fun k => if k = b then some o' else none) y, ⟨_, y, ?_, rfl, rfl, hy⟩, disj_uni.2 ⟨?_, d2⟩, ?_, ho.trans r1, ht.trans r2, hu.trans r3⟩
  · intro k; by_cases e : k = b
    · subst e; exact .inr yb
    · simp [e]
  · intro k; by_cases e : k = b
    · subst e; exact .inl pb
    · simp [e]
  · intro k q hq
    by_cases e : k = b
    · subst e
      simp [uni, pb] at hq
      rw [hb, hq]
    · rw [hk k e]
      refine r k q ?_
      simpa [uni, e] using hq
theorem St.set {b : Nat} {c : Array Value} {t : TypeId} {f : Nat × Nat} (s : St p w (pt b (.cells c t f) :: H)) (i : Nat) (v : Value) :
    St p (w.setCell ⟨b, i, none⟩ v) (pt b (.cells (c.setIfInBounds i v) t f) :: H) :=
  s.turn (by have hb := s.block; simp only [World.setCell, Array.getElem?_modify, if_pos, hb]; rfl) (fun k hk => Below.heap_setCell _ _ _ _ hk) rfl rfl rfl
/-- a new block -/
theorem St.alloc (s : St p w H) (o : Obj) : St p (w.alloc o) (pt w.heap.size o :: H) := by
  obtain ⟨h, ha, dp, r, r1, r2, r3⟩ := s
  have hn : uni p.h h w.heap.size = none := by
    cases e : uni p.h h w.heap.size with
    | none => rfl
    | some q => have := r _ _ e; simp at this
  have hp : p.h w.heap.size = none ∧ h w.heap.size = none := by simpa [uni] using hn
  refine ⟨uni (fun k => if k = w.heap.size then some o else none) h, ⟨_, h, ?_, rfl, rfl, ha⟩, disj_uni.2 ⟨?_, dp⟩, ?_, r1, r2, r3⟩
  · intro k; by_cases e : k = w.heap.size
    · subst e; exact .inr hp.2
    · simp [e]
  · intro k; by_cases e : k = w.heap.size
    · subst e; exact .inl hp.1
    · simp [e]
  · intro k q hq
    by_cases e : k = w.heap.size
    · subst e
      simp [uni, hp.1] at hq
      rw [← hq]; exact heap_alloc_new w o
    · have : w.heap[k]? = some q := r k q (by simpa [uni, e] using hq)
      rw [Below.heap_alloc w o k (Array.getElem?_eq_some_iff.1 this).1]
      exact this
theorem St.drew (s : St p w H) : St p w.drew H := s
/-- what is held is let go of -/
theorem St.drop {A : Assn} (s : St p w (A :: H)) : St p w H := by
  obtain ⟨h, ⟨x, y, d, rfl, hx, hy⟩, dp, r, r1⟩ := s
  obtain ⟨d1, d2⟩ := disj_uni.1 dp
  refine ⟨y, hy, d2, fun k o hk => r k o ?_, r1⟩
  rcases uni_some.1 hk with e | ⟨e, f⟩
  · simp [uni, e]
  · rcases d k with e2 | e2
    · simp [uni, e, e2, f]
    · rw [f] at e2; cases e2
/-- a block that is held lasts from now on -/
def Pers.with (p : Pers) (x : Hp) : Pers := { p with h := uni p.h x }
theorem St.keep {A : Assn} (s : St p w (A :: H)) : ∃ x, A x ∧ disj p.h x ∧ p.le (p.with x) ∧ St (p.with x) w H := by
  obtain ⟨h, ⟨x, y, d, rfl, hx, hy⟩, dp, r, r1⟩ := s
  obtain ⟨d1, d2⟩ := disj_uni.1 dp
  refine ⟨x, hx, d1, ⟨sub_uni_left _ _, rfl, rfl, rfl⟩, y, hy, uni_disj.2 ⟨d2, d⟩, fun k o hk => r k o ?_, r1⟩
  show uni p.h (uni x y) k = some o
  rw [← uni_assoc]; exact hk
theorem St.keepPt {b : Nat} {o : Obj} (s : St p w (pt b o :: H)) : ∃ q, p.le q ∧ q.h b = some o ∧ St q w H := by
  obtain ⟨x, hx, d, le, s'⟩ := s.keep
  refine ⟨_, le, ?_, s'⟩
  have hx' : x b = some o := by rw [show x = _ from hx]; simp
  rcases d b with e | e
  · show (p.h b).or (x b) = some o
    rw [e, hx']; rfl
  · rw [hx'] at e; cases e
theorem all_append (l H : List Assn) : ∀ h, all (l ++ H) h ↔ ∃ a b, disj a b ∧ h = uni a b ∧ all l a ∧ all H b := by
  induction l with
  | nil =>
    intro h
    constructor
    · intro x; exact ⟨none0, h, fun _ => .inl rfl, (none0_uni h).symm, rfl, x⟩
    · rintro ⟨a, b, d, rfl, ha, hb⟩
      have ha' : a = none0 := ha
      subst ha'
      rw [none0_uni]; exact hb
  | cons A l ih =>
    intro h
    constructor
    · rintro ⟨a, b, d, rfl, hA, hb⟩
      obtain ⟨x, y, d2, rfl, hx, hy⟩ := (ih b).1 hb
      obtain ⟨d3, d4⟩ := disj_uni.1 d
      exact ⟨uni a x, y, uni_disj.2 ⟨d4, d2⟩, (uni_assoc _ _ _).symm, ⟨a, x, d3, rfl, hA, hx⟩, hy⟩
    · rintro ⟨ax, y, d, rfl, ⟨a, x, d3, rfl, hA, hx⟩, hy⟩
      obtain ⟨d4, d2⟩ := uni_disj.1 d
      exact ⟨a, uni x y, disj_uni.2 ⟨d3, d4⟩, uni_assoc _ _ _, hA, (ih _).2 ⟨x, y, d2, rfl, hx, hy⟩⟩
/-- an assertion of several -/
theorem St.split {l : List Assn} (s : St p w (all l :: H)) : St p w (l ++ H) := by
  obtain ⟨h, ⟨x, y, d, e, hx, hy⟩, r⟩ := s
  exact ⟨h, (all_append l H h).2 ⟨x, y, d, e, hx, hy⟩, r⟩
theorem St.join {l : List Assn} (s : St p w (l ++ H)) : St p w (all l :: H) := by
  obtain ⟨h, ha, r⟩ := s
  obtain ⟨x, y, d, e, hx, hy⟩ := (all_append l H h).1 ha
  exact ⟨h, ⟨x, y, d, e, hx, hy⟩, r⟩
/-- there is such a one -/
def Ex {α : Type} (A : α → Assn) : Assn := fun h => ∃ x, A x h
/-- .. if this is so -/
def If (c : Prop) (A : Assn) : Assn := fun h => c ∧ A h
theorem St.ex {α : Type} {A : α → Assn} (s : St p w (Ex A :: H)) : ∃ x, St p w (A x :: H) := by
  obtain ⟨h, ⟨a, b, d, e, ⟨x, ha⟩, hr⟩, r⟩ := s
  exact ⟨x, h, ⟨a, b, d, e, ha, hr⟩, r⟩
theorem St.iff {c : Prop} {A : Assn} (s : St p w (If c A :: H)) : c ∧ St p w (A :: H) := by
  obtain ⟨h, ⟨a, b, d, e, ⟨hc, ha⟩, hr⟩, r⟩ := s
  exact ⟨hc, h, ⟨a, b, d, e, ha, hr⟩, r⟩
end
end Go.SL
