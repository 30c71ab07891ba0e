/- For the keyring: one of many that are held; a store into an element that keeps the rest; a row of elements, held. -/
import Derived.Test.YtjpjejldinpcnaaSL6
namespace Go.SL
open Go.RowKit
set_option linter.unusedVariables false
set_option linter.unusedSimpArgs false
theorem Del.mid {A : Assn} {l2 : List Assn} : ∀ l1 : List Assn, Del A (l1 ++ A :: l2) (l1 ++ l2)
  | [] => .here
  | B :: l1 => .there (Del.mid l1)
theorem Del.before {A : Assn} {l l' : List Assn} (h : Del A l l') (B : List Assn) : Del A (l ++ B) (l' ++ B) := by
  induction h with
  | here => exact .here
  | there h ih => exact .there ih
/-- what lies at an index of a row -/
theorem cut_at {α : Type} {l : List α} {i : Nat} {a : α} (h : l[i]? = some a) : l = l.take i ++ a :: l.drop (i + 1) := by
  obtain ⟨hi, he⟩ := List.getElem?_eq_some_iff.1 h
  rw [← he, List.getElem_cons_drop, List.take_append_drop]
theorem over_take {cur : Array Value} {o n : Nat} {l xs : List Value} (hx : cur.toList.take n = xs) (ho : o + l.length ≤ n) (hn : n ≤ cur.size) : (over cur o l).toList.take n = xs.take o ++ l ++ xs.drop (o + l.length) := by
  subst hx
  have h1 : (cur.toList.take o).length = o := by rw [List.length_take, Array.length_toList]; omega
  have h2 : (cur.toList.take o ++ l).length = o + l.length := by rw [List.length_append, h1]
  simp only [over]
  rw [List.take_append, h2, List.take_of_length_le (by omega), List.take_take, Nat.min_eq_left (by omega), List.drop_take]
/-- cells laid over a part of one element -/
theorem flat_over {α : Type} {f : α → List Value} {sz : Nat} (hf : ∀ a, (f a).length = sz) {l : List α} {i d : Nat} {a a' : α} {news : List Value} (h : l[i]? = some a) (hd : d + news.length ≤ sz) (he : f a' = (f a).take d ++ news ++ (f a).drop (d + news.length)) :
    (l.flatMap f).take (i * sz + d) ++ news ++ (l.flatMap f).drop (i * sz + d + news.length) = (l.set i a').flatMap f := by
  obtain ⟨hi, _⟩ := List.getElem?_eq_some_iff.1 h
  have e1 : l.flatMap f = (l.take i).flatMap f ++ (f a ++ (l.drop (i + 1)).flatMap f) := by
    conv => lhs; rw [cut_at h]
    simp
  have e2 : (l.set i a').flatMap f = (l.take i).flatMap f ++ (f a' ++ (l.drop (i + 1)).flatMap f) := by
    rw [List.set_eq_take_append_cons_drop, if_pos hi]; simp
  have hl : ((l.take i).flatMap f).length = i * sz := by rw [flat_len hf, List.length_take, Nat.min_eq_left (by omega)]
  rw [e1, e2, he]
  generalize (l.take i).flatMap f = A at hl
  generalize (l.drop (i + 1)).flatMap f = B
  have ha := hf a
  generalize f a = C at ha
  rw [List.take_append, List.drop_append, hl]
  rw [List.take_of_length_le (by omega), List.drop_of_length_le (by omega)]
  have h3 : i * sz + d - i * sz = d := by omega
  have h4 : i * sz + d + news.length - i * sz = d + news.length := by omega
  rw [h3, h4, List.take_append_of_le_length (by omega), List.drop_append_of_le_length (by omega)]
  simp only [List.append_assoc, List.nil_append]
theorem set_at {α : Type} {l : List α} {i : Nat} {a a' : α} (h : l[i]? = some a) : (l.set i a')[i]? = some a' := by
  obtain ⟨hi, _⟩ := List.getElem?_eq_some_iff.1 h
  simp [hi]
theorem set_self {α : Type} {l : List α} {i : Nat} {a : α} (h : l[i]? = some a) : l.set i a = l := by
  obtain ⟨hi, he⟩ := List.getElem?_eq_some_iff.1 h
  rw [← he]; simp
theorem map_set_at {α β : Type} {f : α → β} {l : List α} {i : Nat} {a : α} : (l.set i a).map f = (l.map f).set i (f a) := by simp
section
variable {P : Program} {n : Nat} {τ : Fr} {w : World} {dst : Option Tmp} {ty : TypeId} {pos : String} {af : Array Edge} {gd : Option (Nat × Bool)} {K : Value → World → Prop} {p : Pers} {HH H' : List Assn}
theorem H.storeAt {t e : TypeId} {x y : Operand} {b o k c sz : Nat} {v : Value} {xs : List Value} (hx : (Act.eval (AF n τ)) x = .pointer (some ⟨b, o, none⟩)) (hy : (Act.eval (AF n τ)) y = v)
    (s : St p w HH) (hd : Del (Own e sz (.slice (some ⟨b, 0, none⟩) k c) k xs) HH H') (hk : 0 < k) (hz : (P.info? t).map (·.size) = some v.cells.size) (ho : o + v.cells.size ≤ k * sz)
    (h1 : ∀ u ∈ v.cells.toList, u.oneCell' = true) (h : ∀ w', St p w' (Own e sz (.slice (some ⟨b, 0, none⟩) k c) k (xs.take o ++ v.cells.toList ++ xs.drop (o + v.cells.size)) :: H') → K undef w') : Hd P n ⟨dst, .store t x y, ty, pos, af, gd⟩ τ w K := by
  have s1 := s.take hd
  obtain ⟨hl, ⟨A, he, hk0, _⟩ | ⟨g, cap, cur, he, s2, hkc, hcm, hcs, hxx⟩⟩ := s1.ownOpen
  · omega
  · cases he
    have hle : k * sz ≤ c * sz := Nat.mul_le_mul_right _ hkc
    have hsz : v.cells.toList.length = v.cells.size := by simp
    refine H.store (v := v) (c := cur) hx hy s2 .here hz (by omega) h1 rfl fun w' s3 => ?_
    refine h w' (s3.ownNew hkc hcm ?_ ?_)
    · simp only [over, List.size_toArray, List.length_append, List.length_take, List.length_drop, Array.length_toList]
      omega
    · rw [over_take hxx (by omega) (by omega), hsz]
/-- a store into a part of one element of a row that is held -/
theorem H.storeIn {α : Type} {f : α → List Value} {t e : TypeId} {x y : Operand} {b o d i k c sz : Nat} {v : Value} {l : List α} {a a' : α} (hf : ∀ a, (f a).length = sz) (hx : (Act.eval (AF n τ)) x = .pointer (some ⟨b, o, none⟩)) (hy : (Act.eval (AF n τ)) y = v)
    (s : St p w HH) (hd : Del (Own e sz (.slice (some ⟨b, 0, none⟩) k c) k (l.flatMap f)) HH H') (hl : l[i]? = some a) (h0z : 0 < sz) (ho : o = i * sz + d) (hz : (P.info? t).map (·.size) = some v.cells.size) (hds : d + v.cells.size ≤ sz)
    (he : f a' = (f a).take d ++ v.cells.toList ++ (f a).drop (d + v.cells.size))
    (h1 : ∀ u ∈ v.cells.toList, u.oneCell' = true) (h : ∀ w', St p w' (Own e sz (.slice (some ⟨b, 0, none⟩) k c) k ((l.set i a').flatMap f) :: H') → K undef w') : Hd P n ⟨dst, .store t x y, ty, pos, af, gd⟩ τ w K := by
  have s1 := s.take hd
  have hlen := (Own.src s1).1
  rw [flat_len hf] at hlen
  obtain ⟨hi, _⟩ := List.getElem?_eq_some_iff.1 hl
  have hsz : v.cells.toList.length = v.cells.size := by simp
  have hi2 : (i + 1) * sz ≤ l.length * sz := Nat.mul_le_mul_right _ hi
  rw [Nat.add_mul, Nat.one_mul] at hi2
  have hkk : 0 < k := by
    rcases Nat.eq_zero_or_pos k with h0 | h0
    · subst h0
      have : 0 < (i + 1) * sz := Nat.mul_pos (by omega) h0z
      rw [Nat.add_mul, Nat.one_mul] at this
      omega
    · exact h0
  subst ho
  refine H.storeAt hx hy s hd hkk hz (by omega) h1 fun w' s' => h w' ?_
  have := flat_over hf hl (news := v.cells.toList) (by omega) (a' := a') (by rw [hsz]; exact he)
  rw [hsz] at this
  rwa [this] at s'
end
end Go.SL
