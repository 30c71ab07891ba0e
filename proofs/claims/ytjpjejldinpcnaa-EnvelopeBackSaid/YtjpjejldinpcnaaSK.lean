/- Held memory whose cells are told by lists: loads, stores and what is put behind. -/
import Derived.Test.YtjpjejldinpcnaaK0
namespace Go.SL
open Go.RowKit
set_option linter.unusedVariables false
set_option linter.unusedSimpArgs false
section
variable {P : Program} {n : Nat} {τ : Fr} {w : World} {dst : Option Tmp} {ty : TypeId} {pos : String} {af : Array Edge} {gd : Option (Nat × Bool)} {K : Value → World → Prop} {p : Pers} {H HH H' : List Assn}
theorem St.cellsOf {b o : Nat} {L ys : List Value} {e : TypeId} {fr : Nat × Nat} (s : St p w H) (d : Del (pt b (.cells L.toArray e fr)) H H') (h : ∀ j v, ys[j]? = some v → L[o + j]? = some v) :
    ∀ j v, ys[j]? = some v → w.cell? ⟨b, o + j, none⟩ = some v := fun j v hv => s.cell d (by rw [List.getElem?_toArray]; exact h j v hv)
theorem H.append2 {x y : Operand} {t e : TypeId} {z : Value} {sz bytes : Nat} {s0 x0 : Value} {k m : Nat} {xs news : List Value} {n2 : Nat} {xs2 : List Value} (hn2 : k + m = n2) (hx2 : xs ++ news = xs2) (ht : P.underlying t = some (.slice e))
    (hi : (P.info? e).map (fun i => (i.zero, i.size, i.bytes)) = some (some z, sz, bytes)) (hzs : z.cells.size = sz) (hx : (Act.eval (AF n τ)) x = s0) (hy : (Act.eval (AF n τ)) y = x0)
    (s : St p w H) (hd : Del (Own e sz s0 k xs) H H') (hsrc : Src w sz x0 m news) (h1 : ∀ u ∈ news, u.oneCell' = true) (hfit : (k + m) * bytes ≤ 140737488355328) (h63 : k + m ≤ maxLen)
    (h : ∀ v w', (isNil v = true ↔ isNil s0 = true ∧ m = 0) → St p w' (Own e sz v n2 xs2 :: H') → K v w') : Hd P n ⟨dst, .call ⟨.builtin .append, #[x, y], #[t, t]⟩, ty, pos, af, gd⟩ τ w K := by
  subst hn2; subst hx2
  exact Go.SL.H.append ht hi hzs hx hy s hd hsrc h1 hfit h63 h
theorem H.storeInn {α : Type} {f : α → List Value} {t e : TypeId} {x y : Operand} {b o d i k c sz m : Nat} {v : Value} {news : List Value} {l : List α} {a a' : α} (hf : ∀ a, (f a).length = sz) (hx : (Act.eval (AF n τ)) x = .pointer (some ⟨b, o, none⟩)) (hy : (Act.eval (AF n τ)) y = v)
    (s : St p w HH) (hd : Del (Own e sz (.slice (some ⟨b, 0, none⟩) k c) k (l.flatMap f)) HH H') (hl : l[i]? = some a) (h0z : 0 < sz) (ho : o = i * sz + d) (hv : v.cells = news.toArray) (hn : news.length = m) (hz : (P.info? t).map (·.size) = some m) (hds : d + m ≤ sz)
    (he : f a' = (f a).take d ++ news ++ (f a).drop (d + m))
    (h1 : ∀ u ∈ news, u.oneCell' = true) (h : ∀ w', St p w' (Own e sz (.slice (some ⟨b, 0, none⟩) k c) k ((l.set i a').flatMap f) :: H') → K undef w') : Hd P n ⟨dst, .store t x y, ty, pos, af, gd⟩ τ w K := by
  have hs : v.cells.size = m := by rw [hv, List.size_toArray]; exact hn
  have hl2 : v.cells.toList = news := by rw [hv]
  exact H.storeIn hf hx hy s hd hl h0z ho (by rw [hs]; exact hz) (by rw [hs]; exact hds) (by rw [hs, hl2]; exact he) (by rw [hl2]; exact h1) h
theorem H.storeWhole {t : TypeId} {x y : Operand} {b m : Nat} {c : Array Value} {e : TypeId} {v : Value} {news : List Value} (hx : (Act.eval (AF n τ)) x = .pointer (some ⟨b, 0, none⟩)) (hy : (Act.eval (AF n τ)) y = v)
    (s : St p w HH) (hr : Rep (pt b (.cells c e)) (pt b (.cells news.toArray e)) HH H') (hv : v.cells = news.toArray) (hn : news.length = m) (hc : c.size = m) (hz : (P.info? t).map (·.size) = some m)
    (h1 : ∀ u ∈ news, u.oneCell' = true) (h : ∀ w', St p w' H' → K undef w') : Hd P n ⟨dst, .store t x y, ty, pos, af, gd⟩ τ w K := by
  have hs : v.cells.size = m := by rw [hv, List.size_toArray]; exact hn
  have hl2 : v.cells.toList = news := by rw [hv]
  refine H.store (v := v) hx hy s hr (by rw [hs]; exact hz) (by rw [hs, hc]; omega) (by rw [hl2]; exact h1) ?_ h
  simp only [over, hl2, List.take_zero, List.nil_append, Nat.zero_add]
  rw [List.drop_of_length_le (by rw [Array.length_toList, hc, hn]; omega), List.append_nil]
end
end Go.SL
