/- Rows that are held: cut, grown, cleared behind, copied into, put behind in place; what makes way for more. -/
import Derived.Test.YtjagffnbobnofaaSM
import Derived.Lib.Overlaps
import Derived.Lib.AppendZerosOnto
import Derived.Laws.CopyRow
namespace Go.SL
open Go.RowKit
set_option linter.unusedVariables false
set_option linter.unusedSimpArgs false
section
variable {p : Pers} {w : World} {H : List Assn}
theorem St.ownCut {e : TypeId} {sz n c i b : Nat} {xs : List Value} (s : St p w (Own e sz (.slice (some ⟨b, 0, none⟩) n c) n xs :: H)) (hi : i ≤ n) : St p w (Own e sz (.slice (some ⟨b, 0, none⟩) i c) i (xs.take (i * sz)) :: H) := by
  obtain ⟨hl, ⟨A, he, h0, s2⟩ | ⟨g, cap, cur, he, s2, hnc, hcm, hcs, hx⟩⟩ := s.ownOpen
  · cases he
    obtain rfl : i = 0 := by omega
    simpa using s2.ownNil (e := e) (sz := sz) (some ⟨b, 0, none⟩)
  · cases he
    refine s2.ownNew (by omega) hcm hcs ?_
    rw [← hx, List.take_take, Nat.min_eq_left (Nat.mul_le_mul_right _ hi)]
theorem St.ownGrow {e : TypeId} {sz n c m b : Nat} {xs : List Value} (s : St p w (Own e sz (.slice (some ⟨b, 0, none⟩) n c) n xs :: H)) (hm : n + m ≤ c) : ∃ ys, ys.length = m * sz ∧ St p w (Own e sz (.slice (some ⟨b, 0, none⟩) (n + m) c) (n + m) (xs ++ ys) :: H) := by
  obtain ⟨hl, ⟨A, he, h0, s2⟩ | ⟨g, cap, cur, he, s2, hnc, hcm, hcs, hx⟩⟩ := s.ownOpen
  · cases he
    obtain rfl : m = 0 := by omega
    exact ⟨[], by simp, by simpa using s⟩
  · cases he
    have hle : (n + m) * sz ≤ c * sz := Nat.mul_le_mul_right _ hm
    rw [Nat.add_mul] at hle
    refine ⟨(cur.toList.drop (n * sz)).take (m * sz), ?_, s2.ownNew hm hcm hcs ?_⟩
    · rw [List.length_take, List.length_drop, Array.length_toList, hcs]; omega
    · rw [Nat.add_mul, List.take_add, hx]
theorem Src.drop {sz m c k b o o2 : Nat} {xs : List Value} (h : Src w sz (.slice (some ⟨b, o, none⟩) m c) m xs) (hk : k ≤ m) (ho : o2 = if k = c then o else o + k * sz) : Src w sz (.slice (some ⟨b, o2, none⟩) (m - k) (c - k)) (m - k) (xs.drop (k * sz)) := by
  obtain ⟨hl, X, c', he, hc, h2⟩ := h
  cases he
  refine ⟨by rw [List.length_drop, hl, Nat.sub_mul], _, _, rfl, by omega, ?_⟩
  rcases Nat.lt_or_ge k m with hlt | hge
  · rcases h2 with h0 | ⟨b', o', hX, hcell⟩
    · omega
    · cases hX
      rw [if_neg (by omega)] at ho
      subst ho
      refine .inr ⟨b, _, rfl, fun j u hu => ?_⟩
      rw [List.getElem?_drop] at hu
      rw [Nat.add_assoc]
      exact hcell _ u hu
  · exact .inl (by omega)
end
section
variable {P : Program} {n : Nat} {τ : Fr} {w : World} {dst : Option Tmp} {ty : TypeId} {pos : String} {af : Array Edge} {gd : Option (Nat × Bool)} {K : Value → World → Prop} {p : Pers} {HH H' : List Assn}
theorem H.clearIn {x : Operand} {t e : TypeId} {b o k c m c2 sz : Nat} {z : Value} {xs : List Value} (ht : P.underlying t = some (.slice e)) (hi : (P.info? e).bind (·.zero) = some z) (hz1 : z.cells.size = sz) (hsz : 0 < sz) (h1 : ∀ u ∈ (Builtin.zeroCells z.cells m).toList, u.oneCell' = true)
    (hx : (Act.eval (AF n τ)) x = .slice (some ⟨b, o, none⟩) m c2) (s : St p w HH) (hd : Del (Own e sz (.slice (some ⟨b, 0, none⟩) k c) k xs) HH H') (ho : m = 0 ∨ k * sz ≤ o) (hm : m = 0 ∨ o + m * sz ≤ c * sz)
    (h : ∀ w', St p w' (Own e sz (.slice (some ⟨b, 0, none⟩) k c) k xs :: H') → K (.tuple #[]) w') : Hd P n ⟨dst, .call ⟨.builtin .clear, #[x], #[t]⟩, ty, pos, af, gd⟩ τ w K := by
  cases hq : P.info? e with
  | none => simp [hq] at hi
  | some i =>
    have hz0 : i.zero = some z := by simpa [hq] using hi
    have go : ∀ w', (Builtin.clear_ #[t] ty #[.slice (some ⟨b, o, none⟩) m c2]).run P w = .ok (.tuple #[]) w' → K (.tuple #[]) w' → Hd P n ⟨dst, .call ⟨.builtin .clear, #[x], #[t]⟩, ty, pos, af, gd⟩ τ w K := by
      intro w' hr hk
      refine Hd.value (v := .tuple #[]) (w' := w') ?_ hk
      simp [execOp, resolve, invoke, builtin, hx, hr]
    have s1 := s.take hd
    rcases Nat.eq_zero_or_pos m with h0 | h0
    · subst h0
      exact go w (by simp [Builtin.clear_, run_underlying ht]) (h w s1)
    · replace ho := ho.resolve_left (by omega)
      replace hm := hm.resolve_left (by omega)
      have hmp : 0 < m * sz := Nat.mul_pos h0 hsz
      obtain ⟨hl, ⟨A, he, hk0, s2⟩ | ⟨g, cap, cur, he, s2, hnc, hcm, hcs, hxx⟩⟩ := s1.ownOpen
      · cases he; omega
      · cases he
        have hzl : (Builtin.zeroCells z.cells m).toList.length = m * sz := by rw [Array.length_toList, size_zeroCells, hz1]
        have hst := run_storeCells_at P b o e (Builtin.zeroCells z.cells m).toList 0 cur w s2.block (by rw [Nat.add_zero, hzl]; omega) h1
        have hm0 : ∀ q, m ≠ 0 := fun _ => by omega
        obtain ⟨m', rfl⟩ : ∃ m', m = m' + 1 := ⟨m - 1, by omega⟩
        refine go (w.setRow b (over cur o (Builtin.zeroCells z.cells (m' + 1)).toList)) ?_ (h _ ((s2.over o _).ownNew hnc hcm ?_ ?_))
        · simp only [Nat.add_zero] at hst
          simp [Builtin.clear_, run_underlying ht, zeroValue, typeInfo, hq, hz0, hst, over]
        · simp only [over, List.size_toArray, List.length_append, List.length_take, List.length_drop, Array.length_toList, hzl]
          rw [hzl] at *
          omega
        · simp only [over]
          rw [List.append_assoc, List.take_append_of_le_length (by rw [List.length_take, Array.length_toList]; omega), List.take_take, Nat.min_eq_left ho, hxx]
/-- put behind, where there is room: in place -/
theorem H.appendFits {x y : Operand} {t e : TypeId} {sz b k m c : Nat} {x0 : Value} {xs news : List Value} (ht : P.underlying t = some (.slice e)) (hz : (P.info? e).map (·.size) = some sz) (hx : (Act.eval (AF n τ)) x = .slice (some ⟨b, 0, none⟩) k c) (hy : (Act.eval (AF n τ)) y = x0)
    (s : St p w HH) (hd : Del (Own e sz (.slice (some ⟨b, 0, none⟩) k c) k xs) HH H') (hsrc : Src w sz x0 m news) (h1 : ∀ u ∈ news, u.oneCell' = true) (hroom : k + m ≤ c)
    (h : ∀ w', St p w' (Own e sz (.slice (some ⟨b, 0, none⟩) (k + m) c) (k + m) (xs ++ news) :: H') → K (.slice (some ⟨b, 0, none⟩) (k + m) c) w') : Hd P n ⟨dst, .call ⟨.builtin .append, #[x, y], #[t, t]⟩, ty, pos, af, gd⟩ τ w K := by
  cases hq : P.info? e with
  | none => simp [hq] at hz
  | some i =>
    have hi : i.size = sz := by simpa [hq] using hz
    subst hi
    have go : ∀ v w', (Builtin.append_ #[t, t] ty #[.slice (some ⟨b, 0, none⟩) k c, x0]).run P w = .ok v w' → K v w' → Hd P n ⟨dst, .call ⟨.builtin .append, #[x, y], #[t, t]⟩, ty, pos, af, gd⟩ τ w K := by
      intro v w' hr hk
      refine Hd.value (v := v) (w' := w') ?_ hk
      simp [execOp, resolve, invoke, builtin, hx, hy, hr]
    have s1 := s.take hd
    obtain ⟨hln, X, c2, rfl, hmc, hS⟩ := hsrc
    obtain ⟨hlx, ⟨A, he, hk0, s2⟩ | ⟨g, cap, cur, he, s2, hnc, hcm, hcs, htake⟩⟩ := s1.ownOpen
    · cases he
      obtain rfl : m = 0 := by omega
      have hn : news = [] := List.eq_nil_of_length_eq_zero (by simpa using hln)
      subst hn
      exact go _ _ (run_append_zero ht hq _ 0 0 (Nat.le_refl _) X c2) (h _ (by simpa using s1))
    · cases he
      by_cases hm : m = 0
      · subst hm
        have hn : news = [] := List.eq_nil_of_length_eq_zero (by simpa using hln)
        subst hn
        exact go _ _ (run_append_zero ht hq _ k c hnc X c2) (h _ (by simpa using s1))
      · obtain ⟨b2, o2, rfl, hcell⟩ := hS.resolve_left hm
        have hcell' : ∀ j v, news[j]? = some v → w.cell? ((⟨b2, o2, none⟩ : Addr).add j) = some v := fun j v hv => by rw [add_lit]; exact hcell j v hv
        have hfit' : k * i.size + news.length ≤ cur.size := by rw [hln, hcs, ← Nat.add_mul]; exact Nat.mul_le_mul_right _ hroom
        have hr := run_append_room (P := P) w t ty e i ht hq b k c cur s2.block ⟨b2, o2, none⟩ m c2 news hln hcell' h1 hroom hfit'
        refine go _ _ hr (h _ ((s2.over (k * i.size) news).ownNew hroom hcm ?_ ?_))
        · simp only [SL.over, List.size_toArray, List.length_append, List.length_take, List.length_drop, Array.length_toList]
          omega
        · have hlen : (xs ++ news).length = (k + m) * i.size := by rw [List.length_append, hlx, hln, Nat.add_mul]
          simp only [SL.over]
          rw [htake, ← hlen]
          exact List.take_left
/-- copied into a row of cells -/
theorem H.copyIn {x y : Operand} {t t2 e : TypeId} {b o dl dc k c m r : Nat} {x0 : Value} {xs news : List Value} (ht : P.underlying t = some (.slice e)) (hz : (P.info? e).map (·.size) = some 1) (hx : (Act.eval (AF n τ)) x = .slice (some ⟨b, o, none⟩) dl dc) (hy : (Act.eval (AF n τ)) y = x0)
    (s : St p w HH) (hd : Del (Own e 1 (.slice (some ⟨b, 0, none⟩) k c) k xs) HH H') (hsrc : Src w 1 x0 m news) (hm : 0 < m) (h1 : ∀ u ∈ news.take r, u.oneCell' = true) (hr : r = Nat.min m dl) (ho : o + r ≤ k) (hk : 0 < k)
    (h : ∀ w', St p w' (Own e 1 (.slice (some ⟨b, 0, none⟩) k c) k (xs.take o ++ news.take r ++ xs.drop (o + r)) :: H') → K (.int .i64 r) w') : Hd P n ⟨dst, .call ⟨.builtin .copy, #[x, y], #[t, t2]⟩, ty, pos, af, gd⟩ τ w K := by
  have go : ∀ v w', (Builtin.copy_ #[t, t2] ty #[.slice (some ⟨b, o, none⟩) dl dc, x0]).run P w = .ok v w' → K v w' → Hd P n ⟨dst, .call ⟨.builtin .copy, #[x, y], #[t, t2]⟩, ty, pos, af, gd⟩ τ w K := by
    intro v w' hr hk
    refine Hd.value (v := v) (w' := w') ?_ hk
    simp [execOp, resolve, invoke, builtin, hx, hy, hr]
  have s1 := s.take hd
  obtain ⟨hln, X, c2, rfl, hmc, hS⟩ := hsrc
  obtain ⟨b2, o2, rfl, hcell⟩ := hS.resolve_left (by omega)
  obtain ⟨hlx, ⟨A, he, hk0, s2⟩ | ⟨g, cap, cur, he, s2, hnc, hcm, hcs, htake⟩⟩ := s1.ownOpen
  · omega
  · cases he
    rw [Nat.mul_one] at hln hlx hcs htake
    have hrl : (news.take r).length = r := by rw [List.length_take, hln, hr]; exact Nat.min_eq_left (Nat.min_le_left _ _)
    have hrun := run_copy_row (P := P) w t t2 ty e b o dl dc ⟨b2, o2, none⟩ m c2 cur e (news.take r) ht hz s2.block (by rw [hrl, hr]) (fun j v hv => by
      rw [add_lit]
      rw [List.getElem?_take] at hv
      split at hv
      · exact hcell j v hv
      · cases hv) (by rw [hrl]; omega) h1
    have hov : (cur.toList.take o ++ news.take r ++ cur.toList.drop (o + (news.take r).length)).toArray = SL.over cur o (news.take r) := rfl
    rw [hov, hrl] at hrun
    refine go _ _ hrun (h _ (show St p _ (Own e 1 _ k _ :: H') from (s2.over o (news.take r)).ownNew (sz := 1) (xs := xs.take o ++ news.take r ++ xs.drop (o + r)) hnc hcm ?_ ?_))
    · simp only [SL.over, List.size_toArray, List.length_append, List.length_drop, Array.length_toList, hrl]
      rw [List.length_take, Array.length_toList]
      omega
    · rw [Nat.mul_one]
      have := over_take (n := k) htake (by rw [hrl]; exact ho) (by omega)
      rw [hrl] at this
      exact this
/-- noughts put behind, where there is no room: a new row -/
theorem H.appendZeros {x y : Operand} {t tn e : TypeId} {kn kq : IntKind} {z : Value} {sz bytes b k c m : Nat} {xs : List Value} (ht : P.underlying t = some (.slice e)) (htn : P.underlying tn = some (.int kn)) (hi : (P.info? e).map (fun i => (i.zero, i.size, i.bytes)) = some (some z, sz, bytes)) (hzs : z.cells.size = sz) (hsz : 0 < sz)
    (hx : (Act.eval (AF n τ)) x = .slice (some ⟨b, 0, none⟩) k c) (hy : (Act.eval (AF n τ)) y = .int kq m) (s : St p w HH) (hsrc : Src w sz (.slice (some ⟨b, 0, none⟩) k c) k xs) (hm : 0 < m) (hno : c < k + m) (hfit : (k + m) * bytes ≤ 140737488355328) (h63 : k + m ≤ maxLen)
    (h : ∀ g c2 w', St p w' (Own e sz (.slice (some ⟨g, 0, none⟩) (k + m) c2) (k + m) (xs ++ (Builtin.zeroCells z.cells m).toList) :: HH) → K (.slice (some ⟨g, 0, none⟩) (k + m) c2) w') : Hd P n ⟨dst, .call ⟨.builtin .append, #[x, y], #[t, tn]⟩, ty, pos, af, gd⟩ τ w K := by
  obtain ⟨i, hq, hz0, hz1, hz2⟩ := info_parts hi
  subst hz1; subst hz2
  obtain ⟨hl, X, c2, he, hkc, hS⟩ := hsrc
  cases he
  have hold : (Builtin.firstCells i.size k (.slice (some ⟨b, 0, none⟩) k c)).run P w.drew = .ok xs.toArray w.drew := by
    have hc : ∀ j v, xs[j]? = some v → w.drew.cell? ((⟨b, 0, none⟩ : Addr).add j) = some v := fun j v hv => by
      rw [add_lit]
      rcases hS with h0 | ⟨b', o', hX, hcell⟩
      · subst h0
        have : xs = [] := List.eq_nil_of_length_eq_zero (by simpa using hl)
        subst this; simp at hv
      · cases hX; exact hcell j v hv
    have := run_loadCells_list (P := P) w.drew ⟨b, 0, none⟩ xs hc
    rw [hl] at this
    simpa [Builtin.firstCells] using this
  have h63' : ((k + m : Nat) : Int) ≤ 9223372036854775807 := by simp only [maxLen] at h63; omega
  have hmb : m * i.bytes ≤ (k + m) * i.bytes := Nat.mul_le_mul_right _ (by omega)
  have hr := Lib.run_append_grow_zeros (P := P) w t tn ty e i z kq kn ht htn hq hz0 (some ⟨b, 0, none⟩) k c xs hold m hm hsz (by omega) h63' (by omega) (growslice_fits (by omega) hfit)
  have go : ∀ v w', (Builtin.append_ #[t, tn] ty #[.slice (some ⟨b, 0, none⟩) k c, .int kq m]).run P w = .ok v w' → K v w' → Hd P n ⟨dst, .call ⟨.builtin .append, #[x, y], #[t, tn]⟩, ty, pos, af, gd⟩ τ w K := by
    intro v w' hr hk
    refine Hd.value (v := v) (w' := w') ?_ hk
    simp [execOp, resolve, invoke, builtin, hx, hy, hr]
  refine go _ _ hr ?_
  refine h _ _ _ ?_
  have s3 := (s.drew).alloc (.cells (xs.toArray ++ Builtin.zeroCells z.cells m ++ Builtin.zeroCells z.cells (grownCap w (k + m) c e - (k + m))) e)
  have hge := grownCap_ge w (k + m) c e
  have hcm : grownCap w (k + m) c e ≤ maxLen := grownCap_le_maxLen w (k + m) c e h63
  have hlen : (xs ++ (Builtin.zeroCells z.cells m).toList).length = (k + m) * i.size := by rw [List.length_append, hl, Array.length_toList, size_zeroCells, hzs, Nat.add_mul]
  refine s3.ownNew hge hcm ?_ ?_
  · simp only [Array.size_append, List.size_toArray, size_zeroCells, hzs, hl, ← Nat.add_mul]
    congr 1
    omega
  · simp only [Array.toList_append, List.append_assoc]
    rw [← List.append_assoc, ← hlen]
    exact List.take_left
end
end Go.SL
namespace Go.SL
open Go.RowKit
section
variable {P : Program} {n : Nat} {τ : Fr} {w : World} {dst : Option Tmp} {ty : TypeId} {pos : String} {af : Array Edge} {gd : Option (Nat × Bool)} {K : Value → World → Prop} {p : Pers} {H HH H' : List Assn}
theorem H.extern0 {k : FuncId} {xs : Array Operand} {ts : Array TypeId} {as : Array Value} {v : Value} (ha : xs.map (Act.eval (AF n τ)) = as) (hr : (callFunc k as).run P w = .ok (.value v) w) (h : K v w) : Hd P n ⟨dst, .call ⟨.value (.func k), xs, ts⟩, ty, pos, af, gd⟩ τ w K := by
  refine Hd.value (v := v) (w' := w) ?_ h
  have hf : (Act.eval (AF n τ)) (.func k) = .func (.func k) #[] #[] := rfl
  simp [execOp, resolve, hf, Deferred.ofValue, invoke, ha, hr]
theorem St.apart {a b : Nat} {x y : Obj} (s : St p w (pt a x :: pt b y :: H)) : a ≠ b := by
  rintro rfl
  obtain ⟨h, ⟨h1, h2, d, _, rfl, h3, h4, d2, rfl, rfl, _⟩, _⟩ := s
  have := d a
  simp [uni] at this
theorem overlaps_off {k : FuncId} {fn : Func} {tS tR e : TypeId} {vb b o m vc lb cb n2 c : Nat} {cs : Array Value} {e2 : TypeId} {xs : List Value} (hf : P.funcs[k]? = some fn) (hname : (fn.name == "runtime.NumGoroutine") = false) (hb : fn.body.isNone = true) (hn : Extern.findNext fn = none)
    (he : Extern.find fn = some (Extern.SlicesOverlaps.overlaps #[tS, tS] #[tR])) (ht : P.underlying tS = some (.slice e)) (hz : ∀ w, (Go.sizeOf e).run P w = .ok 1 w)
    (s : St p w (pt vb (.cells cs e2) :: Own e 1 (.slice (some ⟨b, 0, none⟩) n2 c) n2 xs :: H)) (hn2 : 0 < n2) :
    (callFunc k #[.slice (some ⟨vb, 0, none⟩) m vc, .slice (some ⟨b, o, none⟩) lb cb]).run P w = .ok (.value (.bool false)) w := by
  have hA := s.block
  obtain ⟨_, ⟨A, he2, h0, _⟩ | ⟨g, cap, cur, he2, s2, hnc, hcm, hcs, hx⟩⟩ := (s.take (.there .here)).ownOpen
  · omega
  · cases he2
    have hB := s2.block
    have hne := (s2.take (.there .here)).apart
    rw [run_callFunc_extern hf hname hb hn he, Lib.run_overlaps_apart w tS tR e ht 1 hz ⟨vb, 0, none⟩ ⟨b, o, none⟩ m vc lb cb hne e2 e cs.size cur.size (by simp [World.shape?, hA]) (by simp [World.shape?, hB]) (by rw [hcs]; omega) (by simp [World.frozen?, hA]) (by simp [World.frozen?, hA])]
    rfl
end
end Go.SL
namespace Go.SL
open Go.RowKit
theorem retE {P : Program} {n : Nat} {τ : Fr} {w : World} {fn : Func} {R : Ending → World → Prop} (hr : fn.results = #[]) (hR : R (.returned (.tuple #[])) w) : bodyPost P fn R .normal (AF n τ) w := by
  refine ⟨rfl, .tuple #[], ?_, hR⟩
  simp [results_eq, hr]
theorem set_ne {α : Type} {l : List α} {i j : Nat} {a b : α} (hn : i ≠ j) (h : l[j]? = some a) : (l.set i b)[j]? = some a := by
  rw [List.getElem?_set_ne hn]; exact h
end Go.SL
namespace Go.SL
open Go.RowKit
theorem RD.skip {P : Program} {n : Nat} {ops : Array Oper} {soft : List Nat} {S : World → Prop} {Q : Exit → Fr → World → Prop} {f : Nat} {listed : Array Bool} {τ : Fr} {w : World} (i : Nat) {oi : Oper} (hi : ops[i]? = some oi) (hc : Region.ready .any ops listed = [i]) (hw : Wd n ops oi τ false) (hS : S w)
    (h : RD P n ops soft S Q f (listed.setIfInBounds i true) (upo τ oi.dst undef) w) : RD P n ops soft S Q (f + 1) listed τ w := by
  unfold RD wpC
  refine ⟨fun h => (by rw [hc] at h; cases h), fun j hj => ?_⟩
  rw [hc] at hj
  obtain rfl : j = i := by simpa using hj
  unfold wpOp
  simp only [hi]
  rw [if_neg (by rw [show Region.wanted oi (yielded ops (AF n τ).tmps) = false from hw]; decide)]
  refine ⟨fun _ => hS, ?_⟩
  rw [AF_put]; exact h
end Go.SL
