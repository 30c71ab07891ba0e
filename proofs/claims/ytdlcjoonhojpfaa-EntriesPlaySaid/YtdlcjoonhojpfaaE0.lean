/- A log of entries: what is held, and what its calls answer, by plain lists. -/
import Derived.Test.YtdlcjoonhojpfaaSL6
namespace Go.SL
open Go.RowKit
set_option linter.unusedVariables false
set_option linter.unusedSimpArgs false
section
variable {P : Program} {p q : Pers} {w : World} {H R : List Assn} {A : Assn} {sz m n c : Nat} {x : Value} {xs : List Value} {e : TypeId} {X : Option Addr}
section
variable {ops : Array Oper} {soft : List Nat} {S : World → Prop} {Q : Exit → Fr → World → Prop} {f : Nat} {listed : Array Bool} {τ : Fr} {n : Nat}
/-- number i alone may come up, and is passed over -/
theorem RD.skip (i : Nat) {oi : Oper} (hi : ops[i]? = some oi) (hc : Region.ready .any ops listed = [i]) (hw : Wd n ops oi τ false) (hS : S w) (h : RD P n ops soft S Q f (listed.setIfInBounds i true) (upo τ oi.dst undef) w) : RD P n ops soft S Q (f + 1) listed τ w := by
  unfold RD wpC
  refine ⟨fun h => (by rw [hc] at h; cases h), fun j hj => ?_⟩
  rw [hc] at hj
  obtain rfl : j = i := by simpa using hj
  unfold wpOp
  simp only [hi]
  have hw' : Region.wanted oi (yielded ops (AF n τ).tmps) = false := hw
  rw [hw', if_neg (by simp)]
  refine ⟨fun _ => hS, ?_⟩
  rw [AF_put]; exact h
end
theorem H.append2 {n : Nat} {τ : Fr} {dst : Option Tmp} {ty : TypeId} {pos : String} {af : Array Edge} {gd : Option (Nat × Bool)} {K : Value → World → Prop} {H' : List Assn} {x y : Operand} {t : TypeId} {z : Value} {bytes : Nat} {s0 x0 : Value} {k : Nat} {news : List Value} {n2 : Nat} {xs2 : List Value} (hn2 : k + m = n2) (hx2 : xs ++ news = xs2) (ht : P.underlying t = some (.slice e))
    (hi : (P.info? e).map (fun i => (i.zero, i.size, i.bytes)) = some (some z, sz, bytes)) (hzs : z.cells.size = sz) (hx : (Act.eval (AF n τ)) x = s0) (hy : (Act.eval (AF n τ)) y = x0)
    (s : St p w H) (hd : Del (Own e sz s0 k xs) H H') (hsrc : Src w sz x0 m news) (h1 : ∀ u ∈ news, u.oneCell' = true) (hfit : (k + m) * bytes ≤ 140737488355328) (h63 : k + m ≤ maxLen)
    (h : ∀ v w', (isNil v = true ↔ isNil s0 = true ∧ m = 0) → St p w' (Own e sz v n2 xs2 :: H') → K v w') : Hd P n ⟨dst, .call ⟨.builtin .append, #[x, y], #[t, t]⟩, ty, pos, af, gd⟩ τ w K := by
  subst hn2; subst hx2
  exact Go.SL.H.append ht hi hzs hx hy s hd hsrc h1 hfit h63 h
/-- an assertion that tells a slice's elements, now and later -/
def Tells (p : Pers) (A : Assn) (sz : Nat) (x : Value) (m : Nat) (xs : List Value) : Prop := ∀ q w H, p.le q → St q w (A :: H) → Src w sz x m xs
theorem Tells.le (h : Tells p A sz x m xs) (l : p.le q) : Tells q A sz x m xs := fun _ _ _ l2 s => h _ _ _ (l.trans l2) s
theorem Tells.src (h : Tells p A sz x m xs) (s : St p w (A :: H)) : Src w sz x m xs := h p w H p.le_refl s
theorem Own.tells : Tells p (Own e sz x n xs) sz x n xs := fun _ _ _ _ s => Own.src s
theorem Las.tells (l : Las p sz x n xs) : Tells p Emp sz x n xs := fun _ _ _ hl s => (l.le hl).src s
theorem Tells.place (h : Tells p A sz (.slice X m c) m xs) (s : St p w (A :: H)) (h0 : 0 < m) : ∃ b o, X = some ⟨b, o, none⟩ ∧ ∀ {q w H}, p.le q → St q w (A :: H) → ∀ j u, xs[j]? = some u → w.cell? ⟨b, o + j, none⟩ = some u := by
  obtain ⟨b, o, rfl⟩ := (h.src s).someOf h0
  refine ⟨b, o, rfl, fun {q w H} l s j u hu => ?_⟩
  obtain ⟨_, X', c', he, _, h1 | ⟨b', o', hX, hc⟩⟩ := h _ _ _ l s
  · omega
  · cases he; cases hX; exact hc j u hu
theorem Src.lower {k : Nat} {b o : Nat} (h : Src w sz (.slice (some ⟨b, o, none⟩) m c) m xs) (hk : k ≤ m) : Src w sz (.slice (some ⟨b, if k = c then o else o + k * sz, none⟩) (m - k) (c - k)) (m - k) (xs.drop (k * sz)) := by
  obtain ⟨hl, X', c', he, hc, h0⟩ := h
  cases he
  refine ⟨by rw [List.length_drop, hl, ← Nat.sub_mul], _, _, rfl, by omega, ?_⟩
  rcases Nat.eq_or_lt_of_le hk with e | e
  · exact .inl (by omega)
  · rcases h0 with h0 | ⟨b', o', hX, hcell⟩
    · exact .inl (by omega)
    · cases hX
      refine .inr ⟨b, o + k * sz, by rw [if_neg (by omega)], fun j u hu => ?_⟩
      rw [List.getElem?_drop] at hu
      rw [Nat.add_assoc]; exact hcell _ _ hu
def iv (ms : List Int) : List Value := ms.map (Value.int .i64)
theorem iv_one (ms : List Int) : ∀ u ∈ iv ms, u.oneCell' = true := by
  intro u hu; obtain ⟨n, _, rfl⟩ := List.mem_map.1 hu; rfl
theorem iv_length (ms : List Int) : (iv ms).length = ms.length := by simp [iv]
end
end Go.SL
namespace Go.E17
open Go.RowKit Go.SL
set_option linter.unusedVariables false
set_option linter.unusedSimpArgs false
/-- an entry, and where its parts lie -/
structure Ent where
  term : Int
  kind : Int
  X : Option Addr
  xc : Nat
  ns : List Int
  Y : Option Addr
  yc : Nat
  ms : List Int
def Ent.enc (x : Ent) : List Value := [.int .i64 x.term, .int .i64 x.kind, .slice x.X x.ns.length x.xc, .slice x.Y x.ms.length x.yc]
theorem Ent.enc_len (x : Ent) : x.enc.length = 4 := rfl
def Ent.view (x : Ent) : Int × Int × List Int × List Int := (x.term, x.kind, x.ns, x.ms)
def flat (es : List Ent) : List Value := es.flatMap Ent.enc
theorem flat_length (es : List Ent) : (flat es).length = es.length * 4 := flat_len Ent.enc_len es
theorem flat_one (es : List Ent) : ∀ u ∈ flat es, u.oneCell' = true := by
  intro u hu
  obtain ⟨x, _, hx⟩ := List.mem_flatMap.1 hu
  simp [Ent.enc] at hx
  rcases hx with rfl | rfl | rfl | rfl <;> rfl
theorem flat_append (a b : List Ent) : flat (a ++ b) = flat a ++ flat b := by simp [flat]
theorem flat_take : ∀ (es : List Ent) (k : Nat), (flat es).take (k * 4) = flat (es.take k)
  | [], k => by simp [flat]
  | x :: es, 0 => by simp [flat]
  | x :: es, k + 1 => by
    have := flat_take es k
    simp only [flat, List.flatMap_cons, List.take_succ_cons] at this ⊢
    rw [show (k + 1) * 4 = x.enc.length + k * 4 by rw [Ent.enc_len]; omega, List.take_append, Nat.add_sub_cancel_left, this, List.take_of_length_le (by omega)]
theorem flat_drop : ∀ (es : List Ent) (k : Nat), (flat es).drop (k * 4) = flat (es.drop k)
  | [], k => by simp [flat]
  | x :: es, 0 => by simp [flat]
  | x :: es, k + 1 => by
    have := flat_drop es k
    simp only [flat, List.flatMap_cons, List.drop_succ_cons] at this ⊢
    rw [show (k + 1) * 4 = x.enc.length + k * 4 by rw [Ent.enc_len]; omega, List.drop_append, Nat.add_sub_cancel_left, this]
    simp
def EOk (p : Pers) (x : Ent) : Prop := Las p 1 (.slice x.X x.ns.length x.xc) x.ns.length (bv x.ns) ∧ Las p 1 (.slice x.Y x.ms.length x.yc) x.ms.length (iv x.ms) ∧ x.ns.length ≤ 1000000 ∧ x.ms.length ≤ 1000000
theorem EOk.le {p q : Pers} {x : Ent} (h : EOk p x) (l : p.le q) : EOk q x := ⟨h.1.le l, h.2.1.le l, h.2.2⟩
def EsOk (p : Pers) (es : List Ent) : Prop := ∀ x ∈ es, EOk p x
theorem EsOk.le {p q : Pers} {es : List Ent} (h : EsOk p es) (l : p.le q) : EsOk q es := fun x hx => (h x hx).le l
theorem EsOk.nil {p : Pers} : EsOk p [] := fun _ h => by cases h
theorem EsOk.take {p : Pers} {es : List Ent} (h : EsOk p es) (k : Nat) : EsOk p (es.take k) := fun x hx => h x (List.mem_of_mem_take hx)
theorem EsOk.drop {p : Pers} {es : List Ent} (h : EsOk p es) (k : Nat) : EsOk p (es.drop k) := fun x hx => h x (List.mem_of_mem_drop hx)
theorem EsOk.append {p : Pers} {a b : List Ent} (h : EsOk p a) (h2 : EsOk p b) : EsOk p (a ++ b) := fun x hx => (List.mem_append.1 hx).elim (h x) (h2 x)
def vs (es : List Ent) : List (Int × Int × List Int × List Int) := es.map Ent.view
def ts (es : List Ent) : List Int := es.map Ent.term
theorem ts_vs (es : List Ent) : ts es = (vs es).map (·.1) := by simp [ts, vs, Ent.view]
theorem ts_eq {a b : List Ent} (h : vs a = vs b) : ts a = ts b := by rw [ts_vs, ts_vs, h]
theorem vs_len {a b : List Ent} (h : vs a = vs b) : a.length = b.length := by have := congrArg List.length h; simpa [vs] using this
theorem ts_len (a : List Ent) : (ts a).length = a.length := by simp [ts]

/-! ### what the calls answer; T: the entries' terms -/
def termE (i : Int) (T : List Int) (k : Int) : Int := if k = i then 0 else if i < k ∧ k ≤ i + T.length then 0 else 170
def termT (i t : Int) (T : List Int) (k : Int) : Int := if k = i then t else if i < k ∧ k ≤ i + T.length then T.getD (k - (i + 1)).toNat 0 else 0
theorem termT_base {i t : Int} {T : List Int} : termT i t T i = t := by simp [termT]
theorem termE_base {i : Int} {T : List Int} : termE i T i = 0 := by simp [termE]
theorem termT_in {i t k : Int} {es : List Ent} {x : Ent} (h1 : i < k) (h2 : k ≤ i + es.length) (hx : es[(k - (i + 1)).toNat]? = some x) : termT i t (ts es) k = x.term := by
  unfold termT
  rw [if_neg (by omega), if_pos ⟨h1, by rw [ts_len]; exact h2⟩]
  simp [ts, List.getD, hx]
theorem termE_in {i k : Int} {es : List Ent} (h1 : i < k) (h2 : k ≤ i + es.length) : termE i (ts es) k = 0 := by
  unfold termE; rw [if_neg (by omega), if_pos ⟨h1, by rw [ts_len]; exact h2⟩]
theorem termT_out {i t k : Int} {es : List Ent} (h0 : k ≠ i) (h : ¬ (i < k ∧ k ≤ i + es.length)) : termT i t (ts es) k = 0 := by
  unfold termT; rw [if_neg h0, if_neg (by rw [ts_len]; exact h)]
theorem termE_out {i k : Int} {es : List Ent} (h0 : k ≠ i) (h : ¬ (i < k ∧ k ≤ i + es.length)) : termE i (ts es) k = 170 := by
  unfold termE; rw [if_neg h0, if_neg (by rw [ts_len]; exact h)]
/-- is an entry of term u, at index k, another one than what stands there? -/
def stopB (i t : Int) (T : List Int) (k u : Int) : Bool := decide (k > i) && (termE i T k != 0 || termT i t T k != u)
def findJ (i t : Int) (T : List Int) (idx : Int) : List Int → Int → Int
  | [], _ => -1
  | u :: l, n => if stopB i t T (idx + n + 1) u then n else findJ i t T idx l (n + 1)
def back (T : List Int) (u : Int) : Nat → Nat
  | 0 => 0
  | n + 1 => if T.getD n 0 = u then back T u n else n + 1
def clash (i t : Int) (T : List Int) (idx tm : Int) : Bool := termE i T idx == 0 && termT i t T idx != tm
def joinA (i t : Int) (T : List Int) (idx tm : Int) (U : List Int) : Int :=
  if idx > i + T.length then i + T.length else if clash i t T idx tm then i + (back T (termT i t T idx) (idx - i).toNat : Nat) else idx + U.length
def joinF (i t : Int) (T : List Int) (idx tm : Int) (U : List Int) : Int :=
  if idx > i + T.length then 0 else if clash i t T idx tm then 0 else if findJ i t T idx U 0 < 0 then 0 else idx + findJ i t T idx U 0 + 1
def joinO (i t : Int) (T : List Int) (idx tm : Int) : Bool := if idx > i + T.length then false else if clash i t T idx tm then false else true
def joinL {α : Type} (i t : Int) (T : List Int) (idx tm : Int) (U : List Int) (a b : List α) : List α :=
  if idx > i + T.length then a else if clash i t T idx tm then a else if findJ i t T idx U 0 < 0 then a else a.take (idx + findJ i t T idx U 0 + 1 - (i + 1)).toNat ++ b.drop (findJ i t T idx U 0).toNat

/-- a log, held -/
def LogB (p : Pers) (b : Nat) (i t : Int) (es : List Ent) : Assn := fun h => ∃ v, ((0 ≤ i ∧ i ≤ 1099511627776) ∧ es.length ≤ 1000000 ∧ EsOk p es) ∧ all [pt b (.cells #[.int .i64 i, .int .i64 t, v] 122), Own 58 4 v es.length (flat es)] h
section
variable {p q : Pers} {w : World} {R : List Assn} {b : Nat} {i t : Int} {es : List Ent}
theorem logOpen (s : St p w (LogB p b i t es :: R)) : ∃ X c, (0 ≤ i ∧ i ≤ 1099511627776) ∧ es.length ≤ 1000000 ∧ EsOk p es ∧ es.length ≤ c ∧ (0 < es.length → ∃ g, X = some ⟨g, 0, none⟩) ∧
    St p w (pt b (.cells #[.int .i64 i, .int .i64 t, .slice X es.length c] 122) :: Own 58 4 (.slice X es.length c) es.length (flat es) :: R) := by
  obtain ⟨v, s⟩ := St.ex (A := fun v h => ((0 ≤ i ∧ i ≤ 1099511627776) ∧ es.length ≤ 1000000 ∧ EsOk p es) ∧ all [pt b (.cells #[.int .i64 i, .int .i64 t, v] 122), Own 58 4 v es.length (flat es)] h) s
  obtain ⟨⟨h1, h2, h3⟩, s⟩ := St.iff (c := (0 ≤ i ∧ i ≤ 1099511627776) ∧ es.length ≤ 1000000 ∧ EsOk p es) s
  have s1 := s.split
  obtain ⟨X, c, rfl, hc, _, _, hX⟩ := (s1.take (.there .here)).shape
  exact ⟨X, c, h1, h2, h3, hc, hX, s1⟩
theorem logClose {v : Value} (h1 : 0 ≤ i ∧ i ≤ 1099511627776) (h2 : es.length ≤ 1000000) (h3 : EsOk p es) (s : St p w (pt b (.cells #[.int .i64 i, .int .i64 t, v] 122) :: Own 58 4 v es.length (flat es) :: R)) : St p w (LogB p b i t es :: R) :=
  (St.join (l := [pt b (.cells #[.int .i64 i, .int .i64 t, v] 122), Own 58 4 v es.length (flat es)]) s).weaken fun x hx => ⟨v, ⟨h1, h2, h3⟩, hx⟩
theorem logLe (l : p.le q) (s : St q w (LogB p b i t es :: R)) : St q w (LogB q b i t es :: R) :=
  s.weaken fun x ⟨v, ⟨h1, h2, h3⟩, hx⟩ => ⟨v, ⟨h1, h2, h3.le l⟩, hx⟩
end
end Go.E17
