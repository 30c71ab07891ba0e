/- Keys, held: a row of rings, each with a row of versions of its own; and what the calls of the keyring do with them, plainly. -/
import Derived.Test.YtjpjejldinpcnaaK0
namespace Go.K13
open Go.RowKit Go.SL
set_option linter.unusedVariables false
set_option linter.unusedSimpArgs false
abbrev K32 := {l : List Int // l.length = 32}
def bk (m : K32) : List Value := bv m.1
theorem bk_len (m : K32) : (bk m).length = 32 := by rw [bk, bv_length]; exact m.2
theorem bk_size (m : K32) : (bk m).toArray.size = 32 := by rw [List.size_toArray]; exact bk_len m
theorem bk_one (m : K32) : ∀ u ∈ bk m, u.oneCell' = true := bv_one _
theorem bk_inj {a b : K32} (h : bk a = bk b) : a = b := by
  apply Subtype.ext
  have h' : a.1.map (Value.int .u8) = b.1.map (Value.int .u8) := h
  refine List.map_inj_right (f := Value.int .u8) ?_ |>.1 h'
  intro x y e; cases e; rfl
def kz : K32 := ⟨List.replicate 32 0, rfl⟩
def kc (a : Int) : K32 := ⟨a :: List.replicate 31 0, rfl⟩
/-- a version: its material (32 cells), how often it was used, whether it is gone -/
structure Ver where
  mat : K32
  uses : Int
  gone : Bool
instance : DecidableEq Ver := fun a b => decidable_of_iff (a.mat = b.mat ∧ a.uses = b.uses ∧ a.gone = b.gone) ⟨by cases a; cases b; rintro ⟨h1, h2, h3⟩; cases h1; cases h2; cases h3; rfl, by rintro rfl; exact ⟨rfl, rfl, rfl⟩⟩
def Ver.enc (v : Ver) : List Value := bk v.mat ++ [.int .i64 v.uses, .bool v.gone]
theorem Ver.enc_len (v : Ver) : v.enc.length = 34 := by simp [Ver.enc, bk_len]
theorem Ver.enc_size (v : Ver) : v.enc.toArray.size = 34 := by rw [List.size_toArray]; exact v.enc_len
theorem Ver.at_uses (v : Ver) : v.enc[32]? = some (.int .i64 v.uses) := by
  rw [Ver.enc, List.getElem?_append_right (by rw [bk_len]; omega), bk_len]; rfl
theorem Ver.at_gone (v : Ver) : v.enc[33]? = some (.bool v.gone) := by
  rw [Ver.enc, List.getElem?_append_right (by rw [bk_len]; omega), bk_len]; rfl
theorem Ver.at_mat (v : Ver) {j : Nat} {u : Value} (h : (bk v.mat)[j]? = some u) : v.enc[j]? = some u := by
  have hj := (List.getElem?_eq_some_iff.1 h).1
  rw [Ver.enc, List.getElem?_append_left hj]; exact h
theorem Ver.one (v : Ver) : ∀ u ∈ v.enc, u.oneCell' = true := by
  intro u hu
  rw [Ver.enc, List.mem_append] at hu
  rcases hu with h | h
  · exact bk_one _ u h
  · simp at h; rcases h with rfl | rfl <;> rfl
theorem Ver.ones (l : List Ver) : ∀ u ∈ l.flatMap Ver.enc, u.oneCell' = true := by
  intro u hu
  obtain ⟨a, _, h⟩ := List.mem_flatMap.1 hu
  exact a.one u h
theorem Ver.enc_inj {a b : Ver} (h : a.enc = b.enc) : a = b := by
  obtain ⟨h1, h2⟩ := List.append_inj h (by rw [bk_len, bk_len])
  have := bk_inj h1
  cases a; cases b
  simp at h2
  simp_all
theorem Ver.set_uses (v : Ver) (n : Int) : (⟨v.mat, n, v.gone⟩ : Ver).enc = v.enc.take 32 ++ [.int .i64 n] ++ v.enc.drop (32 + 1) := by
  have := bk_len v.mat
  simp only [Ver.enc]
  rw [List.take_append_of_le_length (by omega), List.take_of_length_le (by omega), List.drop_append, List.drop_of_length_le (by omega), this]
  simp
theorem Ver.set_gone (v : Ver) (g : Bool) : (⟨v.mat, v.uses, g⟩ : Ver).enc = v.enc.take 33 ++ [.bool g] ++ v.enc.drop (33 + 1) := by
  have := bk_len v.mat
  simp only [Ver.enc]
  rw [List.take_append, List.take_of_length_le (by omega), List.drop_append, List.drop_of_length_le (by omega), this]
  simp
theorem Ver.set_mat (v : Ver) (m : K32) : (⟨m, v.uses, v.gone⟩ : Ver).enc = v.enc.take 0 ++ bk m ++ v.enc.drop (0 + 32) := by
  have := bk_len v.mat
  simp only [Ver.enc]
  rw [List.drop_append, List.drop_of_length_le (by omega), this]
  simp
theorem Ver.set_all (v v' : Ver) : v'.enc = v.enc.take 0 ++ v'.enc ++ v.enc.drop (0 + 34) := by
  rw [List.drop_of_length_le (by rw [v.enc_len]; omega)]; simp
structure RingM where
  off : Bool
  X : Option Addr
  c : Nat
  vers : List Ver
def RingM.enc (r : RingM) : List Value := [.bool r.off, .slice r.X r.vers.length r.c]
def RingM.view (r : RingM) : Bool × List Ver := (r.off, r.vers)
theorem RingM.enc_len (r : RingM) : r.enc.length = 2 := rfl
theorem RingM.ones (l : List RingM) : ∀ u ∈ l.flatMap RingM.enc, u.oneCell' = true := by
  intro u hu
  obtain ⟨a, _, h⟩ := List.mem_flatMap.1 hu
  simp [RingM.enc] at h; rcases h with rfl | rfl <;> rfl
abbrev RK := List (Bool × List Ver)
def vrow (X : Option Addr) (c : Nat) (vs : List Ver) : Assn := Own 105 34 (.slice X vs.length c) vs.length (vs.flatMap Ver.enc)
def RowOf (r : RingM) : Assn := vrow r.X r.c r.vers
/-- a row of rings -/
def RowsV (v : Value) (ks : RK) : Assn := fun h => ∃ rs : List RingM, rs.map RingM.view = ks ∧ all (Own 108 2 v ks.length (rs.flatMap RingM.enc) :: rs.map RowOf) h
def VOk (x : Ver) : Prop := 0 ≤ x.uses ∧ x.uses ≤ 16
def ROk (vs : List Ver) : Prop := 1 ≤ vs.length ∧ vs.length ≤ 4 ∧ ∀ x ∈ vs, VOk x
def KOk (ks : RK) : Prop := ks.length ≤ 8 ∧ ∀ r ∈ ks, ROk r.2
/-- keys behind a pointer to a struct of type e -/
def KeysV (e : Nat) (b : Nat) (ks : RK) : Assn := fun h => KOk ks ∧ ∃ v, all [pt b (.cells #[v] e), RowsV v ks] h
section
variable {p : Pers} {w : World} {R : List Assn} {e b : Nat} {ks : RK}
theorem rowsOpen {v : Value} (s : St p w (RowsV v ks :: R)) : ∃ (rs : List RingM) (X : Option Addr) (c : Nat), v = .slice X ks.length c ∧ rs.map RingM.view = ks ∧ ks.length ≤ c ∧ c ≤ maxLen ∧ (0 < ks.length → ∃ g, X = some ⟨g, 0, none⟩) ∧
    St p w (Own 108 2 (.slice X ks.length c) ks.length (rs.flatMap RingM.enc) :: (rs.map RowOf ++ R)) := by
  obtain ⟨rs, s⟩ := St.ex (A := fun (rs : List RingM) h => rs.map RingM.view = ks ∧ all (Own 108 2 v ks.length (rs.flatMap RingM.enc) :: rs.map RowOf) h) s
  obtain ⟨h1, s⟩ := St.iff (c := rs.map RingM.view = ks) s
  have s1 := s.split
  obtain ⟨X, c, rfl, hc, hm, _, hX⟩ := s1.shape
  exact ⟨rs, X, c, rfl, h1, hc, hm, hX, s1⟩
theorem rowsClose {v : Value} {rs : List RingM} (h1 : rs.map RingM.view = ks) (s : St p w (Own 108 2 v ks.length (rs.flatMap RingM.enc) :: (rs.map RowOf ++ R))) : St p w (RowsV v ks :: R) :=
  (St.join (l := Own 108 2 v ks.length (rs.flatMap RingM.enc) :: rs.map RowOf) s).weaken fun x hx => ⟨rs, h1, hx⟩
theorem keysMake {v : Value} (hk : KOk ks) (s : St p w (pt b (.cells #[v] e) :: RowsV v ks :: R)) : St p w (KeysV e b ks :: R) :=
  (St.join (l := [pt b (.cells #[v] e), RowsV v ks]) s).weaken fun x hx => ⟨hk, v, hx⟩
theorem keysApart (s : St p w (KeysV e b ks :: R)) : KOk ks ∧ ∃ X c, ks.length ≤ c ∧ c ≤ maxLen ∧ (0 < ks.length → ∃ g, X = some ⟨g, 0, none⟩) ∧ St p w (pt b (.cells #[.slice X ks.length c] e) :: RowsV (.slice X ks.length c) ks :: R) := by
  obtain ⟨h1, s⟩ := St.iff (c := KOk ks) (A := fun h => ∃ v, all [pt b (.cells #[v] e), RowsV v ks] h) s
  obtain ⟨v, s⟩ := St.ex (A := fun v h => all [pt b (.cells #[v] e), RowsV v ks] h) s
  have s := s.split
  obtain ⟨rs, X, c, rfl, hv, hc, hm, hX, s2⟩ := rowsOpen (s.take (.there .here))
  exact ⟨h1, X, c, hc, hm, hX, s⟩
/-- one ring's row, taken out -/
theorem rowTake {rs : List RingM} {i : Nat} {r : RingM} (h : rs[i]? = some r) : Del (RowOf r) (rs.map RowOf ++ R) (((rs.take i).map RowOf ++ (rs.drop (i + 1)).map RowOf) ++ R) := by
  have e1 : rs.map RowOf = (rs.take i).map RowOf ++ RowOf r :: (rs.drop (i + 1)).map RowOf := by
    conv => lhs; rw [cut_at h]
    simp
  rw [e1]
  exact (Del.mid _).before R
/-- .. and laid back, turned -/
theorem rowGive {rs : List RingM} {i : Nat} {r r' : RingM} (h : rs[i]? = some r) : Del (RowOf r') ((rs.set i r').map RowOf ++ R) (((rs.take i).map RowOf ++ (rs.drop (i + 1)).map RowOf) ++ R) := by
  obtain ⟨hi, _⟩ := List.getElem?_eq_some_iff.1 h
  have e1 : (rs.set i r').map RowOf = (rs.take i).map RowOf ++ RowOf r' :: (rs.drop (i + 1)).map RowOf := by
    rw [List.set_eq_take_append_cons_drop, if_pos hi]
    simp
  rw [e1]
  exact (Del.mid _).before R
theorem KOk.set (h : KOk ks) {i : Nat} {o : Bool} {vs : List Ver} (hv : ROk vs) : KOk (ks.set i (o, vs)) := by
  refine ⟨by rw [List.length_set]; exact h.1, fun r hr => ?_⟩
  rcases List.mem_or_eq_of_mem_set hr with h1 | rfl
  · exact h.2 r h1
  · exact hv
theorem ROk.set {vs : List Ver} (h : ROk vs) {i : Nat} {x : Ver} (hx : VOk x) : ROk (vs.set i x) := by
  refine ⟨by rw [List.length_set]; exact h.1, by rw [List.length_set]; exact h.2.1, fun r hr => ?_⟩
  rcases List.mem_or_eq_of_mem_set hr with h1 | rfl
  · exact h.2.2 r h1
  · exact hx
/-- one ring of a row of rings, laid open -/
theorem ringOpen {v : Value} {i : Nat} {o : Bool} {vs : List Ver} (s : St p w (RowsV v ks :: R)) (hk : ks[i]? = some (o, vs)) : ∃ (rs : List RingM) (g c : Nat) (Y : Option Addr) (d : Nat) (l : List Assn), v = .slice (some ⟨g, 0, none⟩) ks.length c ∧ ks.length ≤ c ∧ c ≤ maxLen ∧
    vs.length ≤ d ∧ d ≤ maxLen ∧ (0 < vs.length → ∃ gr, Y = some ⟨gr, 0, none⟩) ∧ rs[i]? = some ⟨o, Y, d, vs⟩ ∧
    St p w (Own 108 2 (.slice (some ⟨g, 0, none⟩) ks.length c) ks.length (rs.flatMap RingM.enc) :: vrow Y d vs :: (l ++ R)) ∧
    (∀ {q : Pers} {w' : World} {R' : List Assn}, St q w' (Own 108 2 (.slice (some ⟨g, 0, none⟩) ks.length c) ks.length (rs.flatMap RingM.enc) :: vrow Y d vs :: (l ++ R')) → St q w' (RowsV (.slice (some ⟨g, 0, none⟩) ks.length c) ks :: R')) ∧
    (∀ {q : Pers} {w' : World} {R' : List Assn} {o' : Bool} {Y' : Option Addr} {d' : Nat} {vs' : List Ver}, St q w' (Own 108 2 (.slice (some ⟨g, 0, none⟩) ks.length c) ks.length ((rs.set i ⟨o', Y', d', vs'⟩).flatMap RingM.enc) :: vrow Y' d' vs' :: (l ++ R')) → St q w' (RowsV (.slice (some ⟨g, 0, none⟩) ks.length c) (ks.set i (o', vs')) :: R')) := by
  obtain ⟨rs, X, c, rfl, hv, hc, hm, hX, s⟩ := rowsOpen s
  have hi : i < ks.length := (List.getElem?_eq_some_iff.1 hk).1
  obtain ⟨g, rfl⟩ := hX (by omega)
  rw [← hv, List.getElem?_map, Option.map_eq_some_iff] at hk
  obtain ⟨⟨o1, Y, d, vs1⟩, hr, he⟩ := hk
  cases he
  have s1 := s.take (Del.there (rowTake hr))
  obtain ⟨Y', d', he, hd, hdm, _, hY⟩ := St.shape (e := 105) (sz := 34) (show St p w (Own 105 34 (.slice Y vs1.length d) vs1.length (vs1.flatMap Ver.enc) :: _) from s1)
  cases he
  refine ⟨rs, g, c, Y, d, _, rfl, hc, hm, hd, hdm, hY, hr, s1.take (.there .here), fun s2 => ?_, fun {q w' R' o' Y' d' vs'} s2 => ?_⟩
  · exact rowsClose hv ((s2.take (.there .here)).give (Del.there (rowTake hr)))
  · refine rowsClose (rs := rs.set i ⟨o', Y', d', vs'⟩) (by rw [map_set_at, hv]; rfl) ?_
    have s3 := (s2.take (.there .here)).give (Del.there (show Del (vrow Y' d' vs') _ _ from rowGive (r' := ⟨o', Y', d', vs'⟩) hr))
    rwa [List.length_set]
theorem flat_same {α : Type} {f : α → List Value} {l : List α} {i : Nat} {a a' : α} (h : l[i]? = some a) (he : f a' = f a) : (l.set i a').flatMap f = l.flatMap f := by
  obtain ⟨hi, _⟩ := List.getElem?_eq_some_iff.1 h
  have e1 : l.flatMap f = (l.take i).flatMap f ++ (f a ++ (l.drop (i + 1)).flatMap f) := by
    conv => lhs; rw [cut_at h]
    simp
  rw [e1, List.set_eq_take_append_cons_drop, if_pos hi]; simp [he]
/-- one ring of keys, laid open -/
theorem keyOpen {i : Nat} {o : Bool} {vs : List Ver} (s : St p w (KeysV e b ks :: R)) (hk : ks[i]? = some (o, vs)) : ∃ (rs : List RingM) (g c gr d : Nat) (R' : List Assn), KOk ks ∧ ROk vs ∧ ks.length ≤ c ∧ c ≤ maxLen ∧ vs.length ≤ d ∧ d ≤ maxLen ∧ rs[i]? = some ⟨o, some ⟨gr, 0, none⟩, d, vs⟩ ∧
    St p w (pt b (.cells #[.slice (some ⟨g, 0, none⟩) ks.length c] e) :: Own 108 2 (.slice (some ⟨g, 0, none⟩) ks.length c) ks.length (rs.flatMap RingM.enc) :: Own 105 34 (.slice (some ⟨gr, 0, none⟩) vs.length d) vs.length (vs.flatMap Ver.enc) :: R') ∧
    (∀ {q : Pers} {w' : World}, St q w' (pt b (.cells #[.slice (some ⟨g, 0, none⟩) ks.length c] e) :: Own 108 2 (.slice (some ⟨g, 0, none⟩) ks.length c) ks.length (rs.flatMap RingM.enc) :: Own 105 34 (.slice (some ⟨gr, 0, none⟩) vs.length d) vs.length (vs.flatMap Ver.enc) :: R') → St q w' (KeysV e b ks :: R)) ∧
    (∀ {q : Pers} {w' : World} {o' : Bool} {Y' : Option Addr} {d' : Nat} {vs' : List Ver}, ROk vs' → St q w' (pt b (.cells #[.slice (some ⟨g, 0, none⟩) ks.length c] e) :: Own 108 2 (.slice (some ⟨g, 0, none⟩) ks.length c) ks.length ((rs.set i ⟨o', Y', d', vs'⟩).flatMap RingM.enc) :: Own 105 34 (.slice Y' vs'.length d') vs'.length (vs'.flatMap Ver.enc) :: R') → St q w' (KeysV e b (ks.set i (o', vs')) :: R)) ∧
    (∀ {q : Pers} {w' : World} {vs' : List Ver}, vs'.length = vs.length → ROk vs' → St q w' (pt b (.cells #[.slice (some ⟨g, 0, none⟩) ks.length c] e) :: Own 108 2 (.slice (some ⟨g, 0, none⟩) ks.length c) ks.length (rs.flatMap RingM.enc) :: Own 105 34 (.slice (some ⟨gr, 0, none⟩) vs.length d) vs.length (vs'.flatMap Ver.enc) :: R') → St q w' (KeysV e b (ks.set i (o, vs')) :: R)) := by
  obtain ⟨hko, X0, c0, _, _, _, s⟩ := keysApart s
  have hro : ROk vs := hko.2 _ (List.mem_of_getElem? hk)
  obtain ⟨rs, g, c, Y, d, l, he, hc, hm, hd, hdm, hY, hr, s1, same, turn⟩ := ringOpen (s.take (.there .here)) hk
  cases he
  obtain ⟨gr, rfl⟩ := hY hro.1
  refine ⟨rs, g, _, gr, d, l ++ R, hko, hro, hc, hm, hd, hdm, hr, s1.take (.there (.there (Del.mid l))), fun s2 => ?_, fun hv s2 => ?_, fun {q w' vs'} hl hv s2 => ?_⟩
  · exact keysMake hko ((same (s2.give (.there (.there (Del.mid l))))).take (.there .here))
  · exact keysMake (hko.set hv) ((turn (s2.give (.there (.there (Del.mid l))))).take (.there .here))
  · have s3 := s2.give (.there (.there (Del.mid l)))
    rw [← flat_same (a' := ⟨o, some ⟨gr, 0, none⟩, d, vs'⟩) hr (by simp only [RingM.enc, hl]), ← hl] at s3
    exact keysMake (hko.set hv) ((turn (o' := o) s3).take (.there .here))
/-- one more ring -/
theorem rowsMore {rs : List RingM} {v : Value} {o : Bool} {Y : Option Addr} {d : Nat} {vs : List Ver} (hv : rs.map RingM.view = ks) (s : St p w (Own 108 2 v (ks.length + 1) (rs.flatMap RingM.enc ++ [.bool o, .slice Y vs.length d]) :: vrow Y d vs :: (rs.map RowOf ++ R))) : St p w (RowsV v (ks ++ [(o, vs)]) :: R) := by
  refine rowsClose (rs := rs ++ [⟨o, Y, d, vs⟩]) (by rw [List.map_append, hv]; rfl) ?_
  rw [List.flatMap_append, List.map_append, List.length_append]
  have hd : Del (vrow Y d vs) ((rs.map RowOf ++ [RowOf ⟨o, Y, d, vs⟩]) ++ R) (rs.map RowOf ++ R) := by
    have h1 : Del (RowOf ⟨o, Y, d, vs⟩) (rs.map RowOf ++ RowOf ⟨o, Y, d, vs⟩ :: R) (rs.map RowOf ++ R) := Del.mid _
    rw [List.append_assoc]; exact h1
  have s1 := (s.take (.there .here)).give (Del.there hd)
  simpa [RingM.enc] using s1
theorem keysWide (s : St p w (KeysV e b ks :: R)) : ∃ (rs : List RingM) (X : Option Addr) (c : Nat) (R' : List Assn), KOk ks ∧ ks.length ≤ c ∧ c ≤ maxLen ∧ (0 < ks.length → ∃ g, X = some ⟨g, 0, none⟩) ∧
    St p w (pt b (.cells #[.slice X ks.length c] e) :: Own 108 2 (.slice X ks.length c) ks.length (rs.flatMap RingM.enc) :: R') ∧
    (∀ {q : Pers} {w' : World}, St q w' (pt b (.cells #[.slice X ks.length c] e) :: Own 108 2 (.slice X ks.length c) ks.length (rs.flatMap RingM.enc) :: R') → St q w' (KeysV e b ks :: R)) ∧
    (∀ {q : Pers} {w' : World} {v : Value} {o : Bool} {Y : Option Addr} {d : Nat} {vs : List Ver}, KOk (ks ++ [(o, vs)]) → St q w' (pt b (.cells #[v] e) :: Own 108 2 v (ks.length + 1) (rs.flatMap RingM.enc ++ [.bool o, .slice Y vs.length d]) :: Own 105 34 (.slice Y vs.length d) vs.length (vs.flatMap Ver.enc) :: R') → St q w' (KeysV e b (ks ++ [(o, vs)]) :: R)) := by
  obtain ⟨hko, X0, c0, _, _, _, s⟩ := keysApart s
  obtain ⟨rs, X, c, he, hv, hc, hm, hX, s⟩ := rowsOpen (s.take (.there .here))
  cases he
  refine ⟨rs, _, _, rs.map RowOf ++ R, hko, hc, hm, hX, s.take (.there (Del.mid _)), fun s2 => ?_, fun hk s2 => ?_⟩
  · exact keysMake hko ((rowsClose hv (s2.give (.there (Del.mid _)))).take (.there .here))
  · exact keysMake hk ((rowsMore hv (s2.give (.there (.there (Del.mid _))))).take (.there .here))
end
end Go.K13
