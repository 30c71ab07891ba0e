/- SHA-256 of the program and of the reference: one block. -/
import Derived.Test.YtifokhheojnipaaGreatDoorT2
import Derived.Test.YtifokhheojnipaaGreatDoorZ1
set_option linter.unusedVariables false
set_option linter.unusedSimpArgs false
set_option linter.unnecessarySimpa false
namespace Go.GX
open Go.RowKit Go.SL
set_option linter.unusedVariables false
set_option linter.unusedSimpArgs false
set_option maxRecDepth 8000
variable {α β : Type}
abbrev Wd := BitVec 32
def rot (x : Wd) (k : Nat) : Wd := (x >>> k) ||| (x <<< (32 - k))
theorem U204 (x : Wd) (k : Int) (h0 : 0 ≤ k) (h1 : k ≤ 32) : F204 (x, (k, ())) () = some ((rot x k.toNat, ()), ()) := by
  unfold F204 rot
  dsimp only
  have e : Go.SL.w64 (32 - k) = 32 - k := w64_id (by omega) (by omega)
  rw [gd_t h0, e, gd_t (by omega), show (32 - k).toNat = 32 - k.toNat by omega]
theorem U267 (x : Wd) (k : Int) (hk : k ∈ ([7, 18, 17, 19, 6, 11, 25, 2, 13, 22] : List Int)) : F267 (x, (k, ())) () = some ((rot x k.toNat, ()), ()) := by
  have e1 : BitVec.toNat (BitVec.ofInt 64 (Go.SL.w64 (0 - k)) &&& 31#64) = 32 - k.toNat ∧ BitVec.toNat (32#64 - (BitVec.ofInt 64 (Go.SL.w64 (0 - k)) &&& 31#64)) = k.toNat := by
    revert k; decide
  unfold F267 F269 rot
  dsimp only
  rw [bnd_s, e1.1, e1.2, BitVec.or_comm]
theorem ch_eq (e f g : Wd) : g ^^^ (e &&& (f ^^^ g)) = (e &&& f) ^^^ ((~~~e) &&& g) := by
  apply BitVec.eq_of_getLsbD_eq
  intro i hi
  simp only [BitVec.getLsbD_xor, BitVec.getLsbD_and, BitVec.getLsbD_not, hi, decide_true, Bool.true_and]
  cases e.getLsbD i <;> cases f.getLsbD i <;> cases g.getLsbD i <;> rfl
theorem maj_eq (a b c : Wd) : (a &&& b) ||| (c &&& (a ||| b)) = ((a &&& b) ^^^ (a &&& c)) ^^^ (b &&& c) := by
  apply BitVec.eq_of_getLsbD_eq
  intro i hi
  simp only [BitVec.getLsbD_xor, BitVec.getLsbD_and, BitVec.getLsbD_or]
  cases a.getLsbD i <;> cases b.getLsbD i <;> cases c.getLsbD i <;> rfl
theorem Tot.idxD {l : List α} {k : Nat} {f : α → Option β} {R : β → Prop} (d : α) (h : k < l.length) (g : Tot (f (l.getD k d)) R) : Tot (GX.bnd (l[k]?) f) R :=
  Tot.idx h fun a ha => by
    have : l.getD k d = a := by rw [List.getD_eq_getElem?_getD, ha]; rfl
    rw [← this]; exact g
def word (m : By) (i : Nat) : Wd := (((BitVec.setWidth 32 (m.getD (4 * i) 0#8) <<< 24) ||| (BitVec.setWidth 32 (m.getD (4 * i + 1) 0#8) <<< 16)) ||| (BitVec.setWidth 32 (m.getD (4 * i + 2) 0#8) <<< 8)) ||| BitVec.setWidth 32 (m.getD (4 * i + 3) 0#8)
def wnext (l : List Wd) (i : Nat) : Wd := ((((rot (l.getD (i - 2) 0#32) 17 ^^^ rot (l.getD (i - 2) 0#32) 19) ^^^ (l.getD (i - 2) 0#32 >>> 10)) + l.getD (i - 7) 0#32) + ((rot (l.getD (i - 15) 0#32) 7 ^^^ rot (l.getD (i - 15) 0#32) 18) ^^^ (l.getD (i - 15) 0#32 >>> 3))) + l.getD (i - 16) 0#32
def wsch (m : By) : Nat → List Wd
  | 0 => List.replicate 64 0#32
  | i + 1 => (wsch m i).set i (if i < 16 then word m i else wnext (wsch m i) i)
theorem wsch_len (m : By) : ∀ i, (wsch m i).length = 64
  | 0 => by simp [wsch]
  | i + 1 => by unfold wsch; rw [List.length_set]; exact wsch_len m i
def sT1 (K W : Wd) (s : List Wd) : Wd := (((s.getD 7 0#32 + ((rot (s.getD 4 0#32) 6 ^^^ rot (s.getD 4 0#32) 11) ^^^ rot (s.getD 4 0#32) 25)) + ((s.getD 4 0#32 &&& s.getD 5 0#32) ^^^ ((~~~(s.getD 4 0#32)) &&& s.getD 6 0#32))) + K) + W
def sT2 (s : List Wd) : Wd := ((rot (s.getD 0 0#32) 2 ^^^ rot (s.getD 0 0#32) 13) ^^^ rot (s.getD 0 0#32) 22) + (((s.getD 0 0#32 &&& s.getD 1 0#32) ^^^ (s.getD 0 0#32 &&& s.getD 2 0#32)) ^^^ (s.getD 1 0#32 &&& s.getD 2 0#32))
def rnd (K W : Wd) (s : List Wd) : List Wd := [sT1 K W s + sT2 s, s.getD 0 0#32, s.getD 1 0#32, s.getD 2 0#32, s.getD 3 0#32 + sT1 K W s, s.getD 4 0#32, s.getD 5 0#32, s.getD 6 0#32]
def rnds (K W h : List Wd) : Nat → List Wd
  | 0 => h
  | i + 1 => rnd (K.getD i 0#32) (W.getD i 0#32) (rnds K W h i)
theorem rnds_len (K W h : List Wd) (hh : h.length = 8) : ∀ i, (rnds K W h i).length = 8
  | 0 => hh
  | i + 1 => rfl
def addW (h s : List Wd) : List Wd := List.zipWith (· + ·) h s
def press (K h : List Wd) (m : By) : List Wd := addW h (rnds K (wsch m 64) h 64)
theorem press_len (K h : List Wd) (m : By) (hh : h.length = 8) : (press K h m).length = 8 := by
  unfold press addW; rw [List.length_zipWith, rnds_len _ _ _ hh, hh]; rfl
theorem list8 (s : List Wd) (h : s.length = 8) : s = [s.getD 0 0#32, s.getD 1 0#32, s.getD 2 0#32, s.getD 3 0#32, s.getD 4 0#32, s.getD 5 0#32, s.getD 6 0#32, s.getD 7 0#32] := by
  match s, h with
  | [a, b, c, d, e, f, g, i], _ => rfl
theorem put_step (a b : List Wd) (i : Nat) (ha : a.length = 8) (hb : b.length = 8) (hi : i < 8) (x : Wd) (hx : (addW a b)[i]? = some x) (c : List Wd) (hc : c.length = 8) :
    List.set ((addW a b).take i ++ c.drop i) i x = (addW a b).take (i + 1) ++ c.drop (i + 1) := by
  have hz : (addW a b).length = 8 := by unfold addW; rw [List.length_zipWith, ha, hb]; rfl
  have hl : ((addW a b).take i).length = i := by rw [List.length_take]; omega
  rw [List.set_append_right _ _ (by omega), hl, Nat.sub_self, List.take_add_one, hx]
  have : c.drop i = c[i] :: c.drop (i + 1) := List.drop_eq_getElem_cons (by omega)
  rw [this, List.set_cons_zero]
  simp
theorem addW_get (a b : List Wd) (i : Nat) (ha : a.length = 8) (hb : b.length = 8) (hi : i < 8) : (addW a b)[i]? = some (a.getD i 0#32 + b.getD i 0#32) := by
  unfold addW
  rw [List.getElem?_zipWith, List.getElem?_eq_getElem (show i < a.length by omega), List.getElem?_eq_getElem (show i < b.length by omega)]
  simp [List.getD_eq_getElem?_getD, List.getElem?_eq_getElem (show i < a.length by omega), List.getElem?_eq_getElem (show i < b.length by omega)]
theorem cur_get (a c : List Wd) (i : Nat) (ha : a.length = 8) (hc : c.length = 8) (hi : i < 8) : (a.take i ++ c.drop i).getD i 0#32 = c.getD i 0#32 ∧ (a.take i ++ c.drop i).length = 8 := by
  have hl : (a.take i).length = i := by rw [List.length_take]; omega
  refine ⟨?_, by rw [List.length_append, hl, List.length_drop]; omega⟩
  rw [List.getD_eq_getElem?_getD, List.getElem?_append_right (by omega), hl, Nat.sub_self, List.getElem?_drop, List.getD_eq_getElem?_getD]; rfl
theorem addW_comm (a b : List Wd) : addW a b = addW b a := by
  unfold addW
  rw [List.zipWith_comm]
  congr 1
  funext x y; exact BitVec.add_comm _ _
end Go.GX
namespace Go.GX
open Go.RowKit Go.SL
set_option linter.unusedVariables false
set_option linter.unusedSimpArgs false
set_option maxRecDepth 8000
theorem U254 (h : List Wd) (m : By) (hh : h.length = 8) (hm : m.length = 64) : F254 (h, (m, ())) () = some ((press shaAdd h m, ()), ()) := by
  refine Tot.get ?_
  unfold F254
  dsimp only
  refine Tot.count 64 (fun i v => v.1.1 = (i : Int) ∧ v.2.1 = wsch m i) ⟨rfl, rfl⟩ (by decide) ?_
  rintro i ⟨⟨t, ⟨⟩⟩, w, ⟨⟩⟩ hi ⟨ht, hw⟩ rec hrec
  dsimp only at ht hw ⊢
  subst ht
  subst hw
  have hwl := wsch_len m i
  refine Tot.brd (fun hlt => ?_) (fun hge => ?_)
  · have hi' : i < 64 := by omega
    refine Tot.brd (fun h16 => ?_) (fun h16 => ?_)
    · have e0 : Go.SL.w64 (4 * (i : Int)) = ((4 * i : Nat) : Int) := by rw [w64_id (by omega) (by omega)]; push_cast; rfl
      have e1 : Go.SL.w64 (((4 * i : Nat) : Int) + 1) = ((4 * i + 1 : Nat) : Int) := by rw [w64_id (by omega) (by omega)]; push_cast; rfl
      have e2 : Go.SL.w64 (((4 * i : Nat) : Int) + 2) = ((4 * i + 2 : Nat) : Int) := by rw [w64_id (by omega) (by omega)]; push_cast; rfl
      have e3 : Go.SL.w64 (((4 * i : Nat) : Int) + 3) = ((4 * i + 3 : Nat) : Int) := by rw [w64_id (by omega) (by omega)]; push_cast; rfl
      rw [e0, e1, e2, e3]
      simp only [Int.toNat_natCast]
      repeat' (first | refine Tot.gdT ?_ | refine Tot.gdE ?_ | refine Tot.gd (by omega) ?_ | refine Tot.idxD 0#8 (by omega) ?_)
      refine hrec hi' _ ⟨?_, ?_⟩
      · dsimp only; (first | decide | omega | (simp (disch := omega) only [w64_id, few, few9, List.length_set, List.length_append, List.length_take, List.length_drop, List.length_replicate, List.length_cons, List.length_nil, Int.toNat_natCast]; done) | (simp (disch := omega) only [w64_id, few, few9, List.length_set, List.length_append, List.length_take, List.length_drop, List.length_replicate, List.length_cons, List.length_nil, Int.toNat_natCast]; omega) | (simp [few, few9] <;> omega))
      · show _ = List.set (wsch m i) i _
        rw [if_pos (by omega)]; rfl
    · have e0 : Go.SL.w64 ((i : Int) - 15) = ((i - 15 : Nat) : Int) := by rw [w64_id (by omega) (by omega)]; omega
      have e1 : Go.SL.w64 ((i : Int) - 2) = ((i - 2 : Nat) : Int) := by rw [w64_id (by omega) (by omega)]; omega
      have e2 : Go.SL.w64 ((i : Int) - 16) = ((i - 16 : Nat) : Int) := by rw [w64_id (by omega) (by omega)]; omega
      have e3 : Go.SL.w64 ((i : Int) - 7) = ((i - 7 : Nat) : Int) := by rw [w64_id (by omega) (by omega)]; omega
      rw [e0, e1, e2, e3]
      simp only [Int.toNat_natCast]
      repeat' (first | refine Tot.gdT ?_ | refine Tot.gdE ?_ | refine Tot.gd (by omega) ?_ | refine Tot.idxD 0#32 (by omega) ?_)
      rw [U267 _ _ (by decide), bnd_s, U267 _ _ (by decide), bnd_s, U267 _ _ (by decide), bnd_s, U267 _ _ (by decide), bnd_s]
      repeat' (first | refine Tot.gdT ?_ | refine Tot.gdE ?_ | refine Tot.gd (by omega) ?_)
      refine hrec hi' _ ⟨?_, ?_⟩
      · dsimp only; (first | decide | omega | (simp (disch := omega) only [w64_id, few, few9, List.length_set, List.length_append, List.length_take, List.length_drop, List.length_replicate, List.length_cons, List.length_nil, Int.toNat_natCast]; done) | (simp (disch := omega) only [w64_id, few, few9, List.length_set, List.length_append, List.length_take, List.length_drop, List.length_replicate, List.length_cons, List.length_nil, Int.toNat_natCast]; omega) | (simp [few, few9] <;> omega))
      · show _ = List.set (wsch m i) i _
        rw [if_neg (by omega)]
        refine congrArg (List.set (wsch m i) i) ?_
        unfold wnext
        show ((_ + _) + ((rot _ 7 ^^^ rot _ 18) ^^^ _)) + ((rot _ 17 ^^^ rot _ 19) ^^^ _) = _
        ac_rfl
  · have him : i = 64 := by omega
    subst him
    repeat' (first | refine Tot.gdT ?_ | refine Tot.gdE ?_ | refine Tot.gd (by omega) ?_ | refine Tot.idxD 0#32 (by omega) ?_)
    have hsl : shaAdd.length = 64 := rfl
    refine Tot.count 64 (fun j v => v.1.1 = (j : Int) ∧ v.1.2 = (let s := rnds shaAdd (wsch m 64) h j; (s.getD 7 0#32, (s.getD 6 0#32, (s.getD 5 0#32, (s.getD 4 0#32, (s.getD 3 0#32, (s.getD 2 0#32, (s.getD 1 0#32, (s.getD 0 0#32, ())))))))))) ⟨rfl, rfl⟩ (by decide) ?_
    rintro j ⟨⟨t, ra, rb, rc, rd, re, rf, rg, rz, ⟨⟩⟩, ⟨⟩⟩ hj ⟨ht, hv⟩ rec2 hrec2
    dsimp only at ht hv ⊢
    subst ht
    simp only [Prod.mk.injEq, and_true] at hv
    obtain ⟨v7, v6, v5, v4, v3, v2, v1, v0⟩ := hv
    refine Tot.brd (fun hlt => ?_) (fun hge2 => ?_)
    · have hj' : j < 64 := by omega
      simp only [Int.toNat_natCast]
      repeat' (first | refine Tot.gdT ?_ | refine Tot.gdE ?_ | refine Tot.gd (by omega) ?_ | refine Tot.idxD 0#32 (by omega) ?_)
      rw [U267 _ _ (by decide), bnd_s, U267 _ _ (by decide), bnd_s, U267 _ _ (by decide), bnd_s, U267 _ _ (by decide), bnd_s, U267 _ _ (by decide), bnd_s, U267 _ _ (by decide), bnd_s]
      repeat' (first | refine Tot.gdT ?_ | refine Tot.gdE ?_)
      refine hrec2 hj' _ ⟨?_, ?_⟩
      · dsimp only; (first | decide | omega | (simp (disch := omega) only [w64_id, few, few9, List.length_set, List.length_append, List.length_take, List.length_drop, List.length_replicate, List.length_cons, List.length_nil, Int.toNat_natCast]; done) | (simp (disch := omega) only [w64_id, few, few9, List.length_set, List.length_append, List.length_take, List.length_drop, List.length_replicate, List.length_cons, List.length_nil, Int.toNat_natCast]; omega) | (simp [few, few9] <;> omega))
      · have eT : (((ra + ((rot rd 6 ^^^ rot rd 11) ^^^ rot rd 25)) + (rb ^^^ (rd &&& (rc ^^^ rb)))) + shaAdd.getD j 0#32) + (wsch m 64).getD j 0#32 = sT1 (shaAdd.getD j 0#32) ((wsch m 64).getD j 0#32) (rnds shaAdd (wsch m 64) h j) := by
          unfold sT1; rw [ch_eq, v7, v6, v5, v4]
        have eU : ((rot rz 2 ^^^ rot rz 13) ^^^ rot rz 22) + ((rz &&& rg) ||| (rf &&& (rz ||| rg))) = sT2 (rnds shaAdd (wsch m 64) h j) := by
          unfold sT2; rw [maj_eq, v0, v1, v2]
        have eT' := eT
        have eU' := eU
        show (rb, (rc, (rd, (re + ((((ra + ((rot rd 6 ^^^ rot rd 11) ^^^ rot rd 25)) + (rb ^^^ (rd &&& (rc ^^^ rb)))) + shaAdd.getD j 0#32) + (wsch m 64).getD j 0#32), (rf, (rg, (rz, (((((ra + ((rot rd 6 ^^^ rot rd 11) ^^^ rot rd 25)) + (rb ^^^ (rd &&& (rc ^^^ rb)))) + shaAdd.getD j 0#32) + (wsch m 64).getD j 0#32) + (((rot rz 2 ^^^ rot rz 13) ^^^ rot rz 22) + ((rz &&& rg) ||| (rf &&& (rz ||| rg)))), ())))))))) = _
        rw [eT, eU, v6, v5, v4, v3, v2, v1, v0]
        rfl
    · have hjm : j = 64 := by omega
      subst hjm
      have hst := list8 _ (rnds_len shaAdd (wsch m 64) h hh 64)
      rw [← v7, ← v6, ← v5, ← v4, ← v3, ← v2, ← v1, ← v0] at hst
      have hset : (List.set (List.set (List.set (List.set (List.set (List.set (List.set (List.set (List.replicate 8 0#32) 0 rz) 1 rg) 2 rf) 3 re) 4 rd) 5 rc) 6 rb) 7 ra) = rnds shaAdd (wsch m 64) h 64 := hst.symm
      rw [hset]
      have hr8 := rnds_len shaAdd (wsch m 64) h hh 64
      generalize hR : rnds shaAdd (wsch m 64) h 64 = R at hr8
      refine Tot.count 8 (fun i v => v.1.1 = (i : Int) ∧ v.2.1 = (addW h R).take i ++ h.drop i) ⟨rfl, rfl⟩ (by decide) ?_
      rintro i ⟨⟨t, ⟨⟩⟩, c, ⟨⟩⟩ hi ⟨ht, hc⟩ rec3 hrec3
      dsimp only at ht hc ⊢
      subst ht
      subst hc
      have hz : (addW h R).length = 8 := by unfold addW; rw [List.length_zipWith, hh, hr8]; rfl
      refine Tot.brd (fun hlt => ?_) (fun hge3 => ?_)
      · have hi' : i < 8 := by omega
        obtain ⟨g1, g2⟩ := cur_get (addW h R) h i hz hh hi'
        simp only [Int.toNat_natCast]
        refine Tot.gd (by omega) (Tot.idxD 0#32 (by omega) (Tot.gd (by omega) (Tot.gd (by omega) (Tot.idxD 0#32 (by omega) ?_))))
        repeat' (first | refine Tot.gdT ?_ | refine Tot.gdE ?_ | refine Tot.gd (by omega) ?_)
        refine hrec3 hi' _ ⟨?_, ?_⟩
        · dsimp only; (first | decide | omega | (simp (disch := omega) only [w64_id, few, few9, List.length_set, List.length_append, List.length_take, List.length_drop, List.length_replicate, List.length_cons, List.length_nil, Int.toNat_natCast]; done) | (simp (disch := omega) only [w64_id, few, few9, List.length_set, List.length_append, List.length_take, List.length_drop, List.length_replicate, List.length_cons, List.length_nil, Int.toNat_natCast]; omega) | (simp [few, few9] <;> omega))
        · show List.set _ i _ = _
          rw [g1]
          exact put_step h R i hh hr8 hi' _ (addW_get h R i hh hr8 hi') h hh
      · have h8 : i = 8 := by omega
        subst h8
        refine Tot.s ?_
        unfold press
        rw [hR, List.take_of_length_le (by omega), List.drop_of_length_le (by omega), List.append_nil]
end Go.GX
namespace Go.GX
open Go.RowKit Go.SL
set_option linter.unusedVariables false
set_option linter.unusedSimpArgs false
set_option maxRecDepth 8000
theorem U181 (K h : List Wd) (m : By) (hK : K.length = 64) (hh : h.length = 8) (hm : m.length = 64) : F181 (h, ()) (m, (K, ())) = some ((press K h m, ()), ()) := by
  refine Tot.get ?_
  unfold F181
  dsimp only
  refine Tot.gd (by decide) (Tot.gd (by decide) (Tot.gd (by decide) (Tot.gd (by decide) ?_)))
  refine Tot.count 64 (fun i v => v.1.1 = (i : Int) ∧ v.2.1 = wsch m i) ⟨rfl, rfl⟩ (by decide) ?_
  rintro i ⟨⟨t, ⟨⟩⟩, w, ⟨⟩⟩ hi ⟨ht, hw⟩ rec hrec
  dsimp only at ht hw ⊢
  subst ht
  subst hw
  have hwl := wsch_len m i
  refine Tot.brd (fun hlt => ?_) (fun hge => ?_)
  · have hi' : i < 64 := by omega
    refine Tot.brd (fun h16 => ?_) (fun h16 => ?_)
    · have e0 : Go.SL.w64 (4 * (i : Int)) = ((4 * i : Nat) : Int) := by rw [w64_id (by omega) (by omega)]; push_cast; rfl
      have e1 : Go.SL.w64 (((4 * i : Nat) : Int) + 1) = ((4 * i + 1 : Nat) : Int) := by rw [w64_id (by omega) (by omega)]; push_cast; rfl
      have e2 : Go.SL.w64 (((4 * i : Nat) : Int) + 2) = ((4 * i + 2 : Nat) : Int) := by rw [w64_id (by omega) (by omega)]; push_cast; rfl
      have e3 : Go.SL.w64 (((4 * i : Nat) : Int) + 3) = ((4 * i + 3 : Nat) : Int) := by rw [w64_id (by omega) (by omega)]; push_cast; rfl
      rw [e0, e1, e2, e3]
      simp only [Int.toNat_natCast]
      repeat' (first | refine Tot.gdT ?_ | refine Tot.gdE ?_ | refine Tot.gd (by omega) ?_ | refine Tot.idxD 0#8 (by omega) ?_)
      refine hrec hi' _ ⟨?_, ?_⟩
      · dsimp only; (first | decide | omega | (simp (disch := omega) only [w64_id, few, few9, List.length_set, List.length_append, List.length_take, List.length_drop, List.length_replicate, List.length_cons, List.length_nil, Int.toNat_natCast]; done) | (simp (disch := omega) only [w64_id, few, few9, List.length_set, List.length_append, List.length_take, List.length_drop, List.length_replicate, List.length_cons, List.length_nil, Int.toNat_natCast]; omega) | (simp [few, few9] <;> omega))
      · show _ = List.set (wsch m i) i _
        rw [if_pos (by omega)]; rfl
    · have e0 : Go.SL.w64 ((i : Int) - 15) = ((i - 15 : Nat) : Int) := by rw [w64_id (by omega) (by omega)]; omega
      have e1 : Go.SL.w64 ((i : Int) - 2) = ((i - 2 : Nat) : Int) := by rw [w64_id (by omega) (by omega)]; omega
      have e2 : Go.SL.w64 ((i : Int) - 16) = ((i - 16 : Nat) : Int) := by rw [w64_id (by omega) (by omega)]; omega
      have e3 : Go.SL.w64 ((i : Int) - 7) = ((i - 7 : Nat) : Int) := by rw [w64_id (by omega) (by omega)]; omega
      rw [e0, e1, e2, e3]
      simp only [Int.toNat_natCast]
      repeat' (first | refine Tot.gdT ?_ | refine Tot.gdE ?_ | refine Tot.gd (by omega) ?_ | refine Tot.idxD 0#32 (by omega) ?_)
      rw [U204 _ _ (by decide) (by decide), bnd_s, U204 _ _ (by decide) (by decide), bnd_s, U204 _ _ (by decide) (by decide), bnd_s, U204 _ _ (by decide) (by decide), bnd_s]
      repeat' (first | refine Tot.gdT ?_ | refine Tot.gdE ?_ | refine Tot.gd (by omega) ?_)
      refine hrec hi' _ ⟨?_, ?_⟩
      · dsimp only; (first | decide | omega | (simp (disch := omega) only [w64_id, few, few9, List.length_set, List.length_append, List.length_take, List.length_drop, List.length_replicate, List.length_cons, List.length_nil, Int.toNat_natCast]; done) | (simp (disch := omega) only [w64_id, few, few9, List.length_set, List.length_append, List.length_take, List.length_drop, List.length_replicate, List.length_cons, List.length_nil, Int.toNat_natCast]; omega) | (simp [few, few9] <;> omega))
      · show _ = List.set (wsch m i) i _
        rw [if_neg (by omega)]
        refine congrArg (List.set (wsch m i) i) ?_
        unfold wnext
        rfl
  · have him : i = 64 := by omega
    subst him
    refine Tot.count 64 (fun j v => v.1.1 = (j : Int) ∧ v.2.1 = rnds K (wsch m 64) h j) ⟨rfl, rfl⟩ (by decide) ?_
    rintro j ⟨⟨t, ⟨⟩⟩, s, ⟨⟩⟩ hj ⟨ht, hv⟩ rec2 hrec2
    dsimp only at ht hv ⊢
    subst ht
    have hs8 : s.length = 8 := by rw [hv]; exact rnds_len _ _ _ hh _
    refine Tot.brd (fun hlt => ?_) (fun hge2 => ?_)
    · have hj' : j < 64 := by omega
      simp only [Int.toNat_natCast]
      refine Tot.gd (by decide) (Tot.gd (by decide) (Tot.idxD 0#32 (by omega) (Tot.gd (by decide) (Tot.gd (by decide) (Tot.idxD 0#32 (by omega) ?_)))))
      refine Tot.jnP (fun p => p.1.1 = sT1 (K.getD j 0#32) ((wsch m 64).getD j 0#32) s) ?_ ?_
      · rintro ⟨⟨t1, ⟨⟩⟩, ⟨⟩⟩ h1
        dsimp only at h1 ⊢
        subst h1
        refine Tot.jnP (fun p => p.1.1 = sT2 s) ?_ ?_
        · rintro ⟨⟨t2, ⟨⟩⟩, ⟨⟩⟩ h2
          dsimp only at h2 ⊢
          subst h2
          repeat' (first | refine Tot.gdT ?_ | refine Tot.gdE ?_ | refine Tot.gd (by first | decide | omega) ?_ | refine Tot.idxD 0#32 (by omega) ?_)
          refine hrec2 hj' _ ⟨?_, ?_⟩
          · dsimp only; (first | decide | omega | (simp (disch := omega) only [w64_id, few, few9, List.length_set, List.length_append, List.length_take, List.length_drop, List.length_replicate, List.length_cons, List.length_nil, Int.toNat_natCast]; done) | (simp (disch := omega) only [w64_id, few, few9, List.length_set, List.length_append, List.length_take, List.length_drop, List.length_replicate, List.length_cons, List.length_nil, Int.toNat_natCast]; omega) | (simp [few, few9] <;> omega))
          · show _ = rnd (K.getD j 0#32) ((wsch m 64).getD j 0#32) (rnds K (wsch m 64) h j)
            rw [← hv]; rfl
        · intro k hk
          repeat' (first | refine Tot.gdT ?_ | refine Tot.gdE ?_ | refine Tot.gd (by first | decide | omega) ?_ | refine Tot.idxD 0#32 (by omega) ?_)
          rw [U204 _ _ (by decide) (by decide), bnd_s, U204 _ _ (by decide) (by decide), bnd_s, U204 _ _ (by decide) (by decide), bnd_s]
          repeat' (first | refine Tot.gdT ?_ | refine Tot.gdE ?_)
          exact hk _ rfl
      · intro k hk
        repeat' (first | refine Tot.gdT ?_ | refine Tot.gdE ?_ | refine Tot.gd (by first | decide | omega) ?_ | refine Tot.idxD 0#32 (by omega) ?_)
        rw [U204 _ _ (by decide) (by decide), bnd_s, U204 _ _ (by decide) (by decide), bnd_s, U204 _ _ (by decide) (by decide), bnd_s]
        repeat' (first | refine Tot.gdT ?_ | refine Tot.gdE ?_)
        exact hk _ rfl
    · have hjm : j = 64 := by omega
      subst hjm
      generalize hR : rnds K (wsch m 64) h 64 = R at hv
      subst hv
      refine Tot.count 8 (fun i v => v.1.1 = (i : Int) ∧ v.2.1 = (addW s h).take i ++ s.drop i) ⟨rfl, rfl⟩ (by decide) ?_
      rintro i ⟨⟨t, ⟨⟩⟩, c, ⟨⟩⟩ hi ⟨ht, hc⟩ rec3 hrec3
      dsimp only at ht hc ⊢
      subst ht
      subst hc
      have hz : (addW s h).length = 8 := by unfold addW; rw [List.length_zipWith, hh, hs8]; rfl
      refine Tot.brd (fun hlt => ?_) (fun hge3 => ?_)
      · have hi' : i < 8 := by omega
        obtain ⟨g1, g2⟩ := cur_get (addW s h) s i hz hs8 hi'
        simp only [Int.toNat_natCast]
        refine Tot.gd (by omega) (Tot.gd (by omega) (Tot.idxD 0#32 (by omega) (Tot.gd (by omega) (Tot.gd (by omega) (Tot.idxD 0#32 (by omega) ?_)))))
        repeat' (first | refine Tot.gdT ?_ | refine Tot.gdE ?_ | refine Tot.gd (by omega) ?_)
        refine hrec3 hi' _ ⟨?_, ?_⟩
        · dsimp only; (first | decide | omega | (simp (disch := omega) only [w64_id, few, few9, List.length_set, List.length_append, List.length_take, List.length_drop, List.length_replicate, List.length_cons, List.length_nil, Int.toNat_natCast]; done) | (simp (disch := omega) only [w64_id, few, few9, List.length_set, List.length_append, List.length_take, List.length_drop, List.length_replicate, List.length_cons, List.length_nil, Int.toNat_natCast]; omega) | (simp [few, few9] <;> omega))
        · show List.set _ i _ = _
          rw [g1]
          exact put_step s h i hs8 hh hi' _ (addW_get s h i hs8 hh hi') s hs8
      · have h8 : i = 8 := by omega
        subst h8
        refine Tot.s ?_
        unfold press
        rw [hR, addW_comm h s, List.take_of_length_le (by omega), List.drop_of_length_le (by omega), List.append_nil]
end Go.GX
namespace Go.GX
open Go.RowKit Go.SL
set_option linter.unusedVariables false
set_option linter.unusedSimpArgs false
set_option maxRecDepth 8000
theorem put1 {α : Type} (A C : List α) (i : Nat) (x : α) (hx : A[i]? = some x) (hi : i < C.length) : List.set (A.take i ++ C.drop i) i x = A.take (i + 1) ++ C.drop (i + 1) := by
  have hA : i < A.length := (List.getElem?_eq_some_iff.mp hx).1
  have hl : (A.take i).length = i := by rw [List.length_take]; omega
  rw [List.set_append_right _ _ (by omega), hl, Nat.sub_self, List.take_add_one, hx]
  have : C.drop i = C[i] :: C.drop (i + 1) := List.drop_eq_getElem_cons hi
  rw [this, List.set_cons_zero]
  simp
def nulls (n : Nat) : Nat := (120 - (n + 1) % 64) % 64
def lenB (n : Nat) : By := (List.range 8).map fun j => BitVec.ofInt 8 (Go.SL.ishr64 (Go.SL.w64 (8 * (n : Int))) (56 - 8 * j))
theorem lenB_len (n : Nat) : (lenB n).length = 8 := by unfold lenB; simp
def padB (b : By) : By := ((b ++ [128#8]) ++ List.replicate (nulls b.length) 0#8) ++ lenB b.length
theorem padB_len (b : By) : (padB b).length = b.length + 1 + nulls b.length + 8 := by unfold padB; simp only [List.length_append, List.length_replicate, lenB_len, List.length_cons, List.length_nil]
theorem padB_64 (b : By) : ∃ n, (padB b).length = 64 * n ∧ n ≤ b.length / 64 + 2 := by
  refine ⟨(padB b).length / 64, ?_, ?_⟩ <;> rw [padB_len] <;> unfold nulls <;> omega
def blks (K : List Wd) : Nat → By → List Wd → List Wd
  | 0, _, h => h
  | n + 1, m, h => blks K n (m.drop 64) (press K h (m.take 64))
def outB (h : List Wd) : By := (List.range 32).map fun i => BitVec.setWidth 8 (h.getD (i / 4) 0#32 >>> (24 - 8 * (i % 4)))
theorem outB_len (h : List Wd) : (outB h).length = 32 := by unfold outB; simp
theorem outB_get (h : List Wd) (i : Nat) (hi : i < 32) : (outB h)[i]? = some (BitVec.setWidth 8 (h.getD (i / 4) 0#32 >>> (24 - 8 * (i % 4)))) := by
  unfold outB; rw [List.getElem?_map, List.getElem?_range hi]; rfl
def H0 : List Wd := [1779033703#32, 3144134277#32, 1013904242#32, 2773480762#32, 1359893119#32, 2600822924#32, 528734635#32, 1541459225#32]
def sha (b : By) : By := outB (blks shaAdd ((padB b).length / 64) (padB b) H0)
theorem sha_len (b : By) : (sha b).length = 32 := outB_len _
theorem U253 : F253 () () = some ((H0, ()), ()) := by unfold F253; rfl
theorem lenB_take (n i : Nat) (hi : i < 8) : (lenB n).take i ++ [BitVec.ofInt 8 (Go.SL.ishr64 (Go.SL.w64 (8 * (n : Int))) (56 - 8 * i))] = (lenB n).take (i + 1) := by
  rw [List.take_add_one]
  congr 1
  unfold lenB
  rw [List.getElem?_map, List.getElem?_range hi]; rfl
theorem U235 (b : By) (hb : b.length ≤ 100000000) : F235 () (b, ()) = some ((sha b, ()), ()) := by
  refine Tot.get ?_
  unfold F235
  dsimp only
  rw [U171 b (by omega), bnd_s]
  dsimp only
  have hl : (Nat.cast (List.length (b ++ (128#8 :: []))) : Int) = ((b.length + 1 : Nat) : Int) := by rw [List.length_append]; rfl
  have hln : (b ++ (128#8 :: [])).length = b.length + 1 := by rw [List.length_append]; rfl
  have e0 : Int.tmod ((b.length + 1 : Nat) : Int) 64 = (((b.length + 1) % 64 : Nat) : Int) := rfl
  have hm := Nat.mod_lt (b.length + 1) (show 64 > 0 by decide)
  have e1 : Go.SL.w64 (120 - (((b.length + 1) % 64 : Nat) : Int)) = ((120 - (b.length + 1) % 64 : Nat) : Int) := by rw [w64_id (by omega) (by omega)]; omega
  have e2 : Int.tmod ((120 - (b.length + 1) % 64 : Nat) : Int) 64 = ((nulls b.length : Nat) : Int) := rfl
  have hn : nulls b.length < 64 := Nat.mod_lt _ (by decide)
  rw [hl, e0, e1, e2]
  refine Tot.gd (by unfold few; omega) (Tot.gd (by decide) (Tot.gd (by decide) (Tot.gd (by omega) (Tot.gd (by rw [hln, Int.toNat_natCast]; unfold few9; omega) ?_))))
  rw [Int.toNat_natCast]
  refine Tot.count 8 (fun i v => v.1.1 = (i : Int) ∧ v.1.2.1 = ((b ++ [128#8]) ++ List.replicate (nulls b.length) 0#8) ++ (lenB b.length).take i) ⟨rfl, by simp⟩ (by decide) ?_
  rintro i ⟨⟨t, c, ⟨⟩⟩, ⟨⟩⟩ hi ⟨ht, hc⟩ rec hrec
  dsimp only at ht hc ⊢
  subst ht
  subst hc
  refine Tot.brd (fun hlt => ?_) (fun hge => ?_)
  · have hi' : i < 8 := by omega
    have e3 : Go.SL.w64 (56 - Go.SL.w64 (8 * (i : Int))) = ((56 - 8 * i : Nat) : Int) := by
      rw [w64_id (z := 8 * (i : Int)) (by omega) (by omega), w64_id (by omega) (by omega)]; omega
    rw [e3]
    refine Tot.gd (by omega) (Tot.gd ?_ ?_)
    · unfold few
      simp only [List.length_append, List.length_replicate, List.length_take, lenB_len, List.length_cons, List.length_nil]
      omega
    · repeat' (first | refine Tot.gdE ?_)
      refine hrec hi' _ ⟨?_, ?_⟩
      · dsimp only; (first | decide | omega | (simp (disch := omega) only [w64_id, few, few9, List.length_set, List.length_append, List.length_take, List.length_drop, List.length_replicate, List.length_cons, List.length_nil, Int.toNat_natCast]; done) | (simp (disch := omega) only [w64_id, few, few9, List.length_set, List.length_append, List.length_take, List.length_drop, List.length_replicate, List.length_cons, List.length_nil, Int.toNat_natCast]; omega) | (simp [few, few9] <;> omega))
      · dsimp only
        rw [Int.toNat_natCast, List.append_assoc _ _ [_], lenB_take _ _ hi']
  · have h8 : i = 8 := by omega
    subst h8
    rw [U253, bnd_s]
    dsimp only
    rw [List.take_of_length_le (by rw [lenB_len]; exact Nat.le_refl _)]
    have hp : ((b ++ [128#8]) ++ List.replicate (nulls b.length) 0#8) ++ lenB b.length = padB b := rfl
    rw [hp]
    obtain ⟨N, hN, hN2⟩ := padB_64 b
    have hsha : sha b = outB (blks shaAdd N (padB b) H0) := by unfold sha; rw [hN, Nat.mul_div_cancel_left _ (by decide)]
    refine Tot.iter (fun n v => v.1.1.length = 64 * n ∧ v.2.1.length = 8 ∧ blks shaAdd n v.1.1 v.2.1 = blks shaAdd N (padB b) H0) N ⟨hN, rfl, rfl⟩ (by omega) ?_
    rintro n ⟨⟨m, ⟨⟩⟩, h, ⟨⟩⟩ ⟨hm, hh, hbl⟩ rec2 hrec2
    dsimp only at hm hh hbl ⊢
    refine Tot.brd (fun hlt => ?_) (fun hge2 => ?_)
    · have h64 : 64 ≤ m.length := by omega
      refine Tot.gd h64 ?_
      rw [U254 h _ hh (by rw [List.length_take]; omega), bnd_s]
      repeat' (first | refine Tot.gdE ?_ | refine Tot.gd (by first | decide | omega) ?_)
      refine hrec2 (n - 1) _ (by omega) ⟨?_, ?_, ?_⟩
      · dsimp only; rw [List.length_drop, List.length_take]; omega
      · exact press_len _ _ _ hh
      · dsimp only
        rw [List.take_of_length_le (Nat.le_refl _), ← hbl]
        have hn1 : n = (n - 1) + 1 := by omega
        rw [hn1]; rfl
    · have hn0 : n = 0 := by omega
      subst hn0
      have hbl' : h = blks shaAdd N (padB b) H0 := hbl
      refine Tot.count 32 (fun i v => v.1.1 = (i : Int) ∧ v.2.1 = (outB h).take i ++ (List.replicate 32 0#8).drop i) ⟨rfl, rfl⟩ (by decide) ?_
      rintro i ⟨⟨t, ⟨⟩⟩, c, ⟨⟩⟩ hi ⟨ht, hc⟩ rec3 hrec3
      dsimp only at ht hc ⊢
      subst ht
      subst hc
      have ho := outB_len h
      refine Tot.brd (fun hlt3 => ?_) (fun hge3 => ?_)
      · have hi' : i < 32 := by omega
        have e4 : Go.SL.w64 (Int.tdiv (i : Int) 4) = ((i / 4 : Nat) : Int) := by
          have : Int.tdiv (i : Int) 4 = ((i / 4 : Nat) : Int) := rfl
          rw [this, w64_id (by omega) (by omega)]
        have e5 : Go.SL.w64 (24 - Go.SL.w64 (8 * Int.tmod (i : Int) 4)) = ((24 - 8 * (i % 4) : Nat) : Int) := by
          rw [tm4, w64_id (z := 8 * ((i % 4 : Nat) : Int)) (by omega) (by omega), w64_id (by omega) (by omega)]; omega
        rw [e4, e5]
        simp only [Int.toNat_natCast]
        refine Tot.gd (by decide) (Tot.gd (by omega) (Tot.gd (by omega) (Tot.idxD 0#32 (by omega) ?_)))
        have hcl : ((outB h).take i ++ (List.replicate 32 0#8).drop i).length = 32 := by rw [List.length_append, List.length_take, List.length_drop, List.length_replicate]; omega
        repeat' (first | refine Tot.gdT ?_ | refine Tot.gdE ?_ | refine Tot.gd (by first | decide | omega) ?_)
        refine hrec3 hi' _ ⟨?_, ?_⟩
        · dsimp only; (first | decide | omega | (simp (disch := omega) only [w64_id, few, few9, List.length_set, List.length_append, List.length_take, List.length_drop, List.length_replicate, List.length_cons, List.length_nil, Int.toNat_natCast]; done) | (simp (disch := omega) only [w64_id, few, few9, List.length_set, List.length_append, List.length_take, List.length_drop, List.length_replicate, List.length_cons, List.length_nil, Int.toNat_natCast]; omega) | (simp [few, few9] <;> omega))
        · exact put1 (outB h) (List.replicate 32 0#8) i _ (outB_get h i hi') (by simp; omega)
      · have h8 : i = 32 := by omega
        subst h8
        refine Tot.s ?_
        rw [List.take_of_length_le (by omega), hsha, ← hbl']
        simp
end Go.GX
namespace Go.GX
open Go.RowKit Go.SL
set_option linter.unusedVariables false
set_option linter.unusedSimpArgs false
set_option maxRecDepth 8000
abbrev TabW := List Wd × List Wd × Unit
def TB0 : TabW := (shaAdd, (H0, ()))
theorem U131 (b : By) (hb : b.length ≤ 100000000) : F131 () (TB0, (b, ())) = some ((sha b, ()), ()) := by
  refine Tot.get ?_
  unfold F131 TB0
  dsimp only
  have hn : nulls b.length < 64 := Nat.mod_lt _ (by decide)
  have hbl : ([] ++ b : By).length = b.length := by simp
  refine Tot.gd (by unfold few; omega) (Tot.gd (by rw [hbl]; unfold few; omega) ?_)
  have hl0 : ∀ i, (b ++ [128#8] ++ List.replicate i 0#8).length = b.length + 1 + i := by intro i; simp only [List.length_append, List.length_replicate, List.length_cons, List.length_nil]
  refine Tot.iter (fun n v => v.1.1 = (b ++ [128#8]) ++ List.replicate (nulls b.length - n) 0#8 ∧ n ≤ nulls b.length) (nulls b.length) ⟨by simp, Nat.le_refl _⟩ (by omega) ?_
  rintro n ⟨⟨c, ⟨⟩⟩, ⟨⟩⟩ ⟨hc, hnn⟩ rec hrec
  dsimp only at hc ⊢
  subst hc
  have hm : Int.tmod (Nat.cast (List.length (b ++ [128#8] ++ List.replicate (nulls b.length - n) 0#8)) : Int) 64 = (((b.length + 1 + (nulls b.length - n)) % 64 : Nat) : Int) := by rw [hl0]; rfl
  rw [hm]
  refine Tot.gd (by decide) (Tot.br (fun hne => ?_) (fun heq => ?_))
  · have hne' : ((b.length + 1 + (nulls b.length - n)) % 64 : Nat) ≠ 56 := by
      intro h; rw [h] at hne; exact absurd hne (by decide)
    have hn0 : n ≠ 0 := by
      intro h; subst h; apply hne'; unfold nulls; omega
    refine Tot.gd (by rw [hl0]; unfold few; omega) ?_
    repeat' (first | refine Tot.gdE ?_)
    refine hrec (n - 1) _ (by omega) ⟨?_, by omega⟩
    dsimp only
    rw [List.append_assoc _ _ [_], show ([0#8] : By) = List.replicate 1 0#8 from rfl, List.replicate_append_replicate, show nulls b.length - n + 1 = nulls b.length - (n - 1) by omega]
  · have heq' : ((b.length + 1 + (nulls b.length - n)) % 64 : Nat) = 56 := by
      have : ¬ (((b.length + 1 + (nulls b.length - n)) % 64 : Nat) : Int) ≠ 56 := by simpa using heq
      omega
    have hn0 : n = 0 := by
      have e : nulls b.length = (120 - (b.length + 1) % 64) % 64 := rfl
      omega
    subst hn0
    rw [Nat.sub_zero]
    refine Tot.iter (fun n v => v.1.1 = (n : Int) - 1 ∧ n ≤ 8 ∧ v.1.2.1 = ((b ++ [128#8]) ++ List.replicate (nulls b.length) 0#8) ++ (lenB b.length).take (8 - n)) 8 ⟨rfl, by decide, by simp⟩ (by decide) ?_
    rintro n ⟨⟨t, c, ⟨⟩⟩, ⟨⟩⟩ ⟨ht, hn8, hc⟩ rec2 hrec2
    dsimp only at ht hc ⊢
    subst ht
    subst hc
    refine Tot.brd (fun hge => ?_) (fun hlt => ?_)
    · have e3 : Go.SL.w64 (8 * ((n : Int) - 1)) = ((8 * (n - 1) : Nat) : Int) := by rw [w64_id (by omega) (by omega)]; omega
      rw [e3]
      refine Tot.gd (by omega) (Tot.gd ?_ ?_)
      · unfold few
        simp only [List.length_append, List.length_replicate, List.length_take, lenB_len, List.length_cons, List.length_nil]
        omega
      · repeat' (first | refine Tot.gdE ?_)
        refine hrec2 (n - 1) _ (by omega) ⟨?_, by omega, ?_⟩
        · dsimp only; rw [w64_id (by omega) (by omega)]; omega
        · dsimp only
          have := lenB_take b.length (8 - n) (by omega)
          rw [show 56 - 8 * (8 - n) = 8 * (n - 1) by omega, show 8 - n + 1 = 8 - (n - 1) by omega] at this
          rw [Int.toNat_natCast, List.append_assoc _ _ [_], this]
    · have hn0 : n = 0 := by omega
      subst hn0
      rw [Nat.sub_zero, List.take_of_length_le (by rw [lenB_len]; exact Nat.le_refl _)]
      have hp : ((b ++ [128#8]) ++ List.replicate (nulls b.length) 0#8) ++ lenB b.length = padB b := rfl
      rw [hp]
      obtain ⟨N, hN, hN2⟩ := padB_64 b
      have hsha : sha b = outB (blks shaAdd N (padB b) H0) := by unfold sha; rw [hN, Nat.mul_div_cancel_left _ (by decide)]
      refine Tot.iter (fun n v => v.1.1 = ((64 * (N - n) : Nat) : Int) ∧ n ≤ N ∧ v.2.1.length = 8 ∧ blks shaAdd n ((padB b).drop (64 * (N - n))) v.2.1 = blks shaAdd N (padB b) H0) N ⟨by simp, Nat.le_refl _, rfl, by simp⟩ (by omega) ?_
      rintro n ⟨⟨t, ⟨⟩⟩, h, ⟨⟩⟩ ⟨ht, hnN, hh, hbl2⟩ rec3 hrec3
      dsimp only at ht hh hbl2 ⊢
      subst ht
      refine Tot.brd (fun hlt3 => ?_) (fun hge3 => ?_)
      · rw [hN] at hlt3
        have hn1 : 1 ≤ n := by omega
        have e4 : Go.SL.w64 (((64 * (N - n) : Nat) : Int) + 64) = ((64 * (N - n) + 64 : Nat) : Int) := by rw [w64_id (by omega) (by omega)]; rfl
        rw [e4]
        simp only [Int.toNat_natCast, hN]
        repeat' (first | refine Tot.gd (by omega) ?_)
        rw [show 64 * (N - n) + 64 - 64 * (N - n) = 64 by omega]
        rw [U181 shaAdd h _ rfl hh (by rw [List.length_take, List.length_drop]; omega), bnd_s]
        repeat' (first | refine Tot.gdT ?_ | refine Tot.gdE ?_)
        have e5 : 64 * (N - n) + 64 = 64 * (N - (n - 1)) := by omega
        refine hrec3 (n - 1) _ (by omega) ⟨?_, by omega, press_len _ _ _ hh, ?_⟩
        · dsimp only; rw [e5]
        · dsimp only
          rw [← hbl2]
          have hs : n = (n - 1) + 1 := by omega
          have : blks shaAdd n ((padB b).drop (64 * (N - n))) h = blks shaAdd ((n - 1) + 1) ((padB b).drop (64 * (N - n))) h := by rw [← hs]
          rw [this]
          show _ = blks shaAdd (n - 1) (((padB b).drop (64 * (N - n))).drop 64) _
          rw [List.drop_drop, e5]
      · rw [hN] at hge3
        have hn0 : n = 0 := by omega
        subst hn0
        have hbl' : h = blks shaAdd N (padB b) H0 := hbl2
        refine Tot.count 32 (fun i v => v.1.1 = (i : Int) ∧ v.2.1 = (outB h).take i ++ (List.replicate 32 0#8).drop i) ⟨rfl, rfl⟩ (by decide) ?_
        rintro i ⟨⟨t, ⟨⟩⟩, c, ⟨⟩⟩ hi ⟨ht, hc⟩ rec4 hrec4
        dsimp only at ht hc ⊢
        subst ht
        subst hc
        have ho := outB_len h
        refine Tot.brd (fun hlt3 => ?_) (fun hge3 => ?_)
        · have hi' : i < 32 := by omega
          have e4 : Go.SL.w64 (Int.tdiv (i : Int) 4) = ((i / 4 : Nat) : Int) := by
            have : Int.tdiv (i : Int) 4 = ((i / 4 : Nat) : Int) := rfl
            rw [this, w64_id (by omega) (by omega)]
          have e5 : Go.SL.w64 (24 - Go.SL.w64 (8 * Int.tmod (i : Int) 4)) = ((24 - 8 * (i % 4) : Nat) : Int) := by
            rw [tm4, w64_id (z := 8 * ((i % 4 : Nat) : Int)) (by omega) (by omega), w64_id (by omega) (by omega)]; omega
          rw [e4, e5]
          simp only [Int.toNat_natCast]
          refine Tot.gd (by decide) (Tot.gd (by omega) (Tot.gd (by omega) (Tot.idxD 0#32 (by omega) ?_)))
          have hcl : ((outB h).take i ++ (List.replicate 32 0#8).drop i).length = 32 := by rw [List.length_append, List.length_take, List.length_drop, List.length_replicate]; omega
          repeat' (first | refine Tot.gdT ?_ | refine Tot.gdE ?_ | refine Tot.gd (by first | decide | omega) ?_)
          refine hrec4 hi' _ ⟨?_, ?_⟩
          · dsimp only; (first | decide | omega | (simp (disch := omega) only [w64_id, few, few9, List.length_set, List.length_append, List.length_take, List.length_drop, List.length_replicate, List.length_cons, List.length_nil, Int.toNat_natCast]; done) | (simp (disch := omega) only [w64_id, few, few9, List.length_set, List.length_append, List.length_take, List.length_drop, List.length_replicate, List.length_cons, List.length_nil, Int.toNat_natCast]; omega) | (simp [few, few9] <;> omega))
          · exact put1 (outB h) (List.replicate 32 0#8) i _ (outB_get h i hi') (by simp; omega)
        · have h8 : i = 32 := by omega
          subst h8
          refine Tot.s ?_
          rw [List.take_of_length_le (by omega), hsha, ← hbl']
          simp
end Go.GX
namespace Go.GX
open Go.RowKit Go.SL
set_option linter.unusedVariables false
set_option linter.unusedSimpArgs false
set_option maxRecDepth 8000
def xo (c : BitVec 8) (k : By) : By := k.map (· ^^^ c)
def padK (k : By) : By := k ++ List.replicate 32 0#8
def hmc (k m : By) : By := sha (xo 92#8 (padK k) ++ sha (xo 54#8 (padK k) ++ m))
theorem hmc_len (k m : By) : (hmc k m).length = 32 := sha_len _
theorem padK_len (k : By) (h : k.length = 32) : (padK k).length = 64 := by unfold padK; simp [h]
theorem xo_len (c : BitVec 8) (k : By) : (xo c k).length = k.length := by unfold xo; simp
theorem xo_get (c : BitVec 8) (k : By) (i : Nat) (hi : i < k.length) : (xo c k)[i]? = some (k.getD i 0#8 ^^^ c) := by
  unfold xo
  rw [List.getElem?_map, List.getD_eq_getElem?_getD, List.getElem?_eq_getElem hi]; rfl
theorem curG {α : Type} (a c : List α) (d : α) (i : Nat) (ha : i ≤ a.length) : (a.take i ++ c.drop i).getD i d = c.getD i d := by
  have hl : (a.take i).length = i := by rw [List.length_take]; omega
  rw [List.getD_eq_getElem?_getD, List.getElem?_append_right (by omega), hl, Nat.sub_self, List.getElem?_drop, List.getD_eq_getElem?_getD]; rfl
theorem U214 (k m : By) (hk : k.length = 32) (hmc' : m.length ≤ 1000000) : F214 () (k, (m, ())) = some ((hmc k m, ()), ()) := by
  refine Tot.get ?_
  unfold F214
  dsimp only
  have hP : ovl (List.replicate 64 0#8) 0 (List.take 64 k) = padK k := by
    rw [List.take_of_length_le (by omega)]
    unfold ovl padK
    rw [hk]; simp
  have hPl := padK_len k hk
  refine Tot.jnP (fun p => p.1.1 = k) ?_ ?_
  · rintro ⟨⟨k', ⟨⟩⟩, ⟨⟩⟩ hk'
    dsimp only at hk' ⊢
    subst hk'
    rw [hP]
    refine Tot.gd (by decide) (Tot.gd (by decide) (Tot.gd (by decide) (Tot.gd (by decide) ?_)))
    refine Tot.count 64 (fun i v => v.1.1 = (i : Int) ∧ v.2.1 = (xo 92#8 (padK k')).take i ++ (padK k').drop i ∧ v.2.2.1 = (xo 54#8 (padK k')).take i ++ (padK k').drop i) ⟨rfl, rfl, rfl⟩ (by decide) ?_
    rintro i ⟨⟨t, ⟨⟩⟩, o, p, ⟨⟩⟩ hi ⟨ht, ho, hp⟩ rec hrec
    dsimp only at ht ho hp ⊢
    subst ht
    have hol : o.length = 64 := by rw [ho, List.length_append, List.length_take, List.length_drop, xo_len]; omega
    have hpl : p.length = 64 := by rw [hp, List.length_append, List.length_take, List.length_drop, xo_len]; omega
    refine Tot.brd (fun hlt => ?_) (fun hge => ?_)
    · have hi' : i < 64 := by omega
      simp only [Int.toNat_natCast]
      have go : o.getD i 0#8 = (padK k').getD i 0#8 := by rw [ho]; exact curG _ _ _ _ (by rw [xo_len]; omega)
      have gp : p.getD i 0#8 = (padK k').getD i 0#8 := by rw [hp]; exact curG _ _ _ _ (by rw [xo_len]; omega)
      repeat' (first | refine Tot.gdT ?_ | refine Tot.gdE ?_ | refine Tot.gd (by omega) ?_ | refine Tot.idxD 0#8 (by omega) ?_)
      refine hrec hi' _ ⟨?_, ?_, ?_⟩
      · dsimp only; (first | decide | omega | (simp (disch := omega) only [w64_id, few, few9, List.length_set, List.length_append, List.length_take, List.length_drop, List.length_replicate, List.length_cons, List.length_nil, Int.toNat_natCast]; done) | (simp (disch := omega) only [w64_id, few, few9, List.length_set, List.length_append, List.length_take, List.length_drop, List.length_replicate, List.length_cons, List.length_nil, Int.toNat_natCast]; omega) | (simp [few, few9] <;> omega))
      · dsimp only; rw [go, ho]; exact put1 _ _ i _ (xo_get _ _ _ (by omega)) (by omega)
      · dsimp only; rw [gp, hp]; exact put1 _ _ i _ (xo_get _ _ _ (by omega)) (by omega)
    · have h64 : i = 64 := by omega
      subst h64
      rw [List.take_of_length_le (by rw [xo_len]; omega), List.drop_of_length_le (by omega), List.append_nil] at ho hp
      subst ho
      subst hp
      rw [List.drop_zero, List.take_of_length_le (show (xo 54#8 (padK k')).length ≤ 64 by rw [xo_len]; omega), List.drop_zero, List.take_of_length_le (show (xo 92#8 (padK k')).length ≤ 64 by rw [xo_len]; omega)]
      refine Tot.gd (by decide) (Tot.gd (by decide) (Tot.gd (by omega) ?_))
      refine Tot.bnd (T201 _ (by simp) (by simp [xo_len]; omega)) fun r7 hr7 => ?_
      rw [hr7]
      simp only [List.flatten_cons, List.flatten_nil, List.append_nil]
      rw [U235 _ (by rw [List.length_append, xo_len]; omega), bnd_s]
      dsimp only
      have hs := sha_len (xo 54#8 (padK k') ++ m)
      refine Tot.gd (by decide) (Tot.gd (by decide) (Tot.gd (by decide) (Tot.gd (by decide) (Tot.gd (by omega) (Tot.gd (by omega) ?_)))))
      rw [tdl _ hs]
      refine Tot.bnd (T201 _ (by simp) (by simp [xo_len]; omega)) fun r9 hr9 => ?_
      rw [hr9]
      simp only [List.flatten_cons, List.flatten_nil, List.append_nil]
      rw [U235 _ (by rw [List.length_append, xo_len]; omega), bnd_s]
      exact Tot.s rfl
  · intro j hj
    refine Tot.brd (fun h => absurd h (by omega)) (fun _ => ?_)
    repeat' (first | refine Tot.gdE ?_)
    exact hj _ rfl
theorem U54 (k m : By) (hk : k.length = 32) (hmc' : m.length ≤ 1000000) : F54 () (TB0, (k, (m, ()))) = some ((hmc k m, ()), ()) := by
  refine Tot.get ?_
  unfold F54
  dsimp only
  have hPl := padK_len k hk
  refine Tot.jnP (fun p => p.1.1 = k) ?_ ?_
  · rintro ⟨⟨k', ⟨⟩⟩, ⟨⟩⟩ hk'
    dsimp only at hk' ⊢
    subst hk'
    refine Tot.count 64 (fun i v => v.1.1 = (i : Int) ∧ v.1.2.1 = (xo 92#8 (padK k')).take i ∧ v.1.2.2.1 = (xo 54#8 (padK k')).take i) ⟨rfl, rfl, rfl⟩ (by decide) ?_
    rintro i ⟨⟨t, o, p, ⟨⟩⟩, ⟨⟩⟩ hi ⟨ht, ho, hp⟩ rec hrec
    dsimp only at ht ho hp ⊢
    subst ht
    have hol : o.length = i := by rw [ho, List.length_take, xo_len]; omega
    have hpl : p.length = i := by rw [hp, List.length_take, xo_len]; omega
    refine Tot.brd (fun hlt => ?_) (fun hge => ?_)
    · have hi' : i < 64 := by omega
      refine Tot.jnP (fun q => q.1.1 = (padK k').getD i 0#8) ?_ ?_
      · rintro ⟨⟨x, ⟨⟩⟩, ⟨⟩⟩ hx
        dsimp only at hx ⊢
        subst hx
        refine Tot.gd (by unfold few; simp only [List.length_cons, List.length_nil]; omega) (Tot.gd (by unfold few; simp only [List.length_cons, List.length_nil]; omega) ?_)
        repeat' (first | refine Tot.gdE ?_)
        have hT : ∀ c, (xo c (padK k')).take i ++ [(padK k').getD i 0#8 ^^^ c] = (xo c (padK k')).take (i + 1) := by
          intro c; rw [List.take_add_one, xo_get _ _ _ (by omega)]; rfl
        refine hrec hi' _ ⟨?_, ?_, ?_⟩
        · dsimp only; (first | decide | omega | (simp (disch := omega) only [w64_id, few, few9, List.length_set, List.length_append, List.length_take, List.length_drop, List.length_replicate, List.length_cons, List.length_nil, Int.toNat_natCast]; done) | (simp (disch := omega) only [w64_id, few, few9, List.length_set, List.length_append, List.length_take, List.length_drop, List.length_replicate, List.length_cons, List.length_nil, Int.toNat_natCast]; omega) | (simp [few, few9] <;> omega))
        · dsimp only; rw [ho]; exact hT _
        · dsimp only; rw [hp]; exact hT _
      · intro j hj
        refine Tot.brd (fun h => ?_) (fun h => ?_)
        · refine Tot.gd (by omega) (Tot.idxD 0#8 (by omega) ?_)
          repeat' (first | refine Tot.gdE ?_)
          refine hj _ ?_
          dsimp only
          rw [Int.toNat_natCast]
          unfold padK
          rw [List.getD_eq_getElem?_getD, List.getD_eq_getElem?_getD, List.getElem?_append_left (by omega)]
        · repeat' (first | refine Tot.gdE ?_)
          refine hj _ ?_
          dsimp only
          unfold padK
          rw [List.getD_eq_getElem?_getD, List.getElem?_append_right (by omega), List.getElem?_replicate, if_pos (by omega)]; rfl
    · have h64 : i = 64 := by omega
      subst h64
      rw [List.take_of_length_le (by rw [xo_len]; omega)] at ho hp
      subst ho
      subst hp
      have hs := sha_len (xo 54#8 (padK k') ++ m)
      have fin : Tot (bnd (F131 () ((TB0.1, (TB0.2.1, ())), ((xo 54#8 (padK k') ++ m), ()))) fun a8 => gd ((0 : Nat) ≤ 32) <| gd ((32 : Nat) ≤ 32) <| gd (32 ≤ (List.length a8.1.1)) <| gd (few (List.length (xo 92#8 (padK k'))) (List.length (List.take 32 (List.drop 0 a8.1.1)))) <| bnd (F131 () ((TB0.1, (TB0.2.1, ())), ((xo 92#8 (padK k') ++ List.take 32 (List.drop 0 a8.1.1)), ()))) fun a9 => some ((a9.1.1, ()), ())) (fun a => a = ((hmc k' m, ()), ())) := by
        have e1 : F131 () ((TB0.1, (TB0.2.1, ())), ((xo 54#8 (padK k') ++ m), ())) = some ((sha (xo 54#8 (padK k') ++ m), ()), ()) := U131 _ (by rw [List.length_append, xo_len]; omega)
        rw [e1, bnd_s]
        dsimp only
        rw [tdl _ hs]
        refine Tot.gd (by decide) (Tot.gd (by decide) (Tot.gd (by omega) (Tot.gd (by unfold few; rw [xo_len]; omega) ?_)))
        have e2 : F131 () ((TB0.1, (TB0.2.1, ())), ((xo 92#8 (padK k') ++ sha (xo 54#8 (padK k') ++ m)), ())) = some ((hmc k' m, ()), ()) := U131 _ (by rw [List.length_append, xo_len]; omega)
        rw [e2, bnd_s]
        exact Tot.s rfl
      have hfew : few (List.length (xo 54#8 (padK k'))) (List.length m) := by unfold few; rw [xo_len]; omega
      refine Tot.bth ?_ ?_
      · exact Tot.gd hfew (Tot.bth fin rfl)
      · rw [gd_t hfew, gd_t hfew, bth_self]
  · intro j hj
    refine Tot.brd (fun h => absurd h (by omega)) (fun _ => ?_)
    repeat' (first | refine Tot.gdE ?_)
    exact hj _ rfl
end Go.GX
namespace Go.GX
open Go.RowKit Go.SL
set_option linter.unusedVariables false
set_option linter.unusedSimpArgs false
set_option maxRecDepth 8000
set_option maxHeartbeats 2000000
def up1 (x : BitVec 8) (s : By × By) (b : By) : By × By := (hmc s.1 (s.2 ++ ([x] ++ b)), hmc (hmc s.1 (s.2 ++ ([x] ++ b))) s.2)
def upd (s : By × By) (b : By) : By × By := if b = [] then up1 0#8 s b else up1 1#8 (up1 0#8 s b) b
theorem up1_len (x : BitVec 8) (s : By × By) (b : By) : (up1 x s b).1.length = 32 ∧ (up1 x s b).2.length = 32 := ⟨hmc_len _ _, hmc_len _ _⟩
theorem upd_len (s : By × By) (b : By) : (upd s b).1.length = 32 ∧ (upd s b).2.length = 32 := by
  unfold upd; split <;> exact up1_len _ _ _
theorem fl3 (a b c : By) : [a, b, c].flatten = a ++ (b ++ c) := by simp
theorem fl1 (a : By) : [a].flatten = a := by simp
theorem U201 (ls : List By) (h1 : ls.length ≤ 10) (h2 : ∀ l ∈ ls, l.length ≤ 10000000) : F201 () (ls, ()) = some ((ls.flatten, ()), ()) := by
  obtain ⟨⟨⟨r, ⟨⟩⟩, ⟨⟩⟩, h, hr⟩ := T201 ls h1 h2
  dsimp only at hr
  rw [h, hr]
theorem U168 (k v b : By) (c : Int) (hk : k.length = 32) (hv : v.length = 32) (hb : b.length ≤ 900000) : F168 ((k, (v, (c, ()))), ()) (b, ()) = some ((), (((upd (k, v) b).1, ((upd (k, v) b).2, (c, ()))), ())) := by
  refine Tot.get ?_
  unfold F168
  dsimp only
  refine Tot.gd (by decide) (Tot.gd (by decide) (Tot.gd (by decide) (Tot.gd (by decide) (Tot.gd (by omega) ?_))))
  rw [tdl v hv, tdl k hk, U201 _ (by simp) (by simp; omega), bnd_s]
  dsimp only
  rw [fl3]
  have l1 := hmc_len k (v ++ ([0#8] ++ b))
  refine Tot.gd (by omega) ?_
  rw [U214 k _ hk (by simp; omega), bnd_s]
  dsimp only
  refine Tot.gd (by decide) (Tot.gd (by decide) (Tot.gd (by decide) (Tot.gd (by decide) (Tot.gd (by omega) ?_))))
  rw [U201 _ (by simp) (by simp; omega), bnd_s]
  dsimp only
  rw [fl1]
  refine Tot.gd (by omega) ?_
  rw [tdl _ l1, U214 _ _ l1 (by omega), bnd_s]
  dsimp only
  have hu : up1 0#8 (k, v) b = (hmc k (v ++ ([0#8] ++ b)), hmc (hmc k (v ++ ([0#8] ++ b))) v) := rfl
  generalize hk1 : hmc k (v ++ ([0#8] ++ b)) = k1 at l1 hu
  have l2 := hmc_len k1 v
  generalize hv1 : hmc k1 v = v1 at l2 hu
  refine Tot.brd (fun hp => ?_) (fun hn => ?_)
  · have hb0 : b ≠ [] := by intro h; subst h; simp at hp
    refine Tot.gd (by decide) (Tot.gd (by decide) (Tot.gd (by decide) (Tot.gd (by decide) (Tot.gd (by omega) ?_))))
    rw [tdl v1 l2, U201 _ (by simp) (by simp; omega), bnd_s]
    dsimp only
    rw [fl3]
    have l3 := hmc_len k1 (v1 ++ ([1#8] ++ b))
    refine Tot.gd (by omega) ?_
    rw [U214 k1 _ l1 (by simp; omega), bnd_s]
    dsimp only
    refine Tot.gd (by decide) (Tot.gd (by decide) (Tot.gd (by decide) (Tot.gd (by decide) (Tot.gd (by omega) ?_))))
    rw [U201 _ (by simp) (by simp; omega), bnd_s]
    dsimp only
    rw [fl1]
    refine Tot.gd (by omega) ?_
    rw [tdl _ l3, U214 _ _ l3 (by omega), bnd_s]
    refine Tot.s ?_
    unfold upd
    rw [if_neg hb0, hu]; rfl
  · have hb0 : b = [] := by
      cases b with
      | nil => rfl
      | cons x y => exact absurd (by simp) hn
    refine Tot.s ?_
    unfold upd
    rw [if_pos hb0, hu]
theorem U46 (k v b : By) (c : Int) (hk : k.length = 32) (hv : v.length = 32) (hb : b.length ≤ 900000) : F46 ((TB0, (k, (v, (c, ())))), ()) (b, ()) = some ((), ((TB0, ((upd (k, v) b).1, ((upd (k, v) b).2, (c, ())))), ())) := by
  refine Tot.get ?_
  unfold F46
  dsimp only
  refine Tot.count 2 (fun i p => p.1.1 = (i : Int) ∧ ∃ s : By × By, p.2.1 = (TB0, (s.1, (s.2, (c, ())))) ∧ s = (if i = 0 then (k, v) else if i = 1 then up1 0#8 (k, v) b else up1 1#8 (up1 0#8 (k, v) b) b) ∧ (i = 2 → b ≠ [])) ⟨rfl, (k, v), rfl, rfl, fun h => absurd h (by decide)⟩ (by decide) ?_
  rintro i ⟨⟨t, ⟨⟩⟩, q, ⟨⟩⟩ hi ⟨ht, s, hq, hs, h2⟩ rec hrec
  dsimp only at ht hq ⊢
  subst ht
  subst hq
  obtain ⟨k1, v1⟩ := s
  have hl : k1.length = 32 ∧ v1.length = 32 := by
    split at hs
    · cases hs; exact ⟨hk, hv⟩
    · split at hs
      · have := up1_len 0#8 (k, v) b; rw [← hs] at this; exact this
      · have := up1_len 1#8 (up1 0#8 (k, v) b) b; rw [← hs] at this; exact this
  obtain ⟨l1, l2⟩ := hl
  dsimp only
  have hnext : ∀ x : BitVec 8, BitVec.ofInt 8 (i : Int) = x → i < 2 → (i = 1 → b ≠ []) → up1 x (k1, v1) b = (if i + 1 = 0 then (k, v) else if i + 1 = 1 then up1 0#8 (k, v) b else up1 1#8 (up1 0#8 (k, v) b) b) := by
    intro x hx hi2 hb1
    have : i = 0 ∨ i = 1 := by omega
    rcases this with h | h
    · subst h; rw [if_pos rfl] at hs; rw [hs, if_neg (by decide), if_pos rfl, ← hx]; rfl
    · subst h; rw [if_neg (by decide), if_pos rfl] at hs; rw [hs, if_neg (by decide), if_neg (by decide), ← hx]; rfl
  have tree : ∀ y, y = rec ((Go.SL.w64 ((i : Int) + 1), ()), ((TB0, ((up1 (BitVec.ofInt 8 (i : Int)) (k1, v1) b).1, ((up1 (BitVec.ofInt 8 (i : Int)) (k1, v1) b).2, (c, ())))), ())) → i < 2 → (i = 1 → b ≠ []) → Tot y (fun a => a = ((), ((TB0, ((upd (k, v) b).1, ((upd (k, v) b).2, (c, ())))), ()))) := by
    intro y hy hi2 hb1
    subst hy
    refine hrec hi2 _ ⟨?_, _, rfl, hnext _ rfl hi2 hb1, fun h => hb1 (by omega)⟩
    dsimp only; (first | decide | omega | (simp (disch := omega) only [w64_id, few, few9, List.length_set, List.length_append, List.length_take, List.length_drop, List.length_replicate, List.length_cons, List.length_nil, Int.toNat_natCast]; done) | (simp (disch := omega) only [w64_id, few, few9, List.length_set, List.length_append, List.length_take, List.length_drop, List.length_replicate, List.length_cons, List.length_nil, Int.toNat_natCast]; omega) | (simp [few, few9] <;> omega))
  have e0 : ([] ++ v1 : By) = v1 := List.nil_append _
  have l3 := hmc_len k1 (v1 ++ ([BitVec.ofInt 8 (i : Int)] ++ b))
  have hu : up1 (BitVec.ofInt 8 (i : Int)) (k1, v1) b = (hmc k1 (v1 ++ ([BitVec.ofInt 8 (i : Int)] ++ b)), hmc (hmc k1 (v1 ++ ([BitVec.ofInt 8 (i : Int)] ++ b))) v1) := rfl
  have em : (v1 ++ [BitVec.ofInt 8 (i : Int)]) ++ b = v1 ++ ([BitVec.ofInt 8 (i : Int)] ++ b) := List.append_assoc _ _ _
  have g1 : (0 : Nat) ≤ 32 := by decide
  have g2 : (32 : Nat) ≤ 32 := by decide
  have gv : 32 ≤ v1.length := by omega
  have gk : 32 ≤ k1.length := by omega
  have f1 : few 0 v1.length := by unfold few; omega
  have f2 : few v1.length [BitVec.ofInt 8 (i : Int)].length := by unfold few; simp only [List.length_cons, List.length_nil]; omega
  have f3 : few (v1 ++ [BitVec.ofInt 8 (i : Int)]).length b.length := by unfold few; simp only [List.length_append, List.length_cons, List.length_nil]; omega
  have ga : 32 ≤ (hmc k1 (v1 ++ ([BitVec.ofInt 8 (i : Int)] ++ b))).length := by omega
  have c1 := U54 k1 (v1 ++ ([BitVec.ofInt 8 (i : Int)] ++ b)) l1 (by simp only [List.length_append, List.length_cons, List.length_nil]; omega)
  have c2 := U54 (hmc k1 (v1 ++ ([BitVec.ofInt 8 (i : Int)] ++ b))) v1 l3 (by omega)
  refine Tot.brd (fun hlt => ?_) (fun hge => ?_)
  · refine Tot.br (fun h1 => ?_) (fun h1 => ?_)
    · have h1' : (i : Int) = 1 := by simpa using h1
      refine Tot.br (fun hz => ?_) (fun hz => ?_)
      · have hb0 : b = [] := by
          have : (b.length : Int) = 0 := by simpa using hz
          exact List.length_eq_zero_iff.mp (by omega)
        refine Tot.s ?_
        have : i = 1 := by omega
        subst this
        rw [if_neg (by decide), if_pos rfl] at hs
        unfold upd
        rw [if_pos hb0, ← hs]
      · have hb0 : b ≠ [] := by
          intro h; subst h; exact absurd hz (by decide)
        refine tree _ ?_ (by omega) (fun _ => hb0)
        rw [tdl v1 l2, tdl k1 l1, hu]
        simp only [e0, em, c1, bnd_s, tdl _ l3, c2, gd_t g1, gd_t g2, gd_t gv, gd_t gk, gd_t f1, gd_t f2, gd_t f3, gd_t ga, bth_self]
    · refine tree _ ?_ (by omega) (fun h => ?_)
      · rw [tdl v1 l2, tdl k1 l1, hu]
        simp only [e0, em, c1, bnd_s, tdl _ l3, c2, gd_t g1, gd_t g2, gd_t gv, gd_t gk, gd_t f1, gd_t f2, gd_t f3, gd_t ga, bth_self]
      · subst h; exact absurd h1 (by decide)
  · have hi2 : i = 2 := by omega
    subst hi2
    rw [if_neg (by decide), if_neg (by decide)] at hs
    refine Tot.s ?_
    unfold upd
    rw [if_neg (h2 rfl), ← hs]
end Go.GX
