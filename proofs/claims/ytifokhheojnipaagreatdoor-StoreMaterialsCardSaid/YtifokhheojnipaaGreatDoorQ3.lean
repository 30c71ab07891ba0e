/- The tables of the reference. -/
import Derived.Test.YtifokhheojnipaaGreatDoorQ2
import Derived.Test.YtifokhheojnipaaGreatDoorK3
set_option linter.unusedVariables false
set_option linter.unusedSimpArgs false
set_option linter.unnecessarySimpa false
namespace Go.GX
open Go.RowKit Go.SL
set_option linter.unusedVariables false
set_option linter.unusedSimpArgs false
set_option maxRecDepth 8000
def rstep (n : BitVec 64) (cb : Bool) (i : Nat) (r : BitVec 64) : BitVec 64 := cond (!abv (r + (1#64 <<< i)) n cb) (r + (1#64 <<< i)) r
def rrL (n : BitVec 64) (cb : Bool) : Nat → BitVec 64
  | 0 => 0#64
  | m + 1 => rstep n cb (36 - m) (rrL n cb m)
def rootW (n : BitVec 64) (cb : Bool) : BitVec 32 := BitVec.setWidth 32 (rrL n cb 37)
theorem U170 (n : BitVec 64) (cb : Bool) (hn : n.toNat < 65536) : F170 (n, (cb, ())) () = some ((rootW n cb, ()), ()) := by
  refine Tot.get ?_
  unfold F170
  dsimp only
  refine Tot.iter (fun m v => v.1.1 = (m : Int) - 1 ∧ m ≤ 37 ∧ v.1.2.1 = rrL n cb (37 - m)) 37 ⟨rfl, Nat.le_refl _, rfl⟩ (by decide) ?_
  rintro m ⟨⟨t, r, ⟨⟩⟩, ⟨⟩⟩ ⟨ht, hm, hr⟩ rec hrec
  dsimp only at ht hr ⊢
  subst ht
  refine Tot.brd (fun hge => ?_) (fun hlt => ?_)
  · have ei : Int.toNat ((m : Int) - 1) = m - 1 := by omega
    rw [ei]
    refine Tot.gd (by omega) ?_
    rw [U200 _ _ _ hn, bnd_s]
    have en : rrL n cb (37 - (m - 1)) = rstep n cb (m - 1) r := by
      rw [show 37 - (m - 1) = (37 - m) + 1 by omega, hr]
      show rstep n cb (36 - (37 - m)) _ = _
      rw [show 36 - (37 - m) = m - 1 by omega]
    have ew : Go.SL.w64 ((m : Int) - 1 - 1) = ((m - 1 : Nat) : Int) - 1 := by rw [w64_id (by omega) (by omega)]; omega
    refine Tot.br (fun h => ?_) (fun h => ?_)
    · refine hrec (m - 1) _ (by omega) ⟨ew, by omega, ?_⟩
      rw [en]; unfold rstep
      have h' : (!abv (r + (1#64 <<< (m - 1))) n cb) = true := h
      rw [h']; rfl
    · refine hrec (m - 1) _ (by omega) ⟨ew, by omega, ?_⟩
      rw [en]; unfold rstep
      have h' : (!abv (r + (1#64 <<< (m - 1))) n cb) = false := h
      rw [h']; rfl
  · have hm0 : m = 0 := by omega
    subst hm0
    refine Tot.s ?_
    rw [hr]; rfl
theorem rootsA : PR64.map (fun p => rootW p true) = shaAdd := by decide +kernel
theorem rootsB : PR8.map (fun p => rootW p false) = H0 := by decide +kernel
theorem smallA : PR64.all (fun p => decide (p.toNat < 65536)) = true := by decide +kernel
theorem smallB : PR8.all (fun p => decide (p.toNat < 65536)) = true := by decide +kernel
theorem map_at {α γ : Type} {f : α → γ} {l : List α} {r : List γ} (h : l.map f = r) {i : Nat} {a : α} (ha : l[i]? = some a) : r[i]? = some (f a) := by
  rw [← h, List.getElem?_map, ha]; rfl
theorem U107 : F107 () () = some ((shaAdd, ()), ()) := by
  refine Tot.get ?_
  unfold F107
  rw [h169a, bnd_s]
  dsimp only
  have hP : PR64.length = 64 := rfl
  have hS : shaAdd.length = 64 := rfl
  refine Tot.count 64 (fun i v => v.1.1 = (i : Int) ∧ v.1.2.1 = shaAdd.take i) ⟨rfl, rfl⟩ (by decide) ?_
  rintro i ⟨⟨t, l, ⟨⟩⟩, ⟨⟩⟩ hi ⟨ht, hl⟩ rec hrec
  dsimp only at ht hl ⊢
  subst ht
  subst hl
  refine Tot.brd (fun hlt => ?_) (fun hge => ?_)
  · have hi' : i < 64 := by omega
    refine Tot.gd (by omega) (Tot.idx (by omega) fun a ha => ?_)
    rw [Int.toNat_natCast] at ha
    have hs := of_decide_eq_true (List.all_eq_true.mp smallA a (List.mem_of_getElem? ha))
    rw [U170 a true hs, bnd_s]
    dsimp only
    refine Tot.gd (by unfold few; simp only [List.length_take, List.length_cons, List.length_nil]; omega) (hrec hi' _ ⟨?_, ?_⟩)
    · dsimp only; (first | decide | omega | (simp (disch := omega) only [w64_id, few, few9, List.length_set, List.length_append, List.length_take, List.length_drop, List.length_replicate, List.length_cons, List.length_nil, Int.toNat_natCast]; done) | (simp (disch := omega) only [w64_id, few, few9, List.length_set, List.length_append, List.length_take, List.length_drop, List.length_replicate, List.length_cons, List.length_nil, Int.toNat_natCast]; omega) | (simp [few, few9] <;> omega))
    · dsimp only
      rw [List.take_add_one, map_at rootsA ha]; rfl
  · have h64 : i = 64 := by omega
    subst h64
    refine Tot.s ?_
    rw [List.take_of_length_le (by omega)]
theorem U108 : F108 () () = some ((H0, ()), ()) := by
  refine Tot.get ?_
  unfold F108
  rw [h169b, bnd_s]
  dsimp only
  have hP : PR8.length = 8 := rfl
  have hS : H0.length = 8 := rfl
  refine Tot.count 8 (fun i v => v.1.1 = (i : Int) ∧ v.2.1 = H0.take i ++ (List.replicate 8 0#32).drop i) ⟨rfl, rfl⟩ (by decide) ?_
  rintro i ⟨⟨t, ⟨⟩⟩, l, ⟨⟩⟩ hi ⟨ht, hl⟩ rec hrec
  dsimp only at ht hl ⊢
  subst ht
  subst hl
  refine Tot.brd (fun hlt => ?_) (fun hge => ?_)
  · have hi' : i < 8 := by omega
    refine Tot.gd (by omega) (Tot.idx (by omega) fun a ha => ?_)
    rw [Int.toNat_natCast] at ha
    have hs := of_decide_eq_true (List.all_eq_true.mp smallB a (List.mem_of_getElem? ha))
    rw [U170 a false hs, bnd_s]
    dsimp only
    have hcl : (H0.take i ++ (List.replicate 8 0#32).drop i).length = 8 := by rw [List.length_append, List.length_take, List.length_drop, List.length_replicate]; omega
    simp only [Int.toNat_natCast]
    repeat' (first | refine Tot.gdT ?_ | refine Tot.gdE ?_ | refine Tot.gd (by first | decide | omega) ?_)
    refine hrec hi' _ ⟨?_, ?_⟩
    · dsimp only; (first | decide | omega | (simp (disch := omega) only [w64_id, few, few9, List.length_set, List.length_append, List.length_take, List.length_drop, List.length_replicate, List.length_cons, List.length_nil, Int.toNat_natCast]; done) | (simp (disch := omega) only [w64_id, few, few9, List.length_set, List.length_append, List.length_take, List.length_drop, List.length_replicate, List.length_cons, List.length_nil, Int.toNat_natCast]; omega) | (simp [few, few9] <;> omega))
    · exact put1 H0 (List.replicate 8 0#32) i _ (map_at rootsB ha) (by simp; omega)
  · have h64 : i = 8 := by omega
    subst h64
    refine Tot.s ?_
    rw [List.take_of_length_le (by omega)]
    simp
theorem U45 : F45 () () = some ((TB0, ()), ()) := by
  unfold F45
  rw [U107, bnd_s, U108, bnd_s]
  rfl
end Go.GX
namespace Go.GX
open Go.RowKit Go.SL
set_option linter.unusedVariables false
set_option linter.unusedSimpArgs false
set_option maxRecDepth 8000
def tabA : List (Int × SeaT) := [((1 : Int), ((1 : Int), ((0 : Int), (rep0, ()))))]
def repA : RepT := (0, (1, (1, ([], ()))))
def repT : RepT := (0, (1, (2, ([], ()))))
def srcOf (p : By × By) (c : Int) : SrcT := (p.1, (p.2, (c, ())))
theorem rot_ok (p : By × By) (hp : p.1.length = 32 ∧ p.2.length = 32) (c : Int) (h0 : 0 ≤ c) (h1 : c ≤ 1048576) (m0 : By) (hm0 : m0.length = 32) (l : List (Int × SeaT)) (y : SeaT) (hg : mget l 1 = some y) (hq : y.2.1 < 3) (hy : y.2.2.1.2.2.2.1.length ≤ 4294967296) :
    F18 ((srcOf p c, (([rng0 m0], ()), ((l, (2, ())), ()))), ()) (cmdRot, ()) = some ((repT, ()), ((srcOf (drw p) (c + 1), (([(false, ([ver0 m0, ver0 (hmc p.1 p.2)], ()))], ()), ((mput l 1 (1, (3, (repT, ()))), (2, ())), ()))), ())) :=
  E18 _ _ l 2 cmdRot U47t (show (4 : Int) ≠ 1 by decide) (show (4 : Int) ≠ 2 by decide) y hg hq (show (1 : Int) ≤ 3 by decide) hy repT 0 _ _ repT (by rw [if_pos rfl]) (by decide) (E52t p c m0 hp h0 h1 (l, (2, ())))
theorem law3 (hsh : F14 () () = some ((true, ()), ())) (b m : By) : F3 (b, (m, ())) () = some ((true, ()), ()) := by
  refine Tot.get ?_
  obtain ⟨⟨⟨b', ⟨⟩⟩, ⟨⟩⟩, h16, hb⟩ := V16 b
  dsimp only at hb
  unfold F3
  dsimp only
  rw [hsh, bnd_s, h16, bnd_s]
  dsimp only
  rw [U15 b' (by omega), bnd_s]
  dsimp only
  rw [show (!true) = false from rfl, br_f, br_f, bnd_s]
  rw [U17 U45 b' (by omega), bnd_s]
  dsimp only
  have hp0 := upd_len (zrs, ons) b'
  have hn0 : newS b' = upd (zrs, ons) b' := rfl
  rw [← hn0] at hp0
  generalize newS b' = p at hp0
  have e1 : F18 ((srcOf p 1, (([], ()), (([], (1, ())), ()))), ()) (cmdOpen, ()) = some (((0, (1, (0, ([], ())))), ()), ((srcOf p 1, (([], ()), ((tabA, (2, ())), ()))), ())) := U18o (srcOf p 1) ([], ()) [] 1 (by simp) (by decide) (by decide)
  refine Tot.bnd (Tot.eq e1) fun r7 hr7 => ?_
  subst hr7
  dsimp only
  have e2 : F18 ((srcOf p 1, (([], ()), ((tabA, (2, ())), ()))), ()) (cmdNew 1 1, ()) = some ((repA, ()), ((srcOf (drw p) 2, (([rng0 (hmc p.1 p.2)], ()), ((mput tabA 1 (1, (1, (repA, ()))), (2, ())), ()))), ())) :=
    E18 _ _ tabA 2 (cmdNew 1 1) (U47n 1 1 (by decide) (by decide)) (show (3 : Int) ≠ 1 by decide) (show (3 : Int) ≠ 2 by decide) (1, (0, (rep0, ()))) rfl (show (0 : Int) < 1 by decide) (show (1 : Int) ≤ 1 by decide) (by decide) repA 0 _ _ repA (by rw [if_pos rfl]) (by decide) (E52n p 1 hp0 (by decide) (by decide) (tabA, (2, ())))
  refine Tot.bnd (Tot.eq e2) fun r8 hr8 => ?_
  subst hr8
  dsimp only
  rw [U19 p.1 p.2 1 hp0.1 hp0.2 (by decide) (by decide), bnd_s]
  dsimp only
  have hpp : (p.1, p.2) = p := rfl
  rw [hpp]
  have hm0 := hmc_len p.1 p.2
  generalize hM0 : hmc p.1 p.2 = m0 at hm0
  have hd := drw_len p
  generalize hS1 : drw p = p1 at hd
  have hg1 : mget (mput tabA 1 ((1, (1, (repA, ()))) : SeaT)) 1 = some (1, (1, (repA, ()))) := mget_mput
  generalize mput tabA 1 ((1, (1, (repA, ()))) : SeaT) = l1 at hg1
  -- what is behind the mixing
  have tail : ∀ (p2 : By × By) (c : Int) (l2 : List (Int × SeaT)) (y : SeaT) (ST : StoT) (RS : TabW × By × By × Int × Unit), p2.1.length = 32 ∧ p2.2.length = 32 → 0 ≤ c → c ≤ 1048576 → mget l2 1 = some y → y.2.1 < 3 → y.2.2.1.2.2.2.1.length ≤ 4294967296 →
      ST = (srcOf p2 c, (([rng0 m0], ()), ((l2, (2, ())), ()))) → RS = (TB0, (p2.1, (p2.2, (c, ())))) →
      Tot (bnd (F18 (ST, ()) ((4, (1, (3, (1, (0, ([], ([], ()))))))), ())) fun a12 => bnd (F19 (RS, (32, ())) ([], ())) fun a13 => bnd (F21 (a12.2.1, ()) ()) fun a14 => br ((Nat.cast (List.length a14.1.1) : Int) == 1)
        (gd ((0 : Int) ≤ 0) <| gd (0 < (List.length a14.1.1)) <| bnd a14.1.1[0]? fun a15 => br (cond true ((Nat.cast (List.length a15.2.1) : Int) == 2) false)
        (gd ((0 : Int) ≤ 0) <| gd (0 < (List.length a14.1.1)) <| gd ((0 : Nat) = 0) <| gd ((0 : Int) ≤ 0) <| gd (0 < (List.length a15.2.1)) <| gd ((0 : Nat) ≤ 32) <| gd ((32 : Nat) ≤ 32) <| bnd a15.2.1[0]? fun a16 => gd (32 ≤ (List.length a16.1)) <| br (cond true (List.take 32 (List.drop 0 a16.1) == m0) false)
        (gd ((0 : Int) ≤ 0) <| gd (0 < (List.length a14.1.1)) <| gd ((0 : Nat) = 0) <| gd ((0 : Int) ≤ 1) <| gd (1 < (List.length a15.2.1)) <| gd ((0 : Nat) ≤ 32) <| gd ((32 : Nat) ≤ 32) <| bnd a15.2.1[1]? fun a17 => gd (32 ≤ (List.length a17.1)) <| some ((cond true (List.take 32 (List.drop 0 a17.1) == a13.1.1) false, ()), ()))
        (some ((false, ()), ())))
        (some ((false, ()), ())))
        (some ((false, ()), ()))) (fun a => a = ((true, ()), ())) := by
    intro p2 c l2 y ST RS hp2 h0 h1 hg hq hy hST hRS
    subst hST
    subst hRS
    refine Tot.bnd (Tot.eq (rot_ok p2 hp2 c h0 h1 m0 hm0 l2 y hg hq hy)) fun r12 hr12 => ?_
    subst hr12
    dsimp only
    have hl := hmc_len p2.1 p2.2
    rw [U19 p2.1 p2.2 c hp2.1 hp2.2 h0 h1, bnd_s]
    dsimp only
    generalize hmc p2.1 p2.2 = m1 at hl
    have hF21 : Tot (F21 ((srcOf (drw p2) (c + 1), (([(false, ([ver0 m0, ver0 m1], ()))], ()), ((mput l2 1 (1, (3, (repT, ()))), (2, ())), ()))), ()) ()) (fun r => r.1.1 = [(false, ([ver0 m0, ver0 m1], ()))]) := by
      unfold F21
      dsimp only
      exact Tot.bnd (V55 [(false, ([ver0 m0, ver0 m1], ()))] (by simp) (by simp)) fun r hr => Tot.s hr.1
    refine Tot.bnd hF21 fun r14 hr14 => ?_
    rw [hr14]
    rw [show ((Nat.cast (List.length [((false, ([ver0 m0, ver0 m1], ())) : RngT)]) : Int) == 1) = true from rfl, br_t]
    refine Tot.gd (by decide) (Tot.gd (by simp) ?_)
    rw [show ([((false, ([ver0 m0, ver0 m1], ())) : RngT)] : List RngT)[0]? = some (false, ([ver0 m0, ver0 m1], ())) from rfl, bnd_s]
    dsimp only
    rw [show (cond true ((Nat.cast (List.length [ver0 m0, ver0 m1]) : Int) == 2) false) = true from rfl, br_t]
    refine Tot.gd (by decide) (Tot.gd (by simp) (Tot.gd rfl (Tot.gd (by decide) (Tot.gd (by simp) (Tot.gd (by decide) (Tot.gd (by decide) ?_))))))
    rw [show ([ver0 m0, ver0 m1] : List VerT)[0]? = some (ver0 m0) from rfl, bnd_s, show (ver0 m0).1 = m0 from rfl]
    refine Tot.gd (by omega) ?_
    rw [tdl m0 hm0, show (cond true (m0 == m0) false) = true from by simp, br_t]
    refine Tot.gd (by decide) (Tot.gd (by simp) (Tot.gd rfl (Tot.gd (by decide) (Tot.gd (by simp) (Tot.gd (by decide) (Tot.gd (by decide) ?_))))))
    rw [show ([ver0 m0, ver0 m1] : List VerT)[1]? = some (ver0 m1) from rfl, bnd_s, show (ver0 m1).1 = m1 from rfl]
    refine Tot.gd (by omega) (Tot.s ?_)
    rw [tdl m1 hl]
    simp
  by_cases hm : 1 ≤ m.length ∧ m.length ≤ 64
  · have e3 : F18 ((srcOf p1 2, (([rng0 m0], ()), ((l1, (2, ())), ()))), ()) (cmdMix m, ()) = some ((rep0, ()), ((srcOf (upd p1 m) 1, (([rng0 m0], ()), ((mput l1 1 (1, (2, (rep0, ()))), (2, ())), ()))), ())) :=
      E18 _ _ l1 2 (cmdMix m) (U47r m hm) (show (10 : Int) ≠ 1 by decide) (show (10 : Int) ≠ 2 by decide) (1, (1, (repA, ()))) hg1 (show (1 : Int) < 2 by decide) (show (1 : Int) ≤ 2 by decide) (by decide) rep0 0 _ _ rep0 (by rw [if_pos rfl]) (by decide) (E52m p1 2 m hd hm.2 ([rng0 m0], ()) (l1, (2, ())))
    refine Tot.bnd (Tot.eq e3) fun r10 hr10 => ?_
    subst hr10
    dsimp only
    refine Tot.jnP (fun v => v.2.1 = (TB0, ((upd p1 m).1, ((upd p1 m).2, (1, ()))))) ?_ ?_
    · rintro ⟨⟨⟩, v, ⟨⟩⟩ hv
      dsimp only at hv ⊢
      rw [show (decide ((Nat.cast m.length : Int) ≥ 1)) = true from decide_eq_true (by omega), br_t, show (decide ((Nat.cast m.length : Int) ≤ 64)) = true from decide_eq_true (by omega), show (((rep0.1 : Int) == 0) != cond true true false) = false from rfl, br_f]
      exact tail (upd p1 m) 1 _ (1, (2, (rep0, ()))) _ _ (upd_len _ _) (by decide) (by decide) mget_mput (show (2 : Int) < 3 by decide) (by decide) rfl hv
    · intro j hj
      rw [show ((rep0.1 : Int) == 0) = true from rfl, br_t]
      rw [U20 p1.1 p1.2 m (1 + 1) hd.1 hd.2 (by omega), bnd_s]
      repeat' (first | refine Tot.gdE ?_)
      exact hj _ rfl
  · have e3 : F18 ((srcOf p1 2, (([rng0 m0], ()), ((l1, (2, ())), ()))), ()) (cmdMix m, ()) = some ((repC 1, ()), ((srcOf p1 2, (([rng0 m0], ()), ((l1, (2, ())), ()))), ())) := E18x _ (cmdMix m) 1 (by decide) (U47x m hm)
    refine Tot.bnd (Tot.eq e3) fun r10 hr10 => ?_
    subst hr10
    dsimp only
    refine Tot.jnP (fun v => v.2.1 = (TB0, (p1.1, (p1.2, (2, ()))))) ?_ ?_
    · rintro ⟨⟨⟩, v, ⟨⟩⟩ hv
      dsimp only at hv ⊢
      have ht := tail p1 2 l1 (1, (1, (repA, ()))) _ _ hd (by decide) (by decide) hg1 (show (1 : Int) < 3 by decide) (by decide) rfl hv
      refine Tot.brd (fun h1 => ?_) (fun h1 => ?_)
      · rw [show (decide ((Nat.cast m.length : Int) ≤ 64)) = false from decide_eq_false (by omega), show ((((repC 1).1 : Int) == 0) != cond true false false) = false from rfl, br_f]
        exact ht
      · rw [show ((((repC 1).1 : Int) == 0) != false) = false from rfl, br_f]
        exact ht
    · intro j hj
      rw [show (((repC 1).1 : Int) == 0) = false from rfl, br_f]
      repeat' (first | refine Tot.gdE ?_)
      exact hj _ rfl
end Go.GX
