/- What is drawn, and what a new source is: of the program, of the reference. -/
import Derived.Test.YtifokhheojnipaaGreatDoorQ1
set_option linter.unusedVariables false
set_option linter.unusedSimpArgs false
set_option linter.unnecessarySimpa false
namespace Go.GX
open Go.RowKit Go.SL
set_option linter.unusedVariables false
set_option linter.unusedSimpArgs false
set_option maxRecDepth 8000
def drw (s : By × By) : By × By := upd (s.1, hmc s.1 s.2) []
def ons : By := List.replicate 32 1#8
def zrs : By := List.replicate 32 0#8
def newS (b : By) : By × By := upd (zrs, ons) b
theorem drw_len (s : By × By) : (drw s).1.length = 32 ∧ (drw s).2.length = 32 := upd_len _ _
theorem U172 (k v : By) (c : Int) (hk : k.length = 32) (hv : v.length = 32) (h0 : 0 ≤ c) (h1 : c ≤ 1048576) : F172 ((k, (v, (c, ()))), (32, ())) ([], ()) = some ((hmc k v, (0, ())), (((drw (k, v)).1, ((drw (k, v)).2, (c + 1, ()))), ())) := by
  refine Tot.get ?_
  unfold F172
  dsimp only
  refine Tot.jn ?_
  refine Tot.brd (fun h => absurd h (by decide)) (fun _ => ?_)
  refine Tot.gdE ?_
  dsimp only
  refine Tot.brd (fun h => absurd h (by decide)) (fun _ => ?_)
  refine Tot.brd (fun h => by omega) (fun _ => ?_)
  refine Tot.jn ?_
  refine Tot.brd (fun h => absurd h (by simp)) (fun _ => ?_)
  dsimp only
  have hl := hmc_len k v
  refine Tot.count 1 (fun i p => p.1.1 = (if i = 0 then [] else hmc k v) ∧ p.2.1 = (if i = 0 then (k, (v, (c, ()))) else (k, (hmc k v, (c, ()))))) ⟨rfl, rfl⟩ (by decide) ?_
  rintro i ⟨⟨o, ⟨⟩⟩, q, ⟨⟩⟩ hi ⟨ho, hq⟩ rec hrec
  dsimp only at ho hq ⊢
  have hi2 : i = 0 ∨ i = 1 := by omega
  rcases hi2 with h | h
  · subst h
    rw [if_pos rfl] at ho hq
    subst ho
    subst hq
    refine Tot.brd (fun _ => ?_) (fun h => absurd (by decide) h)
    dsimp only
    refine Tot.gd (by decide) (Tot.gd (by decide) (Tot.gd (by decide) (Tot.gd (by decide) (Tot.gd (by omega) ?_))))
    rw [tdl _ hv, tdl _ hk, U201 _ (by simp) (by simp; omega), bnd_s]
    dsimp only
    rw [fl1]
    refine Tot.gd (by omega) ?_
    rw [U214 k v hk (by omega), bnd_s]
    dsimp only
    rw [tdl _ hl]
    refine Tot.gd (by decide) (Tot.gd (by decide) (Tot.gd (by omega) (Tot.gd (by unfold few; simp only [List.length_nil]; omega) ?_)))
    exact hrec (by decide) _ ⟨by simp, by simp⟩
  · subst h
    rw [if_neg (by decide)] at ho hq
    subst ho
    subst hq
    refine Tot.brd (fun h => absurd h (by rw [hl]; decide)) (fun _ => ?_)
    rw [U168 k (hmc k v) [] c hk hl (by simp), bnd_s]
    dsimp only
    refine Tot.gd (by decide) (Tot.gd (by decide) (Tot.gd ?_ (Tot.gd ?_ (Tot.s ?_))))
    · show (32 : Int).toNat ≤ _; omega
    · show 0 + ((32 : Int).toNat - 0) ≤ _; omega
    · have : List.take ((32 : Int).toNat - 0) (List.drop 0 (hmc k v)) = hmc k v := tdl _ hl
      rw [this, w64_id (by omega) (by omega)]; rfl
theorem U19 (k v : By) (c : Int) (hk : k.length = 32) (hv : v.length = 32) (h0 : 0 ≤ c) (h1 : c ≤ 1048576) : F19 ((TB0, (k, (v, (c, ())))), (32, ())) ([], ()) = some ((hmc k v, (0, ())), ((TB0, ((drw (k, v)).1, ((drw (k, v)).2, (c + 1, ())))), ())) := by
  refine Tot.get ?_
  unfold F19
  dsimp only
  refine Tot.brd (fun h => absurd h (by decide)) (fun _ => ?_)
  refine Tot.br (fun h => absurd h (by simp)) (fun _ => ?_)
  refine Tot.brd (fun h => by omega) (fun _ => ?_)
  refine Tot.jn ?_
  refine Tot.brd (fun h => absurd h (by simp)) (fun _ => ?_)
  dsimp only
  have hl := hmc_len k v
  refine Tot.count 1 (fun i p => p.1.1 = (if i = 0 then [] else hmc k v) ∧ p.2.1 = (if i = 0 then (TB0, (k, (v, (c, ())))) else (TB0, (k, (hmc k v, (c, ())))))) ⟨rfl, rfl⟩ (by decide) ?_
  rintro i ⟨⟨o, ⟨⟩⟩, q, ⟨⟩⟩ hi ⟨ho, hq⟩ rec hrec
  dsimp only at ho hq ⊢
  have hi2 : i = 0 ∨ i = 1 := by omega
  rcases hi2 with h | h
  · subst h
    rw [if_pos rfl] at ho hq
    subst ho
    subst hq
    refine Tot.brd (fun _ => ?_) (fun h => absurd (by decide) h)
    dsimp only
    refine Tot.gd (by decide) (Tot.gd (by decide) (Tot.gd (by decide) (Tot.gd (by decide) (Tot.gd (by omega) (Tot.gd (by omega) ?_)))))
    rw [tdl _ hv, tdl _ hk, U54 k v hk (by omega), bnd_s]
    dsimp only
    rw [tdl _ hl]
    refine Tot.gd (by decide) (Tot.gd (by decide) (Tot.gd (by omega) (Tot.gd (by unfold few; simp only [List.length_nil]; omega) ?_)))
    exact hrec (by decide) _ ⟨by simp, by simp⟩
  · subst h
    rw [if_neg (by decide)] at ho hq
    subst ho
    subst hq
    refine Tot.brd (fun h => absurd h (by rw [hl]; decide)) (fun _ => ?_)
    rw [U46 k (hmc k v) [] c hk hl (by simp), bnd_s]
    dsimp only
    refine Tot.gd (by decide) (Tot.gd (by decide) (Tot.gd ?_ (Tot.gd ?_ (Tot.s ?_))))
    · show (32 : Int).toNat ≤ _; omega
    · show 0 + ((32 : Int).toNat - 0) ≤ _; omega
    · have : List.take ((32 : Int).toNat - 0) (List.drop 0 (hmc k v)) = hmc k v := tdl _ hl
      rw [this, w64_id (by omega) (by omega)]; rfl
theorem U106 (k v b : By) (c : Int) (hk : k.length = 32) (hv : v.length = 32) (hb : b.length ≤ 900000) : F106 ((k, (v, (c, ()))), ()) (b, ()) = some ((), (((upd (k, v) b).1, ((upd (k, v) b).2, (1, ()))), ())) := by
  unfold F106
  dsimp only
  rw [U168 k v b c hk hv hb, bnd_s]
theorem U20 (k v b : By) (c : Int) (hk : k.length = 32) (hv : v.length = 32) (hb : b.length ≤ 900000) : F20 ((TB0, (k, (v, (c, ())))), ()) (b, ()) = some ((), ((TB0, ((upd (k, v) b).1, ((upd (k, v) b).2, (1, ())))), ())) := by
  unfold F20
  dsimp only
  rw [U46 k v b c hk hv hb, bnd_s]
theorem ones_step (i : Nat) (hi : i < 32) : List.set (List.replicate i 1#8 ++ List.replicate (32 - i) 0#8) i 1#8 = List.replicate (i + 1) 1#8 ++ List.replicate (32 - (i + 1)) 0#8 := by
  revert i; decide
theorem U42 (b : By) (hb : b.length ≤ 900000) : F42 () (b, ()) = some ((((newS b).1, ((newS b).2, (1, ()))), ()), ()) := by
  refine Tot.get ?_
  unfold F42
  refine Tot.count 32 (fun i v => v.1.1 = (i : Int) ∧ v.2.1 = (zrs, (List.replicate i 1#8 ++ List.replicate (32 - i) 0#8, (0, ())))) ⟨rfl, rfl⟩ (by decide) ?_
  rintro i ⟨⟨t, ⟨⟩⟩, q, ⟨⟩⟩ hi ⟨ht, hq⟩ k hk
  dsimp only at ht hq ⊢
  subst ht
  subst hq
  dsimp only
  refine Tot.brd (fun hlt => ?_) (fun hge => ?_)
  · have hi' : i < 32 := by omega
    refine Tot.gd (by omega) (Tot.gd (by omega) (Tot.gd ?_ (hk hi' _ ⟨?_, ?_⟩)))
    · simp only [List.length_append, List.length_replicate]; omega
    · dsimp only; (first | decide | omega | (simp (disch := omega) only [w64_id, few, few9, List.length_set, List.length_append, List.length_take, List.length_drop, List.length_replicate, List.length_cons, List.length_nil, Int.toNat_natCast]; done) | (simp (disch := omega) only [w64_id, few, few9, List.length_set, List.length_append, List.length_take, List.length_drop, List.length_replicate, List.length_cons, List.length_nil, Int.toNat_natCast]; omega) | (simp [few, few9] <;> omega))
    · dsimp only; rw [Int.toNat_natCast, ones_step i hi']
  · have h32 : i = 32 := by omega
    subst h32
    have hz : List.replicate 32 1#8 ++ List.replicate (32 - 32) 0#8 = ons := rfl
    rw [hz, U106 zrs ons b 0 rfl rfl hb, bnd_s]
    exact Tot.s rfl
theorem U17 (h45 : F45 () () = some ((TB0, ()), ())) (b : By) (hb : b.length ≤ 900000) : F17 () (b, ()) = some (((TB0, ((newS b).1, ((newS b).2, (1, ())))), ()), ()) := by
  refine Tot.get ?_
  unfold F17
  rw [h45, bnd_s]
  dsimp only
  refine Tot.count 32 (fun i v => v.1.1 = (i : Int) ∧ v.2.1 = (TB0, (zrs, (List.replicate i 1#8 ++ List.replicate (32 - i) 0#8, (1, ()))))) ⟨rfl, rfl⟩ (by decide) ?_
  rintro i ⟨⟨t, ⟨⟩⟩, q, ⟨⟩⟩ hi ⟨ht, hq⟩ k hk
  dsimp only at ht hq ⊢
  subst ht
  subst hq
  dsimp only
  refine Tot.brd (fun hlt => ?_) (fun hge => ?_)
  · have hi' : i < 32 := by omega
    refine Tot.gd (by omega) (Tot.gd (by omega) (Tot.gd ?_ (hk hi' _ ⟨?_, ?_⟩)))
    · simp only [List.length_append, List.length_replicate]; omega
    · dsimp only; (first | decide | omega | (simp (disch := omega) only [w64_id, few, few9, List.length_set, List.length_append, List.length_take, List.length_drop, List.length_replicate, List.length_cons, List.length_nil, Int.toNat_natCast]; done) | (simp (disch := omega) only [w64_id, few, few9, List.length_set, List.length_append, List.length_take, List.length_drop, List.length_replicate, List.length_cons, List.length_nil, Int.toNat_natCast]; omega) | (simp [few, few9] <;> omega))
    · dsimp only; rw [Int.toNat_natCast, ones_step i hi']
  · have h32 : i = 32 := by omega
    subst h32
    have hz : List.replicate 32 1#8 ++ List.replicate (32 - 32) 0#8 = ons := rfl
    rw [hz, U46 zrs ons b 1 rfl rfl hb, bnd_s]
    exact Tot.s rfl
theorem U15 (b : By) (hb : b.length ≤ 900000) : F15 () (b, ()) = some (((((newS b).1, ((newS b).2, (1, ()))), (([], ()), (([], (1, ())), ()))), ()), ()) := by
  unfold F15
  rw [U42 b hb, bnd_s]
  unfold F43 F44
  rw [bnd_s, bnd_s]
end Go.GX
namespace Go.GX
open Go.RowKit Go.SL
set_option linter.unusedVariables false
set_option linter.unusedSimpArgs false
set_option maxRecDepth 8000
def cmdMix (m : By) : CmdT := (10, (1, (2, (0, (0, (m, ([], ())))))))
def cmdRot : CmdT := (4, (1, (3, (1, (0, ([], ([], ())))))))
theorem U47r (m : By) (h : 1 ≤ m.length ∧ m.length ≤ 64) : F47 () (cmdMix m, ()) = some ((0, ()), ()) := by
  have h1 : (1 : Int) ≤ (m.length : Int) := by omega
  have h2 : (m.length : Int) ≤ 64 := by omega
  unfold F47 cmdMix
  simp [U111, gd_t, gdE_T', jn_e, h1, h2]
theorem U47x (m : By) (h : ¬ (1 ≤ m.length ∧ m.length ≤ 64)) : F47 () (cmdMix m, ()) = some ((1, ()), ()) := by
  have h1 : (decide ((m.length : Int) ≥ 1) && decide ((m.length : Int) ≤ 64)) = false := by
    rw [Bool.and_eq_false_iff]
    by_cases h3 : 1 ≤ m.length
    · exact .inr (decide_eq_false (by omega))
    · exact .inl (decide_eq_false (by omega))
  unfold F47 cmdMix
  simp only [U111, bnd_s, jn_e, h1]
  simp [U111, gd_t, gdE_T', jn_e]
theorem U47t : F47 () (cmdRot, ()) = some ((0, ()), ()) := by
  unfold F47 cmdRot
  simp [U111, gd_t, gdE_T', jn_e]
/-- a command that is new in its session -/
theorem E18 (s : SrcT) (k : KeyT) (l : List (Int × SeaT)) (n : Int) (c : CmdT) (h47 : F47 () (c, ()) = some ((0, ()), ())) (h1 : c.1 ≠ 1) (h2 : c.1 ≠ 2) (y : SeaT) (hg : mget l c.2.1 = some y) (hq : y.2.1 < c.2.2.1) (hq1 : 1 ≤ c.2.2.1) (hy : y.2.2.1.2.2.2.1.length ≤ 4294967296)
    (rp : RepT) (e : Int) (s' : SrcT) (k' : KeyT) (rep : RepT) (hrep : rep = (if e = 0 then rp else repC e)) (hl : rep.2.2.2.1.length ≤ 4294967296)
    (h52 : F52 ((s, (k, ((l, (n, ())), ()))), ()) (c, ()) = some ((rp, (e, ())), ((s', (k', ((l, (n, ())), ()))), ()))) :
    F18 ((s, (k, ((l, (n, ())), ()))), ()) (c, ()) = some ((rep, ()), ((s', (k', ((mput l c.2.1 (c.2.1, (c.2.2.1, (rep, ()))), (n, ())), ()))), ())) := by
  have hask : askT l c.2.1 c.2.2.1 = (rep0, (false, (0, ()))) := by
    unfold askT
    rw [hg]
    dsimp only
    rw [if_neg (by unfold imax; split <;> omega), if_neg (by omega)]
  rw [U18s s k l n c h47 h1 h2 (fun z hz => by rw [hg] at hz; cases hz; exact hy), hask, if_neg (by simp), if_neg (by simp), h52, bnd_s]
  dsimp only
  rw [U48, bnd_s, ← hrep]
  dsimp only
  rw [U53 _ _ _ _ _ hl, hg, bnd_s]
  dsimp only
  rw [if_neg (by omega)]
theorem E18x (st : StoT) (c : CmdT) (e : Int) (he : e ≠ 0) (h47 : F47 () (c, ()) = some ((e, ()), ())) : F18 (st, ()) (c, ()) = some ((repC e, ()), (st, ())) := by
  obtain ⟨k0, sid, seq, id, m, da, be, ⟨⟩⟩ := c
  have h47' : F47 () ((k0, (sid, (seq, (id, (m, (da, (be, ()))))))), ()) = some ((e, ()), ()) := h47
  unfold F18
  dsimp only
  rw [h47', bnd_s]
  dsimp only
  rw [show (e != 0) = true from by simpa using he, br_t, U48, bnd_s, if_neg he]
theorem tk32 (l : By) (h : l.length = 32) : List.take 32 l = l := List.take_of_length_le (by omega)
theorem E52n (p : By × By) (c : Int) (hp : p.1.length = 32 ∧ p.2.length = 32) (h0 : 0 ≤ c) (h1 : c ≤ 1048576) (t : TabT) : F52 (((p.1, (p.2, (c, ()))), (([], ()), (t, ()))), ()) (cmdNew 1 1, ()) = some (((0, (1, (1, ([], ())))), (0, ())), ((((drw p).1, ((drw p).2, (c + 1, ()))), (([rng0 (hmc p.1 p.2)], ()), (t, ()))), ())) := by
  have hl := hmc_len p.1 p.2
  unfold F52
  dsimp only
  rw [show ((cmdNew 1 1).1 == 3) = true from rfl, br_t, U172 p.1 p.2 c hp.1 hp.2 h0 h1, bnd_s]
  dsimp only
  rw [show ((0 : Int) != 0) = false from rfl, br_f, gd_t (by omega), tk32 _ hl, U123 _ _ (by simp), if_neg (by simp), bnd_s]
  rfl
theorem E52m (p : By × By) (c : Int) (m : By) (hp : p.1.length = 32 ∧ p.2.length = 32) (hm : m.length ≤ 64) (k : KeyT) (t : TabT) : F52 (((p.1, (p.2, (c, ()))), (k, (t, ()))), ()) (cmdMix m, ()) = some ((rep0, (0, ())), ((((upd p m).1, ((upd p m).2, (1, ()))), (k, (t, ()))), ())) := by
  unfold F52
  dsimp only
  rw [show ((cmdMix m).1 == 3) = false from rfl, br_f, show ((cmdMix m).1 == 4) = false from rfl, br_f, show ((cmdMix m).1 == 5) = false from rfl, br_f, show ((cmdMix m).1 == 6) = false from rfl, br_f, show ((cmdMix m).1 == 7) = false from rfl, br_f, show ((cmdMix m).1 == 8) = false from rfl, br_f, show ((cmdMix m).1 == 9) = false from rfl, br_f, show ((cmdMix m).1 == 10) = true from rfl, br_t]
  have : F106 ((p.1, (p.2, (c, ()))), ()) ((cmdMix m).2.2.2.2.2.1, ()) = _ := U106 p.1 p.2 m c hp.1 hp.2 (by omega)
  rw [this, bnd_s]
  rfl
theorem U125 (m0 m1 : By) : F125 (([rng0 m0], ()), (1, (m1, ()))) () = some ((2, (0, ())), (([(false, ([ver0 m0, ver0 m1], ()))], ()), ())) := by
  refine Tot.get ?_
  have e : Go.SL.w64 ((1 : Int) - 1) = 0 := by rw [w64_id (by omega) (by omega)]; rfl
  unfold F125
  dsimp only
  rw [e]
  refine Tot.brd (fun h => absurd h (by decide)) (fun _ => Tot.br (fun h => absurd h (by simp)) (fun _ => ?_))
  refine Tot.gd (by decide) (Tot.gd (by simp) (Tot.idx (by simp) fun a ha => ?_))
  have ha' : a = rng0 m0 := by simpa using ha.symm
  subst ha'
  refine Tot.br (fun h => absurd h (by simp [rng0])) (fun _ => ?_)
  refine Tot.gd rfl (Tot.gd (by simp [rng0, few]) (Tot.gd rfl (Tot.gd rfl (Tot.s rfl))))
theorem E52t (p : By × By) (c : Int) (m0 : By) (hp : p.1.length = 32 ∧ p.2.length = 32) (h0 : 0 ≤ c) (h1 : c ≤ 1048576) (t : TabT) : F52 (((p.1, (p.2, (c, ()))), (([rng0 m0], ()), (t, ()))), ()) (cmdRot, ()) = some (((0, (1, (2, ([], ())))), (0, ())), ((((drw p).1, ((drw p).2, (c + 1, ()))), (([(false, ([ver0 m0, ver0 (hmc p.1 p.2)], ()))], ()), (t, ()))), ())) := by
  have hl := hmc_len p.1 p.2
  unfold F52
  dsimp only
  rw [show (cmdRot.1 == 3) = false from rfl, br_f, show (cmdRot.1 == 4) = true from rfl, br_t, U172 p.1 p.2 c hp.1 hp.2 h0 h1, bnd_s]
  dsimp only
  rw [show ((0 : Int) != 0) = false from rfl, br_f, gd_t (by omega), tk32 _ hl]
  have : F125 (([rng0 m0], ()), (cmdRot.2.2.2.1, (hmc p.1 p.2, ()))) () = _ := U125 m0 (hmc p.1 p.2)
  rw [this, bnd_s]
  rfl
end Go.GX
namespace Go.GX
open Go.RowKit Go.SL
set_option linter.unusedVariables false
set_option linter.unusedSimpArgs false
set_option maxRecDepth 8000
abbrev Lm := List (BitVec 64)
def LV : Lm → Nat
  | [] => 0
  | x :: l => x.toNat + 65536 * LV l
theorem LV_set : ∀ (l : Lm) (k : Nat) (x : BitVec 64), k < l.length → LV (l.set k x) + (l.getD k 0#64).toNat * 65536 ^ k = LV l + x.toNat * 65536 ^ k
  | [], k, x, h => absurd h (by simp)
  | y :: l, 0, x, h => by
    show x.toNat + 65536 * LV l + y.toNat * 65536 ^ 0 = y.toNat + 65536 * LV l + x.toNat * 65536 ^ 0
    simp only [Nat.pow_zero, Nat.mul_one]; omega
  | y :: l, k + 1, x, h => by
    have ih := LV_set l k x (by simpa using h)
    show y.toNat + 65536 * LV (l.set k x) + (l.getD k 0#64).toNat * 65536 ^ (k + 1) = y.toNat + 65536 * LV l + x.toNat * 65536 ^ (k + 1)
    have e1 : (l.getD k 0#64).toNat * 65536 ^ (k + 1) = 65536 * ((l.getD k 0#64).toNat * 65536 ^ k) := by rw [Nat.pow_succ, Nat.mul_comm (65536 ^ k), Nat.mul_left_comm]
    have e2 : x.toNat * 65536 ^ (k + 1) = 65536 * (x.toNat * 65536 ^ k) := by rw [Nat.pow_succ, Nat.mul_comm (65536 ^ k), Nat.mul_left_comm]
    rw [e1, e2]; omega
theorem LV_take : ∀ (l : Lm) (k : Nat), k < l.length → LV (l.take (k + 1)) = LV (l.take k) + (l.getD k 0#64).toNat * 65536 ^ k
  | [], k, h => absurd h (by simp)
  | y :: l, 0, h => by
    show y.toNat + 65536 * LV [] = 0 + y.toNat * 65536 ^ 0
    simp [LV]
  | y :: l, k + 1, h => by
    have ih := LV_take l k (by simpa using h)
    show y.toNat + 65536 * LV (l.take (k + 1)) = y.toNat + 65536 * LV (l.take k) + (l.getD k 0#64).toNat * 65536 ^ (k + 1)
    have e1 : (l.getD k 0#64).toNat * 65536 ^ (k + 1) = 65536 * ((l.getD k 0#64).toNat * 65536 ^ k) := by rw [Nat.pow_succ, Nat.mul_comm (65536 ^ k), Nat.mul_left_comm]
    rw [e1]; omega
def Lim (l : Lm) : Prop := ∀ x ∈ l, x.toNat < 65536
theorem Lim.get {l : Lm} (h : Lim l) (k : Nat) : (l.getD k 0#64).toNat < 65536 := by
  rw [List.getD_eq_getElem?_getD]
  cases hk : l[k]? with
  | none => decide
  | some x => exact h x (List.mem_of_getElem? hk)
theorem LV_zero (n : Nat) : LV (List.replicate n 0#64) = 0 := by
  induction n with
  | zero => rfl
  | succ n ih => show 0 + 65536 * LV (List.replicate n 0#64) = 0; rw [ih]
theorem getD_set (l : Lm) (i k : Nat) (x : BitVec 64) (h : i < l.length) : (l.set i x).getD k 0#64 = if i = k then x else l.getD k 0#64 := by
  rw [List.getD_eq_getElem?_getD, List.getElem?_set]
  by_cases e : i = k
  · subst e; rw [if_pos rfl, if_pos h, if_pos rfl]; rfl
  · rw [if_neg e, if_neg e, List.getD_eq_getElem?_getD]
theorem W215 (a b : Lm) (ha : a.length = 8) (hb : b.length = 4) (la : Lim a) (lb : Lim b) : Tot (F215 (a, (b, ())) ()) (fun r => r.1.1.length = 12 ∧ Lim r.1.1 ∧ LV r.1.1 = LV a * LV b) := by
  unfold F215
  dsimp only
  refine Tot.count 8 (fun i v => v.1.1 = (i : Int) ∧ v.2.1.length = 12 ∧ Lim v.2.1 ∧ LV v.2.1 = LV (a.take i) * LV b ∧ ∀ k, i + 4 ≤ k → v.2.1.getD k 0#64 = 0#64) ⟨rfl, by simp, ?_, ?_, ?_⟩ (by decide) ?_
  · intro x hx
    rw [List.eq_of_mem_replicate hx]; decide
  · show LV (List.replicate 12 0#64) = LV [] * LV b
    rw [LV_zero]; show 0 = 0 * LV b; rw [Nat.zero_mul]
  · intro k _
    show (List.replicate 12 0#64).getD k 0#64 = 0#64
    rw [List.getD_eq_getElem?_getD, List.getElem?_replicate]
    split <;> rfl
  rintro i ⟨⟨t, ⟨⟩⟩, r, ⟨⟩⟩ hi ⟨ht, hr, lr, hv, hz⟩ rec hrec
  dsimp only at ht hr lr hv hz ⊢
  subst ht
  refine Tot.brd (fun hlt => ?_) (fun hge => ?_)
  · have hi' : i < 8 := by omega
    refine Tot.count 4 (fun j v => v.1.1 = (j : Int) ∧ v.2.1.length = 12 ∧ Lim v.2.1 ∧ v.1.2.1.toNat < 65536 ∧ LV v.2.1 + v.1.2.1.toNat * 65536 ^ (i + j) = LV r + ((a.getD i 0#64).toNat * LV (b.take j)) * 65536 ^ i ∧ ∀ k, i + 4 ≤ k → v.2.1.getD k 0#64 = 0#64) ⟨rfl, hr, lr, show (0#64 : BitVec 64).toNat < 65536 by decide, ?_, hz⟩ (by decide) ?_
    · show LV r + 0 * 65536 ^ (i + 0) = LV r + ((a.getD i 0#64).toNat * 0) * 65536 ^ i
      simp
    rintro j ⟨⟨t, c, ⟨⟩⟩, q, ⟨⟩⟩ hj ⟨ht, hq, lq, hc, hV, hz2⟩ rec2 hrec2
    dsimp only at ht hq lq hc hV hz2 ⊢
    subst ht
    have ew : Go.SL.w64 ((i : Int) + j) = ((i + j : Nat) : Int) := by rw [w64_id (by omega) (by omega)]; rfl
    refine Tot.brd (fun hlt2 => ?_) (fun hge2 => ?_)
    · have hj' : j < 4 := by omega
      rw [ew]
      simp only [Int.toNat_natCast]
      repeat' (first | refine Tot.gdT ?_ | refine Tot.gdE ?_ | refine Tot.gd (by first | decide | omega) ?_ | refine Tot.idxD 0#64 (by omega) ?_)
      have l6 := lq.get (i + j)
      have l7 := la.get i
      have l8 := lb.get j
      generalize h6 : q.getD (i + j) 0#64 = a6 at l6
      generalize h7 : a.getD i 0#64 = a7 at l7
      generalize h8 : b.getD j 0#64 = a8 at l8
      have hm : a7.toNat * a8.toNat ≤ 65535 * 65535 := Nat.mul_le_mul (by omega) (by omega)
      have hS : ((c + a6) + (a7 * a8)).toNat = c.toNat + a6.toNat + a7.toNat * a8.toNat := by
        rw [BitVec.toNat_add, BitVec.toNat_add, BitVec.toNat_mul]
        rw [Nat.mod_eq_of_lt (show c.toNat + a6.toNat < 2 ^ 64 by omega), Nat.mod_eq_of_lt (show a7.toNat * a8.toNat < 2 ^ 64 by omega), Nat.mod_eq_of_lt (by omega)]
      have hD : (((c + a6) + (a7 * a8)) / 65536#64).toNat = (c.toNat + a6.toNat + a7.toNat * a8.toNat) / 65536 := by rw [BitVec.toNat_udiv, hS]; rfl
      have hM : (((c + a6) + (a7 * a8)) % 65536#64).toNat = (c.toNat + a6.toNat + a7.toNat * a8.toNat) % 65536 := by rw [BitVec.toNat_umod, hS]; rfl
      have hset := LV_set q (i + j) (((c + a6) + (a7 * a8)) % 65536#64) (by omega)
      rw [h6, hM] at hset
      generalize hSn : c.toNat + a6.toNat + a7.toNat * a8.toNat = S at hD hM hset
      have hP : 65536 ^ (i + (j + 1)) = 65536 ^ (i + j) * 65536 := by rw [show i + (j + 1) = (i + j) + 1 by omega, Nat.pow_succ]
      have hb1 : LV (b.take (j + 1)) = LV (b.take j) + a8.toNat * 65536 ^ j := by rw [LV_take b j (by omega), h8]
      have k1 : S % 65536 * 65536 ^ (i + j) + S / 65536 * (65536 ^ (i + j) * 65536) = S * 65536 ^ (i + j) := by
        rw [Nat.mul_comm (65536 ^ (i + j)) 65536, ← Nat.mul_assoc, ← Nat.add_mul]
        congr 1
        have := Nat.mod_add_div S 65536
        omega
      have k2 : S * 65536 ^ (i + j) = c.toNat * 65536 ^ (i + j) + a6.toNat * 65536 ^ (i + j) + (a7.toNat * a8.toNat) * 65536 ^ (i + j) := by rw [← hSn, Nat.add_mul, Nat.add_mul]
      have k3 : (a7.toNat * LV (b.take (j + 1))) * 65536 ^ i = (a7.toNat * LV (b.take j)) * 65536 ^ i + (a7.toNat * a8.toNat) * 65536 ^ (i + j) := by
        rw [hb1, Nat.mul_add, Nat.add_mul, Nat.pow_add]
        congr 1
        rw [Nat.mul_assoc, Nat.mul_assoc, Nat.mul_assoc, Nat.mul_comm (65536 ^ j)]
      refine hrec2 hj' _ ⟨?_, ?_, ?_, ?_, ?_, ?_⟩
      · dsimp only; (first | decide | omega | (simp (disch := omega) only [w64_id, few, few9, List.length_set, List.length_append, List.length_take, List.length_drop, List.length_replicate, List.length_cons, List.length_nil, Int.toNat_natCast]; done) | (simp (disch := omega) only [w64_id, few, few9, List.length_set, List.length_append, List.length_take, List.length_drop, List.length_replicate, List.length_cons, List.length_nil, Int.toNat_natCast]; omega) | (simp [few, few9] <;> omega))
      · dsimp only; rw [List.length_set]; exact hq
      · exact all_set lq _ _ (by rw [hM]; omega)
      · dsimp only; rw [hD]; omega
      · dsimp only
        rw [h7] at hV ⊢
        rw [hD, hP, k3]
        omega
      · intro k hk
        dsimp only
        rw [getD_set q _ _ _ (by omega), if_neg (by omega)]
        exact hz2 k hk
    · have hj4 : j = 4 := by omega
      subst hj4
      have e4 : Go.SL.w64 ((i : Int) + 4) = ((i + 4 : Nat) : Int) := by rw [w64_id (by omega) (by omega)]; rfl
      rw [e4]
      simp only [Int.toNat_natCast]
      repeat' (first | refine Tot.gdT ?_ | refine Tot.gdE ?_ | refine Tot.gd (by first | decide | omega) ?_)
      have hset := LV_set q (i + 4) c (by omega)
      have hz4 : q.getD (i + 4) 0#64 = 0#64 := hz2 (i + 4) (Nat.le_refl _)
      rw [hz4, show (0#64 : BitVec 64).toNat = 0 from rfl, Nat.zero_mul, Nat.add_zero] at hset
      rw [List.take_of_length_le (show b.length ≤ 4 by omega)] at hV
      refine hrec hi' _ ⟨?_, ?_, all_set lq _ _ hc, ?_, ?_⟩
      · dsimp only; (first | decide | omega | (simp (disch := omega) only [w64_id, few, few9, List.length_set, List.length_append, List.length_take, List.length_drop, List.length_replicate, List.length_cons, List.length_nil, Int.toNat_natCast]; done) | (simp (disch := omega) only [w64_id, few, few9, List.length_set, List.length_append, List.length_take, List.length_drop, List.length_replicate, List.length_cons, List.length_nil, Int.toNat_natCast]; omega) | (simp [few, few9] <;> omega))
      · dsimp only; rw [List.length_set]; exact hq
      · dsimp only
        rw [hset, hV, hv, LV_take a i (by omega), Nat.add_mul]
        congr 1
        rw [Nat.mul_assoc, Nat.mul_assoc, Nat.mul_comm (LV b)]
      · intro k hk
        dsimp only
        rw [getD_set q _ _ _ (by omega), if_neg (by omega)]
        exact hz2 k (by omega)
  · have h8 : i = 8 := by omega
    subst h8
    rw [List.take_of_length_le (by omega)] at hv
    exact Tot.s ⟨hr, lr, hv⟩
end Go.GX
namespace Go.GX
open Go.RowKit Go.SL
set_option linter.unusedVariables false
set_option linter.unusedSimpArgs false
set_option maxRecDepth 8000
theorem LV_split : ∀ (k : Nat) (l : Lm), LV l = LV (l.take k) + 65536 ^ k * LV (l.drop k)
  | 0, l => by show LV l = 0 + 65536 ^ 0 * LV l; simp
  | k + 1, [] => by show 0 = 0 + 65536 ^ (k + 1) * 0; simp
  | k + 1, y :: l => by
    have ih := LV_split k l
    show y.toNat + 65536 * LV l = y.toNat + 65536 * LV (l.take k) + 65536 ^ (k + 1) * LV (l.drop k)
    have e1 : 65536 ^ (k + 1) * LV (l.drop k) = 65536 * (65536 ^ k * LV (l.drop k)) := by rw [Nat.pow_succ, Nat.mul_comm (65536 ^ k), Nat.mul_assoc]
    rw [e1]; omega
theorem LV_lt : ∀ {l : Lm}, Lim l → LV l < 65536 ^ l.length
  | [], _ => by decide
  | y :: l, h => by
    have ih := LV_lt (l := l) fun x hx => h x (List.mem_cons_of_mem _ hx)
    have hy := h y List.mem_cons_self
    show y.toNat + 65536 * LV l < 65536 ^ (l.length + 1)
    rw [Nat.pow_succ, Nat.mul_comm]; omega
theorem Lim.take {l : Lm} (h : Lim l) (k : Nat) : Lim (l.take k) := fun x hx => h x (List.mem_of_mem_take hx)
theorem LV_cmp {p q : Lm} (hp : Lim p) (hq : Lim q) (hl : p.length = q.length) (i : Nat) (hi : i < p.length) (hd : p.drop (i + 1) = q.drop (i + 1)) (hn : (q.getD i 0#64).toNat < (p.getD i 0#64).toNat) : LV q < LV p := by
  have sp := LV_split (i + 1) p
  have sq := LV_split (i + 1) q
  rw [LV_take p i hi] at sp
  rw [LV_take q i (by omega)] at sq
  rw [hd] at sp
  have h1 := LV_lt (hq.take i)
  rw [List.length_take, Nat.min_eq_left (by omega)] at h1
  have h2 : ((q.getD i 0#64).toNat + 1) * 65536 ^ i ≤ (p.getD i 0#64).toNat * 65536 ^ i := Nat.mul_le_mul_right _ hn
  rw [Nat.add_mul, Nat.one_mul] at h2
  omega
def L4 (x : BitVec 64) : Lm := [x % 65536#64, (x >>> 16) % 65536#64, (x >>> 32) % 65536#64, x >>> 48]
theorem L4_ok (x : BitVec 64) : Lim (L4 x) ∧ LV (L4 x) = x.toNat := by
  have hx := x.isLt
  have e1 : (x % 65536#64).toNat = x.toNat % 65536 := by rw [BitVec.toNat_umod]; rfl
  have e2 : ((x >>> 16) % 65536#64).toNat = x.toNat / 65536 % 65536 := by rw [BitVec.toNat_umod, BitVec.toNat_ushiftRight, Nat.shiftRight_eq_div_pow]; rfl
  have e3 : ((x >>> 32) % 65536#64).toNat = x.toNat / 4294967296 % 65536 := by rw [BitVec.toNat_umod, BitVec.toNat_ushiftRight, Nat.shiftRight_eq_div_pow]; rfl
  have e4 : (x >>> 48).toNat = x.toNat / 281474976710656 := by rw [BitVec.toNat_ushiftRight, Nat.shiftRight_eq_div_pow]
  refine ⟨?_, ?_⟩
  · intro y hy
    simp only [L4, List.mem_cons, List.not_mem_nil, or_false] at hy
    rcases hy with rfl | rfl | rfl | rfl
    · omega
    · omega
    · omega
    · omega
  · show (x % 65536#64).toNat + 65536 * (((x >>> 16) % 65536#64).toNat + 65536 * (((x >>> 32) % 65536#64).toNat + 65536 * ((x >>> 48).toNat + 65536 * 0))) = x.toNat
    rw [e1, e2, e3, e4]; omega
theorem take8 (S : Lm) (h : S.length = 12) : (List.set (List.set (List.set (List.set (List.set (List.set (List.set (List.set (List.replicate 8 0#64) 0 (S.getD 0 0#64)) 1 (S.getD 1 0#64)) 2 (S.getD 2 0#64)) 3 (S.getD 3 0#64)) 4 (S.getD 4 0#64)) 5 (S.getD 5 0#64)) 6 (S.getD 6 0#64)) 7 (S.getD 7 0#64)) = S.take 8 := by
  have e : List.replicate 8 0#64 = [0#64, 0#64, 0#64, 0#64, 0#64, 0#64, 0#64, 0#64] := rfl
  rw [e]
  simp only [List.set_cons_zero, List.set_cons_succ]
  apply List.ext_getElem?
  intro k
  rw [List.getElem?_take]
  by_cases hk : k < 8
  · rw [if_pos hk]
    have g : ∀ i, i < 12 → some (S.getD i 0#64) = S[i]? := by
      intro i hi
      rw [List.getD_eq_getElem?_getD, List.getElem?_eq_getElem (by omega)]; rfl
    rcases k with _ | _ | _ | _ | _ | _ | _ | _ | k
    · exact g 0 (by decide)
    · exact g 1 (by decide)
    · exact g 2 (by decide)
    · exact g 3 (by decide)
    · exact g 4 (by decide)
    · exact g 5 (by decide)
    · exact g 6 (by decide)
    · exact g 7 (by decide)
    · omega
  · rw [if_neg hk]
    exact List.getElem?_eq_none (by simp only [List.length_cons, List.length_nil]; omega)
def abv (x n : BitVec 64) (cb : Bool) : Bool := cond cb (decide (n.toNat * 65536 ^ 6 < x.toNat * x.toNat * x.toNat)) (decide (n.toNat * 65536 ^ 4 < x.toNat * x.toNat))
theorem abv_t (x n : BitVec 64) : abv x n true = decide (n.toNat * 65536 ^ 6 < x.toNat * x.toNat * x.toNat) := by unfold abv; rw [cond_true]
theorem abv_f (x n : BitVec 64) : abv x n false = decide (n.toNat * 65536 ^ 4 < x.toNat * x.toNat) := by unfold abv; rw [cond_false]
theorem sq_lt (x : BitVec 64) : x.toNat * x.toNat < 65536 ^ 8 := by
  have hx := x.isLt
  have h1 : x.toNat * x.toNat ≤ 18446744073709551615 * 18446744073709551615 := Nat.mul_le_mul (by omega) (by omega)
  have h2 : 18446744073709551615 * 18446744073709551615 < 65536 ^ 8 := by decide
  omega
theorem hi0 (S : Lm) (y : Nat) (h : LV S = y) (hy : y < 65536 ^ 8) : LV (S.take 8) = y := by
  have sp := LV_split 8 S
  rcases Nat.eq_zero_or_pos (LV (S.drop 8)) with h0 | h0
  · rw [h0, Nat.mul_zero] at sp; omega
  · have := Nat.mul_le_mul_left (65536 ^ 8) h0
    omega
set_option maxHeartbeats 1000000 in
theorem U200 (x n : BitVec 64) (cb : Bool) (hn : n.toNat < 65536) : F200 (x, (n, (cb, ()))) () = some ((abv x n cb, ()), ()) := by
  refine Tot.get ?_
  have hL : (List.set (List.set (List.set (List.set (List.replicate 4 0#64) 0 (x % 65536#64)) 1 ((x >>> 16) % 65536#64)) 2 ((x >>> 32) % 65536#64)) 3 (x >>> 48)) = L4 x := rfl
  obtain ⟨l4, v4⟩ := L4_ok x
  have len4 : (L4 x).length = 4 := rfl
  unfold F200
  dsimp only
  rw [hL]
  refine Tot.gd (by decide) (Tot.gd (by decide) (Tot.gd (by decide) ?_))
  refine Tot.gd (by decide) (Tot.gd (by decide) (Tot.idxD 0#64 (by rw [len4]; decide) ?_))
  refine Tot.gd (by decide) (Tot.gd (by decide) (Tot.idxD 0#64 (by rw [len4]; decide) ?_))
  refine Tot.gd (by decide) (Tot.gd (by decide) (Tot.idxD 0#64 (by rw [len4]; decide) ?_))
  refine Tot.gd (by decide) (Tot.gd (by decide) (Tot.idxD 0#64 (by rw [len4]; decide) ?_))
  have h8 : (List.set (List.set (List.set (List.set (List.replicate 8 0#64) 0 ((L4 x).getD 0 0#64)) 1 ((L4 x).getD 1 0#64)) 2 ((L4 x).getD 2 0#64)) 3 ((L4 x).getD 3 0#64)) = L4 x ++ [0#64, 0#64, 0#64, 0#64] := rfl
  rw [h8]
  have l8 : Lim (L4 x ++ [0#64, 0#64, 0#64, 0#64]) := by
    intro y hy
    rcases List.mem_append.mp hy with hy | hy
    · exact l4 y hy
    · have : y = 0#64 := by simpa using hy
      subst this; decide
  have v8 : LV (L4 x ++ [0#64, 0#64, 0#64, 0#64]) = x.toNat := by
    rw [LV_split 4, show (L4 x ++ [0#64, 0#64, 0#64, 0#64]).take 4 = L4 x from rfl, show (L4 x ++ [0#64, 0#64, 0#64, 0#64]).drop 4 = List.replicate 4 0#64 from rfl, LV_zero, v4]
    simp
  refine Tot.bnd (W215 _ _ rfl rfl l8 l4) fun sq hsq => ?_
  obtain ⟨q1, q2, q3⟩ := hsq
  rw [v8, v4] at q3
  refine Tot.jnP (fun v => ∃ e : Nat, v.1.1 = (e : Int) ∧ e < 12 ∧ v.2.1.length = 12 ∧ Lim v.2.1 ∧ abv x n cb = decide (n.toNat * 65536 ^ e < LV v.2.1)) ?_ ?_
  · rintro ⟨⟨t, ⟨⟩⟩, p, ⟨⟩⟩ ⟨e, ht, he, hp, lp, hab⟩
    dsimp only at ht hp lp hab ⊢
    subst ht
    rw [Int.toNat_natCast]
    generalize hR : List.set (List.replicate 12 0#64) e n = R
    have hRl : R.length = 12 := by rw [← hR, List.length_set, List.length_replicate]
    have hRL : Lim R := by
      rw [← hR]
      refine all_set ?_ _ _ hn
      intro y hy
      rw [List.eq_of_mem_replicate hy]; decide
    have hRv : LV R = n.toNat * 65536 ^ e := by
      have := LV_set (List.replicate 12 0#64) e n (by rw [List.length_replicate]; exact he)
      rw [hR, LV_zero] at this
      have hz : (List.replicate 12 0#64).getD e 0#64 = 0#64 := by
        rw [List.getD_eq_getElem?_getD, List.getElem?_replicate]; split <;> rfl
      rw [hz, show (0#64 : BitVec 64).toNat = 0 from rfl] at this
      omega
    rw [← hRv] at hab
    rw [hab]
    refine Tot.gd (by omega) (Tot.gd (by omega) (Tot.gd (by omega) ?_))
    refine Tot.iter (fun m v => v.1.1 = (m : Int) - 1 ∧ m ≤ 12 ∧ p.drop m = R.drop m) 12 ⟨rfl, Nat.le_refl _, ?_⟩ (by decide) ?_
    · rw [List.drop_of_length_le (by omega), List.drop_of_length_le (by omega)]
    rintro m ⟨⟨t, ⟨⟩⟩, ⟨⟩⟩ ⟨ht, hm, hd⟩ rec hrec
    dsimp only at ht ⊢
    subst ht
    refine Tot.brd (fun hge => ?_) (fun hlt => ?_)
    · have hm1 : 1 ≤ m := by omega
      have ei : Int.toNat ((m : Int) - 1) = m - 1 := by omega
      rw [ei]
      refine Tot.gd (by omega) (Tot.gd (by omega) (Tot.idxD 0#64 (by omega) (Tot.gd (by omega) (Tot.gd (by omega) (Tot.idxD 0#64 (by omega) ?_)))))
      have hd' : p.drop (m - 1 + 1) = R.drop (m - 1 + 1) := by rw [show m - 1 + 1 = m by omega]; exact hd
      refine Tot.br (fun hne => ?_) (fun heq => ?_)
      · refine Tot.gd (by omega) (Tot.gd (by omega) (Tot.idxD 0#64 (by omega) (Tot.gd (by omega) (Tot.gd (by omega) (Tot.idxD 0#64 (by omega) (Tot.s ?_))))))
        have hne' : p.getD (m - 1) 0#64 ≠ R.getD (m - 1) 0#64 := by simpa using hne
        have hne2 : (p.getD (m - 1) 0#64).toNat ≠ (R.getD (m - 1) 0#64).toNat := fun h => hne' (BitVec.eq_of_toNat_eq h)
        have : (decide ((p.getD (m - 1) 0#64).toNat > (R.getD (m - 1) 0#64).toNat)) = decide (LV R < LV p) := by
          rw [decide_eq_decide]
          constructor
          · intro h; exact LV_cmp lp hRL (by omega) (m - 1) (by omega) hd' h
          · intro h
            by_cases h3 : (p.getD (m - 1) 0#64).toNat > (R.getD (m - 1) 0#64).toNat
            · exact h3
            · have := LV_cmp hRL lp (by omega) (m - 1) (by omega) hd'.symm (by omega)
              omega
        rw [this]
      · have heq' : p.getD (m - 1) 0#64 = R.getD (m - 1) 0#64 := by simpa using heq
        repeat' (first | refine Tot.gdE ?_)
        refine hrec (m - 1) _ (by omega) ⟨?_, by omega, ?_⟩
        · dsimp only; rw [w64_id (by omega) (by omega)]; omega
        · have c1 : p.drop (m - 1) = p[m - 1] :: p.drop (m - 1 + 1) := List.drop_eq_getElem_cons (by omega)
          have c2 : R.drop (m - 1) = R[m - 1] :: R.drop (m - 1 + 1) := List.drop_eq_getElem_cons (by omega)
          have g1 : p.getD (m - 1) 0#64 = p[m - 1] := by rw [List.getD_eq_getElem?_getD, List.getElem?_eq_getElem (by omega)]; rfl
          have g2 : R.getD (m - 1) 0#64 = R[m - 1] := by rw [List.getD_eq_getElem?_getD, List.getElem?_eq_getElem (by omega)]; rfl
          rw [c1, c2, hd', ← g1, ← g2, heq']
    · have hm0 : m = 0 := by omega
      subst hm0
      have : p = R := hd
      rw [this]
      refine Tot.s ?_
      rw [show decide (LV R < LV R) = false from decide_eq_false (Nat.lt_irrefl _)]
  · intro j hj
    refine Tot.br (fun hcb => ?_) (fun hcb => ?_)
    · refine Tot.gd (by decide) (Tot.gd (by decide) (Tot.idxD 0#64 (by omega) ?_))
      refine Tot.gd (by decide) (Tot.gd (by decide) (Tot.idxD 0#64 (by omega) ?_))
      refine Tot.gd (by decide) (Tot.gd (by decide) (Tot.idxD 0#64 (by omega) ?_))
      refine Tot.gd (by decide) (Tot.gd (by decide) (Tot.idxD 0#64 (by omega) ?_))
      refine Tot.gd (by decide) (Tot.gd (by decide) (Tot.idxD 0#64 (by omega) ?_))
      refine Tot.gd (by decide) (Tot.gd (by decide) (Tot.idxD 0#64 (by omega) ?_))
      refine Tot.gd (by decide) (Tot.gd (by decide) (Tot.idxD 0#64 (by omega) ?_))
      refine Tot.gd (by decide) (Tot.gd (by decide) (Tot.idxD 0#64 (by omega) ?_))
      generalize hS : sq.1.1 = S at q1 q2 q3
      have ht8 := take8 S q1
      rw [ht8]
      have lt8 : (S.take 8).length = 8 := by rw [List.length_take]; omega
      have hv8 : LV (S.take 8) = x.toNat * x.toNat := hi0 S _ q3 (sq_lt x)
      refine Tot.bnd (W215 _ _ lt8 rfl (q2.take 8) l4) fun r hr => ?_
      obtain ⟨r1, r2, r3⟩ := hr
      rw [hv8, v4] at r3
      refine Tot.gdE (hj _ ⟨6, rfl, by decide, r1, r2, ?_⟩)
      rw [hcb, abv_t, ← r3]
    · refine Tot.gdE (hj _ ⟨4, rfl, by decide, q1, q2, ?_⟩)
      rw [hcb, abv_f, ← q3]
end Go.GX
