/- What a law is handed, read as a plain kind. -/
import Derived.Test.YtgbgkhcfgblcbaaG7
import Derived.Test.YtgbgkhcfgblcbaaA1
import Derived.Test.YtgbgkhcfgblcbaaR2
import Derived.Test.YtgbgkhcfgblcbaaRows
import Derived.ChangeOld
import Derived.ChangeSame
import Derived.ChangeVars
import Derived.Test.YtgbgkhcfgblcbaaR3
import Derived.Test.YtgbgkhcfgblcbaaR6
set_option linter.unusedVariables false
set_option linter.unusedSimpArgs false
set_option linter.unnecessarySimpa false
namespace Go.GX
open Go.RowKit Go.ChangeShapes Go.Joins Go.Deep Go.SL
set_option linter.unusedVariables false
def isI64 (P : Program) (t : Nat) : Bool := match P.underlying t with
  | some (.int .i64) => true
  | _ => false
def isU8 (P : Program) (t : Nat) : Bool := match P.underlying t with
  | some (.int .u8) => true
  | _ => false
def isBl (P : Program) (t : Nat) : Bool := match P.underlying t with
  | some .bool => true
  | _ => false
def rdSl (P : Program) (g : Nat → Bool) (w t : Nat) : Bool := match P.underlying t with
  | some (.slice e) => g e && Nat.beq (P.cellsOf e) w && Nat.ble 1 w
  | _ => false
def rdFs (P : Program) (g : Nat → Bool) (w : Nat) (h : List Field → Nat → Bool) : List Field → Nat → Bool
  | f :: r, o => Nat.beq f.offset o && g f.type && Nat.beq (P.cellsOf f.type) w && h r (o + w)
  | [], _ => false
def rdSt (P : Program) (g : List Field → Nat → Bool) (w t : Nat) : Bool := match P.underlying t with
  | some (.struct fs) => g fs.toList 0 && Nat.beq (P.cellsOf t) w
  | _ => false
/-- is a type of the program read as this kind? -/
def tyRd (P : Program) : Ty → (Nat → Bool) × (List Field → Nat → Bool)
  | .int => (isI64 P, fun _ _ => false)
  | .u8 => (isU8 P, fun _ _ => false)
  | .bool => (isBl P, fun _ _ => false)
  | .fz a => (rdSl P (tyRd P a).1 a.w, fun _ _ => false)
  | .unit => (fun _ => false, fun fs _ => fs.isEmpty)
  | .pair a b => (rdSt P (rdFs P (tyRd P a).1 a.w (tyRd P b).2) (a.w + b.w), rdFs P (tyRd P a).1 a.w (tyRd P b).2)
  | _ => (fun _ => false, fun _ _ => false)
theorem read_bool {H : Type} {enc : TypeId × Value → H} {P : Program} {W : World} {base : Nat} {spare : Nat → Bool} {held : Bool} {t fuel : Nat} {cs : List Value} {y : DataW H × List MemPlace} (ht : P.underlying t = some .bool) (h : DataW.trod enc P W base spare held fuel t cs = some y) : ∃ b, cs = [.bool b] := by
  obtain ⟨b, hb, _⟩ := DataW.trod_bool ht h
  exact ⟨b, hb⟩
theorem cat_of {m : Mem} {a : Ty} : ∀ {xs : List {cs : List Value // cs.length = a.w}}, (∀ c ∈ xs, ∃ x, DenT m a x c.1) → ∃ l : List a.T, l.length = xs.length ∧ Cat (fun x c => DenT m a x c) l (xs.flatMap Subtype.val) := by
  intro xs
  induction xs with
  | nil => intro _; exact ⟨[], rfl, rfl⟩
  | cons c xs ih =>
    intro h
    obtain ⟨x, hx⟩ := h c (by simp)
    obtain ⟨l, hl, hc⟩ := ih fun d hd => h d (by simp [hd])
    exact ⟨x :: l, by simp [hl], c.1, _, by rw [List.flatMap_cons], hx, hc⟩
section
variable {H : Type} {enc : TypeId × Value → H} {P : Program} {W : World} {base : Nat} {spare : Nat → Bool} {held : Bool}
theorem rd_ok : ∀ {ty : Ty},
    (∀ {t fuel : Nat} {cs : List Value} {y : DataW H × List MemPlace}, (tyRd P ty).1 t = true → DataW.trod enc P W base spare held fuel t cs = some y → ∃ x, DenT (P0 W).h ty x cs) ∧
    (∀ {fs : List Field} {o : Nat} {cs : List Value}, (tyRd P ty).2 fs o = true → cs.length = o + ty.w → (∀ f ∈ fs, ∃ n z, DataW.trod enc P W base spare held n f.type ((cs.drop f.offset).take (P.cellsOf f.type)) = some z) → ∃ x, DenT (P0 W).h ty x (cs.drop o)) := by
  intro ty
  induction ty with
  | int =>
    refine ⟨fun {t fuel cs y} h hr => ?_, fun h => by cases h⟩
    simp only [tyRd, isI64] at h
    split at h <;> try (cases h; done)
    rename_i hu
    obtain ⟨n, hcs, _, hw⟩ := DataW.trod_int hu hr
    exact ⟨n, hcs⟩
  | u8 =>
    refine ⟨fun {t fuel cs y} h hr => ?_, fun h => by cases h⟩
    simp only [tyRd, isU8] at h
    split at h <;> try (cases h; done)
    rename_i hu
    obtain ⟨n, hcs, _, hw⟩ := DataW.trod_int hu hr
    have hb := bounds_u8 hw
    refine ⟨BitVec.ofInt 8 n, ?_⟩
    show cs = [_]
    rw [hcs]
    congr 2
    rw [BitVec.toNat_ofInt]
    show n = ((n % 256).toNat : Int)
    omega
  | bool =>
    refine ⟨fun {t fuel cs y} h hr => ?_, fun h => by cases h⟩
    simp only [tyRd, isBl] at h
    split at h <;> try (cases h; done)
    rename_i hu
    obtain ⟨b, hb⟩ := read_bool hu hr
    exact ⟨b, hb⟩
  | fz a ih =>
    refine ⟨fun {t fuel cs y} h hr => ?_, fun h => by cases h⟩
    simp only [tyRd, rdSl] at h
    split at h <;> try (cases h; done)
    rename_i e hu
    simp only [Bool.and_eq_true] at h
    obtain ⟨⟨h1, h2⟩, h3⟩ := h
    have hc := Nat.eq_of_beq_eq_true h2
    have hw := Nat.le_of_ble_eq_true h3
    have hone : ∃ v, cs = [v] := by
      rcases open_slice hu hr with ⟨hcs, _⟩ | ⟨_, _, _, _, _, _, _, hcs, _⟩
      · exact ⟨_, hcs⟩
      · exact ⟨_, hcs⟩
    obtain ⟨v, rfl⟩ := hone
    obtain ⟨X, xs, c, rfl, hxc, _, hlas, hq⟩ := read_slice (α := {cs : List Value // cs.length = a.w}) (enc' := Subtype.val) (Q := fun c => ∃ x, DenT (P0 W).h a x c.1) hu hc (by omega) (fun a => a.2)
      (fun cs n z hz => by
        obtain ⟨x, hx⟩ := ih.1 h1 hz
        exact ⟨⟨cs, DenT.length hx⟩, rfl, x, hx⟩) hr
    obtain ⟨l, hl, hcat⟩ := cat_of hq
    refine ⟨l, X, c, by rw [hl], by rw [hl]; exact hxc, ?_⟩
    obtain ⟨_, X', c', e1, _, h0⟩ := hlas
    cases e1
    rcases h0 with h0 | ⟨b, o, cur, e, fr, rfl, hb, hg⟩
    · exact .inl (by rw [hl]; exact h0)
    · exact .inr ⟨b, o, _, rfl, ⟨cur, e, fr, hb, hg⟩, hcat⟩
  | unit =>
    refine ⟨fun {t fuel cs y} h hr => (by cases h), fun {fs o cs} h hl _ => ?_⟩
    refine ⟨(), ?_⟩
    show cs.drop o = []
    exact List.drop_eq_nil_of_le (by rw [hl]; simp [Ty.w])
  | pair a b iha ihb =>
    have fld : ∀ {fs : List Field} {o : Nat} {cs : List Value}, rdFs P (tyRd P a).1 a.w (tyRd P b).2 fs o = true → cs.length = o + (a.w + b.w) → (∀ f ∈ fs, ∃ n z, DataW.trod enc P W base spare held n f.type ((cs.drop f.offset).take (P.cellsOf f.type)) = some z) → ∃ x, DenT (P0 W).h (.pair a b) x (cs.drop o) := by
      intro fs o cs h hl hf
      cases fs with
      | nil => cases h
      | cons f r =>
        simp only [rdFs, Bool.and_eq_true] at h
        obtain ⟨⟨⟨h1, h2⟩, h3⟩, h4⟩ := h
        have ho := Nat.eq_of_beq_eq_true h1
        have hc := Nat.eq_of_beq_eq_true h3
        obtain ⟨n, z, hz⟩ := hf f (by simp)
        obtain ⟨x, hx⟩ := iha.1 h2 hz
        obtain ⟨y, hy⟩ := ihb.2 h4 (cs := cs) (by omega) fun g hg => hf g (by simp [hg])
        rw [ho, hc] at hx
        refine ⟨(x, y), _, _, ?_, hx, hy⟩
        rw [← List.drop_drop, List.take_append_drop]
    refine ⟨fun {t fuel cs y} h hr => ?_, fun {fs o cs} h hl hf => fld h hl hf⟩
    simp only [tyRd, rdSt] at h
    split at h <;> try (cases h; done)
    rename_i fs hu
    simp only [Bool.and_eq_true] at h
    have hc := Nat.eq_of_beq_eq_true h.2
    have hlen := read_len hu hr
    have := fld h.1 (cs := cs) (by rw [hlen, hc, Nat.zero_add]) fun f hf => by
      obtain ⟨i, hi, rfl⟩ := List.getElem_of_mem hf
      exact read_sub (i := i) hu (by simp at hi ⊢) hr
    simpa using this
  | _ => exact ⟨fun h => (by cases h), fun h => (by cases h)⟩
end
end Go.GX
namespace Go.GX
open Go.RowKit Go.SL Go.Proofs Go.WideShapes
set_option linter.unusedVariables false
set_option linter.unusedSimpArgs false
set_option maxRecDepth 100000
abbrev NK : Ty := (.pair .int (.pair .int (.pair (.fz .int) (.pair (.pair .int (.pair .int .unit)) (.pair (.pair .int (.pair .int (.pair (.fz .int) (.pair (.fz .u8) .unit)))) (.pair (.fz (.pair .int (.pair .int (.pair (.fz .u8) (.pair (.fz .int) .unit))))) .unit))))))
abbrev MK : Ty := (.pair .int (.pair .int (.pair .int (.pair .int (.pair .int (.pair .int (.pair .int (.pair .bool (.pair (.fz (.pair .int (.pair .int (.pair (.fz .u8) (.pair (.fz .int) .unit))))) (.pair (.fz .int) (.pair (.fz .u8) .unit)))))))))))
def isSt (P : Program) (t : Nat) : Bool := match P.underlying t with
  | some (.struct _) => true
  | _ => false
theorem okWide_agg {P : Program} {w : World} {r : Reach} {base t : Nat} {v : Value} (ht : isSt P t = true) (h : Value.okWide P w r base t v) : aggV v = true := by
  unfold isSt at ht
  split at ht <;> try (cases ht; done)
  rename_i fs hu
  simp only [Value.okWide, hu] at h
  obtain ⟨cs, h1, _⟩ := h
  subst h1; rfl
theorem okWide_slc {P : Program} {w : World} {r : Reach} {base t e : Nat} {v : Value} (ht : P.underlying t = some (.slice e)) (h : Value.okWide P w r base t v) : aggV v = false ∧ v.cells.toList = [v] := by
  obtain ⟨a, l, k, rfl⟩ := okWide_slice ht h
  exact ⟨rfl, rfl⟩
theorem open_i64 {H : Type} {enc : TypeId × Value → H} {P : Program} {W : World} {base b0 : Nat} {spare : Nat → Bool} {held : Bool} {r : Reach} {t : Nat} {v : Value} {d : DataW H} {ps : List MemPlace} (ht : P.underlying t = some (.int .i64)) (hv : Value.okWide P W r b0 t v) (h : DataW.Trod enc P W base spare held t v d ps) : ∃ a : Int, v = .int .i64 a ∧ (-9223372036854775808 ≤ a ∧ a ≤ 9223372036854775807) := by
  obtain ⟨n, rfl⟩ := okWide_int ht hv
  obtain ⟨fuel, hf⟩ := h
  obtain ⟨k, e, w⟩ := read_int ht hf
  cases e
  exact ⟨n, rfl, wf_i64 w⟩
theorem oa_i64 {m : Mem} (n : Int) : OA m .int n (Value.int .i64 n).cells.toList none0 := by rw [oa_pure _ _ rfl]; exact ⟨rfl, rfl⟩
theorem gl_none {p : Pers} : GlS p TBL.gs := fun g sv h => by cases h
/-- true is told, and nothing that was there has changed -/
theorem calls_true {k : FuncId} {C : Con} (hC : Con.ok Try.prog TBL.gs k C) (hr : C.rs = [.bool]) {W : World} {vs : List Value} {x : oT C.ps} {y : bT C.ps} {r : rT C.rs × cT C.ps} (hF : C.F x y = some r) (hl : vs.length = C.ps.length) (st : St (P0 W) W (asO (P0 W) C.ps x vs ++ [Exact none0])) (hb : lentB (uni (P0 W).h none0) C.ps y vs)
    (ht : ∀ q us (w : World), St q w (asR q C.rs r.1 us ++ (asC q C.ps r.2 vs ++ [Exact none0])) → us.length = 1 → oneV us = .bool true) :
    Calls Try.prog k vs.toArray W fun e w => e = .returned (.bool true) ∧ Below W.heap.size W w := by
  refine (hC.2 x y r hF (P0 W) none0 W vs gl_none hl st hb).mono ?_
  rintro e w ⟨us, q, rfl, hul, le, hst⟩
  rw [hr] at hul
  exact ⟨by rw [ht q us w hst hul], below_of le hst⟩
theorem bool_told {q : Pers} {w : World} {us : List Value} {L : List Assn} (h : St q w (asR q [.bool] (true, ()) us ++ L)) (hl : us.length = 1) : oneV us = .bool true := by
  obtain ⟨u, rfl⟩ : ∃ u, us = [u] := by
    cases us with
    | nil => cases hl
    | cons u r => cases r with
      | nil => exact ⟨u, rfl⟩
      | cons _ _ => simp at hl
  have hu : ∃ h, valA q .bool true u h := by
    obtain ⟨h, ⟨a, b, _, _, ha, _⟩, _⟩ := id h
    exact ⟨a, ha⟩
  obtain ⟨h, hag, hoa⟩ := hu
  have hc : u.cells.toList = [.bool true] := hoa.2
  have hu2 : u = .bool true := by
    cases u <;> first | (cases hc; rfl) | (simp [Value.cells] at hc; done) | (simp [aggV, Ty.agg] at hag)
  rw [hu2]; simp [oneV]
end Go.GX
namespace Go.Proofs.Ytgbgkhcfgblcbaa
open Go.ChangeShapes Go.WideShapes Go.ChangeAt Go.RowKit Go.SL Go.GX
set_option linter.unusedVariables false
set_option maxRecDepth 100000
theorem ownR : ownKnob Try.prog.godebug = none := by kernel_rfl
theorem laidOutR : laidOutB Try.prog = true := by kernel_rfl
theorem u4R : Try.prog.underlying 4 = some .bool := by kernel_rfl
theorem u3R : Try.prog.underlying 3 = some (.int .i64) := by kernel_rfl
theorem u22R : Try.prog.underlying 22 = some (.slice 3) := by kernel_rfl
theorem rdN {H : Type} {enc : TypeId × Value → H} {W : World} {v : Value} {d : DataW H} {ps : List MemPlace} (h : DataW.Trod enc Try.prog W 0 (fun _ => true) true 30 v d ps) : ∃ x, DenT (P0 W).h NK x v.cells.toList := by
  obtain ⟨fuel, hf⟩ := h
  exact rd_ok.1 (by kernel_rfl) hf
theorem rdM {H : Type} {enc : TypeId × Value → H} {W : World} {v : Value} {d : DataW H} {ps : List MemPlace} (h : DataW.Trod enc Try.prog W 0 (fun _ => true) true 32 v d ps) : ∃ x, DenT (P0 W).h MK x v.cells.toList := by
  obtain ⟨fuel, hf⟩ := h
  exact rd_ok.1 (by kernel_rfl) hf
theorem rdI {H : Type} {enc : TypeId × Value → H} {W : World} {v : Value} {d : DataW H} {ps : List MemPlace} (h : DataW.Trod enc Try.prog W 0 (fun _ => true) true 22 v d ps) : ∃ x, DenT (P0 W).h (.fz .int) x v.cells.toList := by
  obtain ⟨fuel, hf⟩ := h
  exact rd_ok.1 (by kernel_rfl) hf
end Go.Proofs.Ytgbgkhcfgblcbaa
namespace Go.GX
open Go.RowKit Go.SL
set_option linter.unusedVariables false
set_option linter.unusedSimpArgs false
theorem T51v (i lt : Int) (hi : 0 ≤ i) (hlt : 0 ≤ lt) : F51 ((0, 0, [], ()), i, lt, ()) () = some ((true, ()), ((0, 0, [], ()), ())) := by
  refine Tot.get ?_
  unfold F51 F44
  dsimp only
  have h0 : w64 ((0 : Int) + ((List.length ([] : List ET) : Nat) : Int)) = 0 := by decide
  rw [h0]
  rw [show ((0 : Int) == 0) = true from rfl, br_t, bnd_s]
  refine Tot.brd (fun _ => Tot.s rfl) (fun h => ?_)
  dsimp only at h
  have hz : lt = 0 := by omega
  subst hz
  rw [show ((0 : Int) == 0) = true from rfl, br_t]
  refine Tot.s ?_
  dsimp only
  rw [h0]
  simp [hi]
def voteM (fr t i : Int) : MT := (3, fr, 1, t, i, t - 1, 0, false, [], [], [], ())
def yesM (fr t : Int) (y : Bool) : MT := (4, 1, fr, t, 0, 0, 0, y, [], [], [], ())
def outM (m : MT) : RDT := ((0, 0, ()), false, (0, 0, [], [], ()), 0, [], [m], ())
def stV (t v co : Int) (sn : SNT) (ys : List Int) (pa ti : Int) (pe : List (Int × Int × Unit)) (o : RDT) : RT := (1, (t, v, ()), 0, 0, (0, 0, [], ()), co, sn, ys, pa, ti, pe, o, ())
theorem T32v (h v fr t i co : Int) (sn : SNT) (ys : List Int) (pa ti : Int) (pe : List (Int × Int × Unit)) (hv : h = t ∨ (h = 0 ∧ v = 0)) (ht : 1 ≤ t) (hi : 0 ≤ i) (hf : fr ≠ 0) :
    Tot (F32 (stV h v co sn ys pa ti pe outE, ()) (voteM fr t i, ())) (fun r => ∃ ys' pa', r.2.1 = stV t (if v = 0 then fr else v) co sn ys' pa' ti pe (outM (yesM fr t (decide (v = 0 ∨ v = fr))))) := by
  unfold F32 stV voteM
  simp only [gdE_rfl, gdE_T]
  refine Tot.jnP (fun u : Unit × RT × Unit => ∃ ys' pa', u.2.1 = stV t v co sn ys' pa' ti pe outE) ?_ ?_
  · rintro ⟨⟨⟩, u, ⟨⟩⟩ ⟨ys', pa', hu⟩
    dsimp only at hu
    subst hu
    unfold stV
    dsimp only
    refine Tot.brd (fun h => by omega) (fun _ => ?_)
    rw [show ((3 : Int) == 3) = true from rfl, br_t]
    refine Tot.jnP (fun u : (Bool × Unit) × RT × Unit => u.1.1 = decide (v = 0 ∨ v = fr) ∧ u.2.1 = stV t v co sn ys' pa' ti pe outE) ?_ ?_
    · rintro ⟨⟨y, ⟨⟩⟩, u, ⟨⟩⟩ ⟨hy, hu⟩
      dsimp only at hy hu
      subst hy; subst hu
      unfold stV
      dsimp only
      refine Tot.jnP (fun u : Unit × RT × Unit => ∃ ys' pa', u.2.1 = stV t (if v = 0 then fr else v) co sn ys' pa' ti pe outE) ?_ ?_
      · rintro ⟨⟨⟩, u, ⟨⟩⟩ ⟨ys2, pa2, hu⟩
        dsimp only at hu
        subst hu
        unfold stV
        dsimp only
        unfold F52
        dsimp only
        rw [gd_t (by simp [few, outE]), bnd_s]
        exact Tot.s ⟨ys2, pa2, rfl⟩
      · intro k hk
        refine Tot.br (fun hq => ?_) (fun hq => hk _ ⟨ys', pa', ?_⟩)
        · unfold F57
          rw [bnd_s]
          refine hk _ ⟨[], 0, ?_⟩
          have hq' : v = 0 ∨ v = fr := by simpa using hq
          have : (if v = 0 then fr else v) = fr := by
            rcases hq' with h | h
            · rw [if_pos h]
            · by_cases h0 : v = 0
              · rw [if_pos h0]
              · rw [if_neg h0, h]
          rw [this]; rfl
        · have hq' : ¬ (v = 0 ∨ v = fr) := by simpa using hq
          rw [if_neg (fun h => hq' (.inl h))]; rfl
    · intro k hk
      refine Tot.br (fun h0 => ?_) (fun h0 => ?_)
      · have h0' : v = 0 := by simpa using h0
        subst h0'
        rw [show cond true ((0 : Int) == 0) false = true from rfl, br_t, T51v i (t - 1) hi (by omega), bnd_s]
        exact hk _ ⟨by simp, rfl⟩
      · have h0' : ¬ v = 0 := by simpa using h0
        refine Tot.br (fun h1 => ?_) (fun h1 => ?_)
        · have h1' : v = fr := by simpa using h1
          subst h1'
          rw [show cond true ((0 : Int) == 0) false = true from rfl, br_t, T51v i (t - 1) hi (by omega), bnd_s]
          exact hk _ ⟨by simp, rfl⟩
        · have h1' : ¬ v = fr := by simpa using h1
          exact hk _ ⟨by simp [h0', h1'], rfl⟩
  · intro k hk
    refine Tot.brd (fun h1 => ?_) (fun h1 => hk _ ⟨ys, pa, ?_⟩)
    · unfold F53 F57
      dsimp only
      refine Tot.bnd (Q := fun r => r.2.1 = stV t v co sn [] 0 ti pe outE) ?_ ?_
      · refine Tot.brd (fun _ => ?_) (fun h2 => absurd h1 h2)
        rw [bnd_s]
        have : h = 0 ∧ v = 0 := by rcases hv with h | h <;> first | exact h | omega
        rw [this.2]
        exact Tot.s rfl
      · rintro ⟨⟨⟩, u, ⟨⟩⟩ hu
        exact hk _ ⟨[], 0, hu⟩
    · have : h = t := by rcases hv with h | h <;> omega
      rw [this]; rfl
/-- a vote is asked for: not odd -/
theorem T29v (s : RT) (fr t i : Int) (hs : s.1 = 1) (hf : 2 ≤ fr ∧ fr ≤ 7) (ht : 1 ≤ t ∧ t ≤ 100) (hi : 0 ≤ i ∧ i ≤ 50) : F29 (s, ()) (voteM fr t i, ()) = some ((false, ()), (s, ())) := by
  obtain ⟨id, hd, ro, le, lg, co, sn, ys, pa, ti, pe, ou, ⟨⟩⟩ := s
  dsimp only at hs
  subst hs
  refine Tot.get ?_
  unfold F29 voteM
  simp only [gdE_rfl, gdE_T]
  refine Tot.count 4 (fun i v => v.1.1 = (i : Int)) rfl (by decide) ?_
  rintro j ⟨⟨x, ⟨⟩⟩, ⟨⟩⟩ hj hx k hk
  dsimp only at hx ⊢
  subst hx
  refine Tot.brd (fun hlt => ?_) (fun hge => ?_)
  · have hi4 : j < 4 := by simp at hlt; omega
    refine Tot.gd (by omega) (Tot.gd (by simp; omega) (Tot.idx (by simp; omega) fun a ha => ?_))
    have ham : a ∈ ([i, t - 1, 0, t] : List Int) := List.mem_of_getElem? ha
    have hab : 0 ≤ a ∧ a ≤ 1099511627776 := by
      simp at ham
      rcases ham with h | h | h | h <;> omega
    refine Tot.brd (fun h => by omega) (fun h0 => ?_)
    refine Tot.br (fun h => by simp at h; omega) (fun h1 => hk hi4 _ ?_)
    dsimp only; rw [w64_id (by omega) (by omega)]; omega
  · refine Tot.brd (fun h => by omega) (fun g1 => ?_)
    refine Tot.br (fun h => by simp at h) (fun g2 => ?_)
    refine Tot.br (fun h => by simp at h) (fun g3 => ?_)
    refine Tot.br (fun h => by simp at h; omega) (fun g4 => ?_)
    refine Tot.br (fun h => by simp at h; omega) (fun g5 => ?_)
    refine Tot.br (fun h => by simp at h; omega) (fun g6 => ?_)
    refine Tot.br (fun h => ?_) (fun g7 => ?_)
    · exfalso
      rw [show w64 (1099511627776 - i) = 1099511627776 - i from w64_id (by omega) (by omega)] at h
      unfold imin at h
      split at h <;> simp at h <;> omega
    refine Tot.br (fun h => by simp at h) (fun g8 => ?_)
    refine Tot.count 0 (fun i v => v.1.1 = (i : Int)) rfl (by decide) ?_
    rintro j ⟨⟨x, ⟨⟩⟩, ⟨⟩⟩ hj hx k hk
    dsimp only at hx ⊢
    subst hx
    exact Tot.brd (fun h => by simp at h; omega) (fun _ => Tot.s rfl)
end Go.GX
namespace Go.GX
open Go.RowKit Go.SL
set_option linter.unusedVariables false
set_option linter.unusedSimpArgs false
set_option maxRecDepth 100000
theorem T11v (h v fr t i co : Int) (sn : SNT) (ys : List Int) (pa ti : Int) (pe : List (Int × Int × Unit)) (hv : h = t ∨ (h = 0 ∧ v = 0)) (hf : 2 ≤ fr ∧ fr ≤ 7) (ht : 1 ≤ t ∧ t ≤ 100) (hi : 0 ≤ i ∧ i ≤ 50) :
    Tot (F11 (stV h v co sn ys pa ti pe outE, ()) (voteM fr t i, ())) (fun r => (∃ ys' pa', r.2.1 = stV t (if v = 0 then fr else v) co sn ys' pa' ti pe outE) ∧ r.1.1.2.2.2.2.2.1 = [yesM fr t (decide (v = 0 ∨ v = fr))]) := by
  have h29 := T29v (stV h v co sn ys pa ti pe outE) fr t i rfl hf ht hi
  have h32 := T32v h v fr t i co sn ys pa ti pe hv ht.1 hi.1 (by omega)
  unfold stV voteM at h29 h32
  unfold F11 stV voteM
  dsimp only
  rw [h29, bnd_s]
  dsimp only
  rw [br_f, show ((3 : Int) == 1) = false from rfl, br_f, show ((3 : Int) == 2) = false from rfl, br_f]
  refine Tot.bnd h32 ?_
  rintro ⟨⟨⟩, u, ⟨⟩⟩ ⟨ys', pa', hu⟩
  dsimp only at hu
  subst hu
  dsimp only
  refine Tot.br (fun _ => Tot.s ⟨⟨ys', pa', rfl⟩, rfl⟩) (fun _ => Tot.s ⟨⟨ys', pa', rfl⟩, rfl⟩)
theorem T13 (c n : Int) (h0 : -9223372036854775808 ≤ c) (h1 : c ≤ 9223372036854775807) (hn : 0 < n) : Tot (F13 (c, (n, ())) ()) (fun r => 0 ≤ r.1.1 ∧ r.1.1 < n) := by
  unfold F13
  refine Tot.brd (fun h => ?_) (fun h => ?_)
  · refine Tot.gd (by dsimp only; omega) (Tot.s ?_)
    dsimp only at h ⊢
    rw [w64_id (z := c + 1) (by omega) (by omega), w64_id (by omega) (by omega), Int.tmod_eq_emod_of_nonneg (by omega)]
    exact ⟨Int.emod_nonneg _ (by omega), Int.emod_lt_of_pos _ hn⟩
  · refine Tot.gd (by dsimp only; omega) (Tot.s ?_)
    dsimp only at h ⊢
    rw [Int.tmod_eq_emod_of_nonneg (by omega)]
    exact ⟨Int.emod_nonneg _ (by omega), Int.emod_lt_of_pos _ hn⟩
def sn7 : SNT := (0, 0, [1, 2, 3, 4, 5, 6, 7], [], ())
theorem T14v : F14 (1, ((0, (0, ())), (10, ()))) ((1 :: (2 :: (3 :: (4 :: (5 :: (6 :: (7 :: []))))))), ((0, (0, ([], ([], ())))), ([], ()))) = some ((stV 0 0 0 sn7 [] 0 10 (List.replicate 8 (1, 0, ())) outE, ()), ()) := by
  rw [kF14]; kernel_rfl
theorem T10v (t v : Int) (ys : List Int) (pa : Int) (s : RT) (hs : s = stV t v 0 sn7 ys pa 10 (List.replicate 8 (1, 0, ())) outE) : Tot (F10 (s, ()) ()) (fun r => r.1.1.2.2.1 = t ∧ r.1.1.2.2.2.1 = v) := by
  subst hs
  unfold F10 stV
  simp only [gdE_rfl, gdE_T]
  have e0 : w64 ((0 : Int) + ((List.length ([] : List ET) : Nat) : Int)) = 0 := by decide
  have e1 : w64 ((0 : Int) + 1) = 1 := by decide
  have e2 : w64 (w64 ((0 : Int) - 1) + 1) = 0 := by decide
  rw [e0, e1, e2]
  refine Tot.bnd (T79 (0, (0, ([], ()))) ⟨by decide, by decide, by simp, by simp⟩ 0 0 (by omega) (by omega) (by omega) (by omega)) ?_
  rintro ⟨⟨a, ⟨⟩⟩, g, ⟨⟩⟩ ⟨hg, ha, hae⟩
  dsimp only at hg ha hae ⊢
  subst hg
  refine Tot.iter (fun n v => v.1.1 = (n : Int) - 1 ∧ n ≤ a.length) a.length ⟨?_, Nat.le_refl _⟩ (by omega) ?_
  · dsimp only; rw [w64_id (by omega) (by omega)]
  · rintro n ⟨⟨x, ⟨⟩⟩, ⟨⟩⟩ ⟨hx, hn⟩ k hk
    dsimp only at hx ⊢
    subst hx
    have nxt : 1 ≤ n → Tot (k ((w64 ((n : Int) - 1 - 1), ()), ())) _ := fun h1 => hk (n - 1) _ (by omega) ⟨by dsimp only; rw [w64_id (by omega) (by omega)]; omega, by omega⟩
    refine Tot.brd (fun hge => ?_) (fun _ => ?_)
    · have hlt : n - 1 < a.length := by omega
      have hto : ((n : Int) - 1).toNat = n - 1 := by omega
      rw [hto]
      refine Tot.gd (by omega) (Tot.idx hlt fun e5 h5 => ?_)
      have hoe := hae e5 (List.mem_of_getElem? h5)
      rw [h5]
      simp only [bnd_s]
      refine Tot.br (fun _ => ?_) (fun _ => nxt (by omega))
      refine Tot.gd (by omega) (Tot.bnd (T37 _ hoe.2) fun r7 _ => ?_)
      refine Tot.br (fun _ => ?_) (fun _ => nxt (by omega))
      refine Tot.gd (by omega) ?_
      rw [T25 _ hoe.2, bnd_s]
      exact Tot.s ⟨rfl, rfl⟩
    · rw [T25 _ (by decide), bnd_s]
      exact Tot.s ⟨rfl, rfl⟩
def I64 (x : Int) : Prop := -9223372036854775808 ≤ x ∧ x ≤ 9223372036854775807
theorem T4 (t0 : Int) (ht0 : I64 t0) (who : List Int) (hw : ∀ x ∈ who, I64 x) : F4 (t0, (who, ())) () = some ((true, ()), ()) := by
  refine Tot.get ?_
  unfold F4
  simp only [gdE_rfl, gdE_T]
  rw [T7, bnd_s]
  refine Tot.bnd (T13 t0 100 ht0.1 ht0.2 (by decide)) ?_
  rintro ⟨⟨k3, ⟨⟩⟩, ⟨⟩⟩ ⟨hk0, hk1⟩
  dsimp only at hk0 hk1 ⊢
  rw [T14v, bnd_s]
  dsimp only
  rw [show w64 (1 + k3) = 1 + k3 from w64_id (by omega) (by omega)]
  obtain ⟨t, ht⟩ : ∃ t, t = 1 + k3 := ⟨_, rfl⟩
  rw [← ht, show w64 (t - 1) = t - 1 from w64_id (by omega) (by omega)]
  have ht1 : 1 ≤ t ∧ t ≤ 100 := by omega
  refine Tot.br (fun h => by simp at h) (fun _ => ?_)
  refine Tot.br (fun h => by cases h) (fun _ => ?_)
  have fin : ∀ (i : Nat) (h v : Int) (ys : List Int) (pa : Int), (h = t ∨ (h = 0 ∧ v = 0)) → (0 < i → h = t ∧ v ≠ 0) → (i = 0 → who.length = 0) → Tot (GX.bnd (F10 (stV h v 0 sn7 ys pa 10 (List.replicate 8 (1, 0, ())) outE, ()) ()) fun a16 => GX.br (a16.1.1.2.2.2.1 == v)
      (GX.br ((Nat.cast (List.length who) : Int) == 0) (some ((true, ()), ())) (GX.br (v != 0) (some ((cond true (cond false true (cond true (a16.1.1.2.2.1 == t) false)) false, ()), ())) (some ((false, ()), ()))))
      (some ((false, ()), ()))) (fun a : (Bool × Unit) × Unit => a = ((true, ()), ())) := by
    intro i h v ys pa hh hi h0
    refine Tot.bnd (T10v h v ys pa _ rfl) fun r hr => ?_
    refine Tot.br (fun _ => ?_) (fun q => by rw [hr.2] at q; simp at q)
    refine Tot.br (fun _ => Tot.s rfl) (fun q => ?_)
    have hpos : 0 < i := by
      rcases Nat.eq_zero_or_pos i with e | e
      · rw [h0 e] at q; simp at q
      · exact e
    obtain ⟨e1, e2⟩ := hi hpos
    refine Tot.br (fun _ => ?_) (fun q => by simp at q; exact absurd q e2)
    rw [hr.1, e1]
    exact Tot.s (by simp)
  refine Tot.count 30 (fun i v => v.1.1 = (i : Int) ∧ ∃ h ys pa, v.2.1 = stV h v.1.2.1 0 sn7 ys pa 10 (List.replicate 8 (1, 0, ())) outE ∧ (h = t ∨ (h = 0 ∧ v.1.2.1 = 0)) ∧ (0 < i → h = t ∧ v.1.2.1 ≠ 0)) ⟨rfl, 0, [], 0, rfl, .inr ⟨rfl, rfl⟩, fun h => by omega⟩ (by decide) ?_
  rintro i ⟨⟨x, ch, ⟨⟩⟩, s, ⟨⟩⟩ hi ⟨hx, h, ys, pa, hs, hh, hpos⟩ k hk
  dsimp only at hx hs hh hpos ⊢
  subst hx; subst hs
  refine Tot.brd (fun hlt => ?_) (fun hge => fin i h ch ys pa hh hpos (fun e => by omega))
  refine Tot.br (fun h30 => ?_) (fun h30 => fin i h ch ys pa hh hpos (fun e => ?_))
  · have hi30 : i < 30 := by
      have : decide ((i : Int) < 30) = true := h30
      simp at this; omega
    refine Tot.gd (by omega) (Tot.idx (by rw [Int.toNat_natCast]; omega) fun a ha => ?_)
    have hra := hw a (List.mem_of_getElem? ha)
    refine Tot.bnd (T13 a 6 hra.1 hra.2 (by decide)) ?_
    rintro ⟨⟨k8, ⟨⟩⟩, ⟨⟩⟩ ⟨h80, h81⟩
    dsimp only at h80 h81 ⊢
    refine Tot.gd (by omega) ?_
    rw [ha, bnd_s]
    refine Tot.bnd (T13 a 50 hra.1 hra.2 (by decide)) ?_
    rintro ⟨⟨kA, ⟨⟩⟩, ⟨⟩⟩ ⟨hA0, hA1⟩
    dsimp only at hA0 hA1 ⊢
    rw [show w64 (2 + k8) = 2 + k8 from w64_id (by omega) (by omega)]
    obtain ⟨fr, hfr⟩ : ∃ fr, fr = 2 + k8 := ⟨_, rfl⟩
    rw [← hfr]
    refine Tot.bnd (T11v h ch fr t kA 0 sn7 ys pa 10 (List.replicate 8 (1, 0, ())) hh (by omega) ht1 (by omega)) ?_
    rintro ⟨⟨⟨ra, rb, rc, rd, re, rm, ⟨⟩⟩, ⟨⟩⟩, s2, ⟨⟩⟩ ⟨⟨ys2, pa2, hs2⟩, hm⟩
    dsimp only at hs2 hm ⊢
    subst hs2; subst hm
    refine Tot.br (fun h => by simp at h) (fun _ => ?_)
    refine Tot.gd (by decide) (Tot.gd (by simp) ?_)
    simp only [List.getElem?_cons_zero, bnd_s]
    unfold yesM
    dsimp only
    refine Tot.br (fun h => by simp at h) (fun _ => ?_)
    refine Tot.gd (by decide) (Tot.gd (by simp) ?_)
    refine Tot.br (fun h => by simp at h) (fun _ => ?_)
    refine Tot.gd (by decide) (Tot.gd (by simp) ?_)
    refine Tot.br (fun h => by simp at h) (fun _ => ?_)
    refine Tot.gd (by decide) (Tot.gd (by simp) ?_)
    have e9 : w64 ((i : Int) + 1) = ((i + 1 : Nat) : Int) := by rw [w64_id (by omega) (by omega)]; omega
    refine Tot.br (fun hy => ?_) (fun hy => ?_)
    · have hy' : ch = 0 ∨ ch = fr := by simpa using hy
      have hfc : (if ch = 0 then fr else ch) = fr := by
        rcases hy' with h | h
        · rw [if_pos h]
        · by_cases h0 : ch = 0
          · rw [if_pos h0]
          · rw [if_neg h0, h]
      rw [hfc]
      have done : Tot (k ((w64 ((i : Int) + 1), (fr, ())), (stV t fr 0 sn7 ys2 pa2 10 (List.replicate 8 (1, 0, ())) outE, ()))) (fun a : (Bool × Unit) × Unit => a = ((true, ()), ())) := hk hi30 _ ⟨e9, t, ys2, pa2, rfl, .inl rfl, fun _ => ⟨rfl, by dsimp only; omega⟩⟩
      refine Tot.br (fun h1 => ?_) (fun _ => done)
      refine Tot.br (fun h2 => ?_) (fun _ => done)
      have h1' : ch ≠ 0 := by simpa using h1
      have h2' : ch ≠ fr := by simpa using h2
      rcases hy' with h | h <;> contradiction
    · have hy' : ¬ (ch = 0 ∨ ch = fr) := by simpa using hy
      have h0 : ch ≠ 0 := fun h => hy' (.inl h)
      rw [if_neg h0]
      exact hk hi30 _ ⟨e9, t, ys2, pa2, rfl, .inl rfl, fun _ => ⟨rfl, h0⟩⟩
  · have : ¬ ((i : Int) < 30) := by
      have : decide ((i : Int) < 30) = false := h30
      simpa using this
    omega
end Go.GX
namespace Go.GX
open Go.RowKit Go.SL
set_option linter.unusedVariables false
set_option linter.unusedSimpArgs false
theorem h10 {k : Nat} (hk : k < 41) : F10 (Ss k, ()) () = some ((stand k, ()), (Ss k, ())) := by
  rw [kF10]; exact of_decide_eq_true (List.all_eq_true.1 all10 k (List.mem_range.2 hk))
theorem h16 {i : Nat} (hi : i < 40) : ∃ r, F16 (Ss i, ((0, (1, ((BitVec.ofInt 8 (i : Int) :: []), ([], ())))), ())) () = some r ∧ r.2.1 = Ss (i + 1) := by
  have h := of_decide_eq_true (List.all_eq_true.1 all16 i (List.mem_range.2 hi))
  rw [kF16]
  exact Option.map_eq_some_iff.1 h
theorem h44 {k i : Nat} (hk : k < 41) (hi : i < k + 1) : F44 (LGs k, ((i : Int) + 1, ())) () = some ((1, (0, ())), (LGs k, ())) := by
  rw [kF44]; exact of_decide_eq_true (List.all_eq_true.1 (List.all_eq_true.1 all44 k (List.mem_range.2 hk)) i (List.mem_range.2 hi))
theorem h45 {k i : Nat} (hk : k < 41) (hi : i < k + 1) : F45 (Ss k, ((i : Int) + 1, ())) () = some (([1], (0, ())), (Ss k, ())) := by
  rw [kF45]; exact of_decide_eq_true (List.all_eq_true.1 (List.all_eq_true.1 all45 k (List.mem_range.2 hk)) i (List.mem_range.2 hi))
theorem h80 {k i : Nat} (hk : k < 41) (hi : i < k + 1) : F80 (LGs k, ((i : Int) + 1, (1, ()))) () = some ((0, ()), (((i : Int) + 1, 1, (ELs k).drop (i + 1), ()), ())) := by
  rw [kF80]; exact of_decide_eq_true (List.all_eq_true.1 (List.all_eq_true.1 all80 k (List.mem_range.2 hk)) i (List.mem_range.2 hi))
/-- behind a snapshot -/
def Sl (k i : Nat) (d : List (BitVec 8)) (o : RDT) : RT := (1, (1, 1, ()), 3, 1, ((i : Int) + 1, 1, (ELs k).drop (i + 1), ()), (k : Int) + 1, ((i : Int) + 1, 1, [1], d, ()), [], 0, 1, PEs k, o, ())
def outS (i : Nat) (d : List (BitVec 8)) : RDT := ((0, 0, ()), false, ((i : Int) + 1, 1, [1], d, ()), 0, [], [], ())
theorem T47 {k i : Nat} (hk : k < 41) (hi : i < k + 1) (d : List (BitVec 8)) (hd : d.length ≤ 50) : F47 (Ss k, ()) (((i : Int) + 1, 1, [1], d, ()), ()) = some ((), (Sl k i d (outS i d), ())) := by
  have e80 := h80 hk hi
  have e36 := T36 ((i : Int) + 1, 1, [1], d, ()) (by simp) (by dsimp only; omega)
  unfold F47 Ss
  dsimp only
  rw [e80, bnd_s, e36, bnd_s, bnd_s]
  rfl
theorem T17 {k i : Nat} (hk : k < 41) (hi : i < k + 1) (d : List (BitVec 8)) (hd : d.length ≤ 50) : F17 (Ss k, ((i : Int) + 1, ())) (d, ()) = some ((outS i d, (0, ())), (Sl k i d outE, ())) := by
  have e44 := h44 hk hi
  have e45 := h45 hk hi
  have e47 := T47 hk hi d hd
  unfold Ss LGs at e45 e47
  unfold LGs at e44
  unfold F17 Ss LGs
  dsimp only
  have c1 : decide ((i : Int) + 1 < w64 (0 + 1)) = false := by
    rw [show w64 (0 + 1) = 1 from by decide]; simp; omega
  have c2 : cond false true (decide ((i : Int) + 1 > (k : Int) + 1)) = false := by
    simp; omega
  rw [c1, br_f, c2, br_f, bth_self, e44, bnd_s]
  dsimp only
  unfold outE at e45 e47 ⊢
  dsimp only
  rw [e45, bnd_s]
  dsimp only
  rw [e47, bnd_s]
  unfold Sl
  dsimp only
  rw [show (!(eqIL ((1 : Int) :: 1 :: []) (1 :: 1 :: []))) = false from by simp [eqIL], br_f]
theorem T17lo (s : RT) (x : Int) (d : List (BitVec 8)) (h : x < w64 (s.2.2.2.2.1.1 + 1)) : Tot (F17 (s, (x, ())) (d, ())) (fun r => r.1.2.1 = 1 ∧ r.2.1 = s) := by
  unfold F17
  refine Tot.brd (fun _ => Tot.s ⟨rfl, rfl⟩) (fun g => absurd h g)
theorem T17hi (s : RT) (x : Int) (d : List (BitVec 8)) (h : x > s.2.2.2.2.2.1) : Tot (F17 (s, (x, ())) (d, ())) (fun r => r.1.2.1 = 1 ∧ r.2.1 = s) := by
  unfold F17
  refine Tot.brd (fun _ => Tot.s ⟨rfl, rfl⟩) (fun g => ?_)
  refine Tot.br (fun _ => Tot.s ⟨rfl, rfl⟩) (fun g2 => ?_)
  have : ¬ x > s.2.2.2.2.2.1 := by simpa using g2
  exact absurd h this
theorem T19 (s : RT) (x : Int) (h : ¬ x > s.2.2.2.2.1.1) : Tot (F19 (s, (x, ())) ()) (fun r => r.1.2.1 = 170) := by
  unfold F19 F48
  refine Tot.bnd (Q := fun r => r.1.2.1 = 170) ?_ fun r hr => Tot.s hr
  refine Tot.brd (fun g => absurd g h) (fun _ => ?_)
  rw [br_t]
  exact Tot.s rfl
/-- where it stands, in numbers -/
theorem T10f (s : RT) (h : ROk s) : Tot (F10 (s, ()) ()) (fun r => r.2.1 = s ∧ r.1.1.2.2.2.2.1 = s.2.2.2.2.2.1 ∧ r.1.1.2.2.2.2.2.1 = s.2.2.2.2.1.1 + 1 ∧ r.1.1.2.2.2.2.2.2.1 = s.2.2.2.2.1.1 + (s.2.2.2.2.1.2.2.1.length : Int)) := by
  obtain ⟨id, ⟨ht, hv, ⟨⟩⟩, ro, le, ⟨ix, tm, l, ⟨⟩⟩, co, ⟨si, st, sm, sd, ⟨⟩⟩, ys, pa, ti, pe, ⟨rh, rn, rs, rf, re, rm, ⟨⟩⟩, ⟨⟩⟩ := s
  obtain ⟨⟨h0, h1, h2, h3⟩, h4⟩ := h
  dsimp only at h0 h1 h2 h3 h4
  unfold F10
  dsimp only
  rw [show w64 (ix + 1) = ix + 1 from w64_id (by omega) (by omega), show w64 (ix + (l.length : Int)) = ix + l.length from w64_id (by omega) (by omega),
    show w64 (ix + (l.length : Int) - (ix + 1)) = l.length - 1 from by rw [w64_id (by omega) (by omega)]; omega, show w64 ((l.length : Int) - 1 + 1) = l.length from by rw [w64_id (by omega) (by omega)]; omega]
  refine Tot.bnd (T79 (ix, (tm, (l, ()))) ⟨h0, h1, h2, h3⟩ 0 l.length (by omega) (by omega) (by omega) (by omega)) ?_
  rintro ⟨⟨a, ⟨⟩⟩, g, ⟨⟩⟩ ⟨hg, ha, hae⟩
  dsimp only at hg ha hae ⊢
  subst hg
  simp only [gdE_rfl, gdE_T]
  refine Tot.iter (fun n v => v.1.1 = (n : Int) - 1 ∧ n ≤ a.length) a.length ⟨?_, Nat.le_refl _⟩ (by omega) ?_
  · dsimp only; rw [w64_id (by omega) (by omega)]
  · rintro n ⟨⟨x, ⟨⟩⟩, ⟨⟩⟩ ⟨hx, hn⟩ k hk
    dsimp only at hx ⊢
    subst hx
    have nxt : 1 ≤ n → Tot (k ((w64 ((n : Int) - 1 - 1), ()), ())) _ := fun h1 => hk (n - 1) _ (by omega) ⟨by dsimp only; rw [w64_id (by omega) (by omega)]; omega, by omega⟩
    refine Tot.brd (fun hge => ?_) (fun _ => ?_)
    · have hlt : n - 1 < a.length := by omega
      have hto : ((n : Int) - 1).toNat = n - 1 := by omega
      rw [hto]
      refine Tot.gd (by omega) (Tot.idx hlt fun e5 h5 => ?_)
      have hoe := hae e5 (List.mem_of_getElem? h5)
      rw [h5]
      simp only [bnd_s]
      refine Tot.br (fun _ => ?_) (fun _ => nxt (by omega))
      refine Tot.gd (by omega) (Tot.bnd (T37 _ hoe.2) fun r7 _ => ?_)
      refine Tot.br (fun _ => ?_) (fun _ => nxt (by omega))
      refine Tot.gd (by omega) ?_
      rw [T25 _ hoe.2, bnd_s]
      exact Tot.s ⟨rfl, rfl, rfl, rfl⟩
    · rw [T25 _ h4, bnd_s]
      exact Tot.s ⟨rfl, rfl, rfl, rfl⟩
theorem ELs_len (k : Nat) : (ELs k).length = k + 1 := by unfold ELs; simp
theorem ELs_ok (k : Nat) : ∀ e ∈ ELs k, EOk e := by
  intro e he
  unfold ELs at he
  rcases List.mem_cons.1 he with rfl | he
  · exact ⟨by simp, by simp⟩
  · obtain ⟨j, _, rfl⟩ := List.mem_map.1 he
    exact ⟨by simp, by simp⟩
theorem Sl_ok {k i : Nat} (hk : k < 41) (hi : i < k + 1) (d : List (BitVec 8)) : ROk (Sl k i d outE) := by
  refine ⟨⟨?_, ?_, ?_, ?_⟩, ?_⟩
  · show 0 ≤ (i : Int) + 1; omega
  · show (i : Int) + 1 ≤ 1099511627776; omega
  · show ((ELs k).drop (i + 1)).length ≤ 1000
    rw [List.length_drop, ELs_len]; omega
  · intro e he
    exact ELs_ok k e (List.mem_of_mem_drop he)
  · show ([1] : List Int).length ≤ 1000
    decide
theorem T6 (a b : Int) (ha : I64 a) (hb : I64 b) (d : List (BitVec 8)) : F6 (a, (b, ())) (d, ()) = some ((true, ()), ()) := by
  refine Tot.get ?_
  unfold F6
  simp only [gdE_rfl, gdE_T]
  rw [T7, bnd_s, T14s, bnd_s]
  refine Tot.br (fun h => by simp at h) (fun _ => ?_)
  refine Tot.br (fun h => by cases h) (fun _ => ?_)
  obtain ⟨r15, e15, s15⟩ := Option.map_eq_some_iff.1 T15s
  rw [e15, bnd_s]
  refine Tot.bnd (T13 a 41 ha.1 ha.2 (by decide)) ?_
  rintro ⟨⟨k5, ⟨⟩⟩, ⟨⟩⟩ ⟨hk0, hk1⟩
  dsimp only at hk0 hk1 ⊢
  obtain ⟨k, rfl⟩ : ∃ k : Nat, k5 = (k : Int) := ⟨k5.toNat, by omega⟩
  have hk : k < 41 := by omega
  rw [show w64 ((k : Int) + 1) = (k : Int) + 1 from w64_id (by omega) (by omega), show w64 ((k : Int) + 2) = (k : Int) + 2 from w64_id (by omega) (by omega)]
  refine Tot.count k (fun i v => v.1.1 = (i : Int) ∧ v.2.1 = Ss i) ⟨rfl, s15⟩ (by omega) ?_
  rintro i ⟨⟨x, ⟨⟩⟩, s, ⟨⟩⟩ hi ⟨hx, hs⟩ kk hkk
  dsimp only at hx hs ⊢
  subst hx; subst hs
  refine Tot.brd (fun hlt => ?_) (fun hge => ?_)
  · obtain ⟨r, er, sr⟩ := h16 (i := i) (by omega)
    rw [er, bnd_s]
    refine hkk (by omega) ((w64 ((i : Int) + 1), ()), (r.2.1, ())) ⟨?_, sr⟩
    dsimp only; rw [w64_id (by omega) (by omega)]; omega
  · have hik : i = k := by omega
    subst hik
    rw [h10 hk, bnd_s]
    unfold stand
    dsimp only
    refine Tot.br (fun h => by simp at h) (fun _ => ?_)
    refine Tot.br (fun h => by simp at h) (fun _ => ?_)
    refine Tot.br (fun h => by simp at h) (fun _ => ?_)
    refine Tot.bnd (T13 b ((i : Int) + 1) hb.1 hb.2 (by omega)) ?_
    rintro ⟨⟨j5, ⟨⟩⟩, ⟨⟩⟩ ⟨hj0, hj1⟩
    dsimp only at hj0 hj1 ⊢
    obtain ⟨j, rfl⟩ : ∃ j : Nat, j5 = (j : Int) := ⟨j5.toNat, by omega⟩
    have hj : j < i + 1 := by omega
    rw [show w64 (1 + (j : Int)) = (j : Int) + 1 from by rw [w64_id (by omega) (by omega)]; omega, show w64 ((j : Int) + 1 + 1) = (j : Int) + 2 from by rw [w64_id (by omega) (by omega)]; omega]
    obtain ⟨r18, e18, l18⟩ := T18 d
    rw [e18, bnd_s]
    obtain ⟨⟨dd, ⟨⟩⟩, ⟨⟩⟩ := r18
    dsimp only at l18 ⊢
    rw [T17 hk hj dd l18, bnd_s]
    dsimp only
    refine Tot.bnd (T10f (Sl i j dd outE) (Sl_ok hk hj dd)) ?_
    rintro ⟨⟨s13, ⟨⟩⟩, u, ⟨⟩⟩ ⟨hu, hc, hf, hl⟩
    dsimp only at hu hc hf hl ⊢
    subst hu
    refine Tot.bnd (T17lo (Sl i j dd outE) ((j : Int) + 1) [] ?_) ?_
    · show (j : Int) + 1 < w64 ((j : Int) + 1 + 1)
      rw [w64_id (by omega) (by omega)]; omega
    rintro ⟨⟨o14, c14, ⟨⟩⟩, u, ⟨⟩⟩ ⟨hc14, hu⟩
    dsimp only at hc14 hu ⊢
    subst hu; subst hc14
    refine Tot.bnd (T17hi (Sl i j dd outE) ((i : Int) + 2) [] ?_) ?_
    · show (i : Int) + 2 > (i : Int) + 1
      omega
    rintro ⟨⟨o15, c15, ⟨⟩⟩, u, ⟨⟩⟩ ⟨hc15, hu⟩
    dsimp only at hc15 hu ⊢
    subst hu; subst hc15
    refine Tot.bnd (T19 (Sl i j dd outE) ((j : Int) + 1) ?_) ?_
    · show ¬ (j : Int) + 1 > (j : Int) + 1
      omega
    rintro ⟨⟨e16, c16, ⟨⟩⟩, u, ⟨⟩⟩ hc16
    dsimp only at hc16 ⊢
    subst hc16
    unfold outS
    dsimp only
    have hf' : s13.2.2.2.2.2.1 = (j : Int) + 2 := by rw [hf]; show (j : Int) + 1 + 1 = _; omega
    have hl' : s13.2.2.2.2.2.2.1 = (i : Int) + 1 := by
      rw [hl]
      show (j : Int) + 1 + (((ELs i).drop (j + 1)).length : Int) = _
      rw [List.length_drop, ELs_len]; omega
    have hc' : s13.2.2.2.2.1 = (i : Int) + 1 := hc
    rw [hf', hl', hc']
    refine Tot.br (fun h => by simp at h) (fun _ => ?_)
    refine Tot.br (fun h => by simp at h) (fun _ => ?_)
    rw [bnd_s]
    dsimp only
    refine Tot.br (fun h => by simp at h) (fun _ => ?_)
    refine Tot.br (fun h => by simp at h) (fun _ => ?_)
    refine Tot.br (fun h => by simp at h) (fun _ => ?_)
    refine Tot.br (fun h => by simp at h) (fun _ => ?_)
    refine Tot.br (fun h => by simp at h) (fun _ => ?_)
    refine Tot.br (fun _ => ?_) (fun h => by simp at h)
    refine Tot.br (fun _ => ?_) (fun h => by simp at h)
    exact Tot.s rfl
end Go.GX
namespace Go.Proofs.Ytgbgkhcfgblcbaa
open Go.ChangeShapes Go.WideShapes Go.ChangeAt Go.RowKit Go.SL Go.GX
set_option linter.unusedVariables false
set_option linter.unusedSimpArgs false
set_option maxRecDepth 100000
theorem u25R : Try.prog.underlying 25 = some (.slice 5) := by kernel_rfl
theorem rdBy {H : Type} {enc : TypeId × Value → H} {W : World} {v : Value} {d : DataW H} {ps : List MemPlace} (h : DataW.Trod enc Try.prog W 0 (fun _ => true) true 25 v d ps) : ∃ x, DenT (P0 W).h (.fz .u8) x v.cells.toList := by
  obtain ⟨fuel, hf⟩ := h
  exact rd_ok.1 (by kernel_rfl) hf
theorem raftLays_calls {W : World} (x0 x1 : Int) (b0 : I64 x0) (b1 : I64 x1) (x2 : List (BitVec 8)) {v2 : Value} (h2 : DenT (P0 W).h (.fz .u8) x2 [v2]) :
    Calls Try.prog 6 #[.int .i64 x0, .int .i64 x1, v2] W fun e w => e = .returned (.bool true) ∧ Below W.heap.size W w := by
  have st : St (P0 W) W (asO (P0 W) C6.ps (x0, (x1, ())) [.int .i64 x0, .int .i64 x1, v2] ++ [Exact none0]) := by
    have s0 : St (P0 W) W [Exact none0] := (st0 W).none0
    have sb : St (P0 W) W [valA (P0 W) .int x1 (.int .i64 x1), Exact none0] := s0.none0.weaken fun h q => ⟨rfl, by rw [show h = none0 from q]; exact (oa_i64 x1)⟩
    have sa : St (P0 W) W [valA (P0 W) .int x0 (.int .i64 x0), valA (P0 W) .int x1 (.int .i64 x1), Exact none0] := sb.none0.weaken fun h q => ⟨rfl, by rw [show h = none0 from q]; exact (oa_i64 x0)⟩
    exact sa
  have hl : lentB (uni (P0 W).h none0) C6.ps (x2, ()) [.int .i64 x0, .int .i64 x1, v2] := by
    refine ⟨?_, trivial⟩
    exact DenT.sub (fun q o hq => uni_some.2 (.inl hq)) h2
  exact calls_true c6 rfl (y := (x2, ())) (r := ((true, ()), ())) (T6 x0 x1 b0 b1 x2) rfl st hl fun q us w h hl => bool_told h hl
theorem fun6 : Try.prog.funcs[6]? = some Try.f6 := by kernel_rfl
theorem par6 : Try.f6.params = #[3, 3, 25] := by kernel_rfl
theorem raftLays_lifted (os : Os) (started : os.Started) (H : Type) (enc : TypeId × Value → H) :
    ReturnsInHanded {} Try.checked os 6 .any (fun w args => Rows.raftLaysSpec.pre6 enc Try.prog Try.f6 Rows.raftLaysRow.domain false w args) (Rows.raftLaysSpec.post enc Try.prog Try.f6 false true false false) := by
  refine returnsInHanded_of_change (C := Try.checked) ownR started (by kernel_rfl) fun6
    (ChangeSpec.witness6 (enc := enc) (C := Try.checked) false ⟨#[], #[.int .i64 0, .int .i64 0, .slice none 0 0], []⟩ 8 (by kernel_rfl) (by kernel_rfl) (by kernel_rfl) (by kernel_rfl)) ?_
  intro W base args ds gs before hval0 hW hcnd hsz
  have hval : ∀ (j : Nat) t v, Try.f6.params[j]? = some t → args[j]? = some v → Value.okWide Try.prog W .any base t v := hval0
  have hW' := hW
  obtain ⟨p, q, hA0, hV, rfl, hfz, hnd⟩ := hW
  have hA : DataW.TrodAll enc Try.prog W 0 (fun _ => true) true Try.f6.params.toList args.toList ds p := hA0
  rw [par6] at hA hval
  obtain ⟨v0, vs0, d0, ds0, p0, q0, hargs, rfl, rfl, h0, r0⟩ := trodAll_cons hA
  obtain ⟨v1, vs1, d1, ds1, p1, q1, rfl, rfl, rfl, h1, r1⟩ := trodAll_cons r0
  obtain ⟨v2, vs2, d2, ds2, p2, q2, rfl, rfl, rfl, h2, r2⟩ := trodAll_cons r1
  obtain ⟨rfl, rfl, rfl⟩ := trodAll_nil r2
  obtain rfl : args = #[v0, v1, v2] := by cases args; simp_all
  obtain ⟨rfl, rfl⟩ := trodVars_none hV
  have k0 := h0
  have lt0 : ∀ x ∈ p0, x.block < W.heap.size := by obtain ⟨m, hm⟩ := k0; exact DataW.trod_lt m _ _ _ hm
  have k1 := h1
  have lt1 : ∀ x ∈ p1, x.block < W.heap.size := by obtain ⟨m, hm⟩ := k1; exact DataW.trod_lt m _ _ _ hm
  have k2 := h2
  have lt2 : ∀ x ∈ p2, x.block < W.heap.size := by obtain ⟨m, hm⟩ := k2; exact DataW.trod_lt m _ _ _ hm
  obtain ⟨x0, rfl, hx0⟩ := open_i64 u3R (hval 0 3 v0 rfl rfl) h0
  obtain ⟨x1, rfl, hx1⟩ := open_i64 u3R (hval 1 3 v1 rfl rfl) h1
  have e2 := okWide_slc u25R (hval 2 25 v2 rfl rfl)
  obtain ⟨x2, hx2⟩ := rdBy h2
  rw [e2.2] at hx2
  clear hA0 hval0
  refine (raftLays_calls x0 x1 hx0 hx1 x2 hx2).mono fun e W' ⟨he, bel⟩ => ?_
  subst he
  exact ⟨_, rfl, _, _, _, [], _, [], hW', trodAll_mk1 (shut_bool u4R _), (trodAll_cons_mk (Below.trod laidOutR (by kernel_rfl) (of_decide_eq_true (by kernel_rfl)) k0 bel lt0) (trodAll_cons_mk (Below.trod laidOutR (by kernel_rfl) (of_decide_eq_true (by kernel_rfl)) k1 bel lt1) (trodAll_cons_mk (Below.trod laidOutR (by kernel_rfl) (of_decide_eq_true (by kernel_rfl)) k2 bel lt2) trodAll_mk0))), rfl, bel.frame _, fun h => by cases h⟩
theorem raftLays_n : Try.pinned.checked.prog.funcNamed Rows.raftLaysRow.func = some 6 := by kernel_rfl
theorem raftLays_i : Try.f6.isInstance Try.pinned.checked.prog Rows.raftLaysRow.origin Rows.raftLaysRow.targs := of_decide_eq_true (by kernel_rfl)
theorem raftLays_w : Try.f6.isWrapper Try.pinned.checked.prog Rows.raftLaysRow.wrapper Rows.raftLaysRow.mainSum := by unfold Func.isWrapper; first | (rw [if_pos (by decide +kernel)]; kernel_rfl) | (rw [if_neg (by decide +kernel)]; exact ⟨rfl, rfl⟩)
theorem raftLays_j : joinedFacts Try.pinned.checked.prog 6 Try.f6 Rows.raftLaysSpec Rows.raftLaysRow = true := by kernel_rfl
theorem raftLays_proved : Rows.RaftLaysSaid :=
  OpenClaim.holds_of_wide 6 Try.f6 rfl rfl rfl rfl rfl rfl rfl ⟨rfl, rfl, rfl, rfl, rfl⟩ rfl rfl rfl rfl rfl raftLays_n fun6 raftLays_j raftLays_i raftLays_w
    (fun os started H enc _ => raftLays_lifted os started H enc)
end Go.Proofs.Ytgbgkhcfgblcbaa
