/- What a law is handed, read as a plain kind. -/
import Derived.Test.YtgbgkhcfgblcbaaG7
import Derived.Test.YtgbgkhcfgblcbaaA1
import Derived.Test.YtgbgkhcfgblcbaaR2
import Derived.Test.YtgbgkhcfgblcbaaRows
import Derived.ChangeOld
import Derived.ChangeSame
import Derived.ChangeVars
import Derived.Test.YtgbgkhcfgblcbaaR3
set_option linter.unusedVariables false
set_option linter.unusedSimpArgs false
set_option linter.unnecessarySimpa false
namespace Go.GX
open Go.RowKit Go.ChangeShapes Go.Joins Go.Deep Go.SL
set_option linter.unusedVariables false
def isI64 (P : Program) (t : Nat) : Bool := match P.underlying t with
  | some (.int .i64) => true
  | _ => false
def isU8 (P : Program) (t : Nat) : Bool := match P.underlying t with
  | some (.int .u8) => true
  | _ => false
def isBl (P : Program) (t : Nat) : Bool := match P.underlying t with
  | some .bool => true
  | _ => false
def rdSl (P : Program) (g : Nat → Bool) (w t : Nat) : Bool := match P.underlying t with
  | some (.slice e) => g e && Nat.beq (P.cellsOf e) w && Nat.ble 1 w
  | _ => false
def rdFs (P : Program) (g : Nat → Bool) (w : Nat) (h : List Field → Nat → Bool) : List Field → Nat → Bool
  | f :: r, o => Nat.beq f.offset o && g f.type && Nat.beq (P.cellsOf f.type) w && h r (o + w)
  | [], _ => false
def rdSt (P : Program) (g : List Field → Nat → Bool) (w t : Nat) : Bool := match P.underlying t with
  | some (.struct fs) => g fs.toList 0 && Nat.beq (P.cellsOf t) w
  | _ => false
/-- is a type of the program read as this kind? -/
def tyRd (P : Program) : Ty → (Nat → Bool) × (List Field → Nat → Bool)
  | .int => (isI64 P, fun _ _ => false)
  | .u8 => (isU8 P, fun _ _ => false)
  | .bool => (isBl P, fun _ _ => false)
  | .fz a => (rdSl P (tyRd P a).1 a.w, fun _ _ => false)
  | .unit => (fun _ => false, fun fs _ => fs.isEmpty)
  | .pair a b => (rdSt P (rdFs P (tyRd P a).1 a.w (tyRd P b).2) (a.w + b.w), rdFs P (tyRd P a).1 a.w (tyRd P b).2)
  | _ => (fun _ => false, fun _ _ => false)
theorem read_bool {H : Type} {enc : TypeId × Value → H} {P : Program} {W : World} {base : Nat} {spare : Nat → Bool} {held : Bool} {t fuel : Nat} {cs : List Value} {y : DataW H × List MemPlace} (ht : P.underlying t = some .bool) (h : DataW.trod enc P W base spare held fuel t cs = some y) : ∃ b, cs = [.bool b] := by
  obtain ⟨b, hb, _⟩ := DataW.trod_bool ht h
  exact ⟨b, hb⟩
theorem cat_of {m : Mem} {a : Ty} : ∀ {xs : List {cs : List Value // cs.length = a.w}}, (∀ c ∈ xs, ∃ x, DenT m a x c.1) → ∃ l : List a.T, l.length = xs.length ∧ Cat (fun x c => DenT m a x c) l (xs.flatMap Subtype.val) := by
  intro xs
  induction xs with
  | nil => intro _; exact ⟨[], rfl, rfl⟩
  | cons c xs ih =>
    intro h
    obtain ⟨x, hx⟩ := h c (by simp)
    obtain ⟨l, hl, hc⟩ := ih fun d hd => h d (by simp [hd])
    exact ⟨x :: l, by simp [hl], c.1, _, by rw [List.flatMap_cons], hx, hc⟩
section
variable {H : Type} {enc : TypeId × Value → H} {P : Program} {W : World} {base : Nat} {spare : Nat → Bool} {held : Bool}
theorem rd_ok : ∀ {ty : Ty},
    (∀ {t fuel : Nat} {cs : List Value} {y : DataW H × List MemPlace}, (tyRd P ty).1 t = true → DataW.trod enc P W base spare held fuel t cs = some y → ∃ x, DenT (P0 W).h ty x cs) ∧
    (∀ {fs : List Field} {o : Nat} {cs : List Value}, (tyRd P ty).2 fs o = true → cs.length = o + ty.w → (∀ f ∈ fs, ∃ n z, DataW.trod enc P W base spare held n f.type ((cs.drop f.offset).take (P.cellsOf f.type)) = some z) → ∃ x, DenT (P0 W).h ty x (cs.drop o)) := by
  intro ty
  induction ty with
  | int =>
    refine ⟨fun {t fuel cs y} h hr => ?_, fun h => by cases h⟩
    simp only [tyRd, isI64] at h
    split at h <;> try (cases h; done)
    rename_i hu
    obtain ⟨n, hcs, _, hw⟩ := DataW.trod_int hu hr
    exact ⟨n, hcs⟩
  | u8 =>
    refine ⟨fun {t fuel cs y} h hr => ?_, fun h => by cases h⟩
    simp only [tyRd, isU8] at h
    split at h <;> try (cases h; done)
    rename_i hu
    obtain ⟨n, hcs, _, hw⟩ := DataW.trod_int hu hr
    have hb := bounds_u8 hw
    refine ⟨BitVec.ofInt 8 n, ?_⟩
    show cs = [_]
    rw [hcs]
    congr 2
    rw [BitVec.toNat_ofInt]
    show n = ((n % 256).toNat : Int)
    omega
  | bool =>
    refine ⟨fun {t fuel cs y} h hr => ?_, fun h => by cases h⟩
    simp only [tyRd, isBl] at h
    split at h <;> try (cases h; done)
    rename_i hu
    obtain ⟨b, hb⟩ := read_bool hu hr
    exact ⟨b, hb⟩
  | fz a ih =>
    refine ⟨fun {t fuel cs y} h hr => ?_, fun h => by cases h⟩
    simp only [tyRd, rdSl] at h
    split at h <;> try (cases h; done)
    rename_i e hu
    simp only [Bool.and_eq_true] at h
    obtain ⟨⟨h1, h2⟩, h3⟩ := h
    have hc := Nat.eq_of_beq_eq_true h2
    have hw := Nat.le_of_ble_eq_true h3
    have hone : ∃ v, cs = [v] := by
      rcases open_slice hu hr with ⟨hcs, _⟩ | ⟨_, _, _, _, _, _, _, hcs, _⟩
      · exact ⟨_, hcs⟩
      · exact ⟨_, hcs⟩
    obtain ⟨v, rfl⟩ := hone
    obtain ⟨X, xs, c, rfl, hxc, _, hlas, hq⟩ := read_slice (α := {cs : List Value // cs.length = a.w}) (enc' := Subtype.val) (Q := fun c => ∃ x, DenT (P0 W).h a x c.1) hu hc (by omega) (fun a => a.2)
      (fun cs n z hz => by
        obtain ⟨x, hx⟩ := ih.1 h1 hz
        exact ⟨⟨cs, DenT.length hx⟩, rfl, x, hx⟩) hr
    obtain ⟨l, hl, hcat⟩ := cat_of hq
    refine ⟨l, X, c, by rw [hl], by rw [hl]; exact hxc, ?_⟩
    obtain ⟨_, X', c', e1, _, h0⟩ := hlas
    cases e1
    rcases h0 with h0 | ⟨b, o, cur, e, fr, rfl, hb, hg⟩
    · exact .inl (by rw [hl]; exact h0)
    · exact .inr ⟨b, o, _, rfl, ⟨cur, e, fr, hb, hg⟩, hcat⟩
  | unit =>
    refine ⟨fun {t fuel cs y} h hr => (by cases h), fun {fs o cs} h hl _ => ?_⟩
    refine ⟨(), ?_⟩
    show cs.drop o = []
    exact List.drop_eq_nil_of_le (by rw [hl]; simp [Ty.w])
  | pair a b iha ihb =>
    have fld : ∀ {fs : List Field} {o : Nat} {cs : List Value}, rdFs P (tyRd P a).1 a.w (tyRd P b).2 fs o = true → cs.length = o + (a.w + b.w) → (∀ f ∈ fs, ∃ n z, DataW.trod enc P W base spare held n f.type ((cs.drop f.offset).take (P.cellsOf f.type)) = some z) → ∃ x, DenT (P0 W).h (.pair a b) x (cs.drop o) := by
      intro fs o cs h hl hf
      cases fs with
      | nil => cases h
      | cons f r =>
        simp only [rdFs, Bool.and_eq_true] at h
        obtain ⟨⟨⟨h1, h2⟩, h3⟩, h4⟩ := h
        have ho := Nat.eq_of_beq_eq_true h1
        have hc := Nat.eq_of_beq_eq_true h3
        obtain ⟨n, z, hz⟩ := hf f (by simp)
        obtain ⟨x, hx⟩ := iha.1 h2 hz
        obtain ⟨y, hy⟩ := ihb.2 h4 (cs := cs) (by omega) fun g hg => hf g (by simp [hg])
        rw [ho, hc] at hx
        refine ⟨(x, y), _, _, ?_, hx, hy⟩
        rw [← List.drop_drop, List.take_append_drop]
    refine ⟨fun {t fuel cs y} h hr => ?_, fun {fs o cs} h hl hf => fld h hl hf⟩
    simp only [tyRd, rdSt] at h
    split at h <;> try (cases h; done)
    rename_i fs hu
    simp only [Bool.and_eq_true] at h
    have hc := Nat.eq_of_beq_eq_true h.2
    have hlen := read_len hu hr
    have := fld h.1 (cs := cs) (by rw [hlen, hc, Nat.zero_add]) fun f hf => by
      obtain ⟨i, hi, rfl⟩ := List.getElem_of_mem hf
      exact read_sub (i := i) hu (by simp at hi ⊢) hr
    simpa using this
  | _ => exact ⟨fun h => (by cases h), fun h => (by cases h)⟩
end
end Go.GX
namespace Go.GX
open Go.RowKit Go.SL Go.Proofs Go.WideShapes
set_option linter.unusedVariables false
set_option linter.unusedSimpArgs false
set_option maxRecDepth 100000
abbrev NK : Ty := (.pair .int (.pair .int (.pair (.fz .int) (.pair (.pair .int (.pair .int .unit)) (.pair (.pair .int (.pair .int (.pair (.fz .int) (.pair (.fz .u8) .unit)))) (.pair (.fz (.pair .int (.pair .int (.pair (.fz .u8) (.pair (.fz .int) .unit))))) .unit))))))
abbrev MK : Ty := (.pair .int (.pair .int (.pair .int (.pair .int (.pair .int (.pair .int (.pair .int (.pair .bool (.pair (.fz (.pair .int (.pair .int (.pair (.fz .u8) (.pair (.fz .int) .unit))))) (.pair (.fz .int) (.pair (.fz .u8) .unit)))))))))))
def isSt (P : Program) (t : Nat) : Bool := match P.underlying t with
  | some (.struct _) => true
  | _ => false
theorem okWide_agg {P : Program} {w : World} {r : Reach} {base t : Nat} {v : Value} (ht : isSt P t = true) (h : Value.okWide P w r base t v) : aggV v = true := by
  unfold isSt at ht
  split at ht <;> try (cases ht; done)
  rename_i fs hu
  simp only [Value.okWide, hu] at h
  obtain ⟨cs, h1, _⟩ := h
  subst h1; rfl
theorem okWide_slc {P : Program} {w : World} {r : Reach} {base t e : Nat} {v : Value} (ht : P.underlying t = some (.slice e)) (h : Value.okWide P w r base t v) : aggV v = false ∧ v.cells.toList = [v] := by
  obtain ⟨a, l, k, rfl⟩ := okWide_slice ht h
  exact ⟨rfl, rfl⟩
theorem open_i64 {H : Type} {enc : TypeId × Value → H} {P : Program} {W : World} {base b0 : Nat} {spare : Nat → Bool} {held : Bool} {r : Reach} {t : Nat} {v : Value} {d : DataW H} {ps : List MemPlace} (ht : P.underlying t = some (.int .i64)) (hv : Value.okWide P W r b0 t v) (h : DataW.Trod enc P W base spare held t v d ps) : ∃ a : Int, v = .int .i64 a ∧ (-9223372036854775808 ≤ a ∧ a ≤ 9223372036854775807) := by
  obtain ⟨n, rfl⟩ := okWide_int ht hv
  obtain ⟨fuel, hf⟩ := h
  obtain ⟨k, e, w⟩ := read_int ht hf
  cases e
  exact ⟨n, rfl, wf_i64 w⟩
theorem oa_i64 {m : Mem} (n : Int) : OA m .int n (Value.int .i64 n).cells.toList none0 := by rw [oa_pure _ _ rfl]; exact ⟨rfl, rfl⟩
theorem gl_none {p : Pers} : GlS p TBL.gs := fun g sv h => by cases h
/-- true is told, and nothing that was there has changed -/
theorem calls_true {k : FuncId} {C : Con} (hC : Con.ok Try.prog TBL.gs k C) (hr : C.rs = [.bool]) {W : World} {vs : List Value} {x : oT C.ps} {y : bT C.ps} {r : rT C.rs × cT C.ps} (hF : C.F x y = some r) (hl : vs.length = C.ps.length) (st : St (P0 W) W (asO (P0 W) C.ps x vs ++ [Exact none0])) (hb : lentB (uni (P0 W).h none0) C.ps y vs)
    (ht : ∀ q us (w : World), St q w (asR q C.rs r.1 us ++ (asC q C.ps r.2 vs ++ [Exact none0])) → us.length = 1 → oneV us = .bool true) :
    Calls Try.prog k vs.toArray W fun e w => e = .returned (.bool true) ∧ Below W.heap.size W w := by
  refine (hC.2 x y r hF (P0 W) none0 W vs gl_none hl st hb).mono ?_
  rintro e w ⟨us, q, rfl, hul, le, hst⟩
  rw [hr] at hul
  exact ⟨by rw [ht q us w hst hul], below_of le hst⟩
theorem bool_told {q : Pers} {w : World} {us : List Value} {L : List Assn} (h : St q w (asR q [.bool] (true, ()) us ++ L)) (hl : us.length = 1) : oneV us = .bool true := by
  obtain ⟨u, rfl⟩ : ∃ u, us = [u] := by
    cases us with
    | nil => cases hl
    | cons u r => cases r with
      | nil => exact ⟨u, rfl⟩
      | cons _ _ => simp at hl
  have hu : ∃ h, valA q .bool true u h := by
    obtain ⟨h, ⟨a, b, _, _, ha, _⟩, _⟩ := id h
    exact ⟨a, ha⟩
  obtain ⟨h, hag, hoa⟩ := hu
  have hc : u.cells.toList = [.bool true] := hoa.2
  have hu2 : u = .bool true := by
    cases u <;> first | (cases hc; rfl) | (simp [Value.cells] at hc; done) | (simp [aggV, Ty.agg] at hag)
  rw [hu2]; simp [oneV]
end Go.GX
namespace Go.Proofs.Ytgbgkhcfgblcbaa
open Go.ChangeShapes Go.WideShapes Go.ChangeAt Go.RowKit Go.SL Go.GX
set_option linter.unusedVariables false
set_option maxRecDepth 100000
theorem ownR : ownKnob Try.prog.godebug = none := by kernel_rfl
theorem laidOutR : laidOutB Try.prog = true := by kernel_rfl
theorem u4R : Try.prog.underlying 4 = some .bool := by kernel_rfl
theorem u3R : Try.prog.underlying 3 = some (.int .i64) := by kernel_rfl
theorem u22R : Try.prog.underlying 22 = some (.slice 3) := by kernel_rfl
theorem rdN {H : Type} {enc : TypeId × Value → H} {W : World} {v : Value} {d : DataW H} {ps : List MemPlace} (h : DataW.Trod enc Try.prog W 0 (fun _ => true) true 30 v d ps) : ∃ x, DenT (P0 W).h NK x v.cells.toList := by
  obtain ⟨fuel, hf⟩ := h
  exact rd_ok.1 (by kernel_rfl) hf
theorem rdM {H : Type} {enc : TypeId × Value → H} {W : World} {v : Value} {d : DataW H} {ps : List MemPlace} (h : DataW.Trod enc Try.prog W 0 (fun _ => true) true 32 v d ps) : ∃ x, DenT (P0 W).h MK x v.cells.toList := by
  obtain ⟨fuel, hf⟩ := h
  exact rd_ok.1 (by kernel_rfl) hf
theorem rdI {H : Type} {enc : TypeId × Value → H} {W : World} {v : Value} {d : DataW H} {ps : List MemPlace} (h : DataW.Trod enc Try.prog W 0 (fun _ => true) true 22 v d ps) : ∃ x, DenT (P0 W).h (.fz .int) x v.cells.toList := by
  obtain ⟨fuel, hf⟩ := h
  exact rd_ok.1 (by kernel_rfl) hf
end Go.Proofs.Ytgbgkhcfgblcbaa
namespace Go.GX
open Go.RowKit Go.SL
set_option linter.unusedVariables false
set_option linter.unusedSimpArgs false
set_option maxRecDepth 100000
theorem T62b (x : List (BitVec 8)) (h : x.length ≤ 1000000) : F62 () (x, ()) = some ((x, ()), ()) := by
  refine Tot.get ?_
  unfold F62
  refine Tot.nlq (Tot.gd (by simp [few]; omega) (Tot.s (by simp))) fun h0 => ?_
  have : x = [] := List.eq_nil_of_length_eq_zero (by simpa using h0)
  subst this
  rw [gd_t (by simp [few])]; rfl
theorem idx8 {l : List (BitVec 8)} {k : Nat} {a : BitVec 8} (hl : l.all (fun x => Nat.ble x.toNat 8) = true) (h : l[k]? = some a) : a.toNat ≤ 8 :=
  Nat.le_of_ble_eq_true (List.all_eq_true.1 hl a (List.mem_of_getElem? h))
theorem T106 (x : BitVec 64) : Tot (F106 (x, ()) ()) (fun r => 0 ≤ r.1.1 ∧ r.1.1 ≤ 64) := by
  unfold F106
  refine Tot.jnP (fun v : (Int × BitVec 64 × Unit) × Unit => 0 ≤ v.1.1 ∧ v.1.1 ≤ 32) ?_ ?_
  · rintro ⟨⟨a, y, ⟨⟩⟩, ⟨⟩⟩ ha
    dsimp only at ha
    refine Tot.jnP (fun v : (Int × BitVec 64 × Unit) × Unit => 0 ≤ v.1.1 ∧ v.1.1 ≤ 48) ?_ ?_
    · rintro ⟨⟨b, z, ⟨⟩⟩, ⟨⟩⟩ hb
      dsimp only at hb
      refine Tot.brd (fun _ => ?_) (fun _ => ?_)
      · refine Tot.idx (BitVec.isLt _) fun a4 h4 => Tot.s ?_
        have h8 := idx8 (by rfl) h4
        dsimp only
        rw [w64_id (z := b + 8) (by omega) (by omega), w64_id (by omega) (by omega)]
        omega
      · refine Tot.idx (BitVec.isLt _) fun a4 h4 => Tot.s ?_
        have h8 := idx8 (by rfl) h4
        dsimp only
        rw [w64_id (by omega) (by omega)]
        omega
    · intro k hk
      refine Tot.brd (fun _ => hk _ ?_) (fun _ => hk _ ?_)
      · dsimp only; rw [w64_id (by omega) (by omega)]; omega
      · dsimp only; omega
  · intro k hk
    refine Tot.brd (fun _ => hk _ ?_) (fun _ => hk _ ?_) <;> (dsimp only; omega)
theorem T99 (x : BitVec 64) : Tot (F99 (x, ()) ()) (fun r => 0 ≤ r.1.1 ∧ r.1.1 ≤ 64) := by
  unfold F99
  exact Tot.bnd (T106 x) fun r hr => Tot.s hr
theorem T88 (n : Int) (b : List (BitVec 8)) (hb : b.length ≤ 900000) : Tot (F88 (n, ()) (b, ())) (fun r => r.1.1.length ≤ b.length + 10) := by
  unfold F88
  refine Tot.brd (fun _ => Tot.s (by simp)) (fun _ => ?_)
  refine Tot.bnd (T99 _) ?_
  rintro ⟨⟨a, ⟨⟩⟩, ⟨⟩⟩ ha
  dsimp only at ha ⊢
  refine Tot.gd (by decide) ?_
  rw [T62b b (by omega), bnd_s]
  dsimp only
  rw [show w64 (a + 7) = a + 7 from w64_id (by omega) (by omega)]
  obtain ⟨c, hc, hc8⟩ : ∃ c : Nat, w64 (Int.tdiv (a + 7) 8) = (c : Int) ∧ c ≤ 8 := by
    have h := Int.tdiv_eq_ediv_of_nonneg (a := a + 7) (b := 8) (by omega)
    refine ⟨((a + 7) / 8).toNat, ?_, by omega⟩
    rw [h, w64_id (by omega) (by omega)]; omega
  rw [hc]
  refine Tot.gd (by simp [few]; omega) ?_
  refine Tot.iter (fun q v => v.1.1 = (q : Int) - 1 ∧ q ≤ 8 ∧ v.1.2.1.length + q ≤ b.length + 10) c ⟨?_, hc8, ?_⟩ (by omega) ?_
  · dsimp only; rw [w64_id (by omega) (by omega)]
  · simp; omega
  · rintro q ⟨⟨x, o, ⟨⟩⟩, ⟨⟩⟩ ⟨hx, hq, ho⟩ k hk
    dsimp only at hx ho ⊢
    subst hx
    refine Tot.brd (fun hge => ?_) (fun _ => Tot.s (by dsimp only; omega))
    refine Tot.gd (by rw [w64_id (by omega) (by omega)]; omega) (Tot.gd (by simp [few]; omega) (hk (q - 1) _ (by omega) ⟨?_, by omega, ?_⟩))
    · dsimp only; rw [w64_id (by omega) (by omega)]; omega
    · dsimp only; simp; omega
theorem T71 (l : List Int) (hl : l.length ≤ 1000) : Tot (F71 () (l, ())) (fun r => r.1.1.length ≤ 10 * l.length) := by
  unfold F71
  refine Tot.count l.length (fun i v => v.1.1 = (i : Int) ∧ v.1.2.1.length ≤ 10 * i) ⟨rfl, Nat.le_refl _⟩ (by omega) ?_
  rintro i ⟨⟨x, o, ⟨⟩⟩, ⟨⟩⟩ hi ⟨hx, ho⟩ k hk
  dsimp only at hx ho ⊢
  subst hx
  refine Tot.brd (fun hlt => ?_) (fun _ => Tot.s (by dsimp only; omega))
  have hi' : i < l.length := by omega
  refine Tot.gd (by omega) (Tot.idx (by simpa using hi') fun a ha => ?_)
  refine Tot.bnd (T88 a o (by omega)) fun r hr => hk hi' _ ⟨?_, ?_⟩
  · dsimp only; rw [w64_id (by omega) (by omega)]; omega
  · dsimp only; omega
theorem T70 (b t : List (BitVec 8)) (hb : b.length ≤ 100000) (ht : t.length ≤ 4096) : Tot (F70 () (b, (t, ()))) (fun r => r.1.1.length ≤ b.length + 5000) := by
  unfold F70
  refine Tot.brd (fun _ => Tot.s (by simp)) (fun _ => ?_)
  refine Tot.bnd (T88 _ b (by omega)) fun r hr => ?_
  refine Tot.gd (by simp [few]; omega) (Tot.s (by simp; omega))
theorem T72 (b : List (BitVec 8)) (l : List Int) (hb : b.length ≤ 200000) (hl : l.length ≤ 1000) : Tot (F72 () (b, (l, ()))) (fun _ => True) := by
  unfold F72
  refine Tot.brd (fun _ => Tot.s trivial) (fun _ => ?_)
  refine Tot.count l.length (fun i v => v.1.1 = (i : Int)) rfl (by omega) ?_
  rintro i ⟨⟨x, ⟨⟩⟩, ⟨⟩⟩ hi hx k hk
  dsimp only at hx ⊢
  subst hx
  refine Tot.brd (fun hlt => ?_) (fun _ => ?_)
  · have hi' : i < l.length := by omega
    refine Tot.gd (by omega) (Tot.idx (by simpa using hi') fun a ha => ?_)
    unfold F89
    rw [bnd_s]
    refine Tot.br (fun _ => ?_) (fun _ => hk hi' _ ?_)
    · exact Tot.brd (fun _ => Tot.s trivial) (fun h => by omega)
    · dsimp only; rw [w64_id (by omega) (by omega)]; omega
  · rw [br_f]
    refine Tot.bnd (T88 _ b (by omega)) fun r6 h6 => ?_
    refine Tot.count l.length (fun i v => v.1.1 = (i : Int) ∧ v.1.2.1.length ≤ 200010 + 10 * i) ⟨rfl, by dsimp only; omega⟩ (by omega) ?_
    rintro i ⟨⟨x, o, ⟨⟩⟩, ⟨⟩⟩ hi ⟨hx, ho⟩ k hk
    dsimp only at hx ho ⊢
    subst hx
    refine Tot.brd (fun hlt => ?_) (fun _ => Tot.s trivial)
    have hi' : i < l.length := by omega
    refine Tot.gd (by omega) (Tot.idx (by simpa using hi') fun a ha => ?_)
    refine Tot.bnd (T88 a o (by omega)) fun r hr => hk hi' _ ⟨?_, ?_⟩
    · dsimp only; rw [w64_id (by omega) (by omega)]; omega
    · dsimp only; omega
theorem T67 (a b c : Int) : Tot (F67 (a, (b, (c, ()))) ()) (fun _ => True) := by
  unfold F67
  exact Tot.brd (fun _ => Tot.s trivial) (fun _ => Tot.s trivial)
theorem T40 (e : ET) (he : EOk e) : Tot (F40 () (e, ())) (fun _ => True) := by
  obtain ⟨tm, kd, da, me, ⟨⟩⟩ := e
  obtain ⟨h1, h2⟩ := he
  dsimp only at h1 h2
  unfold F40
  simp only [gdE_rfl, gdE_T]
  refine Tot.jnP (fun _ => True) ?_ ?_
  · intro v _
    have tl : Tot (GX.bnd (F71 () ((tm :: (kd :: [])), ())) fun a => GX.bnd (F70 () (a.1.1, (da, ()))) fun b => GX.bnd (F72 () (b.1.1, (me, ()))) fun c => some ((c.1.1, (c.1.2.1, ())), ())) (fun _ => True) := by
      refine Tot.bnd (T71 _ (by simp)) fun a ha => ?_
      have ha' : a.1.1.length ≤ 20 := by simpa using ha
      refine Tot.bnd (T70 _ _ (by omega) (by omega)) fun b hb => ?_
      exact Tot.bnd (T72 _ _ (by omega) (by omega)) fun c _ => Tot.s trivial
    refine Tot.br (fun _ => Tot.s trivial) (fun _ => ?_)
    refine Tot.brd (fun h => ?_) (fun _ => ?_)
    · exact Tot.brd (fun _ => Tot.s trivial) (fun _ => tl)
    · exact Tot.brd (fun _ => Tot.s trivial) (fun _ => tl)
  · intro k hk
    refine Tot.bnd (T67 _ _ _) fun a _ => ?_
    refine Tot.br (fun _ => hk _ trivial) (fun _ => ?_)
    refine Tot.bnd (T67 _ _ _) fun a _ => ?_
    refine Tot.br (fun _ => hk _ trivial) (fun _ => ?_)
    refine Tot.count me.length (fun i v => v.1.1 = (i : Int)) rfl (by omega) ?_
    rintro i ⟨⟨x, ⟨⟩⟩, ⟨⟩⟩ hi hx k2 hk2
    dsimp only at hx ⊢
    subst hx
    refine Tot.brd (fun hlt => ?_) (fun _ => hk _ trivial)
    have hi' : i < me.length := by omega
    refine Tot.gd (by omega) (Tot.idx (by simpa using hi') fun a ha => ?_)
    unfold F69
    rw [bnd_s]
    refine Tot.br (fun _ => hk _ trivial) (fun _ => hk2 hi' _ ?_)
    dsimp only; rw [w64_id (by omega) (by omega)]; omega
/-- odd or not: nothing changes -/
theorem T29g (s : RT) (m : MT) (hl : m.2.2.2.2.2.2.2.2.1.length ≤ 12) (he : ∀ e ∈ m.2.2.2.2.2.2.2.2.1, EOk e) (hm : m.2.2.2.2.2.2.2.2.2.1.length ≤ 9) : Tot (F29 (s, ()) (m, ())) (fun r => r.2.1 = s) := by
  obtain ⟨id, hd, ro, le, lg, co, sn, ys, pa, ti, pe, ou, ⟨⟩⟩ := s
  obtain ⟨mk, mf, mt, mte, mi, ml, mc, my, me, mm, md, ⟨⟩⟩ := m
  dsimp only at hl he hm
  unfold F29
  simp only [gdE_rfl, gdE_T]
  refine Tot.count 4 (fun i v => v.1.1 = (i : Int)) rfl (by decide) ?_
  rintro i ⟨⟨x, ⟨⟩⟩, ⟨⟩⟩ hi hx k hk
  dsimp only at hx ⊢
  subst hx
  refine Tot.brd (fun hlt => ?_) (fun hge => ?_)
  · have hi4 : i < 4 := by simp at hlt; omega
    refine Tot.gd (by omega) (Tot.gd (by simp; omega) (Tot.idx (by simp; omega) fun a ha => ?_))
    refine Tot.brd (fun _ => Tot.s rfl) (fun h0 => ?_)
    refine Tot.br (fun _ => Tot.s rfl) (fun h1 => hk hi4 _ ?_)
    dsimp only; rw [w64_id (by omega) (by omega)]; omega
  · refine Tot.brd (fun _ => Tot.s rfl) (fun g1 => ?_)
    refine Tot.br (fun _ => Tot.s rfl) (fun g2 => ?_)
    refine Tot.br (fun _ => Tot.s rfl) (fun g3 => ?_)
    refine Tot.br (fun _ => Tot.s rfl) (fun g4 => ?_)
    refine Tot.br (fun _ => Tot.s rfl) (fun g5 => ?_)
    refine Tot.br (fun _ => Tot.s rfl) (fun g6 => ?_)
    refine Tot.br (fun _ => Tot.s rfl) (fun g7 => ?_)
    refine Tot.br (fun _ => ?_) (fun _ => ?_)
    · refine Tot.br (fun _ => ?_) (fun _ => ?_)
      · exact Tot.br (fun _ => Tot.s rfl) (fun h => by cases h)
      · refine Tot.bnd (T37 mm (by omega)) fun r9 _ => ?_
        refine Tot.br (fun _ => Tot.s rfl) (fun _ => ?_)
        refine Tot.count me.length (fun i v => v.1.1 = (i : Int)) rfl (by omega) ?_
        rintro i ⟨⟨x, ⟨⟩⟩, ⟨⟩⟩ hi hx k2 hk2
        dsimp only at hx ⊢
        subst hx
        refine Tot.brd (fun hlt => ?_) (fun _ => Tot.s rfl)
        have hi' : i < me.length := by omega
        refine Tot.gd (by omega) (Tot.idx (by simpa using hi') fun a ha => ?_)
        refine Tot.bnd (T40 a (he a (List.mem_of_getElem? ha))) fun r _ => ?_
        refine Tot.br (fun _ => Tot.s rfl) (fun _ => ?_)
        refine Tot.br (fun _ => Tot.s rfl) (fun _ => hk2 hi' _ ?_)
        dsimp only; rw [w64_id (by omega) (by omega)]; omega
    · refine Tot.count me.length (fun i v => v.1.1 = (i : Int)) rfl (by omega) ?_
      rintro i ⟨⟨x, ⟨⟩⟩, ⟨⟩⟩ hi hx k2 hk2
      dsimp only at hx ⊢
      subst hx
      refine Tot.brd (fun hlt => ?_) (fun _ => Tot.s rfl)
      have hi' : i < me.length := by omega
      refine Tot.gd (by omega) (Tot.idx (by simpa using hi') fun a ha => ?_)
      refine Tot.bnd (T40 a (he a (List.mem_of_getElem? ha))) fun r _ => ?_
      refine Tot.br (fun _ => Tot.s rfl) (fun _ => ?_)
      refine Tot.br (fun _ => Tot.s rfl) (fun _ => hk2 hi' _ ?_)
      dsimp only; rw [w64_id (by omega) (by omega)]; omega
def outMs (l : List MT) : RDT := ((0, 0, ()), false, (0, 0, [], [], ()), 0, [], l, ())
/-- a node that follows nobody, and has told l -/
def stL (id ht hv : Int) (lg : LT) (co : Int) (sn : SNT) (ys : List Int) (pa ti : Int) (pe : List (Int × Int × Unit)) (l : List MT) : RT := (id, (ht, hv, ()), 0, 0, lg, co, sn, ys, pa, ti, pe, outMs l, ())
theorem T52l (id ht hv : Int) (lg : LT) (co : Int) (sn : SNT) (ys : List Int) (pa ti : Int) (pe : List (Int × Int × Unit)) (m : MT) : Tot (F52 (stL id ht hv lg co sn ys pa ti pe [], (m, ())) ()) (fun r => ∃ a, r.2.1 = stL id ht hv lg co sn ys pa ti pe [a]) := by
  unfold F52 stL
  dsimp only
  exact Tot.gd (by simp [few, outMs]) (Tot.s ⟨_, rfl⟩)
theorem T30l (id ht hv : Int) (lg : LT) (co : Int) (sn : SNT) (ys : List Int) (pa ti : Int) (pe : List (Int × Int × Unit)) (m : MT) (hm : m.2.2.2.1 < ht) : Tot (F30 (stL id ht hv lg co sn ys pa ti pe [], ()) (m, ())) (fun r => ∃ l, l.length ≤ 1 ∧ r.2.1 = stL id ht hv lg co sn ys pa ti pe l) := by
  unfold F30 stL
  simp only [gdE_rfl, gdE_T]
  refine Tot.jnP (fun _ => True) ?_ ?_
  · intro v _
    refine Tot.jnP (fun u : (Bool × Unit) × RT × Unit => u.2.1 = stL id ht hv lg co sn ys pa ti pe []) ?_ ?_
    · rintro ⟨⟨y, ⟨⟩⟩, u, ⟨⟩⟩ hu
      dsimp only at hu
      subst hu
      refine Tot.br (fun _ => ?_) (fun _ => ?_)
      · exact Tot.bnd (T52l id ht hv lg co sn ys pa ti pe _) fun r ⟨a, ha⟩ => Tot.s ⟨[a], by simp, ha⟩
      · exact Tot.bnd (T52l id ht hv lg co sn ys pa ti pe _) fun r ⟨a, ha⟩ => Tot.s ⟨[a], by simp, ha⟩
    · intro k hk
      exact Tot.brd (fun h => by omega) (fun _ => hk _ rfl)
  · intro k hk
    exact Tot.br (fun _ => hk _ trivial) (fun _ => Tot.br (fun _ => hk _ trivial) (fun _ => hk _ trivial))
theorem T31l (id ht hv : Int) (lg : LT) (co : Int) (sn : SNT) (ys : List Int) (pa ti : Int) (pe : List (Int × Int × Unit)) (m : MT) (hm : m.2.2.2.1 < ht) : Tot (F31 (stL id ht hv lg co sn ys pa ti pe [], ()) (m, ())) (fun r => ∃ l, l.length ≤ 1 ∧ r.2.1 = stL id ht hv lg co sn ys pa ti pe l) := by
  unfold F31 stL
  simp only [gdE_rfl, gdE_T]
  refine Tot.jnP (fun v : (Bool × Unit) × Unit => v.1.1 = false) ?_ ?_
  · rintro ⟨⟨y, ⟨⟩⟩, ⟨⟩⟩ hy
    dsimp only at hy
    subst hy
    rw [br_f]
    refine Tot.jnP (fun v : (Bool × Unit) × Unit => v.1.1 = false) ?_ ?_
    · rintro ⟨⟨y, ⟨⟩⟩, ⟨⟩⟩ hy
      dsimp only at hy
      subst hy
      rw [br_f]
      exact Tot.s ⟨[], by simp, rfl⟩
    · intro k hk
      refine Tot.br (fun _ => ?_) (fun _ => hk _ rfl)
      exact Tot.br (fun h => by simp at h) (fun _ => hk _ rfl)
  · intro k hk
    refine Tot.br (fun _ => hk _ ?_) (fun _ => hk _ rfl)
    dsimp only
    simp; omega
theorem T56l (id ht hv : Int) (lg : LT) (co : Int) (sn : SNT) (ys : List Int) (pa ti : Int) (pe : List (Int × Int × Unit)) (m : MT) : Tot (F56 (stL id ht hv lg co sn ys pa ti pe [], ()) (m, ())) (fun r => ∃ l, l.length ≤ 1 ∧ r.2.1 = stL id ht hv lg co sn ys pa ti pe l) := by
  unfold F56 stL
  simp only [gdE_rfl, gdE_T]
  refine Tot.br (fun _ => ?_) (fun _ => ?_)
  · exact Tot.bnd (T52l id ht hv lg co sn ys pa ti pe _) fun r ⟨a, ha⟩ => Tot.s ⟨[a], by simp, ha⟩
  · refine Tot.jnP (fun _ => True) ?_ ?_
    · intro v _
      refine Tot.br (fun _ => ?_) (fun _ => Tot.s ⟨[], by simp, rfl⟩)
      exact Tot.bnd (T52l id ht hv lg co sn ys pa ti pe _) fun r ⟨a, ha⟩ => Tot.s ⟨[a], by simp, ha⟩
    · intro k hk
      exact Tot.br (fun _ => hk _ trivial) (fun _ => hk _ trivial)
theorem T32l (id ht hv : Int) (lg : LT) (co : Int) (sn : SNT) (ys : List Int) (pa ti : Int) (pe : List (Int × Int × Unit)) (m : MT) (hm : m.2.2.2.1 < ht) : Tot (F32 (stL id ht hv lg co sn ys pa ti pe [], ()) (m, ())) (fun r => ∃ l, l.length ≤ 1 ∧ r.2.1 = stL id ht hv lg co sn ys pa ti pe l) := by
  unfold F32 stL
  simp only [gdE_rfl, gdE_T]
  refine Tot.jnP (fun u : Unit × RT × Unit => u.2.1 = stL id ht hv lg co sn ys pa ti pe []) ?_ ?_
  · rintro ⟨⟨⟩, u, ⟨⟩⟩ hu
    dsimp only at hu
    subst hu
    refine Tot.brd (fun _ => ?_) (fun h => absurd hm h)
    exact Tot.bnd (T56l id ht hv lg co sn ys pa ti pe m) fun r hr => Tot.s hr
  · intro k hk
    exact Tot.brd (fun h => by omega) (fun _ => hk _ rfl)
theorem T11l (id ht hv : Int) (lg : LT) (co : Int) (sn : SNT) (ys : List Int) (pa ti : Int) (pe : List (Int × Int × Unit)) (m : MT) (hm : m.2.2.2.1 < ht) (hl : m.2.2.2.2.2.2.2.2.1.length ≤ 12) (he : ∀ e ∈ m.2.2.2.2.2.2.2.2.1, EOk e) (hme : m.2.2.2.2.2.2.2.2.2.1.length ≤ 9) :
    Tot (F11 (stL id ht hv lg co sn ys pa ti pe [], ()) (m, ())) (fun r => r.2.1 = stL id ht hv lg co sn ys pa ti pe [] ∧ ∃ l, l.length ≤ 1 ∧ r.1.1 = outMs l) := by
  have fin : ∀ (l : List MT), l.length ≤ 1 → Tot (GX.br (!(eqIL (ht :: hv :: []) (ht :: hv :: []))) (some ((((ht, hv, ()), true, (0, 0, [], [], ()), 0, [], l, ()), ()), (stL id ht hv lg co sn ys pa ti pe [], ()))) (some ((outMs l, ()), (stL id ht hv lg co sn ys pa ti pe [], ())))) (fun r : (RDT × Unit) × RT × Unit => r.2.1 = stL id ht hv lg co sn ys pa ti pe [] ∧ ∃ l, l.length ≤ 1 ∧ r.1.1 = outMs l) := by
    intro l hl
    refine Tot.br (fun h => by simp [eqIL] at h) (fun _ => Tot.s ⟨rfl, l, hl, rfl⟩)
  unfold F11
  refine Tot.bnd (T29g (stL id ht hv lg co sn ys pa ti pe []) m hl he hme) ?_
  rintro ⟨⟨y, ⟨⟩⟩, u, ⟨⟩⟩ hu
  dsimp only at hu
  subst hu
  refine Tot.br (fun _ => fin [] (by simp)) (fun _ => ?_)
  refine Tot.br (fun _ => ?_) (fun _ => ?_)
  · refine Tot.bnd (T30l id ht hv lg co sn ys pa ti pe m hm) ?_
    rintro ⟨⟨⟩, u, ⟨⟩⟩ ⟨l, hl1, hu⟩
    dsimp only at hu
    subst hu
    exact fin l hl1
  refine Tot.br (fun _ => ?_) (fun _ => ?_)
  · refine Tot.bnd (T31l id ht hv lg co sn ys pa ti pe m hm) ?_
    rintro ⟨⟨⟩, u, ⟨⟩⟩ ⟨l, hl1, hu⟩
    dsimp only at hu
    subst hu
    exact fin l hl1
  · refine Tot.bnd (T32l id ht hv lg co sn ys pa ti pe m hm) ?_
    rintro ⟨⟨⟩, u, ⟨⟩⟩ ⟨l, hl1, hu⟩
    dsimp only at hu
    subst hu
    exact fin l hl1
theorem T5 (n : NT) (m : MT) : F5 (n, (m, ())) () = some ((true, ()), ()) := by
  obtain ⟨id, tio, mem, ⟨ht, hv, ⟨⟩⟩, sn, l, ⟨⟩⟩ := n
  refine Tot.get ?_
  unfold F5
  rw [T7, bnd_s]
  dsimp only
  refine Tot.brd (fun _ => Tot.s rfl) (fun h1 => ?_)
  refine Tot.br (fun _ => Tot.s rfl) (fun h2 => ?_)
  have h2' : ¬ ht > 1099511627776 := by simpa using h2
  refine Tot.bnd (T8 (id, (tio, (mem, ((ht, (hv, ())), (sn, (l, ()))))))) ?_
  rintro ⟨⟨s, ⟨⟩⟩, ⟨⟩⟩ hs
  dsimp only at hs ⊢
  refine Tot.br (fun h => by simp at h) (fun _ => ?_)
  refine Tot.br (fun h => by cases h) (fun _ => ?_)
  refine Tot.bnd (T9 m) ?_
  rintro ⟨⟨q, ⟨⟩⟩, ⟨⟩⟩ ⟨_, hq1, hq2, hq3⟩
  dsimp only at hq1 hq2 hq3 ⊢
  obtain ⟨⟨⟨d, ⟨⟩⟩, s', ⟨⟩⟩, hd, hs', hdl⟩ := T10 s hs.ok
  dsimp only at hs' hdl
  subst hs'
  rw [hd, bnd_s]
  dsimp only
  obtain ⟨hok, hid, hhard, hrole, hlead, hout⟩ := hs
  obtain ⟨sid, ⟨sht, shv, ⟨⟩⟩, ro, le, lg, co, ssn, ys, pa, ti, pe, ou, ⟨⟩⟩ := s'
  dsimp only at hid hhard hrole hlead hout
  subst hrole; subst hlead; subst hout
  have hT : sht = ht := by
    have : sht = clamp ht := congrArg (fun z : Int × Int × Unit => z.1) hhard
    rw [this, clamp_id (by omega) (by omega)]
  subst hT
  rw [show w64 (sht - 1) = sht - 1 from w64_id (by omega) (by omega)]
  have hlt : sht - 1 < sht := by omega
  refine Tot.bnd (T11l sid sht shv lg co ssn ys pa ti pe (q.1, q.2.1, q.2.2.1, sht - 1, q.2.2.2.2.1, q.2.2.2.2.2.1, q.2.2.2.2.2.2.1, q.2.2.2.2.2.2.2.1, q.2.2.2.2.2.2.2.2.1, q.2.2.2.2.2.2.2.2.2.1, q.2.2.2.2.2.2.2.2.2.2.1, ()) hlt hq1 hq2 hq3) ?_
  rintro ⟨⟨o, ⟨⟩⟩, u, ⟨⟩⟩ ⟨hu, l1, hl1, ho⟩
  dsimp only at hu ho
  subst hu; subst ho
  have hd2 : F10 (stL sid sht shv lg co ssn ys pa ti pe [], ()) () = some ((d, ()), (stL sid sht shv lg co ssn ys pa ti pe [], ())) := hd
  rw [hd2, bnd_s]
  dsimp only
  rw [T12 d hdl, bnd_s]
  unfold outMs
  dsimp only
  rw [br_t]
  refine Tot.br (fun _ => ?_) (fun h => by simp at h)
  refine Tot.br (fun _ => ?_) (fun h => by simp at h)
  refine Tot.br (fun _ => ?_) (fun h => by simp at h)
  exact Tot.s (by simp; omega)
end Go.GX
namespace Go.Proofs.Ytgbgkhcfgblcbaa
open Go.ChangeShapes Go.WideShapes Go.ChangeAt Go.RowKit Go.SL Go.GX
set_option linter.unusedVariables false
set_option linter.unusedSimpArgs false
set_option maxRecDepth 100000
theorem raftLate_calls {W : World} (x0 : NT) {v0 : Value} (e0 : aggV v0 = true) (h0 : DenT (P0 W).h NK x0 v0.cells.toList) (x1 : MT) {v1 : Value} (e1 : aggV v1 = true) (h1 : DenT (P0 W).h MK x1 v1.cells.toList) :
    Calls Try.prog 5 #[v0, v1] W fun e w => e = .returned (.bool true) ∧ Below W.heap.size W w := by
  have st : St (P0 W) W (asO (P0 W) C5.ps (x0, (x1, ())) [v0, v1] ++ [Exact none0]) := by
    have s0 : St (P0 W) W [Exact none0] := (st0 W).none0
    have sb : St (P0 W) W [valA (P0 W) MK x1 (v1), Exact none0] := s0.none0.weaken fun h q => ⟨e1, by rw [show h = none0 from q]; exact (by rw [oa_pure _ _ rfl]; exact ⟨rfl, h1⟩)⟩
    have sa : St (P0 W) W [valA (P0 W) NK x0 (v0), valA (P0 W) MK x1 (v1), Exact none0] := sb.none0.weaken fun h q => ⟨e0, by rw [show h = none0 from q]; exact (by rw [oa_pure _ _ rfl]; exact ⟨rfl, h0⟩)⟩
    exact sa
  exact calls_true c5 rfl (y := ()) (r := ((true, ()), ())) (T5 x0 x1) rfl st trivial fun q us w h hl => bool_told h hl
theorem fun5 : Try.prog.funcs[5]? = some Try.f5 := by kernel_rfl
theorem par5 : Try.f5.params = #[30, 32] := by kernel_rfl
theorem raftLate_lifted (os : Os) (started : os.Started) (H : Type) (enc : TypeId × Value → H) :
    ReturnsInHanded {} Try.checked os 5 .any (fun w args => Rows.raftLateSpec.pre6 enc Try.prog Try.f5 Rows.raftLateRow.domain false w args) (Rows.raftLateSpec.post enc Try.prog Try.f5 false true false false) := by
  refine returnsInHanded_of_change (C := Try.checked) ownR started (by kernel_rfl) fun5
    (ChangeSpec.witness6 (enc := enc) (C := Try.checked) false ⟨#[], #[.agg #[.int .i64 0, .int .i64 0, .slice none 0 0, .int .i64 0, .int .i64 0, .int .i64 0, .int .i64 0, .slice none 0 0, .slice none 0 0, .slice none 0 0], .agg #[.int .i64 0, .int .i64 0, .int .i64 0, .int .i64 0, .int .i64 0, .int .i64 0, .int .i64 0, .bool false, .slice none 0 0, .slice none 0 0, .slice none 0 0]], []⟩ 8 (by kernel_rfl) (by kernel_rfl) (by kernel_rfl) (by kernel_rfl)) ?_
  intro W base args ds gs before hval0 hW hcnd hsz
  have hval : ∀ (j : Nat) t v, Try.f5.params[j]? = some t → args[j]? = some v → Value.okWide Try.prog W .any base t v := hval0
  have hW' := hW
  obtain ⟨p, q, hA0, hV, rfl, hfz, hnd⟩ := hW
  have hA : DataW.TrodAll enc Try.prog W 0 (fun _ => true) true Try.f5.params.toList args.toList ds p := hA0
  rw [par5] at hA hval
  obtain ⟨v0, v1, d0, d1, p0, p1, rfl, rfl, rfl, h0, h1⟩ := trodAll_two hA
  obtain ⟨rfl, rfl⟩ := trodVars_none hV
  have k0 := h0
  have lt0 : ∀ x ∈ p0, x.block < W.heap.size := by obtain ⟨m, hm⟩ := k0; exact DataW.trod_lt m _ _ _ hm
  have k1 := h1
  have lt1 : ∀ x ∈ p1, x.block < W.heap.size := by obtain ⟨m, hm⟩ := k1; exact DataW.trod_lt m _ _ _ hm
  have e0 := okWide_agg (by kernel_rfl) (hval 0 30 v0 rfl rfl)
  obtain ⟨x0, hx0⟩ := rdN h0
  have e1 := okWide_agg (by kernel_rfl) (hval 1 32 v1 rfl rfl)
  obtain ⟨x1, hx1⟩ := rdM h1
  clear hA0 hval0
  refine (raftLate_calls x0 e0 hx0 x1 e1 hx1).mono fun e W' ⟨he, bel⟩ => ?_
  subst he
  exact ⟨_, rfl, _, _, _, [], _, [], hW', trodAll_mk1 (shut_bool u4R _), (trodAll_cons_mk (Below.trod laidOutR (by kernel_rfl) (of_decide_eq_true (by kernel_rfl)) k0 bel lt0) (trodAll_cons_mk (Below.trod laidOutR (by kernel_rfl) (of_decide_eq_true (by kernel_rfl)) k1 bel lt1) trodAll_mk0)), rfl, bel.frame _, fun h => by cases h⟩
theorem raftLate_n : Try.pinned.checked.prog.funcNamed Rows.raftLateRow.func = some 5 := by kernel_rfl
theorem raftLate_i : Try.f5.isInstance Try.pinned.checked.prog Rows.raftLateRow.origin Rows.raftLateRow.targs := of_decide_eq_true (by kernel_rfl)
theorem raftLate_w : Try.f5.isWrapper Try.pinned.checked.prog Rows.raftLateRow.wrapper Rows.raftLateRow.mainSum := by unfold Func.isWrapper; first | (rw [if_pos (by decide +kernel)]; kernel_rfl) | (rw [if_neg (by decide +kernel)]; exact ⟨rfl, rfl⟩)
theorem raftLate_j : joinedFacts Try.pinned.checked.prog 5 Try.f5 Rows.raftLateSpec Rows.raftLateRow = true := by kernel_rfl
theorem raftLate_proved : Rows.RaftLateSaid :=
  OpenClaim.holds_of_wide 5 Try.f5 rfl rfl rfl rfl rfl rfl rfl ⟨rfl, rfl, rfl, rfl, rfl⟩ rfl rfl rfl rfl rfl raftLate_n fun5 raftLate_j raftLate_i raftLate_w
    (fun os started H enc _ => raftLate_lifted os started H enc)
end Go.Proofs.Ytgbgkhcfgblcbaa
