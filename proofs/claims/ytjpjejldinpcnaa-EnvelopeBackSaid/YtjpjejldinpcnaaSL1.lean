/- The steps of a walk over frames that are functions of the slot: each operation's value, each form of code. -/
import Derived.Test.YtjpjejldinpcnaaSL0
import Derived.OrdersHeld
import Derived.WalkSpells
import Derived.WalkLawsBesides
namespace Go.SL
open Go.RowKit
set_option linter.unusedVariables false
set_option linter.unusedSimpArgs false

abbrev Fr := Nat → Value
def upd (τ : Fr) (d : Nat) (v : Value) : Fr := fun x => bif Nat.beq x d then v else τ x
def upo (τ : Fr) (d : Option Nat) (v : Value) : Fr := match d with | some d => upd τ d v | none => τ
theorem tp {τ : Fr} {d : Nat} {v : Value} : upo τ (some d) v d = v := by
  simp [upo, upd]
theorem up {τ : Fr} {d x : Nat} {u v : Value} (hn : Nat.beq x d = false) (h : τ x = v) : upo τ (some d) u x = v := by
  simp [upo, upd, hn, h]
theorem u0 {τ : Fr} {x : Nat} {u v : Value} (h : τ x = v) : upo τ none u x = v := h
def AF (n : Nat) (τ : Fr) : Act := ⟨Array.ofFn (n := n) (fun i => τ i.val), []⟩
theorem AF_size (n : Nat) (τ : Fr) : (AF n τ).tmps.size = n := by simp [AF]
theorem AF_get {n : Nat} {τ : Fr} {x : Nat} (h : x < n) : (AF n τ).tmps.getD x undef = τ x := by
  simp [AF, h]
theorem AF_ev {n : Nat} {τ : Fr} {x : Nat} {v : Value} (h : Nat.blt x n = true) (e : τ x = v) : (AF n τ).eval (.tmp x) = v := by
  rw [← e]; exact AF_get (Nat.le_of_ble_eq_true h)
theorem AF_put (n : Nat) (τ : Fr) (d : Option Nat) (v : Value) : (AF n τ).put d v = AF n (upo τ d v) := by
  cases d with
  | none => rfl
  | some d =>
    simp only [Act.put, AF, upo, Act.mk.injEq, and_true]
    apply Array.ext
    · simp
    · intro i h1 h2
      simp only [Array.size_setIfInBounds, Array.size_ofFn] at h1
      simp only [Array.getElem_ofFn, upd]
      by_cases e : i = d
      · subst e; simp [Nat.beq_refl]
      · rw [Array.getElem_setIfInBounds_ne (by simpa using h1) (fun h => e h.symm)]; have : Nat.beq i d = false := by cases hq : Nat.beq i d with | false => rfl | true => exact absurd (Nat.eq_of_beq_eq_true hq) e
        simp [this]
theorem AF_of (a : Act) (hd : a.defers = []) : a = AF a.tmps.size (fun x => a.tmps.getD x undef) := by
  cases a with
  | mk t d =>
    simp only at hd; subst hd
    simp only [AF, Act.mk.injEq, and_true]
    apply Array.ext
    · simp
    · intro i h1 h2; simp

/-- the post of code, over frames that are functions -/
def On (n : Nat) (Q : Exit → Fr → World → Prop) : Exit → Act → World → Prop := fun e a w => ∃ τ, a = AF n τ ∧ Q e τ w
def CW (P : Program) (n : Nat) (c : Code) (Q : Exit → Fr → World → Prop) (τ : Fr) (w : World) : Prop := c.wp P (On n Q) (AF n τ) w
def Th (K : Fr → World → Prop) (Q : Exit → Fr → World → Prop) : Exit → Fr → World → Prop
  | .normal => K
  | e => Q e
def Bl (id : Nat) (Q : Exit → Fr → World → Prop) : Exit → Fr → World → Prop
  | .exit i => if i = id then Q .normal else Q (.exit i)
  | e => Q e
section
variable {K : Fr → World → Prop} {Q : Exit → Fr → World → Prop} {τ : Fr} {w : World}
theorem Th.n (h : K τ w) : Th K Q .normal τ w := h
theorem Th.r (h : Q .ret τ w) : Th K Q .ret τ w := h
theorem Th.x {i : Nat} (h : Q (.exit i) τ w) : Th K Q (.exit i) τ w := h
theorem Bl.n {id : Nat} (h : Q .normal τ w) : Bl id Q .normal τ w := h
theorem Bl.r {id : Nat} (h : Q .ret τ w) : Bl id Q .ret τ w := h
theorem Bl.x {i : Nat} (h : Q .normal τ w) : Bl i Q (.exit i) τ w := by simp only [Bl, if_pos]; exact h
theorem Bl.y {i id : Nat} (hi : i ≠ id) (h : Q (.exit i) τ w) : Bl id Q (.exit i) τ w := by simp only [Bl, if_neg hi]; exact h
end
section
variable {P : Program} {n : Nat} {Q : Exit → Fr → World → Prop} {τ : Fr} {w : World}
theorem CW.mono {c : Code} {Q' : Exit → Fr → World → Prop} (h : CW P n c Q τ w) (hq : ∀ e τ w, Q e τ w → Q' e τ w) : CW P n c Q' τ w :=
  wp_mono h fun e a w ⟨σ, ha, hs⟩ => ⟨σ, ha, hq _ _ _ hs⟩
theorem CW.skip (h : Q .normal τ w) : CW P n .skip Q τ w := wp_skip ⟨τ, rfl, h⟩
theorem CW.label {l : Nat} (h : Q .normal τ w) : CW P n (.label l) Q τ w := wp_label ⟨τ, rfl, h⟩
theorem CW.ret (h : Q .ret τ w) : CW P n .ret Q τ w := wp_ret ⟨τ, rfl, h⟩
theorem CW.exit {id : Nat} (h : Q (.exit id) τ w) : CW P n (.exit id) Q τ w := wp_exit ⟨τ, rfl, h⟩
theorem CW.seq {x y : Code} (h : CW P n x (Th (CW P n y Q) Q) τ w) : CW P n (.seq x y) Q τ w := by
  refine wp_seq (wp_mono h fun e a w ⟨σ, ha, hs⟩ => ?_)
  cases e <;> first | exact ⟨σ, ha, hs⟩ | (subst ha; exact hs)
theorem CW.block {id : Nat} {c : Code} (h : CW P n c (Bl id Q) τ w) : CW P n (.block id c) Q τ w := by
  refine wp_block (wp_mono h fun e a w ⟨σ, ha, hs⟩ => ?_)
  cases e <;> first | exact ⟨σ, ha, hs⟩ | skip
  rename_i i
  simp only [Bl] at hs
  simp only [Exit.inBlock]
  split <;> rename_i hi
  · rw [if_pos hi] at hs; exact ⟨σ, ha, hs⟩
  · rw [if_neg hi] at hs; exact ⟨σ, ha, hs⟩
theorem CW.condT {x : Operand} {a b : Code} (hx : (AF n τ).eval x = .bool true) (h : CW P n a Q τ w) : CW P n (.cond x a b) Q τ w := wp_cond_true hx h
theorem CW.condF {x : Operand} {a b : Code} (hx : (AF n τ).eval x = .bool false) (h : CW P n b Q τ w) : CW P n (.cond x a b) Q τ w := wp_cond_false hx h
theorem CW.cond {x : Operand} {a b : Code} {t : Bool} (hx : (AF n τ).eval x = .bool t) (h1 : t = true → CW P n a Q τ w) (h2 : t = false → CW P n b Q τ w) : CW P n (.cond x a b) Q τ w := by
  cases t
  · exact CW.condF hx (h2 rfl)
  · exact CW.condT hx (h1 rfl)
theorem least {p : Nat → Prop} (h : ∃ k, p k) : ∃ k, p k ∧ ∀ j, p j → k ≤ j := by
  obtain ⟨k, hk⟩ := h
  induction k using Nat.strongRecOn with
  | ind k ih =>
    by_cases h : ∃ j, j < k ∧ p j
    · obtain ⟨j, hj, hjj⟩ := h; exact ih j hj hjj
    · exact ⟨k, hk, fun j hj => Nat.le_of_not_lt fun hlt => h ⟨j, hlt, hj⟩⟩
open Classical in
noncomputable def lm (p : Nat → Prop) : Nat := if h : ∃ k, p k then (least h).choose else 0
theorem lm_spec {p : Nat → Prop} (h : ∃ k, p k) : p (lm p) ∧ ∀ j, p j → lm p ≤ j := by
  unfold lm; rw [dif_pos h]; exact (least h).choose_spec
theorem CW.loop {c : Code} (I : Nat → Fr → World → Prop) (m : Nat) (h0 : I m τ w)
    (round : ∀ k τ w, I k τ w → CW P n c (Th (fun τ' w' => ∃ k', k' < k ∧ I k' τ' w') Q) τ w) : CW P n (.loop c) Q τ w := by
  refine wp_loop (P := P) (fun a w => ∃ k, ∃ τ, a = AF n τ ∧ I k τ w) (fun a w => lm fun k => ∃ τ, a = AF n τ ∧ I k τ w) ⟨m, τ, rfl, h0⟩ ?_
  intro a w hI
  obtain ⟨τ, ha, hk⟩ := (lm_spec hI).1
  have hr := round _ τ w hk
  unfold CW at hr
  rw [← ha] at hr
  refine wp_mono hr fun e a' w' ⟨σ, ha', hs⟩ => ?_
  cases e <;> first | exact ⟨σ, ha', hs⟩ | skip
  obtain ⟨k', hlt, hI'⟩ := hs
  exact ⟨⟨k', σ, ha', hI'⟩, Nat.lt_of_le_of_lt ((lm_spec (p := fun k => ∃ τ, a' = AF n τ ∧ I k τ w') ⟨k', σ, ha', hI'⟩).2 k' ⟨σ, ha', hI'⟩) hlt⟩

/-! ### a region in its own order -/
def RW (P : Program) (n : Nat) (ops : Array Oper) (Q : Exit → Fr → World → Prop) (l : List Oper) (τ : Fr) (w : World) : Prop := wpList P ops (On n Q) l (AF n τ) w
theorem CW.region {id : Nat} {ops : Array Oper} (h : RW P n ops Q ops.toList τ w) : CW P n (.region id ops false) Q τ w := wp_region_list h
variable {ops : Array Oper} {rest : List Oper} {o : Oper}
theorem RW.fin {K : Fr → World → Prop} (F : Fr → Prop) (hF : F τ) (h : ∀ τ, F τ → K τ w) : RW P n ops (Th K Q) [] τ w := ⟨τ, rfl, h τ hF⟩
theorem RW.gen {l : List Oper} (F : Fr → Prop) (hF : F τ) (h : ∀ τ, F τ → RW P n ops Q l τ w) : RW P n ops Q l τ w := h τ hF
theorem CW.gen {c : Code} (F : Fr → Prop) (hF : F τ) (h : ∀ τ, F τ → CW P n c Q τ w) : CW P n c Q τ w := h τ hF
/-- code that turns no block, and leads on: its outcome told; and code that may turn some -/
theorem CW.cut {c : Code} {K : Fr → World → Prop} (F : Fr → Prop) (h1 : CW P n c (fun e σ w' => e = .normal ∧ w' = w ∧ F σ) τ w) (h2 : ∀ τ, F τ → K τ w) : CW P n c (Th K Q) τ w :=
  CW.mono h1 (by rintro e σ w' ⟨rfl, rfl, h⟩; exact h2 σ h)
theorem CW.cutW {c : Code} {K : Fr → World → Prop} (F : Fr → World → Prop) (h1 : CW P n c (fun e σ w' => e = .normal ∧ F σ w') τ w) (h2 : ∀ τ w, F τ w → K τ w) : CW P n c (Th K Q) τ w :=
  CW.mono h1 (by rintro e σ w' ⟨rfl, h⟩; exact h2 σ w' h)
theorem RW.nil (h : Q .normal τ w) : RW P n ops Q [] τ w := ⟨τ, rfl, h⟩
def Ev (P : Program) (ρ : Operand → Value) (o : Oper) (w : World) (v : Value) : Prop := (execOp ρ o).run P w = .ok (.value v) w
/-- is the operation carried out? -/
def Wd (n : Nat) (ops : Array Oper) (o : Oper) (τ : Fr) (b : Bool) : Prop := Region.wanted o (yielded ops (AF n τ).tmps) = b
theorem Wd.a {dst : Option Tmp} {op : Op} {t : TypeId} {pos : String} {af : Array Edge} : Wd n ops ⟨dst, op, t, pos, af, none⟩ τ true := rfl
theorem Wd.g {dst : Option Tmp} {op : Op} {t : TypeId} {pos : String} {af : Array Edge} {j : Nat} {c b : Bool} {x : Nat}
    (hj : (ops[j]?).bind (·.dst) = some x) (hx : (AF n τ).eval (.tmp x) = .bool b) : Wd n ops ⟨dst, op, t, pos, af, some (j, c)⟩ τ (b == c) := by
  have h2 : (AF n τ).tmps[x]? = some (Value.bool b) := by
    have hx' : (AF n τ).tmps.getD x undef = .bool b := hx
    rcases Nat.lt_or_ge x (AF n τ).tmps.size with h | h
    · simp [h] at hx' ⊢; exact hx'
    · simp [Array.getElem?_eq_none h, undef] at hx'
  simp only [Wd, Region.wanted, yielded, hj, Option.bind_some, h2]
  cases b <;> cases c <;> rfl
theorem Wd.yes {dst : Option Tmp} {op : Op} {t : TypeId} {pos : String} {af : Array Edge} {j : Nat} {c : Bool} {x : Nat}
    (hj : (ops[j]?).bind (·.dst) = some x) (hx : (AF n τ).eval (.tmp x) = .bool c) : Wd n ops ⟨dst, op, t, pos, af, some (j, c)⟩ τ true := by
  have := Wd.g (dst := dst) (op := op) (t := t) (pos := pos) (af := af) (c := c) hj hx
  simpa using this
theorem Wd.no {dst : Option Tmp} {op : Op} {t : TypeId} {pos : String} {af : Array Edge} {j : Nat} {b c : Bool} {x : Nat}
    (hj : (ops[j]?).bind (·.dst) = some x) (hx : (AF n τ).eval (.tmp x) = .bool b) (hbc : (b == c) = false) : Wd n ops ⟨dst, op, t, pos, af, some (j, c)⟩ τ false := by
  have := Wd.g (dst := dst) (op := op) (t := t) (pos := pos) (af := af) (c := c) hj hx
  rwa [hbc] at this
/-- .. of one that is not: its guard was not carried out either -/
theorem Wd.u {dst : Option Tmp} {op : Op} {t : TypeId} {pos : String} {af : Array Edge} {j : Nat} {c : Bool} {x : Nat}
    (hj : (ops[j]?).bind (·.dst) = some x) (hx : (AF n τ).eval (.tmp x) = undef) : Wd n ops ⟨dst, op, t, pos, af, some (j, c)⟩ τ false := by
  have hx' : (AF n τ).tmps.getD x undef = undef := hx
  simp only [Wd, Region.wanted, yielded, hj, Option.bind_some]
  rcases Nat.lt_or_ge x (AF n τ).tmps.size with h | h
  · simp only [Array.getD_eq_getD_getElem?, Array.getElem?_eq_getElem h, Option.getD_some] at hx' ⊢
    rw [hx']; rfl
  · simp only [Array.getElem?_eq_none h]; rfl
theorem RW.soft (hw : Wd n ops o τ true) {v : Value} (hx : Ev P (AF n τ).eval o w v) (h : RW P n ops Q rest (upo τ o.dst v) w) : RW P n ops Q (o :: rest) τ w := by
  unfold RW wpList
  rw [if_pos (show Region.wanted o (yielded ops (AF n τ).tmps) = true from hw)]
  refine .inl ?_
  unfold Oper.wp
  rw [show (execOp (AF n τ).eval o).run P w = _ from hx]
  show wpList P ops (On n Q) rest ((AF n τ).put o.dst v) w
  rw [AF_put]; exact h
theorem RW.pass (hw : Wd n ops o τ false) (h : RW P n ops Q rest (upo τ o.dst undef) w) : RW P n ops Q (o :: rest) τ w := by
  unfold RW wpList
  rw [if_neg (by rw [show Region.wanted o (yielded ops (AF n τ).tmps) = false from hw]; simp), AF_put]; exact h
theorem int_eq {v : Value} {k : IntKind} {a b : Int} (h : v = .int k a) (e : a = b) : v = .int k b := e ▸ h
theorem bool_eq {v : Value} {a b : Bool} (h : v = .bool a) (e : a = b) : v = .bool b := e ▸ h
/-- what an operation does that turns the world -/
def Hd (P : Program) (n : Nat) (o : Oper) (τ : Fr) (w : World) (K : Value → World → Prop) : Prop :=
  ∀ Q : Exit → Act → World → Prop, o.wp P (AF n τ) w (fun a w' => ∃ v, a = AF n (upo τ o.dst v) ∧ K v w') Q
theorem RW.hard (hw : Wd n ops o τ true) (hh : Hd P n o τ w fun v w' => RW P n ops Q rest (upo τ o.dst v) w') : RW P n ops Q (o :: rest) τ w := by
  unfold RW wpList
  rw [if_pos (show Region.wanted o (yielded ops (AF n τ).tmps) = true from hw)]
  refine .inl (Oper.wp_mono ?_ (hh _))
  rintro a w ⟨v, rfl, h⟩; exact h
theorem Hd.mono {K K' : Value → World → Prop} (h : Hd P n o τ w K) (hk : ∀ v w, K v w → K' v w) : Hd P n o τ w K' := fun Q =>
  Oper.wp_mono (fun a w' ⟨v, ha, hv⟩ => ⟨v, ha, hk _ _ hv⟩) (h Q)
theorem Hd.value {K : Value → World → Prop} {v : Value} {w' : World} (hx : (execOp (AF n τ).eval o).run P w = .ok (.value v) w') (h : K v w') : Hd P n o τ w K := fun Q => by
  unfold Oper.wp
  rw [hx]
  exact ⟨v, AF_put _ _ _ _, h⟩
theorem Hd.skip {K : Value → World → Prop} {w' : World} (hx : (execOp (AF n τ).eval o).run P w = .ok .skip w') (h : K undef w') : Hd P n o τ w K := fun Q => by
  unfold Oper.wp
  rw [hx]
  exact ⟨undef, AF_put _ _ _ _, h⟩
theorem Hd.enter {K : Value → World → Prop} {f : FuncId} {args : Array Value} {w' : World} (hx : (execOp (AF n τ).eval o).run P w = .ok (.enter f args) w')
    (h : Calls P f args w' fun e w'' => ∃ v, e = .returned v ∧ K v w'') : Hd P n o τ w K := fun Q => by
  unfold Oper.wp
  rw [hx]
  refine Calls.mono h ?_
  rintro e w'' ⟨v, rfl, hk⟩
  exact ⟨v, AF_put _ _ _ _, hk⟩
/-- entering a function -/
theorem enter {f : FuncId} {fn : Func} {c : Code} {args : Array Value} {R : Ending → World → Prop} (hf : P.funcs[f]? = some fn) (hb : fn.body = some c)
    (hs : args.size ≤ n) (hn : fn.ntmps = n) (h : ∀ τ : Fr, (∀ i (hi : i < args.size), τ i = args[i]) → CW P n c (fun e σ w => bodyPost P fn R e (AF n σ) w) τ w) : Calls P f args w R := by
  refine calls_of_wp hf hb ?_
  have e := AF_of { tmps := args ++ Array.replicate (fn.ntmps - args.size) undef, defers := [] } rfl
  have hsz : (args ++ Array.replicate (fn.ntmps - args.size) undef).size = n := by simp; omega
  rw [hsz] at e
  rw [e]
  refine wp_mono (h _ fun i hi => ?_) fun e a w ⟨σ, ha, hs⟩ => ha ▸ hs
  simp [Array.getElem?_append, hi]
end
end Go.SL
