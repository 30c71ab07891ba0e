/- Regions that leave their order open, gone through. -/
import Derived.Test.YtifokhheojnipaaGreatDoorG6
set_option linter.unusedVariables false
set_option linter.unusedSimpArgs false
set_option linter.unnecessarySimpa false
namespace Go.GX
open Go.RowKit Go.SL
set_option linter.unusedVariables false
set_option linter.unusedSimpArgs false

/-! ### some of what is held is lent, for a while -/
noncomputable def inIds (ids : List Nat) (id : Nat) : Bool := ids.any (Nat.beq id)
noncomputable def pickI (ids : List Nat) : HP → HP
  | [] => []
  | (k, n) :: l => bif inIds ids k then (k, n) :: pickI ids l else pickI ids l
noncomputable def leaveI (ids : List Nat) : HP → HP
  | [] => []
  | (k, n) :: l => bif inIds ids k then leaveI ids l else (k, n) :: leaveI ids l
theorem pick_perm {K : Kn} (ids : List Nat) : ∀ l : HP, (asns K l).Perm (asns K (pickI ids l) ++ asns K (leaveI ids l)) := by
  intro l
  induction l with
  | nil => exact .nil
  | cons a l ih =>
    obtain ⟨k, n⟩ := a
    simp only [pickI, leaveI]
    cases inIds ids k with
    | true => exact ih.cons _
    | false => exact (ih.cons _).trans List.perm_middle.symm
section
variable {β : Type}
noncomputable def expI : List Nat → SS → (SS → Option β) → Option β
  | [], s, k => k s
  | id :: l, s, k => match hget s.hp id with
    | some (.blk e c) => expo c { s with hp := hdel s.hp id } fun c' s1 => expI l { s1 with hp := (id, .blk e c') :: s1.hp } k
    | some (.foc e t r j c) => expo c { s with hp := hdel s.hp id } fun c' s1 => expI l { s1 with hp := (id, .foc e t r j c') :: s1.hp } k
    | _ => expI l s k
noncomputable def borrow (ids : List Nat) (s : SS) (k : Option Nat → HP → SS → Option β) : Option β := match ids with
  | [] => k none [] s
  | ids => expI ids s fun s1 => k (some s1.nx) (pickI ids s1.hp) ⟨(s1.nx, .held) :: leaveI ids s1.hp, s1.nx + 1⟩
theorem expI_ok {r : β} {w : World} : ∀ {ids : List Nat} {s : SS} {k : SS → Option β}, expI ids s k = some r → ∀ {K : Kn}, Inv K s w → ∃ K' s', K.le K' ∧ Inv K' s' w ∧ k s' = some r := by
  intro ids
  induction ids with
  | nil => intro s k h K i; exact ⟨K, s, Kn.le.refl _, i, h⟩
  | cons id l ih =>
    intro s k h K i
    simp only [expI] at h
    split at h
    · rename_i e c hg
      have st := i.take hg
      obtain ⟨b, sta⟩ := st.ex
      obtain ⟨cs, stb⟩ := sta.ex
      obtain ⟨hE, stc⟩ := stb.iff
      have std : St K.p w (CA K c cs :: (asns K (hdel s.hp id) ++ ([pt b (.cells cs.toArray e)] ++ [Exact K.F]))) := stc.sep.give (.there (Del.mid _))
      obtain ⟨K1, c', s1, le1, hp1, hn1, st1, hk⟩ := expo_ok h i.nx.hp std
      have st2 : St K1.p w ((EN.blk e c').asn K1 id :: (asns K1 s1.hp ++ [Exact K1.F])) := by
        have q := st1.perm (l' := pt b (.cells cs.toArray e) :: CA K1 c' cs :: (asns K1 s1.hp ++ [Exact K1.F])) (by
          simp only [List.cons_append, List.nil_append]
          exact (List.Perm.cons _ List.perm_middle).trans (List.Perm.swap _ _ _))
        exact St.mkex b (St.mkex cs (St.mkiff (le1.E _ _ hE) (St.mksep q)))
      obtain ⟨K2, s2, le2, i2, hk2⟩ := ih hk (K := K1) ⟨st2, hn1.hp⟩
      exact ⟨K2, s2, le1.trans le2, i2, hk2⟩
    · rename_i e t r0 j c hg
      obtain ⟨v, st1⟩ := (i.take hg).ex
      obtain ⟨xs, st1⟩ := st1.ex
      obtain ⟨hE, st1⟩ := st1.iff
      obtain ⟨a, b0, d, F0, rfl, hal, hjl, st2, back0⟩ := foc_st st1.sep.swap
      have st3 := st2.perm (List.Perm.cons _ (List.perm_append_comm_assoc [_, _] (asns K (hdel s.hp id)) [Exact K.F]))
      obtain ⟨K1, c', s1, le1, hp1, hn1, st4, hk⟩ := expo_ok (X := [_, _]) h i.nx.hp st3
      have st5 := st4.perm (List.Perm.cons _ (List.perm_append_comm_assoc (asns K1 s1.hp) [_, _] [Exact K1.F]))
      have q2 := back0 K1 le1 _ _ _ _ _ st5
      have st6 : St K1.p w ((EN.foc e t r0 j c').asn K1 id :: (asns K1 s1.hp ++ [Exact K1.F])) :=
        St.mkex v (St.mkex _ (St.mkiff (le1.E _ _ hE) (St.mksep q2.swap)))
      obtain ⟨K2, s2, le2, i2, hk2⟩ := ih hk (K := K1) ⟨st6, hn1.hp⟩
      exact ⟨K2, s2, le1.trans le2, i2, hk2⟩
    · exact ih h i
theorem borrow_ok {r : β} {w : World} {ids : List Nat} {s : SS} {k : Option Nat → HP → SS → Option β} (h : borrow ids s k = some r) {K : Kn} (i : Inv K s w) : ∃ K' be bo s', K.le K' ∧ Inv K' s' w ∧ BoOk K' be bo ∧ k be bo s' = some r := by
  cases ids with
  | nil => exact ⟨K, none, [], s, Kn.le.refl _, i, trivial, h⟩
  | cons a l =>
    simp only [borrow] at h
    obtain ⟨K1, s1, le1, i1, h1⟩ := expI_ok h i
    generalize hids : a :: l = ids at h1
    have st := i1.st.perm (l' := asns K1 (pickI ids s1.hp) ++ (asns K1 (leaveI ids s1.hp) ++ [Exact K1.F])) (by
      rw [← List.append_assoc]; exact (pick_perm ids s1.hp).append_right _)
    obtain ⟨hh, ha, d, rr⟩ := st
    obtain ⟨x, y, dj, rfl, hx, hy⟩ := (all_append _ _ _).1 ha
    let K2 : Kn := { K1 with E := fun j => if j = K1.nx then some .nilIface else K1.E j, nx := K1.nx + 1, B := fun j => if j = K1.nx then x else K1.B j }
    have no := i1.nx.no _ (Nat.le_refl _)
    have le2 : K1.le K2 := by
      refine ⟨Pers.le_refl _, fun j u hj => ?_, rfl, fun j u hj => ?_, Nat.le_succ _, fun j hj h2 => ?_, fun _ _ h => h⟩
      · show (if j = K1.nx then some Value.nilIface else K1.E j) = some u
        split
        · rename_i e; subst e; rw [no] at hj; cases hj
        · exact hj
      · show (if j = K1.nx then x else K1.B j) = K1.B j
        split
        · rename_i e; subst e; rw [no] at hj; cases hj
        · rfl
      · show (if j = K1.nx then some Value.nilIface else K1.E j) = none
        rw [if_neg (by omega)]; exact h2
    have hE : K2.E K1.nx = some .nilIface := by show (if K1.nx = K1.nx then _ else _) = _; rw [if_pos rfl]
    have hB : K2.B K1.nx = x := by show (if K1.nx = K1.nx then _ else _) = _; rw [if_pos rfl]
    refine ⟨K2, some s1.nx, pickI ids s1.hp, _, le1.trans le2, ⟨?_, ?_⟩, ?_, h1⟩
    · refine ⟨uni x y, ⟨x, y, dj, rfl, ?_, all_asns le2 _ _ _ hy⟩, d, rr⟩
      show EN.asn K2 s1.nx .held x
      rw [i1.nx.eq]
      exact ⟨⟨_, hE⟩, hB.symm⟩
    · refine ⟨by show s1.nx + 1 = K1.nx + 1; rw [i1.nx.eq], fun q hq => ?_⟩
      have hq' : K1.nx + 1 ≤ q := hq
      show (if q = K1.nx then some Value.nilIface else K1.E q) = none
      rw [if_neg (by omega)]; exact i1.nx.no q (by omega)
    · show (∃ v, K2.E s1.nx = some v) ∧ all (asns K2 (pickI ids s1.hp)) (K2.B s1.nx)
      rw [i1.nx.eq, hB]
      refine ⟨⟨_, hE⟩, ?_⟩
      have := all_asns le2 [] (pickI ids s1.hp) x (by simpa using hx)
      simpa using this
end
end Go.GX
namespace Go.GX
open Go.RowKit Go.SL
set_option linter.unusedVariables false
set_option linter.unusedSimpArgs false

noncomputable def isLd : Op → Bool
  | .load _ _ => true
  | _ => false
/-- operations that leave the world as it is -/
noncomputable def softU : Op → Bool
  | .move _ | .assign _ | .pick .. | .binOp .. | .unOp .. | .convert .. | .fieldAddr .. | .nilCheck _ | .extract .. | .indexAddr .. | .load .. | .build .. | .makeFunc _ _ _ | .index .. | .slice _ _ _ _ none | .slice _ _ none (some _) (some _) => true
  | .call c => match c with
    | ⟨.builtin .len, ⟨[_]⟩, ⟨[_]⟩⟩ => true
    | ⟨.builtin .min, ⟨[_, _]⟩, _⟩ => true
    | ⟨.builtin .max, ⟨[_, _]⟩, _⟩ => true
    | _ => false
  | _ => false
/-- hl: what is taken in its turn, though it is soft -/
noncomputable def softI (hl : List Nat) (ops : Array Oper) (i : Nat) : Bool := match ops[i]? with
  | some o => softU o.op && !hl.any (Nat.beq i)
  | none => true
noncomputable def ldI (hl : List Nat) (ops : Array Oper) (i : Nat) : Bool := match ops[i]? with
  | some o => isLd o.op && !hl.any (Nat.beq i)
  | none => false
noncomputable def unord (anc : List Nat) (i j : Nat) : Bool := !(anc.getD i 0).testBit j && !(anc.getD j 0).testBit i
noncomputable def syncI (hl : List Nat) (ops : Array Oper) (anc : List Nat) (i : Nat) : Bool := (List.range ops.size).all fun j => Nat.beq j i || softI hl ops j || !unord anc i j
noncomputable def needI (hl : List Nat) (ops : Array Oper) (anc : List Nat) (j : Nat) : Bool := (List.range ops.size).any fun i => ldI hl ops i && !Nat.beq i j && unord anc i j && !syncI hl ops anc i
/-- is nothing of what was lent wanted any more? -/
noncomputable def doneB (hl : List Nat) (ops : Array Oper) (anc : List Nat) (listed : Array Bool) : Bool := (List.range ops.size).all fun i => listed.getD i true || ((softI hl ops i || !needI hl ops anc i) && (!ldI hl ops i || syncI hl ops anc i))
section
variable {P : Program} {n : Nat} {τ : Fr} {w : World} {β : Type} {dst : Option Tmp} {ty : TypeId} {pos : String} {af : Array Edge} {gd' : Option (Nat × Bool)} {K : Kn} {s : SS} {k : SV → SS → Option β} {r : β} {ρ : Rho} {T : TB}
noncomputable def pstep (T : TB) (ρ : Rho) (s : SS) (o : Op) (k : SV → SS → Option β) : Option β := match o with
  | .move x => pMove ρ s x k
  | .assign x => pMove ρ s x k
  | .pick c x y => pPick ρ s c x y k
  | .binOp op t x y _ => pBinY T ρ s op t x y k
  | .unOp op _ x => pUn ρ s op x k
  | .convert a b x => pConv T ρ s a b x k
  | .fieldAddr t x i => pFieldAddr T ρ s t x i k
  | .nilCheck x => pNilCheck ρ s x k
  | .extract x i => pExtract ρ s x i k
  | .indexAddr t x y => pIndexAddr T ρ s t x y k
  | .build t ps => pBuildX T ρ s t ps.toList k
  | .makeFunc f bs cs => pMakeFunc ρ s f bs.toList cs.toList k
  | .index t x y => pIndexX T ρ s t x y k
  | .slice t x lo hi none => pSlice T ρ s t x lo hi k
  | .slice t x none (some hi) (some mx) => pSliceC T ρ s t x hi mx k
  | .call c => match c with
    | ⟨.builtin .len, ⟨[x]⟩, ⟨[t]⟩⟩ => pLen T ρ s x t k
    | ⟨.builtin .min, ⟨[x, y]⟩, _⟩ => pMin ρ s x y k
    | ⟨.builtin .max, ⟨[x, y]⟩, _⟩ => pMax ρ s x y k
    | _ => none
  | _ => none
theorem pstep_ok (hT : T.ok P) (hρ : RhoOk K ρ (AF n τ).eval) (i : Inv K s w) {o : Op} (h : pstep T ρ s o k = some r) : PureR P n ⟨dst, o, ty, pos, af, gd'⟩ τ w K k r := by
  unfold pstep at h
  split at h
  · exact pMove_ok hρ i h
  · exact pAssign_ok hρ i h
  · exact pPick_ok hρ i h
  · exact pBinY_ok hT hρ i h
  · exact pUn_ok hρ i h
  · exact pConv_ok hT hρ i h
  · exact pFieldAddr_ok hT hρ i h
  · exact pNilCheck_ok hρ i h
  · exact pExtract_ok hρ i h
  · exact pIndexAddr_ok hT hρ i h
  · exact pBuildX_ok hT hρ i h
  · exact pMakeFunc_ok hρ i h
  · exact pIndexX_ok hT hρ i h
  · exact pSlice_ok hT hρ i h
  · exact pSliceC_ok hT hρ i h
  · split at h
    · exact pLen_ok hT hρ i h
    · exact pMin_ok hρ i h
    · exact pMax_ok hρ i h
    · cases h
  · cases h
/-- a place in a row, lent or not -/
noncomputable def pIdxB (T : TB) (ρ : Rho) (be : Option Nat) (bo : HP) (s : SS) (t : Nat) (x y : Operand) (k : SV → SS → Option β) : Option β := match be, ρ x with
  | some b, some (.vr id) => (match hget bo id, unborrow (some b) bo s with
    | some (.row _ _ _), some su => pIndexAddr T ρ su t x y fun sv _ => k sv s
    | _, _ => pIndexAddr T ρ s t x y k)
  | _, _ => pIndexAddr T ρ s t x y k
theorem pIdxB_ok (hT : T.ok P) (hρ : RhoOk K ρ (AF n τ).eval) (i : Inv K s w) {be : Option Nat} {bo : HP} (hb : BoOk K be bo) {x y : Operand} {t : Nat} (h : pIdxB T ρ be bo s t x y k = some r) : PureR P n ⟨dst, .indexAddr t x y, ty, pos, af, gd'⟩ τ w K k r := by
  unfold pIdxB at h
  split at h
  · split at h
    · rename_i hu
      obtain ⟨v, sv, hd, hk, hv⟩ := pIndexAddr_ev (dst := dst) (ty := ty) (pos := pos) (af := af) (gd' := gd') hT hρ (unborrow_ok hu i hb) h
      exact PureR.mk i hk hd hv
    · exact pIndexAddr_ok hT hρ i h
  · exact pIndexAddr_ok hT hρ i h
end
/-- a soft one, in front -/
noncomputable def softF (hl : List Nat) (ops : Array Oper) : List Nat → Option Nat
  | [] => none
  | i :: l => bif softI hl ops i then some i else softF hl ops l
theorem softF_some {hl : List Nat} {ops : Array Oper} : ∀ {l : List Nat} {i : Nat}, softF hl ops l = some i → i ∈ l ∧ softI hl ops i = true := by
  intro l
  induction l with
  | nil => intro i h; cases h
  | cons a l ih =>
    intro i h
    simp only [softF] at h
    cases hb : softI hl ops a with
    | true => rw [hb, cond_true] at h; cases h; exact ⟨List.mem_cons_self .., hb⟩
    | false => rw [hb, cond_false] at h; exact ⟨List.mem_cons_of_mem _ (ih h).1, (ih h).2⟩
theorem softF_none {hl : List Nat} {ops : Array Oper} : ∀ {l : List Nat}, softF hl ops l = none → ∀ i ∈ l, softI hl ops i = false := by
  intro l
  induction l with
  | nil => intro _ i h; cases h
  | cons a l ih =>
    intro h i hi
    simp only [softF] at h
    cases hb : softI hl ops a with
    | true => rw [hb, cond_true] at h; cases h
    | false =>
      rw [hb, cond_false] at h
      rcases List.mem_cons.1 hi with rfl | hi
      · exact hb
      · exact ih h i hi
noncomputable def heldB (be : Option Nat) (s : SS) : Bool := match be with
  | none => true
  | some b => match hget s.hp b with
    | some .held => true
    | _ => false
noncomputable def hardOk (b0 : Bool) (be : Option Nat) (nd : Bool) : Bool := b0 || (match be with
  | none => !nd
  | some _ => true)
section
variable {β : Type}
noncomputable def allB : List Nat → (Nat → Option β) → Option β
  | [], _ => none
  | [i], f => f i
  | i :: l, f => bth (f i) (allB l f)
theorem allB_some {r : β} {f : Nat → Option β} : ∀ {l : List Nat}, allB l f = some r → ∀ i ∈ l, f i = some r := by
  intro l
  induction l with
  | nil => intro h; cases h
  | cons a l ih =>
    intro h i hi
    cases l with
    | nil => rw [List.mem_singleton.1 hi]; exact h
    | cons b l =>
      simp only [allB] at h
      obtain ⟨h1, h2⟩ := bth_some h
      rcases List.mem_cons.1 hi with rfl | hi
      · exact h1
      · exact ih h2 i hi
/-- is it not lent? -/
noncomputable def notBo (be : Option Nat) (bo : HP) : SV → Bool
  | .ptr id _ => match be, hget bo id with
    | some _, some _ => false
    | _, _ => true
  | _ => true
/-- what was lent comes back, but for what is lent around -/
noncomputable def unb (kp : Bool) (be : Option Nat) (bo : HP) (s : SS) : Option SS := bif kp then some s else unborrow be bo s
theorem unb_ok {w : World} {kp : Bool} {be : Option Nat} {bo : HP} {s s' : SS} (h : unb kp be bo s = some s') {K : Kn} (i : Inv K s w) (hb : BoOk K be bo) : Inv K s' w := by
  unfold unb at h
  cases kp with
  | true => rw [cond_true] at h; cases h; exact i
  | false => rw [cond_false] at h; exact unborrow_ok h i hb
noncomputable def sxD (T : TB) (C : CallH β) (n : Nat) (hl : List Nat) (ops : Array Oper) (anc : List Nat) (b0 : Bool) (bo : HP) (kp : Bool) : Nat → Option Nat → Array Bool → FM → SS → (FM → SS → Option β) → Option β
  | 0, be, listed, fr, s, k => match Region.ready .any ops listed with
    | [] => (match unb kp be bo s with
      | some s' => k fr s'
      | none => none)
    | _ => none
  | f + 1, be, listed, fr, s, k => match Region.ready .any ops listed with
    | [] => (match unb kp be bo s with
      | some s' => k fr s'
      | none => none)
    | rs => match softF hl ops rs with
      | some i => (match ops[i]? with
        | some o => bif Region.free .any ops listed i then guardOf ops fr o.guard
          (fun fr => match o.op with
            | .load t x => (match rho T.gs n fr x with
              | some a => bif syncI hl ops anc i && notBo be bo a then opLoad T.tt s t a fun sv s' => frSV sv fun sv => frSS s' fun s' => frPut fr o.dst sv fun fr => frA (listed.setIfInBounds i true) fun listed => sxD T C n hl ops anc b0 bo kp f be listed fr s' k
                else bif heldB be s then opLoadH T.tt be bo s t a fun sv s' => frSV sv fun sv => frSS s' fun s' => frPut fr o.dst sv fun fr => frA (listed.setIfInBounds i true) fun listed => sxD T C n hl ops anc b0 bo kp f be listed fr s' k else none
              | none => none)
            | .convert a b x => bif isStrB T a b then (bif syncI hl ops anc i then opStrB else opStrH) T (rho T.gs n fr) s a b x fun sv s' => frSV sv fun sv => frSS s' fun s' => frPut fr o.dst sv fun fr => frA (listed.setIfInBounds i true) fun listed => sxD T C n hl ops anc b0 bo kp f be listed fr s' k
              else pstep T (rho T.gs n fr) s (.convert a b x) fun sv s' => frSV sv fun sv => frSS s' fun s' => frPut fr o.dst sv fun fr => frA (listed.setIfInBounds i true) fun listed => sxD T C n hl ops anc b0 bo kp f be listed fr s' k
            | .indexAddr t x y => pIdxB T (rho T.gs n fr) be bo s t x y fun sv s' => frSV sv fun sv => frSS s' fun s' => frPut fr o.dst sv fun fr => frA (listed.setIfInBounds i true) fun listed => sxD T C n hl ops anc b0 bo kp f be listed fr s' k
            | op => pstep T (rho T.gs n fr) s op fun sv s' => frSV sv fun sv => frSS s' fun s' => frPut fr o.dst sv fun fr => frA (listed.setIfInBounds i true) fun listed => sxD T C n hl ops anc b0 bo kp f be listed fr s' k)
          (fun fr => frPut fr o.dst .un fun fr => frA (listed.setIfInBounds i true) fun listed => sxD T C n hl ops anc b0 bo kp f be listed fr s k) else none
        | none => none)
      | none => allB rs fun i => match ops[i]? with
        | some o => (match (bif doneB hl ops anc listed && !kp then (none, unborrow be bo s) else (be, some s)) with
          | (be, some s) => bif heldB be s && hardOk b0 be (needI hl ops anc i) then guardOf ops fr o.guard
            (fun fr => step T C (rho T.gs n fr) s o.op fun sv s' => bif heldB be s' then (frSV sv fun sv => frSS s' fun s' => frPut fr o.dst sv fun fr => frA (listed.setIfInBounds i true) fun listed => sxD T C n hl ops anc b0 bo kp f be listed fr s' k) else none)
            (fun fr => frPut fr o.dst .un fun fr => frA (listed.setIfInBounds i true) fun listed => sxD T C n hl ops anc b0 bo kp f be listed fr s k) else none
          | _ => none)
        | none => none
end
end Go.GX
namespace Go.GX
open Go.RowKit Go.SL
set_option linter.unusedVariables false
set_option linter.unusedSimpArgs false

theorem wpX_mono {P : Program} {ops : Array Oper} {U N : Nat → Bool} {S2 : World → Prop} {Q : Exit → Act → World → Prop} {M M' : Mem} (h : sub M M') : ∀ {f : Nat} {l : Array Bool} {a : Act} {w : World}, wpX P ops U N S2 Q M' f l a w → wpX P ops U N S2 Q M f l a w := by
  intro f
  cases f with
  | zero => intro l a w q; exact q
  | succ f =>
    intro l a w q
    refine ⟨q.1, fun i hi => wpOp_mono (fun a' w' k => ?_) (q.2 i hi)⟩
    obtain ⟨k1, M2, k2, k3, k4⟩ := k
    exact ⟨k1, M2, fun x o hx => k2 x o (h x o hx), k3, k4⟩
theorem HB_eq {K0 K : Kn} {be : Option Nat} {bo : HP} (le : K0.le K) (hb : BoOk K0 be bo) (w : World) : HB K be w ↔ HB K0 be w := by
  cases be with
  | none => exact Iff.rfl
  | some b =>
    obtain ⟨⟨v, hv⟩, _⟩ := hb
    show sub (K.B b) (hm w) ↔ sub (K0.B b) (hm w)
    rw [le.B _ _ hv]
theorem unord_of {ops : Array Oper} {anc : List Nat} (hanc : ∀ j i, (anc.getD j 0).testBit i = true → Ahd ops i j) {i j : Nat} (h1 : ¬ Ahd ops i j) (h2 : ¬ Ahd ops j i) : unord anc i j = true := by
  unfold unord
  cases q1 : (anc.getD i 0).testBit j with
  | true => exact absurd (hanc _ _ q1) h2
  | false =>
    cases q2 : (anc.getD j 0).testBit i with
    | true => exact absurd (hanc _ _ q2) h1
    | false => rfl
theorem sync_soft {hl : List Nat} {ops : Array Oper} {anc : List Nat} (hanc : ∀ j i, (anc.getD j 0).testBit i = true → Ahd ops i j) {i j : Nat} (hs : syncI hl ops anc i = true) (hne : j ≠ i) (h1 : ¬ Ahd ops i j) (h2 : ¬ Ahd ops j i) : softI hl ops j = true := by
  rcases Nat.lt_or_ge j ops.size with hlt | hge
  · have := List.all_eq_true.1 hs j (List.mem_range.2 hlt)
    simp only [Bool.or_eq_true, Bool.not_eq_true'] at this
    rcases this with (q | q) | q
    · exact absurd (Nat.eq_of_beq_eq_true q) hne
    · exact q
    · rw [unord_of hanc h1 h2] at q; cases q
  · unfold softI; rw [Array.getElem?_eq_none hge]
theorem need_of {hl : List Nat} {ops : Array Oper} {anc : List Nat} (hanc : ∀ j i, (anc.getD j 0).testBit i = true → Ahd ops i j) {i j : Nat} {o : Oper} (hi : ops[i]? = some o) (hl2 : ldI hl ops i = true) (hs : syncI hl ops anc i = false) (hne : j ≠ i) (h1 : ¬ Ahd ops i j) (h2 : ¬ Ahd ops j i) : needI hl ops anc j = true := by
  refine List.any_eq_true.2 ⟨i, List.mem_range.2 (Array.getElem?_eq_some_iff.1 hi).1, ?_⟩
  have hld : ldI hl ops i = true := hl2
  have hb : Nat.beq i j = false := by
    cases q : Nat.beq i j with
    | false => rfl
    | true => exact absurd (Nat.eq_of_beq_eq_true q).symm hne
  rw [hld, hb, unord_of hanc h1 h2, hs]; rfl
theorem ldI_of {hl : List Nat} {ops : Array Oper} {j : Nat} {o : Oper} (ho : ops[j]? = some o) (h : softI hl ops j = true) (h2 : isLd o.op = true) : ldI hl ops j = true := by
  unfold softI at h; unfold ldI; rw [ho] at h ⊢
  simp only [Bool.and_eq_true] at h ⊢
  exact ⟨h2, h.2⟩
theorem upo_keep {τ : Fr} {ops : Array Oper} {i : Nat} {o : Oper} (hi : ops[i]? = some o) (v : Value) {x : Nat} (hx : dstOps ops.toList x = false) : upo τ o.dst v x = τ x := by
  cases hd : o.dst with
  | none => rfl
  | some d =>
    have hm : o ∈ ops.toList := by
      obtain ⟨hlt, rfl⟩ := Array.getElem?_eq_some_iff.1 hi
      simp
    have hxd : Nat.beq x d = false := by
      cases h2 : Nat.beq x d with
      | false => rfl
      | true =>
        have := Nat.eq_of_beq_eq_true h2; subst this
        have h3 : dstOps ops.toList x = true := List.any_eq_true.2 ⟨o, hm, by rw [hd]; exact Nat.beq_refl x⟩
        rw [h3] at hx; cases hx
    exact up hxd rfl
section
variable {P : Program} {T : TB} {β : Type} {C : CallH β} {n : Nat} {hl : List Nat} {ops : Array Oper} {anc : List Nat} {b0 : Bool} {bo : HP} {kp : Bool} {r : β} {k : FM → SS → Option β} {Q : Exit → Fr → World → Prop} {K0 : Kn} {be0 : Option Nat} {τ0 : Fr}
theorem sxD_ok (hg0 : EnvOk K0 T) (hT : T.ok P) (hC : CallOk P T C) (hsel : Region.noSelect ops = true) (hn : ∀ (j x : Nat), (ops[j]?).bind (fun o => o.dst) = some x → Nat.blt x n = true) (hanc : ∀ j i, (anc.getD j 0).testBit i = true → Ahd ops i j) (hB0 : BoOk K0 be0 bo) (hb0 : b0 = true → be0 = none)
    (hk : ∀ fr s K τ w, k fr s = some r → K0.le K → Inv K s w → FrOk K fr τ → (∀ x, dstOps ops.toList x = false → τ x = τ0 x) → Q .normal τ w) :
    ∀ (f : Nat) (be : Option Nat) (listed : Array Bool) (fr : FM) (s : SS) (K : Kn) (τ : Fr) (w : World), sxD T C n hl ops anc b0 bo kp f be listed fr s k = some r → Inv K s w → K0.le K → (be = be0 ∨ be = none) → FrOk K fr τ → Cl ops listed →
      (∀ x, dstOps ops.toList x = false → τ x = τ0 x) → wpX P ops (softI hl ops) (needI hl ops anc) (HB K0 be0) (NoPanic (On n Q)) K.rd f listed (AF n τ) w := by
  have bok : ∀ {be : Option Nat} {K : Kn}, K0.le K → (be = be0 ∨ be = none) → BoOk K be bo := fun {be K} le hbe => by
    rcases hbe with rfl | rfl
    · exact BoOk.mono le hB0
    · trivial
  have fin : ∀ {be : Option Nat} {fr : FM} {s : SS} {K : Kn} {τ : Fr} {w : World}, (match unb kp be bo s with
      | some s' => k fr s'
      | none => none) = some r → Inv K s w → K0.le K → (be = be0 ∨ be = none) → FrOk K fr τ → (∀ x, dstOps ops.toList x = false → τ x = τ0 x) → NoPanic (On n Q) .normal (AF n τ) w := by
    intro be fr s K τ w h i le hbe hf hτ
    split at h <;> try (cases h; done)
    rename_i s' hs'
    exact ⟨τ, rfl, hk fr s' K τ w h le (unb_ok hs' i (bok le hbe)) hf hτ⟩
  intro f
  induction f with
  | zero =>
    intro be listed fr s K τ w h i le hbe hf hc hτ
    simp only [sxD] at h
    split at h <;> try (cases h; done)
    rename_i hr
    exact ⟨hr, fin h i le hbe hf hτ⟩
  | succ f ih =>
    intro be listed fr s K τ w h i le hbe hf hc hτ
    simp only [sxD, frSV_eq, frSS_eq, frPut_eq, frA_eq] at h
    split at h
    · rename_i hr
      exact ⟨fun _ => fin h i le hbe hf hτ, by rw [hr]; intro j hj; cases hj⟩
    · rename_i rs hne
      split at h
      · -- a soft one is taken
        rename_i j hj
        obtain ⟨hjm, hjs⟩ := softF_some hj
        split at h <;> try (cases h; done)
        rename_i o ho
        cases hfree : Region.free .any ops listed j with
        | false => rw [hfree, cond_false] at h; cases h
        | true =>
        rw [hfree, cond_true] at h
        have taken : ∀ {v : Value} (G : World → Prop), (∀ q, q ≠ j → ¬ Ahd ops j q → ¬ Ahd ops q j → ∀ w1 w', G w1 → (softI hl ops q = true → w' = w1) → (needI hl ops anc q = true → HB K0 be0 w1 → HB K0 be0 w') → sub K.rd (hm w') → G w') →
            YieldsIf P ops G o v (AF n τ) → G w → wpX P ops (softI hl ops) (needI hl ops anc) (HB K0 be0) (NoPanic (On n Q)) K.rd f (listed.setIfInBounds j true) (AF n (upo τ o.dst v)) w →
            wpX P ops (softI hl ops) (needI hl ops anc) (HB K0 be0) (NoPanic (On n Q)) K.rd (f + 1) listed (AF n τ) w := by
          intro v G hG hy hS H
          refine wpX_first (M0 := K.rd) G ho hsel (fun c a w hp => hp) hG f K.rd listed (AF n τ) w (fun _ _ h => h) i.memR hc (fun q oq hq hne hun hno => Region.free_spec ho hfree q oq hq hne hun hno) hjm hy hS ?_
          rw [AF_put]; exact H
        have free : ∀ {v : Value}, YieldsIf P ops (fun _ => True) o v (AF n τ) → wpX P ops (softI hl ops) (needI hl ops anc) (HB K0 be0) (NoPanic (On n Q)) K.rd f (listed.setIfInBounds j true) (AF n (upo τ o.dst v)) w →
            wpX P ops (softI hl ops) (needI hl ops anc) (HB K0 be0) (NoPanic (On n Q)) K.rd (f + 1) listed (AF n τ) w := fun hy H => taken (fun _ => True) (fun _ _ _ _ _ _ _ _ _ _ => trivial) hy trivial H
        refine guardOf_ok hf hn h ?_ ?_
        · intro fr' hf' hyes hw
          have next : ∀ {v : Value} {sv : SV} {s' : SS} {K' : Kn}, K.le K' → Inv K' s' w → sv.den K' v → sxD T C n hl ops anc b0 bo kp f be (listed.setIfInBounds j true) (fput fr' o.dst sv) s' k = some r →
              wpX P ops (softI hl ops) (needI hl ops anc) (HB K0 be0) (NoPanic (On n Q)) K.rd f (listed.setIfInBounds j true) (AF n (upo τ o.dst v)) w := by
            intro v sv s' K' le' i' hd hk'
            exact wpX_mono le'.rd (ih be _ _ _ K' _ w hk' i' (le.trans le') hbe ((hf'.mono le').put _ hd) (hc.set hjm) fun x hx => by rw [upo_keep ho v hx, hτ x hx])
          obtain ⟨dst, op, ty, pos, af, g⟩ := o
          simp only at hyes
          split at hyes
          · rename_i t x
            split at hyes <;> try (cases hyes; done)
            rename_i a ha
            have hda := rho_ok (hg0.mono le).1 hf' _ _ ha
            cases hsy0 : syncI hl ops anc j && notBo be bo a with
            | true =>
              rw [hsy0, cond_true] at hyes
              have hsy : syncI hl ops anc j = true := by simp only [Bool.and_eq_true] at hsy0; exact hsy0.1
              obtain ⟨v, sv, s', K', le', i', hd, hk', hev⟩ := opLoad_ev (P := P) (n := n) (τ := τ) (dst := dst) (ty := ty) (pos := pos) (af := af) (gd := g) hT.tt i hda hyes
              refine taken (v := v) (fun w' => w' = w) ?_ (.inl ⟨hw, fun w1 e => by subst e; exact hev⟩) rfl (next le' i' hd hk')
              intro q hq n1 n2 w1 w' e hu _ _
              rw [hu (sync_soft hanc hsy hq n1 n2), e]
            | false =>
              rw [hsy0, cond_false] at hyes
              cases hhe : heldB be s with
              | false => rw [hhe, cond_false] at hyes; cases hyes
              | true =>
              rw [hhe, cond_true] at hyes
              obtain ⟨v, sv, hd, hk', hev⟩ := opLoadH_ok (P := P) (n := n) (τ := τ) (dst := dst) (ty := ty) (pos := pos) (af := af) (gd' := g) hT.tt i (bok le hbe) hda hyes
              have hbw : HB K be w := by
                cases hbq : be with
                | none => trivial
                | some b =>
                  subst hbq
                  simp only [heldB] at hhe
                  split at hhe <;> try (cases hhe; done)
                  rename_i hg
                  exact i.held hg
              refine taken (v := v) (fun w' => sub K.rd (hm w') ∧ HB K be w') ?_ (.inl ⟨hw, fun w1 e => hev w1 e.1 e.2⟩) ⟨i.memR, hbw⟩ (next (Kn.le.refl _) i hd hk')
              intro q hq n1 n2 w1 w' e hu hN hM
              refine ⟨hM, ?_⟩
              cases hsy : syncI hl ops anc j with
              | true => rw [hu (sync_soft hanc hsy hq n1 n2)]; exact e.2
              | false =>
              rcases hbe with rfl | rfl
              · rw [HB_eq le hB0]
                exact hN (need_of hanc ho (ldI_of ho hjs rfl) hsy hq n1 n2) ((HB_eq le hB0 w1).1 e.2)
              · trivial
          · rename_i ca cb cx
            cases hcs : isStrB T ca cb with
            | true =>
              rw [hcs, cond_true] at hyes
              cases hsy : syncI hl ops anc j with
              | true =>
                rw [hsy, cond_true] at hyes
                obtain ⟨v, sv, hd, hk', hev⟩ := opStrB_ev (P := P) (n := n) (τ := τ) (dst := dst) (ty := ty) (pos := pos) (af := af) (gd' := g) hT (rho_ok (hg0.mono le).1 hf') i hyes
                refine taken (v := v) (fun w' => w' = w) ?_ (.inl ⟨hw, fun w1 e => by subst e; exact hev⟩) rfl (next (Kn.le.refl _) i hd hk')
                intro q hq n1 n2 w1 w' e hu _ _
                rw [hu (sync_soft hanc hsy hq n1 n2), e]
              | false =>
              rw [hsy, cond_false] at hyes
              obtain ⟨v, sv, hd, hk', hev⟩ := opStrH_ok (P := P) (n := n) (τ := τ) (dst := dst) (ty := ty) (pos := pos) (af := af) (gd' := g) hT (rho_ok (hg0.mono le).1 hf') hyes
              refine taken (v := v) (fun w' => sub K.rd (hm w')) ?_ (.inl ⟨hw, fun w1 e => hev w1 e⟩) i.memR (next (Kn.le.refl _) i hd hk')
              intro q hq n1 n2 w1 w' e hu hN hM
              exact hM
            | false =>
              rw [hcs, cond_false] at hyes
              obtain ⟨v, sv, s', K', le', i', hd, hk', hev⟩ := pstep_ok (P := P) (n := n) (τ := τ) (dst := dst) (ty := ty) (pos := pos) (af := af) (gd' := g) hT (rho_ok (hg0.mono le).1 hf') i hyes
              exact free (.inl ⟨hw, fun w1 _ => hev w1⟩) (next le' i' hd hk')
          · obtain ⟨v, sv, s', K', le', i', hd, hk', hev⟩ := pIdxB_ok (P := P) (n := n) (τ := τ) (dst := dst) (ty := ty) (pos := pos) (af := af) (gd' := g) hT (rho_ok (hg0.mono le).1 hf') i (bok le hbe) hyes
            exact free (.inl ⟨hw, fun w1 _ => hev w1⟩) (next le' i' hd hk')
          · obtain ⟨v, sv, s', K', le', i', hd, hk', hev⟩ := pstep_ok (P := P) (n := n) (τ := τ) (dst := dst) (ty := ty) (pos := pos) (af := af) (gd' := g) hT (rho_ok (hg0.mono le).1 hf') i hyes
            exact free (.inl ⟨hw, fun w1 _ => hev w1⟩) (next le' i' hd hk')
        · intro fr' hf' hno hw
          refine free (v := undef) (.inr ⟨hw, rfl⟩) ?_
          exact ih be _ _ _ K _ w hno i le hbe (hf'.put _ rfl) (hc.set hjm) fun x hx => by rw [upo_keep ho undef hx, hτ x hx]
      · -- hard ones: each that may come up
        rename_i hnone
        refine ⟨fun h0 => absurd h0 (by intro e; exact hne e), fun j hj => ?_⟩
        have hjs := softF_none hnone j hj
        have hj1 := allB_some h j hj
        split at hj1 <;> try (cases hj1; done)
        rename_i o ho
        split at hj1 <;> try (cases hj1; done)
        rename_i be1 s1 hq1
        have hbs : Inv K s1 w ∧ (be1 = be0 ∨ be1 = none) := by
          cases hdn : doneB hl ops anc listed && !kp with
          | true =>
            rw [hdn, cond_true] at hq1
            simp only [Prod.mk.injEq] at hq1
            exact ⟨unborrow_ok hq1.2 i (bok le hbe), .inr hq1.1.symm⟩
          | false =>
            rw [hdn, cond_false] at hq1
            simp only [Prod.mk.injEq, Option.some.injEq] at hq1
            obtain ⟨rfl, rfl⟩ := hq1
            exact ⟨i, hbe⟩
        obtain ⟨i1, hbe1⟩ := hbs
        cases hck : heldB be1 s1 && hardOk b0 be1 (needI hl ops anc j) with
        | false => rw [hck, cond_false] at hj1; cases hj1
        | true =>
        rw [hck, cond_true] at hj1
        simp only [Bool.and_eq_true, hardOk, Bool.or_eq_true] at hck
        have S2ok : ∀ {K' : Kn} {s' : SS} {w' : World}, K.le K' → Inv K' s' w' → heldB be1 s' = true → needI hl ops anc j = true → HB K0 be0 w → HB K0 be0 w' := by
          intro K' s' w' le' i' hh hN hS
          rcases hck.2 with hb | hb
          · rw [hb0 hb]; trivial
          · cases be1 with
            | none => simp only [Bool.not_eq_true'] at hb; rw [hN] at hb; cases hb
            | some b =>
              rcases hbe1 with e | e
              · subst e
                refine (HB_eq (le.trans le') hB0 w').1 ?_
                simp only [heldB] at hh
                split at hh <;> try (cases hh; done)
                rename_i hg
                exact i'.held hg
              · cases e
        refine guardOf_ok hf hn hj1 ?_ ?_
        · intro fr' hf' hyes hw
          unfold wpOp
          simp only [ho]
          rw [if_pos (show Region.wanted o (yielded ops (AF n τ).tmps) = true from hw)]
          refine .inl (Oper.wp_mono (K := fun a w' => ∃ v, a = AF n (upo τ o.dst v) ∧ ∃ sv s' K', K.le K' ∧ Inv K' s' w' ∧ sv.den K' v ∧ (bif heldB be1 s' then sxD T C n hl ops anc b0 bo kp f be1 (listed.setIfInBounds j true) (fput fr' o.dst sv) s' k else none) = some r) ?_ ?_)
          · rintro a w' ⟨v, rfl, sv, s', K', le', i', hd, hk'⟩
            cases hh : heldB be1 s' with
            | false => rw [hh, cond_false] at hk'; cases hk'
            | true =>
            rw [hh, cond_true] at hk'
            refine ⟨⟨fun hu => (by rw [hjs] at hu; cases hu), fun hN hS => S2ok le' i' hh hN hS⟩, K'.rd, le'.rd, i'.memR, ?_⟩
            exact ih be1 _ _ _ K' _ w' hk' i' (le.trans le') hbe1 ((hf'.mono le').put _ hd) (hc.set hj) fun x hx => by rw [upo_keep ho v hx, hτ x hx]
          · obtain ⟨dst, op, ty, pos, af, g⟩ := o
            exact step_ok (P := P) (n := n) (τ := τ) hT hC (hg0.mono le) (rho_ok (hg0.mono le).1 hf') i1 hyes _
        · intro fr' hf' hno hw
          unfold wpOp
          simp only [ho]
          rw [if_neg (by rw [show Region.wanted o (yielded ops (AF n τ).tmps) = false from hw]; simp), AF_put]
          refine ⟨⟨fun hu => (by rw [hjs] at hu; cases hu), fun hN hS => S2ok (Kn.le.refl _) i1 hck.1 hN hS⟩, K.rd, fun _ _ h => h, i1.memR, ?_⟩
          exact ih be1 _ _ _ K _ w hno i1 le hbe1 (hf'.put _ rfl) (hc.set hj) fun x hx => by rw [upo_keep ho undef hx, hτ x hx]
end
end Go.GX
namespace Go.GX
open Go.RowKit Go.SL
set_option linter.unusedVariables false
set_option linter.unusedSimpArgs false
/-- numbers above a million: operations that are taken in their turn -/
noncomputable def hardL (ids : List Nat) : List Nat := ids.filterMap fun i => bif Nat.ble 1000000 i then some (i - 1000000) else none
noncomputable def roOf (T : TB) (be : Option Nat) (bo : HP) : Option (Nat × HP) := match be with
  | none => T.ro
  | some b => some (b, bo)
/-- is what is wanted lent around already? -/
noncomputable def around (ro : Option (Nat × HP)) (ids : List Nat) (s : SS) : Bool := match ro with
  | none => false
  | some (b, bo) => heldB (some b) s && ids.all fun i => Nat.ble 1000000 i || (match hget bo i with | some _ => true | none => false)
noncomputable def drawH {β : Type} (T : TB) (CF : RoH β) : DrawH β := fun n ids ops fr s k => bif Region.noSelect ops then (match T.ro, around T.ro ids s with
  | some (b, bo), true => sxD T (CF T.ro) n (hardL ids) ops (ancs ops.toList []) false bo true ops.size (some b) (Array.replicate ops.size false) fr s k
  | _, _ => borrow ids s fun be bo s1 => sxD (T.wr (roOf T be bo)) (CF (roOf T be bo)) n (hardL ids) ops (ancs ops.toList []) (match be with
    | none => true
    | some _ => false) bo false ops.size be (Array.replicate ops.size false) fr s1 k) else none
theorem Cl.start {ops : Array Oper} (m : Nat) : Cl ops (Array.replicate m false) := by
  intro j o _ h
  rcases Nat.lt_or_ge j m with q | q
  · simp [q] at h
  · simp [Nat.not_lt_of_ge q] at h
theorem Inv.drew {K : Kn} {s : SS} {w : World} (i : Inv K s w) : Inv K s w.drew := ⟨i.st.drew, i.nx⟩
theorem drawH_ok {β : Type} {P : Program} {T : TB} (hm : P.follows .mixedOrders = true) (hT : T.ok P) (CF : RoH β) (hC : ∀ ro, CallOk P (T.wr ro) (CF ro)) : DrawOk P T (drawH T CF) := by
  intro n ids id ops fr s k r h hd K τ w Q i hf hg hp
  unfold drawH at h
  cases hs : Region.noSelect ops with
  | false => rw [hs, cond_false] at h; cases h
  | true =>
  rw [hs, cond_true] at h
  have hanc : ∀ j i, ((ancs ops.toList []).getD j 0).testBit i = true → Ahd ops i j := ancs_ok (fun q o hq => by simpa using hq) (fun j i hj => by simp at hj)
  split at h
  · rename_i b bo hro hall
    have hb1 : BoOk K (some b) bo := by have := hg.2; rw [hro] at this; exact this
    refine wp_region_noPanic (wp_region_any hm (wpX_any (U := softI (hardL ids) ops) (N := needI (hardL ids) ops (ancs ops.toList [])) (S2 := HB K (some b)) ops.size K.rd _ _ _ ?_))
    refine sxD_ok (K0 := K) (be0 := some b) (τ0 := τ) hg hT (hC T.ro) hs (dsOk_ok hd) hanc hb1 (fun e => by cases e) ?_ ops.size (some b) _ fr s K τ w.drew h i.drew (Kn.le.refl _) (.inl rfl) hf (Cl.start _) (fun _ _ => rfl)
    intro fr' s' K' τ' w' hk le' i' hf' hτ
    exact hp fr' s' K' τ' w' hk le' i' hf' hτ
  · obtain ⟨K1, be, bo, s1, le1, i1, hb1, h1⟩ := borrow_ok h i.drew
    refine wp_region_noPanic (wp_region_any hm (wpX_any (U := softI (hardL ids) ops) (N := needI (hardL ids) ops (ancs ops.toList [])) (S2 := HB K1 be) ops.size K1.rd _ _ _ ?_))
    have hg1 : EnvOk K1 (T.wr (roOf T be bo)) := ⟨hg.1.mono le1.p, by
      cases be with
      | none => exact hg.2.mono le1
      | some b => exact hb1⟩
    refine sxD_ok (K0 := K1) (be0 := be) (τ0 := τ) hg1 (hT.wr _) (hC _) hs (dsOk_ok hd) hanc hb1 ?_ ?_ ops.size be _ fr s1 K1 τ w.drew h1 i1 (Kn.le.refl _) (.inl rfl) (hf.mono le1) (Cl.start _) (fun _ _ => rfl)
    · intro e
      cases be with
      | none => rfl
      | some b => cases e
    · intro fr' s' K' τ' w' hk le' i' hf' hτ
      exact hp fr' s' K' τ' w' hk (le1.trans le') i' hf' hτ
end Go.GX
namespace Go.GX
open Go.RowKit Go.SL
set_option linter.unusedVariables false
set_option linter.unusedSimpArgs false
set_option linter.unnecessarySimpa false

/-- how something is handed in: given away, lent (a value; what a pointer leads to), or a block that comes back -/
inductive PK where
  | v (t : Ty)
  | b (t : Ty)
  | p (t : Ty)
  | io (e : Nat) (t : Ty) (pa : List Step)
@[reducible] def oT : List PK → Type
  | [] => Unit
  | .v t :: l => t.T × oT l
  | .io _ t _ :: l => t.T × oT l
  | .b _ :: l => oT l
  | .p _ :: l => oT l
@[reducible] def bT : List PK → Type
  | [] => Unit
  | .b t :: l => t.T × bT l
  | .p t :: l => t.T × bT l
  | .v _ :: l => bT l
  | .io _ _ _ :: l => bT l
@[reducible] def cT : List PK → Type
  | [] => Unit
  | .io _ t _ :: l => t.T × cT l
  | .v _ :: l => cT l
  | .b _ :: l => cT l
  | .p _ :: l => cT l
@[reducible] def rT : List Ty → Type
  | [] => Unit
  | t :: l => t.T × rT l
noncomputable def valA (p : Pers) (t : Ty) (x : t.T) (v : Value) : Assn := If (aggV v = t.agg) (OA p.h t x v.cells.toList)
noncomputable def blkA (p : Pers) (e : Nat) (t : Ty) (pa : List Step) (x : t.T) (v : Value) : Assn := Go.SL.Ex fun b => Go.SL.Ex fun cs : List Value => If (v = .pointer (some ⟨b, pOff pa, none⟩)) (sep (pt b (.cells cs.toArray e)) (OA p.h t x cs))
theorem valA.mono {p q : Pers} (le : p.le q) {t : Ty} {x : t.T} {v : Value} : ∀ h, valA p t x v h → valA q t x v h := fun h ⟨a, b⟩ => ⟨a, OA.sub le.h b⟩
theorem blkA.mono {p q : Pers} (le : p.le q) {e : Nat} {t : Ty} {pa : List Step} {x : t.T} {v : Value} : ∀ h, blkA p e t pa x v h → blkA q e t pa x v h := fun h ⟨b, cs, a, q⟩ => ⟨b, cs, a, sep_mono (fun _ h => h) (fun _ => OA.sub le.h) _ q⟩
noncomputable def asO (p : Pers) : (l : List PK) → oT l → List Value → List Assn
  | .v t :: l, x, v :: vs => valA p t x.1 v :: asO p l x.2 vs
  | .io e t pa :: l, x, v :: vs => blkA p e t pa x.1 v :: asO p l x.2 vs
  | .b _ :: l, x, _ :: vs => asO p l x vs
  | .p _ :: l, x, _ :: vs => asO p l x vs
  | _, _, _ => []
noncomputable def asC (p : Pers) : (l : List PK) → cT l → List Value → List Assn
  | .io e t pa :: l, x, v :: vs => blkA p e t pa x.1 v :: asC p l x.2 vs
  | .v _ :: l, x, _ :: vs => asC p l x vs
  | .b _ :: l, x, _ :: vs => asC p l x vs
  | .p _ :: l, x, _ :: vs => asC p l x vs
  | _, _, _ => []
noncomputable def asR (p : Pers) : (l : List Ty) → rT l → List Value → List Assn
  | t :: l, x, v :: vs => valA p t x.1 v :: asR p l x.2 vs
  | _, _, _ => []
noncomputable def lentB (m : Mem) : (l : List PK) → bT l → List Value → Prop
  | .b t :: l, y, v :: vs => VD m t y.1 v ∧ lentB m l y.2 vs
  | .p t :: l, y, v :: vs => (∃ b o cs, v = .pointer (some ⟨b, o, none⟩) ∧ At m b o cs ∧ DenT m t y.1 cs) ∧ lentB m l y.2 vs
  | .v _ :: l, y, _ :: vs => lentB m l y vs
  | .io _ _ _ :: l, y, _ :: vs => lentB m l y vs
  | _, _, _ => True
noncomputable def oneV (vs : List Value) : Value := if h : vs.length = 1 then vs[0] else .tuple vs.toArray
structure Con where
  ps : List PK
  rs : List Ty
  F : oT ps → bT ps → Option (rT rs × cT ps)
noncomputable def Con.ok (P : Program) (gs : List (Nat × SV)) (f : FuncId) (c : Con) : Prop :=
  (∃ fn, P.funcs[f]? = some fn ∧ (fn.name == "runtime.NumGoroutine") = false ∧ fn.body.isNone = false) ∧
  ∀ (x : oT c.ps) (y : bT c.ps) (r : rT c.rs × cT c.ps), c.F x y = some r → ∀ (p : Pers) (G : Hp) (w : World) (vs : List Value), GlS p gs → vs.length = c.ps.length → St p w (asO p c.ps x vs ++ [Exact G]) → lentB (uni p.h G) c.ps y vs →
    Calls P f vs.toArray w fun e w' => ∃ us q, e = .returned (oneV us) ∧ us.length = c.rs.length ∧ p.le q ∧ St q w' (asR q c.rs r.1 us ++ (asC q c.ps r.2 vs ++ [Exact G]))

/-! ### where it is proved -/
section
variable {β : Type}
noncomputable def inA : (l : List PK) → oT l → bT l → SS → (List SV → List Nat → SS → Option β) → Option β
  | [], _, _, s, k => k [] [] s
  | .v t :: l, x, y, s, k => inV t x.1 s fun sv s1 => inA l x.2 y s1 fun as ios s2 => k (sv :: as) ios s2
  | .b t :: l, x, y, s, k => inA l x y.2 s fun as ios s2 => k (.bd t y.1 :: as) ios s2
  | .p t :: l, x, y, s, k => inA l x y.2 s fun as ios s2 => k (.bp t y.1 :: as) ios s2
  | .io e t pa :: l, x, y, s, k => inA l x.2 y (add1 s (.blk e (.dat t x.1))) fun as ios s2 => k (.ptr s.nx pa :: as) (s.nx :: ios) s2
end
/-- where the blocks that come back are named -/
noncomputable def IosW (K : Kn) : List PK → List Value → List Nat → Prop
  | .io _ _ pa :: l, v :: vs, id :: ios => (id < K.nx ∧ ∃ b, v = .pointer (some ⟨b, pOff pa, none⟩) ∧ (K.E id = none ∨ K.E id = some (.pointer (some ⟨b, 0, none⟩)))) ∧ IosW K l vs ios
  | .v _ :: l, _ :: vs, ios => IosW K l vs ios
  | .b _ :: l, _ :: vs, ios => IosW K l vs ios
  | .p _ :: l, _ :: vs, ios => IosW K l vs ios
  | [], [], _ => True
  | _, _, _ => False
theorem IosW.mono {K L : Kn} (b : GX.Bl K L) : ∀ {l : List PK} {vs : List Value} {ios : List Nat}, IosW K l vs ios → IosW L l vs ios := by
  intro l
  induction l with
  | nil => intro vs ios h; cases vs <;> exact h
  | cons a l ih =>
    intro vs ios h
    cases vs with
    | nil => cases a <;> exact h.elim
    | cons v vs =>
    cases a with
    | v t => exact ih h
    | b t => exact ih h
    | p t => exact ih h
    | io e t pa =>
    cases ios with
    | nil => exact h
    | cons id ios =>
      simp only [IosW] at h ⊢
      obtain ⟨⟨h0, b', h1, h2⟩, h3⟩ := h
      refine ⟨⟨Nat.lt_of_lt_of_le h0 b.nx, b', h1, ?_⟩, ih h3⟩
      rcases b.E id h0 with e1 | e1
      · exact .inl e1
      · rw [e1]; exact h2
theorem inA_ok {β : Type} {r : β} {w : World} : ∀ {l : List PK} {x : oT l} {y : bT l} {s : SS} {k : List SV → List Nat → SS → Option β}, inA l x y s k = some r → ∀ {K : Kn} {vs : List Value}, Nx K s → vs.length = l.length → St K.p w (asO K.p l x vs ++ (asns K s.hp ++ [Exact K.F])) → lentB K.rd l y vs →
    ∃ K' as ios s', K.le K' ∧ Inv K' s' w ∧ as.length = vs.length ∧ (∀ (i : Nat) (a : SV) (v : Value), as[i]? = some a → vs[i]? = some v → a.den K' v) ∧ IosW K' l vs ios ∧ k as ios s' = some r := by
  intro l
  induction l with
  | nil =>
    intro x y s k h K vs hn hl st hb
    have : vs = [] := List.eq_nil_of_length_eq_zero hl
    subst this
    exact ⟨K, [], [], s, Kn.le.refl _, ⟨st, hn⟩, rfl, fun i a v h => by simp at h, trivial, h⟩
  | cons a l ih =>
    intro x y s k h K vs hn hl st hb
    cases vs with
    | nil => cases hl
    | cons v vs =>
    have hl' : vs.length = l.length := by simpa using hl
    have cons_den : ∀ {K1 : Kn} {sv : SV} {as : List SV}, sv.den K1 v → (∀ (i : Nat) (a : SV) (v : Value), as[i]? = some a → vs[i]? = some v → a.den K1 v) → ∀ (i : Nat) (a : SV) (u : Value), (sv :: as)[i]? = some a → (v :: vs)[i]? = some u → a.den K1 u := by
      intro K1 sv as h1 h2 i a u ha hu
      cases i with
      | zero => cases ha; cases hu; exact h1
      | succ i => exact h2 i a u (by simpa using ha) (by simpa using hu)
    cases a with
    | v t =>
      simp only [inA] at h
      have st1 : St K.p w (valA K.p t x.1 v :: (asO K.p l x.2 vs ++ (asns K s.hp ++ [Exact K.F]))) := st
      obtain ⟨hag, st2⟩ := st1.iff
      have st3 : St K.p w (OA K.p.h t x.1 v.cells.toList :: (asns K s.hp ++ (asO K.p l x.2 vs ++ [Exact K.F]))) := st2.perm (.cons _ (by
        rw [← List.append_assoc, ← List.append_assoc]; exact List.perm_append_comm.append_right _))
      obtain ⟨K1, u, sv, s1, le1, hp1, i1, hd, hc, hg, hk⟩ := (in_ok t).1 h hn st3
      have huv : u = v := cells_eq hc (hg.trans hag.symm)
      subst huv
      have st4 : St K1.p w (asO K1.p l x.2 vs ++ (asns K1 s1.hp ++ [Exact K1.F])) := by
        rw [hp1]; have := i1.st; rw [hp1] at this
        exact this.perm (by rw [← List.append_assoc, ← List.append_assoc]; exact List.perm_append_comm.append_right _)
      obtain ⟨K2, as, ios, s2, le2, i2, h1, h2, h3, h4⟩ := ih hk i1.nx hl' st4 (by
        have : K1.rd = uni K.p.h K.F := by rw [Kn.rd, hp1, le1.F]
        rw [this]; exact hb)
      exact ⟨K2, sv :: as, ios, s2, le1.trans le2, i2, by simp [h1], cons_den (SV.mono le2 hd) h2, h3, h4⟩
    | b t =>
      simp only [inA] at h
      obtain ⟨hv, hb'⟩ := hb
      obtain ⟨K2, as, ios, s2, le2, i2, h1, h2, h3, h4⟩ := ih h hn hl' st hb'
      exact ⟨K2, .bd t y.1 :: as, ios, s2, le2, i2, by simp [h1], cons_den (sv := .bd t y.1) ⟨v, rfl, hv.sub le2.rd⟩ h2, h3, h4⟩
    | p t =>
      simp only [inA] at h
      obtain ⟨⟨b, o, cs, hv, ha, hd⟩, hb'⟩ := hb
      obtain ⟨K2, as, ios, s2, le2, i2, h1, h2, h3, h4⟩ := ih h hn hl' st hb'
      exact ⟨K2, .bp t y.1 :: as, ios, s2, le2, i2, by simp [h1], cons_den (sv := .bp t y.1) ⟨b, o, cs, by rw [hv], ha.sub le2.rd, DenT.sub le2.rd hd⟩ h2, h3, h4⟩
    | io e t pa =>
      simp only [inA] at h
      have st1 : St K.p w (blkA K.p e t pa x.1 v :: (asO K.p l x.2 vs ++ (asns K s.hp ++ [Exact K.F]))) := st
      obtain ⟨b, sta⟩ := st1.ex
      obtain ⟨cs, stb⟩ := sta.ex
      obtain ⟨rfl, stc⟩ := stb.iff
      have st2 : St K.p w ((EN.blk e (.dat t x.1)).asn (K.name (.pointer (some ⟨b, 0, none⟩))) K.nx :: (asns K s.hp ++ (asO K.p l x.2 vs ++ [Exact K.F]))) := by
        have q := stc.weaken (B := (EN.blk e (.dat t x.1)).asn (K.name (.pointer (some ⟨b, 0, none⟩))) K.nx) fun h q => ⟨b, cs, Kn.name_eq, q⟩
        exact q.perm (.cons _ (by rw [← List.append_assoc, ← List.append_assoc]; exact List.perm_append_comm.append_right _))
      obtain ⟨le1, i1⟩ := Inv2.name hn st2
      have st4 : St (K.name (.pointer (some ⟨b, 0, none⟩))).p w (asO (K.name (.pointer (some ⟨b, 0, none⟩))).p l x.2 vs ++ (asns (K.name (.pointer (some ⟨b, 0, none⟩))) (add1 s (.blk e (.dat t x.1))).hp ++ [Exact (K.name (.pointer (some ⟨b, 0, none⟩))).F])) :=
        i1.st.perm (by rw [← List.append_assoc, ← List.append_assoc]; exact List.perm_append_comm.append_right _)
      obtain ⟨K2, as, ios, s2, le2, i2, h1, h2, h3, h4⟩ := ih h i1.nx hl' st4 hb
      have hE : K2.E s.nx = some (.pointer (some ⟨b, 0, none⟩)) := le2.E _ _ (by rw [hn.eq]; exact Kn.name_eq)
      have hlt : s.nx < K2.nx := by
        have q1 := le2.nx
        have q2 : (K.name (.pointer (some ⟨b, 0, none⟩))).nx = K.nx + 1 := rfl
        rw [hn.eq]; omega
      exact ⟨K2, .ptr s.nx pa :: as, s.nx :: ios, s2, le1.trans le2, i2, by simp [h1], cons_den (sv := .ptr s.nx pa) ⟨_, b, hE, rfl, rfl⟩ h2, ⟨⟨hlt, b, rfl, .inr hE⟩, h3⟩, h4⟩

/-- what comes back -/
noncomputable def outIO : (l : List PK) → List Nat → SS → Option (cT l × SS)
  | [], _, s => some ((), s)
  | .io e t _ :: l, id :: ios, s => match hget s.hp id with
    | some (.blk e' c) => bif Nat.beq e e' then (match outC 30 { s with hp := hdel s.hp id } c t with
      | some (y, s1) => match outIO l ios s1 with
        | some (z, s2) => some ((y, z), s2)
        | none => none
      | none => none) else none
    | _ => none
  | .io _ _ _ :: _, [], _ => none
  | .v _ :: l, ios, s => outIO l ios s
  | .b _ :: l, ios, s => outIO l ios s
  | .p _ :: l, ios, s => outIO l ios s
/-- a block is taken out, and told -/
theorem blk_out {K : Kn} {w : World} {s : SS} {X : List Assn} {id e : Nat} {c : CT} {t : Ty} {y : t.T} {s1 : SS} (hn : Nx K s) (st : St K.p w (asns K s.hp ++ (X ++ [Exact K.F]))) (hg : hget s.hp id = some (.blk e c)) (ho : outC 30 { s with hp := hdel s.hp id } c t = some (y, s1)) :
    ∃ K1 b, K.le K1 ∧ (K1.E = K.E ∧ K1.nx = K.nx) ∧ Nx K1 s1 ∧ K.E id = some (.pointer (some ⟨b, 0, none⟩)) ∧ ∀ pa, St K1.p w (asns K1 s1.hp ++ ((blkA K1.p e t pa y (.pointer (some ⟨b, pOff pa, none⟩)) :: X) ++ [Exact K1.F])) := by
  have s1' := st.take (hget_del (R := X ++ [Exact K.F]) hg)
  obtain ⟨b, sta⟩ := s1'.ex
  obtain ⟨cs, stb⟩ := sta.ex
  obtain ⟨hE, stc⟩ := stb.iff
  have std : St K.p w (CA K c cs :: (asns K (hdel s.hp id) ++ ((pt b (.cells cs.toArray e) :: X) ++ [Exact K.F]))) := stc.sep.give (.there (Del.mid _))
  obtain ⟨K1, le1, hE1, hx1, st1⟩ := (out_ok 30).2.2 ho std
  have hn1 : Nx K1 s1 := ⟨by rw [hx1, hE1.2]; exact hn.eq, fun k hk => by rw [hE1.1]; rw [hE1.2] at hk; exact hn.no k hk⟩
  refine ⟨K1, b, le1, hE1, hn1, hE, fun pa => ?_⟩
  have q1 := st1.perm (l' := pt b (.cells cs.toArray e) :: OA K1.p.h t y cs :: (asns K1 s1.hp ++ (X ++ [Exact K.F]))) (by
    simp only [List.append_assoc, List.cons_append]
    exact (List.perm_middle.trans (List.Perm.cons _ List.perm_middle)).trans (List.Perm.swap _ _ _))
  have q2 : St K1.p w (blkA K1.p e t pa y (.pointer (some ⟨b, pOff pa, none⟩)) :: (asns K1 s1.hp ++ (X ++ [Exact K.F]))) :=
    St.mkex b (St.mkex cs (St.mkiff rfl (St.mksep q1)))
  rw [le1.F]
  exact q2.give (Del.mid _)
theorem outIO_ok {w : World} : ∀ {l : List PK} {ios : List Nat} {s : SS} {z : cT l} {s' : SS}, outIO l ios s = some (z, s') → ∀ {K : Kn} {X : List Assn} {vs : List Value}, Nx K s → IosW K l vs ios → St K.p w (asns K s.hp ++ (X ++ [Exact K.F])) →
    ∃ K', K.le K' ∧ (K'.E = K.E ∧ K'.nx = K.nx) ∧ Nx K' s' ∧ St K'.p w (asns K' s'.hp ++ ((asC K'.p l z vs ++ X) ++ [Exact K'.F])) := by
  intro l
  induction l with
  | nil =>
    intro ios s z s' h K X vs hn hi st
    cases h
    exact ⟨K, Kn.le.refl _, ⟨rfl, rfl⟩, hn, st⟩
  | cons a l ih =>
    intro ios s z s' h K X vs hn hi st
    cases a with
    | io e t pa =>
      cases vs with
      | nil => exact hi.elim
      | cons v vs =>
      cases ios with
      | nil => exact hi.elim
      | cons id ios =>
      simp only [outIO] at h
      split at h <;> try (cases h; done)
      rename_i e' c hg
      cases hb : Nat.beq e e' with
      | false => rw [hb, cond_false] at h; cases h
      | true =>
      rw [hb, cond_true] at h
      have := Nat.eq_of_beq_eq_true hb; subst this
      split at h <;> try (cases h; done)
      rename_i y s1 hout
      split at h <;> try (cases h; done)
      rename_i z2 s2 hz
      cases h
      obtain ⟨⟨h0, b0, hv, hE0⟩, hi'⟩ := hi
      obtain ⟨K1, b, le1, hE1, hn1, hE, st1⟩ := blk_out hn st hg hout
      have hbb : b0 = b := by
        rcases hE0 with q | q
        · rw [q] at hE; cases hE
        · rw [q] at hE; simpa using hE
      subst hbb
      obtain ⟨K2, le2, hE2, hn2, st2⟩ := ih hz hn1 (hi'.mono le1.bl) (st1 pa)
      refine ⟨K2, le1.trans le2, ⟨hE2.1.trans hE1.1, hE2.2.trans hE1.2⟩, hn2, ?_⟩
      have q3 := st2.perm (l' := blkA K1.p e t pa y (.pointer (some ⟨b0, pOff pa, none⟩)) :: (asns K2 s'.hp ++ ((asC K2.p l z2 vs ++ X) ++ [Exact K2.F]))) (by
        simp only [List.append_assoc, List.cons_append]
        exact (List.Perm.append_left _ List.perm_middle).trans List.perm_middle)
      have q4 := q3.weaken (blkA.mono le2.p)
      rw [hv]
      exact q4.perm (by simp only [asC, List.append_assoc, List.cons_append]; exact List.perm_middle.symm)
    | v t => cases vs with
      | nil => exact hi.elim
      | cons v vs => exact ih h hn hi st
    | b t => cases vs with
      | nil => exact hi.elim
      | cons v vs => exact ih h hn hi st
    | p t => cases vs with
      | nil => exact hi.elim
      | cons v vs => exact ih h hn hi st
noncomputable def outR : (l : List Ty) → SV → SS → Option (rT l × SS)
  | [], .nl, s => some ((), s)
  | t :: l, .pr a b, s => match outV 30 s a t with
    | some (y, s1) => match outR l b s1 with
      | some (z, s2) => some ((y, z), s2)
      | none => none
    | none => none
  | _, _, _ => none
theorem outR_ok {w : World} : ∀ {l : List Ty} {c : SV} {s : SS} {z : rT l} {s' : SS}, outR l c s = some (z, s') → ∀ {K : Kn} {X : List Assn} {us : List Value}, Nx K s → c.dn K .l us → St K.p w (asns K s.hp ++ (X ++ [Exact K.F])) →
    us.length = l.length ∧ ∃ K', K.le K' ∧ (K'.E = K.E ∧ K'.nx = K.nx) ∧ Nx K' s' ∧ St K'.p w (asns K' s'.hp ++ ((asR K'.p l z us ++ X) ++ [Exact K'.F])) := by
  intro l
  induction l with
  | nil =>
    intro c s z s' h K X us hn hd st
    cases c <;> simp only [outR, reduceCtorEq] at h
    cases h
    have : us = [] := hd
    subst this
    exact ⟨rfl, K, Kn.le.refl _, ⟨rfl, rfl⟩, hn, st⟩
  | cons t l ih =>
    intro c s z s' h K X us hn hd st
    cases c <;> simp only [outR, reduceCtorEq] at h
    obtain ⟨v, d, rfl, hv, hd'⟩ := hd
    split at h <;> try (cases h; done)
    rename_i y s1 hout
    split at h <;> try (cases h; done)
    rename_i z2 s2 hz
    cases h
    obtain ⟨⟨K1, le1, hE1, hx1, st1⟩, ha⟩ := (out_ok 30).1 hout st hv
    have st1' : St K1.p w (asns K1 s1.hp ++ ((valA K1.p t y v :: X) ++ [Exact K1.F])) := by
      rw [le1.F]
      exact ((st1.take (Del.mid _)).weaken fun h q => (⟨ha, q⟩ : valA K1.p t y v h)).give (Del.mid _)
    have hn1 : Nx K1 s1 := ⟨by rw [hx1, hE1.2]; exact hn.eq, fun k hk => by rw [hE1.1]; rw [hE1.2] at hk; exact hn.no k hk⟩
    obtain ⟨hl, K2, le2, hE2, hn2, st2⟩ := ih hz hn1 (SV.mono le1 hd') st1'
    refine ⟨by simp [hl], K2, le1.trans le2, ⟨hE2.1.trans hE1.1, hE2.2.trans hE1.2⟩, hn2, ?_⟩
    have q3 := st2.perm (l' := valA K1.p t y v :: (asns K2 s'.hp ++ ((asR K2.p l z2 d ++ X) ++ [Exact K2.F]))) (by
      simp only [List.append_assoc, List.cons_append]
      exact (List.Perm.append_left _ List.perm_middle).trans List.perm_middle)
    exact (q3.weaken (valA.mono le2.p)).perm (by simp only [asR, List.append_assoc, List.cons_append]; exact List.perm_middle.symm)
theorem asR_all {p q : Pers} (le : p.le q) {R : List Assn} : ∀ {l : List Ty} {z : rT l} {us : List Value} {h : Hp}, all (asR p l z us ++ R) h → all (asR q l z us ++ R) h := by
  intro l
  induction l with
  | nil => intro z us h q; exact q
  | cons t l ih =>
    intro z us h q
    cases us with
    | nil => exact q
    | cons v us => obtain ⟨a, b, d, e, q1, q2⟩ := q; exact ⟨a, b, d, e, valA.mono le _ q1, ih q2⟩
theorem asR_mono {p q : Pers} (le : p.le q) {u : Pers} {w : World} {R : List Assn} {l : List Ty} {z : rT l} {us : List Value} (st : St u w (asR p l z us ++ R)) : St u w (asR q l z us ++ R) := by
  obtain ⟨h, a, r⟩ := st
  exact ⟨h, asR_all le a, r⟩
/-- what a function does -/
noncomputable def fnF (T : TB) {ps : List PK} {rs : List Ty} (C : CallH (rT rs × cT ps)) (D : DrawH (rT rs × cT ps)) (n : Nat) (res : List ResultVar) (hs : Hs) (c : Code) (x : oT ps) (y : bT ps) : Option (rT rs × cT ps) :=
  inA ps x y ⟨[], 0⟩ fun as ios s0 => bif Nat.ble as.length n then sxC T C D n hs c (argF 0 as) s0 (fun e fr s' => match e with
    | .x _ => none
    | _ => resK T n res fr s' fun sv s2 => nrmP sv s2 fun sv s2 => match outR rs sv s2 with
      | some (r, s3) => match outIO ps ios s3 with
        | some (z, _) => some (r, z)
        | none => none
      | none => none) else none
theorem Con.ok_of {P : Program} {T : TB} {ps : List PK} {rs : List Ty} {C : CallH (rT rs × cT ps)} {D : DrawH (rT rs × cT ps)} (hro : T.ro = none) (hT : T.ok P) (hC : CallOk P T C) (hD : DrawOk P T D) {f : FuncId} {fn : Func} {c : Code} {hs : Hs} {F : oT ps → bT ps → Option (rT rs × cT ps)}
    (hf : P.funcs[f]? = some fn) (hnm : (fn.name == "runtime.NumGoroutine") = false) (hb : fn.body = some c) (hF : fnF T C D fn.ntmps fn.results.toList hs c = F) : Con.ok P T.gs f ⟨ps, rs, F⟩ := by
  refine ⟨⟨fn, hf, hnm, by rw [hb]; rfl⟩, ?_⟩
  intro x y r hr p G w vs hgl hl st hy
  subst hF
  simp only [fnF] at hr
  let K0 : Kn := ⟨p, fun _ => none, G, fun _ => none0, 0⟩
  obtain ⟨K1, as, ios, s1, le1, i1, hal, hd, hio, hk⟩ := inA_ok (K := K0) (w := w) hr ⟨rfl, fun _ _ => rfl⟩ hl st hy
  cases hbl : Nat.ble as.length fn.ntmps with
  | false => rw [hbl, cond_false] at hk; cases hk
  | true =>
  rw [hbl, cond_true] at hk
  have hle := Nat.le_of_ble_eq_true hbl
  refine enter (n := fn.ntmps) hf hb (by simp; omega) rfl fun τ hτ => ?_
  refine sxC_ok hT hC hD _ _ _ _ K1 τ w _ hk i1 (argF_ok hal hd fun j hj => by rw [Nat.zero_add]; exact hτ j (by simpa using hj)) ⟨GlS.mono (p := K0.p) le1.p hgl, by rw [hro]; trivial⟩ ?_
  intro e fr2 s2 K2 τ2 w2 h2 b2 i2 f2 _
  have fin : (resK T fn.ntmps fn.results.toList fr2 s2 fun sv s2 => nrmP sv s2 fun sv s2 => match outR rs sv s2 with
      | some (r, s3) => match outIO ps ios s3 with
        | some (z, _) => some (r, z)
        | none => none
      | none => none) = some r → ∃ v, (results fn (AF fn.ntmps τ2).tmps).run P w2 = .ok v w2 ∧ ∃ us q, Ending.returned v = .returned (oneV us) ∧ us.length = rs.length ∧ p.le q ∧ St q w2 (asR q rs r.1 us ++ (asC q ps r.2 vs ++ [Exact G])) := by
    intro hq
    obtain ⟨us, cs0, s30, K30, le30, i30, hdl0, hrun, hk30⟩ := resK_ok (P := P) (τ := τ2) hT hq i2 f2
    obtain ⟨K3, s3, cs, le31, i3, hdl, hk3⟩ := nrmP_ok hk30 i30 hdl0
    have le3 := le30.trans le31
    split at hk3 <;> try (cases hk3; done)
    rename_i rr s4 hr4
    split at hk3 <;> try (cases hk3; done)
    rename_i zz s5 hz5
    cases hk3
    obtain ⟨hul, K4, le4, hE4, hn4, st4⟩ := outR_ok (X := []) hr4 i3.nx hdl i3.st
    have hb4 : GX.Bl K1 K4 := ((b2.trans le3).trans le4).bl
    obtain ⟨K5, le5, hE5, hn5, st5⟩ := outIO_ok (X := asR K4.p rs rr us ++ []) hz5 hn4 (hio.mono hb4) st4
    have hF5 : K5.F = G := by rw [(hb4.trans le5.bl).F, le1.F]
    refine ⟨_, results_run hrun, us, K5.p, rfl, hul, le1.p.trans (hb4.trans le5.bl).p, ?_⟩
    have st6 := st5.dropL
    rw [hF5, List.append_nil, List.append_assoc] at st6
    have st7 : St K5.p w2 (asR K4.p rs rr us ++ (asC K5.p ps zz vs ++ [Exact G])) := st6.perm (by
      rw [← List.append_assoc, ← List.append_assoc]; exact List.perm_append_comm.append_right _)
    exact asR_mono le5.p st7
  cases e with
  | n => obtain ⟨v, h1, h2⟩ := fin h2; exact ⟨rfl, v, h1, h2⟩
  | r => obtain ⟨v, h1, h2⟩ := fin h2; exact ⟨rfl, v, h1, h2⟩
  | x id => cases h2
end Go.GX
namespace Go.GX
open Go.RowKit Go.SL
set_option linter.unusedVariables false
set_option linter.unusedSimpArgs false
set_option linter.unnecessarySimpa false

/-- what is given away -/
noncomputable def inO : (l : List PK) → List SV → SS → Option (oT l × SS)
  | [], [], s => some ((), s)
  | .v t :: l, a :: as, s => match outV 30 s a t with
    | some (x, s1) => match inO l as s1 with
      | some (z, s2) => some ((x, z), s2)
      | none => none
    | none => none
  | .io e t pa :: l, .ptr id pa' :: as, s => bif steq pa pa' then (match hget s.hp id with
    | some (.blk e' c) => bif Nat.beq e e' then (match outC 30 { s with hp := hdel s.hp id } c t with
      | some (y, s1) => match inO l as s1 with
        | some (z, s2) => some ((y, z), s2)
        | none => none
      | none => none) else none
    | _ => none) else none
  | .b _ :: l, _ :: as, s => inO l as s
  | .p _ :: l, _ :: as, s => inO l as s
  | _, _, _ => none
/-- what is lent -/
noncomputable def rowS (s : SS) (v : SV) (t : Ty) : Option t.T := match v with
  | .vr id => match hget s.hp id with
    | some (.row _ t' l) => bif t'.pure then castT (.fz t') t l else none
    | some (.fro t' l) => castT (.fz t') t l
    | _ => none
  | .nilS => (match t with
    | .fz a => some ([] : List a.T)
    | _ => none)
  | v => bSk v t
noncomputable def ptS (v : SV) (t : Ty) : Option t.T := match v with
  | .dp t' x => castT t' t x
  | .bp t' x => castT t' t x
  | _ => none
noncomputable def rowK0 {β : Type} (s : SS) (v : SV) (t : Ty) (k : t.T → Option β) : Option β := match v with
  | .vw id pa m => (match t, k with
    | .fz a, k => vwC s id pa m a fun y => k y
    | _, _ => none)
  | v => match rowS s v t with
    | some y => k y
    | none => none
/-- things that stand in a block, one by one -/
noncomputable def lendC {β : Type} (s : SS) (t : Ty) : CT → (List t.T → Option β) → Option β
  | .pr (.cel v) r, k => rowK0 s v t fun y => lendC s t r fun ys => k (y :: ys)
  | .nl, k => k []
  | _, _ => none
noncomputable def nCells : CT → Option Nat
  | .pr (.cel _) r => match nCells r with
    | some n => some (n + 1)
    | none => none
  | .nl => some 0
  | _ => none
/-- what is put together, part by part -/
noncomputable def agK {β : Type} (s : SS) : SV → Bool → (t : Ty) → (t.T → Option β) → Option β
  | .ag c, false, t, k => agK s c true t k
  | .pr a b, true, .pair u v, k => agK s a false u fun x => agK s b true v fun y => k (x, y)
  | .nl, true, .unit, k => k ()
  | v, false, t, k => rowK0 s v t k
  | _, true, _, _ => none
noncomputable def rowK {β : Type} (s : SS) (v : SV) (t : Ty) (k : t.T → Option β) : Option β := match v with
  | .vw id [.i lo z] m => (match t, k with
    | .fz a, k => (match hget s.hp id with
      | some (.blk _ (.pr x y)) => bif Nat.beq lo 0 && Nat.beq z 1 && !a.agg && (match nCells (.pr x y) with | some q => Nat.beq q m | none => false) then lendC s a (.pr x y) fun ys => k ys else none
      | _ => rowK0 s (.vw id [.i lo z] m) (.fz a) k)
    | _, _ => none)
  | v => agK s v false t k
noncomputable def inBo {β : Type} : (l : List PK) → List SV → SS → (bT l → Option β) → Option β
  | [], _, _, k => k ()
  | .b t :: l, a :: as, s, k => rowK s a t fun y => inBo l as s fun z => k (y, z)
  | .p t :: l, a :: as, s, k => match ptS a t with
    | some y => inBo l as s fun z => k (y, z)
    | none => none
  | .v _ :: l, _ :: as, s, k => inBo l as s k
  | .io _ _ _ :: l, _ :: as, s, k => inBo l as s k
  | _ :: _, [], _, _ => none
/-- pieces that are given away last from now on -/
noncomputable def nrmA {β : Type} : (l : List PK) → List SV → SS → (List SV → SS → Option β) → Option β
  | .v _ :: l, a :: as, s, k => nrmV s a fun a' s1 => nrmA l as s1 fun as' s2 => k (a' :: as') s2
  | _ :: l, a :: as, s, k => nrmA l as s fun as' s2 => k (a :: as') s2
  | _, as, s, k => k as s
noncomputable def putC : (l : List PK) → List SV → cT l → HP → HP
  | .io e t _ :: l, .ptr id _ :: as, z, hp => (id, .blk e (.dat t z.1)) :: putC l as z.2 hp
  | .v _ :: l, _ :: as, z, hp => putC l as z hp
  | .b _ :: l, _ :: as, z, hp => putC l as z hp
  | .p _ :: l, _ :: as, z, hp => putC l as z hp
  | _, _, _, hp => hp
noncomputable def putR {β : Type} : (l : List Ty) → rT l → SS → (SV → SS → Option β) → Option β
  | [], _, s, k => k .nl s
  | t :: l, r, s, k => inV t r.1 s fun sv s1 => putR l r.2 s1 fun c s2 => k (.pr sv c) s2
noncomputable def conH {β : Type} (c : Con) (as : List SV) (s : SS) (k : SV → SS → Option β) : Option β := nrmA c.ps as s fun as s => match inO c.ps as s with
  | some (x, s1) => inBo c.ps as s1 fun y => bnd (c.F x y) fun r => putR c.rs r.1 ⟨putC c.ps as r.2 s1.hp, s1.nx⟩ fun cs s2 => k (one1 cs) s2
  | none => none
/-- where the blocks are -/
noncomputable def IosS (K : Kn) : List PK → List SV → List Value → Prop
  | .io _ _ pa :: l, .ptr id _ :: as, v :: vs => (∃ b, v = .pointer (some ⟨b, pOff pa, none⟩) ∧ K.E id = some (.pointer (some ⟨b, 0, none⟩))) ∧ IosS K l as vs
  | .v _ :: l, _ :: as, _ :: vs => IosS K l as vs
  | .b _ :: l, _ :: as, _ :: vs => IosS K l as vs
  | .p _ :: l, _ :: as, _ :: vs => IosS K l as vs
  | [], [], [] => True
  | _, _, _ => False
theorem IosS.mono {K L : Kn} (le : K.le L) : ∀ {l : List PK} {as : List SV} {vs : List Value}, IosS K l as vs → IosS L l as vs := by
  intro l
  induction l with
  | nil => intro as vs h; cases as <;> cases vs <;> exact h
  | cons a l ih =>
    intro as vs h
    cases as with
    | nil => cases a <;> exact h.elim
    | cons x as =>
    cases vs with
    | nil => cases a <;> cases x <;> exact h.elim
    | cons v vs =>
    cases a with
    | v t => exact ih h
    | b t => exact ih h
    | p t => exact ih h
    | io e t pa =>
      cases x <;> first | exact h.elim | skip
      obtain ⟨⟨b, h1, h2⟩, h3⟩ := h
      exact ⟨⟨b, h1, le.E _ _ h2⟩, ih h3⟩
theorem inO_ok {w : World} : ∀ {l : List PK} {as : List SV} {s : SS} {z : oT l} {s' : SS}, inO l as s = some (z, s') → ∀ {K : Kn} {X : List Assn} {vs : List Value}, Nx K s → as.length = vs.length → (∀ (i : Nat) (a : SV) (v : Value), as[i]? = some a → vs[i]? = some v → a.den K v) → St K.p w (asns K s.hp ++ (X ++ [Exact K.F])) →
    vs.length = l.length ∧ ∃ K', K.le K' ∧ (K'.E = K.E ∧ K'.nx = K.nx) ∧ Nx K' s' ∧ IosS K' l as vs ∧ St K'.p w (asns K' s'.hp ++ ((asO K'.p l z vs ++ X) ++ [Exact K'.F])) := by
  intro l
  induction l with
  | nil =>
    intro as s z s' h K X vs hn hl hd st
    cases as with
    | cons _ _ => cases h
    | nil =>
      cases h
      have : vs = [] := List.eq_nil_of_length_eq_zero (by simpa using hl.symm)
      subst this
      exact ⟨rfl, K, Kn.le.refl _, ⟨rfl, rfl⟩, hn, trivial, st⟩
  | cons a l ih =>
    intro as s z s' h K X vs hn hl hd st
    cases as with
    | nil => cases a <;> cases h
    | cons x as =>
    cases vs with
    | nil => cases hl
    | cons v vs =>
    have hl' : as.length = vs.length := by simpa using hl
    have hd' : ∀ {L : Kn}, K.le L → ∀ (i : Nat) (a : SV) (v : Value), as[i]? = some a → vs[i]? = some v → a.den L v := fun le i a v h1 h2 => SV.mono le (hd (i + 1) a v (by simpa using h1) (by simpa using h2))
    have hx : x.den K v := hd 0 x v rfl rfl
    cases a with
    | v t =>
      simp only [inO] at h
      split at h <;> try (cases h; done)
      rename_i y s1 hout
      split at h <;> try (cases h; done)
      rename_i z2 s2 hz
      cases h
      obtain ⟨⟨K1, le1, hE1, hx1, st1⟩, ha⟩ := (out_ok 30).1 hout st hx
      have st1' : St K1.p w (asns K1 s1.hp ++ ((valA K1.p t y v :: X) ++ [Exact K1.F])) := by
        rw [le1.F]
        exact ((st1.take (Del.mid _)).weaken fun h q => (⟨ha, q⟩ : valA K1.p t y v h)).give (Del.mid _)
      have hn1 : Nx K1 s1 := ⟨by rw [hx1, hE1.2]; exact hn.eq, fun k hk => by rw [hE1.1]; rw [hE1.2] at hk; exact hn.no k hk⟩
      obtain ⟨hlen, K2, le2, hE2, hn2, hi2, st2⟩ := ih hz hn1 hl' (hd' le1) st1'
      refine ⟨by simp [hlen], K2, le1.trans le2, ⟨hE2.1.trans hE1.1, hE2.2.trans hE1.2⟩, hn2, hi2, ?_⟩
      have q3 := st2.perm (l' := valA K1.p t y v :: (asns K2 s'.hp ++ ((asO K2.p l z2 vs ++ X) ++ [Exact K2.F]))) (by
        simp only [List.append_assoc, List.cons_append]
        exact (List.Perm.append_left _ List.perm_middle).trans List.perm_middle)
      exact (q3.weaken (valA.mono le2.p)).perm (by simp only [asO, List.append_assoc, List.cons_append]; exact List.perm_middle.symm)
    | b t =>
      obtain ⟨hlen, K2, le2, hE2, hn2, hi2, st2⟩ := ih h hn hl' (hd' (Kn.le.refl _)) st
      exact ⟨by simp [hlen], K2, le2, hE2, hn2, hi2, st2⟩
    | p t =>
      obtain ⟨hlen, K2, le2, hE2, hn2, hi2, st2⟩ := ih h hn hl' (hd' (Kn.le.refl _)) st
      exact ⟨by simp [hlen], K2, le2, hE2, hn2, hi2, st2⟩
    | io e t pa =>
      cases x <;> simp only [inO, reduceCtorEq] at h
      rename_i id pa'
      cases hp : steq pa pa' with
      | false => rw [hp, cond_false] at h; cases h
      | true =>
      rw [hp, cond_true] at h
      have := steq_ok hp; subst this
      split at h <;> try (cases h; done)
      rename_i e' c hg
      cases hb : Nat.beq e e' with
      | false => rw [hb, cond_false] at h; cases h
      | true =>
      rw [hb, cond_true] at h
      have := Nat.eq_of_beq_eq_true hb; subst this
      split at h <;> try (cases h; done)
      rename_i y s1 hout
      split at h <;> try (cases h; done)
      rename_i z2 s2 hz
      cases h
      obtain ⟨K1, b, le1, hE1, hn1, hE, st1⟩ := blk_out hn st hg hout
      obtain ⟨u, b', hu, hB, hv⟩ := hx
      rw [hE] at hu; cases hu
      have : (⟨b, 0, none⟩ : Addr) = ⟨b', 0, none⟩ := hB
      cases this
      have hv' : v = .pointer (some ⟨b, pOff pa, none⟩) := by simpa using hv
      obtain ⟨hlen, K2, le2, hE2, hn2, hi2, st2⟩ := ih hz hn1 hl' (hd' le1) (st1 pa)
      refine ⟨by simp [hlen], K2, le1.trans le2, ⟨hE2.1.trans hE1.1, hE2.2.trans hE1.2⟩, hn2, ⟨⟨b, hv', by rw [hE2.1, hE1.1]; exact hE⟩, hi2⟩, ?_⟩
      have q3 := st2.perm (l' := blkA K1.p e t pa y (.pointer (some ⟨b, pOff pa, none⟩)) :: (asns K2 s'.hp ++ ((asO K2.p l z2 vs ++ X) ++ [Exact K2.F]))) (by
        simp only [List.append_assoc, List.cons_append]
        exact (List.Perm.append_left _ List.perm_middle).trans List.perm_middle)
      rw [hv']
      exact (q3.weaken (blkA.mono le2.p)).perm (by simp only [asO, List.append_assoc, List.cons_append]; exact List.perm_middle.symm)
theorem uniG {p F G a : Hp} (hG : ∀ k o, F k = some o → G k = some o) : ∀ k o, uni p F k = some o → uni p G k = some o := fun k o h => by
  rcases uni_some.1 h with q | ⟨q1, q2⟩
  · exact uni_some.2 (.inl q)
  · exact uni_some.2 (.inr ⟨q1, hG _ _ q2⟩)
theorem rowS_ok {K : Kn} {s : SS} {x : SV} {t : Ty} {y : t.T} {v : Value} {G : Hp} (hd : disj K.p.h G) (ha : all (asns K s.hp ++ [Exact K.F]) G) (hG : ∀ k o, K.F k = some o → G k = some o) (h : rowS s x t = some y) (hx : x.den K v) : VD (uni K.p.h G) t y v := by
  have gen : bSk x t = some y → VD (uni K.p.h G) t y v := fun h => (bSk_ok h hx).sub (uniG (a := G) hG)
  cases x <;> simp only [rowS] at h <;> try exact gen h
  · rename_i id
    obtain ⟨X, n, c, hE, e⟩ := hx
    have e' : v = .slice X n c := by simpa using e
    subst e'
    split at h <;> try (cases h; done)
    · rename_i e' t' l hg
      cases hp : t'.pure with
      | false => rw [hp, cond_false] at h; cases h
      | true =>
      rw [hp, cond_true] at h
      obtain ⟨rfl, hc⟩ := castT_eq h
      cases hc
      exact row_view hd hp ((all_del (hget_del (R := [Exact K.F]) hg)).1 ha) hE
    · rename_i t' l hg
      obtain ⟨rfl, hc⟩ := castT_eq h
      cases hc
      obtain ⟨a, b, dj, hab, ⟨_, u, hu, hden⟩, _⟩ := (all_del (hget_del (R := [Exact K.F]) hg)).1 ha
      rw [hE] at hu; cases hu
      exact DenT.sub (fun k o hk => uni_some.2 (.inl hk)) hden
theorem ptS_ok {K : Kn} {x : SV} {t : Ty} {y : t.T} {v : Value} {G : Hp} (hG : ∀ k o, K.F k = some o → G k = some o) (h : ptS x t = some y) (hx : x.den K v) : ∃ b o cs, v = .pointer (some ⟨b, o, none⟩) ∧ At (uni K.p.h G) b o cs ∧ DenT (uni K.p.h G) t y cs := by
  unfold ptS at h
  split at h <;> try (cases h; done)
  · obtain ⟨rfl, hc⟩ := castT_eq h
    cases hc
    obtain ⟨b, o, cs, e, h1, h2⟩ := hx
    have hp : ∀ k o, K.p.h k = some o → uni K.p.h G k = some o := fun k o hk => uni_some.2 (.inl hk)
    exact ⟨b, o, cs, by simpa using e, h1.sub hp, DenT.sub hp h2⟩
  · obtain ⟨rfl, hc⟩ := castT_eq h
    cases hc
    obtain ⟨b, o, cs, e, h1, h2⟩ := hx
    exact ⟨b, o, cs, by simpa using e, h1.sub (uniG (a := G) hG), DenT.sub (uniG (a := G) hG) h2⟩
theorem rowK0_ok {β : Type} {r : β} {K : Kn} {s : SS} {x : SV} {t : Ty} {v : Value} {G : Hp} (hd : disj K.p.h G) (ha : all (asns K s.hp ++ [Exact K.F]) G) (hG : ∀ k o, K.F k = some o → G k = some o) {k : t.T → Option β} (h : rowK0 s x t k = some r) (hx : x.den K v) : ∃ y, VD (uni K.p.h G) t y v ∧ k y = some r := by
  unfold rowK0 at h
  split at h
  · split at h <;> try (cases h; done)
    rename_i a k
    obtain ⟨l, hsl, _, _, hk⟩ := vw_den (M := uni K.p.h G) hd ha (fun _ _ h => h) hx h
    exact ⟨l, hsl.den fun k o h => uni_some.2 (.inl h), hk⟩
  · split at h <;> try (cases h; done)
    rename_i y hy
    exact ⟨y, rowS_ok hd ha hG hy hx, h⟩
theorem agK_ok {K : Kn} {s : SS} {G : Hp} (hd : disj K.p.h G) (ha : all (asns K s.hp ++ [Exact K.F]) G) (hG : ∀ k o, K.F k = some o → G k = some o) {β : Type} {r : β} : ∀ {x : SV},
    (∀ {t : Ty} {k : t.T → Option β} {v : Value}, agK s x false t k = some r → x.den K v → ∃ y, VD (uni K.p.h G) t y v ∧ k y = some r) ∧
    (∀ {t : Ty} {k : t.T → Option β} {cs : List Value}, agK s x true t k = some r → x.dn K .c cs → t.agg = true ∧ ∃ y, DenT (uni K.p.h G) t y cs ∧ k y = some r) := by
  intro x
  induction x with
  | ag c ih =>
    refine ⟨fun {t k v} h hx => ?_, fun {t k cs} h hx => (by cases hx)⟩
    simp only [agK] at h
    obtain ⟨cs, e, hc⟩ := hx
    cases e
    obtain ⟨hg, y, hy, hk⟩ := ih.2 h hc
    refine ⟨y, ?_, hk⟩
    unfold VD; rw [hg]
    exact ⟨cs, rfl, hy⟩
  | pr a b iha ihb =>
    refine ⟨fun {t k v} h hx => (by cases hx), fun {t k cs} h hx => ?_⟩
    cases t <;> simp only [agK, reduceCtorEq] at h
    obtain ⟨v, d, rfl, h1, h2⟩ := hx
    obtain ⟨y, hy, h⟩ := iha.1 h h1
    obtain ⟨_, z, hz, h⟩ := ihb.2 h h2
    exact ⟨rfl, (y, z), ⟨_, _, rfl, hy.cells.1, hz⟩, h⟩
  | nl =>
    refine ⟨fun {t k v} h hx => (by cases hx), fun {t k cs} h hx => ?_⟩
    cases t <;> simp only [agK, reduceCtorEq] at h
    exact ⟨rfl, (), hx, h⟩
  | _ => exact ⟨fun {t k v} h hx => rowK0_ok hd ha hG (by simpa only [agK] using h) hx, fun {t k cs} h hx => by simp only [agK, reduceCtorEq] at h⟩
theorem lendC_ok {β : Type} {r : β} {K : Kn} {s : SS} {t : Ty} {G : Hp} (hd : disj K.p.h G) (ha : all (asns K s.hp ++ [Exact K.F]) G) (hG : ∀ k o, K.F k = some o → G k = some o) (hag : t.agg = false) : ∀ {c : CT} {k : List t.T → Option β} {cs : List Value} {h : Hp}, lendC s t c k = some r → CA K c cs h → ∃ ys, Cat (fun x c => DenT (uni K.p.h G) t x c) ys cs ∧ cs.length = ys.length ∧ nCells c = some ys.length ∧ k ys = some r := by
  intro c
  induction c with
  | nl => intro k cs h hk q; exact ⟨[], q.2, by rw [q.2]; rfl, rfl, hk⟩
  | pr a b iha ihb =>
    intro k cs h hk q
    cases a <;> simp only [lendC, reduceCtorEq] at hk
    rename_i v
    obtain ⟨c1, c2, rfl, x, y, dj, rfl, ⟨_, u, rfl, hdv, h1⟩, q2⟩ := q
    obtain ⟨z, hz, hk⟩ := rowK0_ok hd ha hG hk hdv
    obtain ⟨ys, h3, h4, h5, hk⟩ := ihb hk q2
    refine ⟨z :: ys, ⟨[u], c2, rfl, ?_, h3⟩, by simp [h4], by simp [nCells, h5], hk⟩
    unfold VD at hz
    rw [hag] at hz; exact hz
  | _ => intro k cs h hk; cases hk
theorem rowK_ok {β : Type} {r : β} {K : Kn} {s : SS} {x : SV} {t : Ty} {v : Value} {G : Hp} (hd : disj K.p.h G) (ha : all (asns K s.hp ++ [Exact K.F]) G) (hG : ∀ k o, K.F k = some o → G k = some o) {k : t.T → Option β} (h : rowK s x t k = some r) (hx : x.den K v) : ∃ y, VD (uni K.p.h G) t y v ∧ k y = some r := by
  unfold rowK at h
  split at h
  · rename_i id lo z m
    split at h <;> try (cases h; done)
    rename_i a k
    split at h
    · rename_i e x y hg
      cases hb : Nat.beq lo 0 && Nat.beq z 1 && !a.agg && (match nCells (.pr x y) with | some q => Nat.beq q m | none => false) with
      | false => rw [hb, cond_false] at h; cases h
      | true =>
      rw [hb, cond_true] at h
      simp only [Bool.and_eq_true, Bool.not_eq_true'] at hb
      obtain ⟨⟨⟨hb1, hb2⟩, hb3⟩, hb4⟩ := hb
      have := Nat.eq_of_beq_eq_true hb1; subst this
      have := Nat.eq_of_beq_eq_true hb2; subst this
      have hal := hget_all hg ha
      obtain ⟨y1, y2, dj, rfl, ⟨b, cs, hE, z1, z2, dj2, rfl, hpt, hca⟩, _⟩ := hal
      obtain ⟨ys, h3, h4, h5, hk⟩ := lendC_ok hd ha hG hb3 h hca
      rw [h5] at hb4
      have hm : ys.length = m := Nat.eq_of_beq_eq_true hb4
      obtain ⟨X, c, e', hc, hX, _⟩ := hx
      have e2 : v = .slice X m c := by simpa using e'
      subst e2
      refine ⟨ys, ?_, hk⟩
      show DenT _ (.fz a) ys [_]
      refine ⟨X, c, by rw [hm], by rw [hm]; exact hc, ?_⟩
      rcases hX with h0 | ⟨u, b2, hE2, hB, rfl⟩
      · exact .inl (by rw [hm]; exact h0)
      · right
        rw [hE] at hE2; cases hE2
        have hB' : (⟨b, 0, none⟩ : Addr) = ⟨b2, 0, none⟩ := hB
        cases hB'
        refine ⟨b, _, cs, rfl, ⟨cs.toArray, e, (0, 0), ?_, fun j v hj => ?_⟩, h3⟩
        · have hz : z1 b = some (.cells cs.toArray e) := by rw [show z1 = _ from hpt]; simp
          have hq := uni_some.2 (.inl (uni_some.2 (.inl hz)) : _ ∨ ((uni z1 z2) b = none ∧ y2 b = some (.cells cs.toArray e)))
          refine uni_some.2 (.inr ⟨?_, hq⟩)
          rcases hd b with q | q
          · exact q
          · rw [hq] at q; cases q
        · simpa [pOff] using hj
    · exact rowK0_ok hd ha hG h hx
  · exact (agK_ok hd ha hG).1 h hx
theorem inBo_ok {β : Type} {r : β} {K : Kn} {s : SS} {G : Hp} (hd : disj K.p.h G) (ha : all (asns K s.hp ++ [Exact K.F]) G) (hG : ∀ k o, K.F k = some o → G k = some o) : ∀ {l : List PK} {as : List SV} {k : bT l → Option β} {vs : List Value}, inBo l as s k = some r → as.length = vs.length → (∀ (i : Nat) (a : SV) (v : Value), as[i]? = some a → vs[i]? = some v → a.den K v) → ∃ y, lentB (uni K.p.h G) l y vs ∧ k y = some r := by
  intro l
  induction l with
  | nil => intro as k vs h hl hv; exact ⟨(), by cases vs <;> exact trivial, h⟩
  | cons a l ih =>
    intro as k vs h hl hv
    cases as with
    | nil => cases a <;> cases h
    | cons x as =>
    cases vs with
    | nil => cases hl
    | cons v vs =>
    have hl' : as.length = vs.length := by simpa using hl
    have hv' : ∀ (i : Nat) (a : SV) (v : Value), as[i]? = some a → vs[i]? = some v → a.den K v := fun i a v h1 h2 => hv (i + 1) a v (by simpa using h1) (by simpa using h2)
    have hx : x.den K v := hv 0 x v rfl rfl
    cases a with
    | v t => exact ih (as := as) h hl' hv'
    | io e t pa => exact ih (as := as) h hl' hv'
    | b t =>
      simp only [inBo] at h
      obtain ⟨y, hy, h⟩ := rowK_ok hd ha hG h hx
      obtain ⟨z, hz, h⟩ := ih h hl' hv'
      exact ⟨(y, z), ⟨hy, hz⟩, h⟩
    | p t =>
      simp only [inBo] at h
      split at h <;> try (cases h; done)
      rename_i u hu
      obtain ⟨z, hz, h⟩ := ih h hl' hv'
      exact ⟨(u, z), ⟨ptS_ok hG hu hx, hz⟩, h⟩
theorem nrmA_ok {β : Type} {r : β} {w : World} : ∀ {l : List PK} {as : List SV} {s : SS} {k : List SV → SS → Option β}, nrmA l as s k = some r → ∀ {K : Kn} {vs : List Value}, Inv K s w → as.length = vs.length → (∀ (i : Nat) (a : SV) (v : Value), as[i]? = some a → vs[i]? = some v → a.den K v) →
    ∃ K' as' s', K.le K' ∧ Inv K' s' w ∧ as'.length = vs.length ∧ (∀ (i : Nat) (a : SV) (v : Value), as'[i]? = some a → vs[i]? = some v → a.den K' v) ∧ k as' s' = some r := by
  intro l
  induction l with
  | nil => intro as s k h K vs i hl hd; exact ⟨K, as, s, Kn.le.refl _, i, hl, hd, h⟩
  | cons a l ih =>
    intro as s k h K vs i hl hd
    cases as with
    | nil => exact ⟨K, [], s, Kn.le.refl _, i, hl, hd, by cases a <;> exact h⟩
    | cons x as =>
    cases vs with
    | nil => cases hl
    | cons v vs =>
    have hl' : as.length = vs.length := by simpa using hl
    have hd' : ∀ {K1 : Kn}, K.le K1 → ∀ (i : Nat) (a : SV) (v : Value), as[i]? = some a → vs[i]? = some v → a.den K1 v := fun le i a v h1 h2 => SV.mono le (hd (i + 1) a v (by simpa using h1) (by simpa using h2))
    have hx : x.den K v := hd 0 x v rfl rfl
    have cons_den : ∀ {K1 : Kn} {sv : SV} {as : List SV}, sv.den K1 v → (∀ (i : Nat) (a : SV) (v : Value), as[i]? = some a → vs[i]? = some v → a.den K1 v) → ∀ (i : Nat) (a : SV) (u : Value), (sv :: as)[i]? = some a → (v :: vs)[i]? = some u → a.den K1 u := by
      intro K1 sv as h1 h2 i a u ha hu
      cases i with
      | zero => cases ha; cases hu; exact h1
      | succ i => exact h2 i a u (by simpa using ha) (by simpa using hu)
    have plain : (nrmA l as s fun as' s2 => k (x :: as') s2) = some r → ∃ K' as' s', K.le K' ∧ Inv K' s' w ∧ as'.length = (v :: vs).length ∧ (∀ (i : Nat) (a : SV) (u : Value), as'[i]? = some a → (v :: vs)[i]? = some u → a.den K' u) ∧ k as' s' = some r := by
      intro h
      obtain ⟨K1, as1, s1, le1, i1, hl1, hd1, h1⟩ := ih h i hl' (hd' (Kn.le.refl _))
      exact ⟨K1, x :: as1, s1, le1, i1, by simp [hl1], cons_den (SV.mono le1 hx) hd1, h1⟩
    cases a with
    | v t =>
      simp only [nrmA] at h
      obtain ⟨K1, s1, a1, le1, i1, hd1, h1⟩ := nrmV_ok h i hx
      obtain ⟨K2, as2, s2, le2, i2, hl2, hd2, h2⟩ := ih h1 i1 hl' (hd' le1)
      exact ⟨K2, a1 :: as2, s2, le1.trans le2, i2, by simp [hl2], cons_den (SV.mono le2 hd1) hd2, h2⟩
    | b t => exact plain h
    | p t => exact plain h
    | io e t pa => exact plain h
theorem putC_ok {K : Kn} {R : List Assn} : ∀ {l : List PK} {as : List SV} {vs : List Value} {z : cT l} {hp : HP} {h : Hp}, IosS K l as vs → all (asC K.p l z vs ++ (asns K hp ++ R)) h → all (asns K (putC l as z hp) ++ R) h := by
  intro l
  induction l with
  | nil =>
    intro as vs z hp h hi q
    exact q
  | cons a l ih =>
    intro as vs z hp h hi q
    cases as with
    | nil => cases a <;> exact hi.elim
    | cons x as =>
    cases vs with
    | nil => cases a <;> cases x <;> exact hi.elim
    | cons v vs =>
    cases a with
    | v t => exact ih (as := as) hi q
    | b t => exact ih (as := as) hi q
    | p t => exact ih (as := as) hi q
    | io e t pa =>
      cases x <;> first | exact hi.elim | skip
      rename_i id pa'
      obtain ⟨⟨b, hv, hE⟩, hi'⟩ := hi
      obtain ⟨x, y, d, rfl, ⟨b', cs, he, hx⟩, hy⟩ := q
      rw [hv] at he
      have hbb : b = b' := by simpa using he
      subst hbb
      exact ⟨x, y, d, rfl, ⟨b, cs, hE, hx⟩, ih hi' hy⟩
theorem putR_ok {β : Type} {r : β} {w : World} : ∀ {l : List Ty} {z : rT l} {s : SS} {k : SV → SS → Option β}, putR l z s k = some r → ∀ {K : Kn} {us : List Value}, Nx K s → us.length = l.length → St K.p w (asR K.p l z us ++ (asns K s.hp ++ [Exact K.F])) →
    ∃ K' c s', K.le K' ∧ Inv K' s' w ∧ c.dn K' .l us ∧ k c s' = some r := by
  intro l
  induction l with
  | nil =>
    intro z s k h K us hn hl st
    have : us = [] := List.eq_nil_of_length_eq_zero hl
    subst this
    exact ⟨K, .nl, s, Kn.le.refl _, ⟨st, hn⟩, rfl, h⟩
  | cons t l ih =>
    intro z s k h K us hn hl st
    cases us with
    | nil => cases hl
    | cons v us =>
    simp only [putR] at h
    have st1 : St K.p w (valA K.p t z.1 v :: (asR K.p l z.2 us ++ (asns K s.hp ++ [Exact K.F]))) := st
    obtain ⟨hag, st2⟩ := st1.iff
    have st3 : St K.p w (OA K.p.h t z.1 v.cells.toList :: (asns K s.hp ++ (asR K.p l z.2 us ++ [Exact K.F]))) := st2.perm (.cons _ (by
      rw [← List.append_assoc, ← List.append_assoc]; exact List.perm_append_comm.append_right _))
    obtain ⟨K1, u, sv, s1, le1, hp1, i1, hd, hc, hg, hk⟩ := (in_ok t).1 h hn st3
    have huv : u = v := cells_eq hc (hg.trans hag.symm)
    subst huv
    have st4 : St K1.p w (asR K1.p l z.2 us ++ (asns K1 s1.hp ++ [Exact K1.F])) := by
      rw [hp1]; have := i1.st; rw [hp1] at this
      exact this.perm (by rw [← List.append_assoc, ← List.append_assoc]; exact List.perm_append_comm.append_right _)
    obtain ⟨K2, c, s2, le2, i2, h1, h2⟩ := ih hk i1.nx (by simpa using hl) st4
    exact ⟨K2, .pr sv c, s2, le1.trans le2, i2, ⟨u, us, rfl, SV.mono le2 hd, h1⟩, h2⟩
/-- what is beside stands for itself -/
theorem _root_.Go.SL.St.exact {p : Pers} {w : World} {L R : List Assn} (st : St p w (L ++ R)) : ∃ G, all R G ∧ disj p.h G ∧ St p w (L ++ [Exact G]) := by
  obtain ⟨h, ha, d, r⟩ := st
  obtain ⟨x, y, dj, rfl, hx, hy⟩ := (all_append _ _ _).1 ha
  refine ⟨y, hy, (disj_uni.1 d).2, uni x y, (all_append _ _ _).2 ⟨x, y, dj, rfl, hx, y, none0, fun _ => .inr rfl, (uni_none0 _).symm, rfl, rfl⟩, d, r⟩
theorem _root_.Go.SL.St.unexact {p : Pers} {w : World} {L R : List Assn} {G : Hp} (st : St p w (L ++ [Exact G])) (hR : all R G) : St p w (L ++ R) := by
  obtain ⟨h, ha, r⟩ := st
  obtain ⟨x, y, dj, rfl, hx, a, b, _, rfl, rfl, rfl⟩ := (all_append _ _ _).1 ha
  exact ⟨_, (all_append _ _ _).2 ⟨x, _, dj, rfl, hx, by rw [uni_none0]; exact hR⟩, r⟩
theorem Con.call {β : Type} {P : Program} {f : FuncId} {c : Con} {gs : List (Nat × SV)} (hc : Con.ok P gs f c) {as : List SV} {s : SS} {k : SV → SS → Option β} {r : β} (h : conH c as s k = some r) {K : Kn} {w : World} {vs : List Value} (hg : GlS K.p gs) (i : Inv K s w) (hl : as.length = vs.length) (hd : ∀ (i : Nat) (a : SV) (v : Value), as[i]? = some a → vs[i]? = some v → a.den K v) :
    (∃ fn, P.funcs[f]? = some fn ∧ (fn.name == "runtime.NumGoroutine") = false ∧ fn.body.isNone = false) ∧
    Calls P f vs.toArray w fun e w' => ∃ v sv s' K', e = .returned v ∧ K.le K' ∧ Inv K' s' w' ∧ sv.den K' v ∧ k sv s' = some r := by
  refine ⟨hc.1, ?_⟩
  unfold conH at h
  obtain ⟨K0, as0, s0, le0, i0, hl0, hd0, h0⟩ := nrmA_ok h i hl hd
  clear h
  split at h0 <;> try (cases h0; done)
  rename_i x s1 hx
  obtain ⟨hlen, K1, le1, hE1, hn1, hi1, st1⟩ := inO_ok (X := []) hx i0.nx hl0 hd0 i0.st
  have st2 : St K1.p w (asO K1.p c.ps x vs ++ (asns K1 s1.hp ++ [Exact K1.F])) := by
    rw [List.append_nil] at st1
    exact st1.perm (by rw [← List.append_assoc, ← List.append_assoc]; exact List.perm_append_comm.append_right _)
  obtain ⟨G, hG, hdj, st3⟩ := st2.exact
  have hFG : ∀ k o, K1.F k = some o → G k = some o := by
    obtain ⟨a, b, dj, rfl, _, u, z, _, rfl, rfl, rfl⟩ := (all_append _ _ _).1 hG
    intro k o hk
    have hk' : uni K1.F none0 k = some o := by rw [uni_none0]; exact hk
    rw [uni_comm dj]
    exact uni_some.2 (.inl hk')
  obtain ⟨y, hlent, h⟩ := inBo_ok hdj hG hFG h0 hl0 (fun i a v h1 h2 => SV.mono le1 (hd0 i a v h1 h2))
  obtain ⟨q, hq, h⟩ := bnd_some h
  refine Calls.mono (hc.2 x y q hq K1.p G w vs (hg.mono (le0.trans le1).p) hlen st3 hlent) ?_
  rintro e w' ⟨us, p2, rfl, hul, lep, st4⟩
  rw [← List.append_assoc] at st4
  have st5 := st4.unexact hG
  have le2 : K1.le (K1.grow p2) := Kn.grow_le lep (X := asR p2 c.rs q.1 us ++ asC p2 c.ps q.2 vs ++ asns K1 s1.hp) (by simpa using st5)
  have st6 : St p2 w' (asns (K1.grow p2) (putC c.ps as0 q.2 s1.hp) ++ (asR p2 c.rs q.1 us ++ [Exact K1.F])) := by
    have st5' : St p2 w' (asC p2 c.ps q.2 vs ++ (asns K1 s1.hp ++ (asR p2 c.rs q.1 us ++ [Exact K1.F]))) := st5.perm (by
      simp only [List.append_assoc]
      refine List.perm_append_comm.trans ?_
      simp only [List.append_assoc]
      refine List.Perm.append_left _ (List.Perm.append_left _ ?_)
      exact List.perm_append_comm)
    obtain ⟨h, ha, rr⟩ := st5'
    refine ⟨h, putC_ok (K := K1.grow p2) (hi1.mono le2) ?_, rr⟩
    obtain ⟨a, b, dj, rfl, h1, h2⟩ := (all_append _ _ _).1 ha
    exact (all_append _ _ _).2 ⟨a, b, dj, rfl, h1, all_asns le2 _ _ _ h2⟩
  have hn2 : Nx (K1.grow p2) ⟨putC c.ps as0 q.2 s1.hp, s1.nx⟩ := ⟨hn1.eq, hn1.no⟩
  have st7 : St (K1.grow p2).p w' (asR (K1.grow p2).p c.rs q.1 us ++ (asns (K1.grow p2) (putC c.ps as0 q.2 s1.hp) ++ [Exact (K1.grow p2).F])) := st6.perm (by
    rw [← List.append_assoc, ← List.append_assoc]; exact List.perm_append_comm.append_right _)
  obtain ⟨K3, cs, s3, le3, i3, hdl, hk⟩ := putR_ok h hn2 hul st7
  exact ⟨oneV us, one1 cs, s3, K3, rfl, le0.trans ((le1.trans le2).trans le3), i3, one1_ok hdl, hk⟩
/-! ### a table of contracts -/
abbrev CN := List (FuncId × Con)
noncomputable def cget : CN → FuncId → Option Con
  | [], _ => none
  | (k, j) :: l, x => bif Nat.beq k x then some j else cget l x
noncomputable def CN.ok (P : Program) (gs : List (Nat × SV)) (N : CN) : Prop := ∀ e ∈ N, Con.ok P gs e.1 e.2
theorem CN.ok_nil {P : Program} {gs : List (Nat × SV)} : CN.ok P gs [] := fun e h => by cases h
theorem CN.ok_cons {P : Program} {gs : List (Nat × SV)} {f : FuncId} {c : Con} {N : CN} (h : Con.ok P gs f c) (hN : CN.ok P gs N) : CN.ok P gs ((f, c) :: N) := fun e he => by
  rcases List.mem_cons.1 he with rfl | he
  · exact h
  · exact hN e he
theorem cget_ok {P : Program} {gs : List (Nat × SV)} {N : CN} (h : CN.ok P gs N) {f : FuncId} {c : Con} (he : cget N f = some c) : Con.ok P gs f c := by
  induction N with
  | nil => cases he
  | cons a l ih =>
    obtain ⟨y, q⟩ := a
    simp only [cget] at he
    cases hb : Nat.beq y f with
    | true =>
      rw [hb, cond_true] at he; cases he
      have := Nat.eq_of_beq_eq_true hb; subst this
      exact h (y, c) (List.mem_cons_self ..)
    | false => rw [hb, cond_false] at he; exact ih (fun z hz => h z (List.mem_cons_of_mem _ hz)) he
noncomputable def cxH {β : Type} (N : CN) : CallH β := fun f as s k => match cget N f with
  | some c => conH c as s k
  | none => none
theorem cxH_ok {β : Type} {P : Program} {T : TB} {N : CN} (h : CN.ok P T.gs N) : CallOk P T (cxH (β := β) N) := by
  intro f as s k r hk K w vs hg i hl hd
  unfold cxH at hk
  split at hk <;> try (cases hk; done)
  rename_i c hc
  exact Con.call (cget_ok h hc) hk hg.1 i hl hd
end Go.GX
namespace Go.GX
open Go.RowKit Go.SL
set_option linter.unusedVariables false
/-- what a function does, its calls by contracts or gone through -/
noncomputable def mkF (T : TB) (F : FT) (N : CN) (fn : Func) (c : Code) (hs : Hs) (ps : List PK) (rs : List Ty) : oT ps → bT ps → Option (rT rs × cT ps) :=
  fnF (T.wr none) (inl T F drawH (cxH N) 9 none) (drawH (T.wr none) (inl T F drawH (cxH N) 9)) fn.ntmps fn.results.toList hs c
theorem mkF_ok {P : Program} {T : TB} {F : FT} {N : CN} (hm : P.follows .mixedOrders = true) (hT : T.ok P) (hF : F.ok P) (hC : CN.ok P T.gs N) {f : FuncId} {fn : Func} {c : Code} {hs : Hs} {ps : List PK} {rs : List Ty} {G : oT ps → bT ps → Option (rT rs × cT ps)}
    (hf : P.funcs[f]? = some fn) (hnm : (fn.name == "runtime.NumGoroutine") = false) (hb : fn.body = some c) (e : mkF T F N fn c hs ps rs = G) : Con.ok P T.gs f ⟨ps, rs, G⟩ :=
  have hI := inl_ok (β := rT rs × cT ps) hT hF (fun ro CF hC => drawH_ok hm (hT.wr ro) CF hC) (fun ro => cxH_ok (T := T.wr ro) hC) 9
  Con.ok_of (T := T.wr none) rfl (hT.wr none) (hI none) (drawH_ok hm (hT.wr none) _ hI) hf hnm hb e
noncomputable def bodyOf (f : Func) : Code := match f.body with
  | some c => c
  | none => .skip
theorem bodyOf_ok {f : Func} (h : f.body.isSome = true) : f.body = some (bodyOf f) := by
  unfold bodyOf
  cases hb : f.body with
  | none => rw [hb] at h; cases h
  | some c => rfl
theorem FT.ok_nil {P : Program} : FT.ok P [] := fun e h => by cases h
theorem FT.ok_cons {P : Program} {f : FuncId} {fn : Func} {h : Hs} {F : FT} (hf : P.funcs[f]? = some fn) (hn : (fn.name == "runtime.NumGoroutine") = false) (hF : FT.ok P F) : FT.ok P ((f, fn, h) :: F) := fun e he => by
  rcases List.mem_cons.1 he with rfl | he
  · exact ⟨hf, hn⟩
  · exact hF e he
end Go.GX
namespace Go.GX
open Go.RowKit Go.SL
set_option linter.unusedVariables false
set_option linter.unusedSimpArgs false
/-- what is told by hand: sorted: slices.Sorted of what maps.Keys gives (g: the iterator; e: of the variable that holds the map; it: of numbers); clone: maps.Clone -/
inductive Sp where
  | sorted (g : FuncId) (e it : Nat)
  | clone
noncomputable def hasF (P : Program) (f : FuncId) : Prop := ∃ fn, P.funcs[f]? = some fn ∧ (fn.name == "runtime.NumGoroutine") = false ∧ fn.body.isNone = false
noncomputable def Sp.ok (P : Program) (f : FuncId) : Sp → Prop
  | .sorted g e it => hasF P f ∧ ∀ (p : Pers) (w : World) (R : List Assn) (Bm b : Nat) (ks : List (Int × Value)), ks.length ≤ 12 → (∀ q ∈ ks, -9223372036854775808 ≤ q.1 ∧ q.1 ≤ 9223372036854775807) → St p w (pt Bm (.cells #[.map (some b)] e) :: MapI b ks :: R) →
      Calls P f #[.func (.func g) #[] #[.pointer (some ⟨Bm, 0, none⟩)]] w fun ev w' => ∃ (v : Value) (L : List Int), ev = .returned v ∧ L.Perm (ks.map (·.1)) ∧ L.Pairwise (· ≤ ·) ∧ St p w' (SL.Own it 1 v ks.length (L.flatMap fun n => [Value.int .i64 n]) :: pt Bm (.cells #[.map (some b)] e) :: MapI b ks :: R)
  | .clone => hasF P f ∧ ∀ (p : Pers) (w : World) (R : List Assn) (b : Nat) (ks : List (Int × Value)), St p w (MapI b ks :: R) →
      Calls P f #[.map (some b)] w fun ev w' => ∃ b' : Nat, ev = .returned (.map (some b')) ∧ St p w' (MapI b' ks :: MapI b ks :: R)
abbrev SpT := List (FuncId × Sp)
noncomputable def SpT.ok (P : Program) (S : SpT) : Prop := ∀ e ∈ S, Sp.ok P e.1 e.2
theorem SpT.ok_nil {P : Program} : SpT.ok P [] := fun e h => by cases h
theorem SpT.ok_cons {P : Program} {f : FuncId} {c : Sp} {S : SpT} (h : Sp.ok P f c) (hS : SpT.ok P S) : SpT.ok P ((f, c) :: S) := fun e he => by
  rcases List.mem_cons.1 he with rfl | he
  · exact h
  · exact hS e he
theorem MRel.keys {m : Mem} {t : Ty} : ∀ {l : List (Int × t.T)} {ks : List (Int × Value)}, MRel m t l ks → ks.map (·.1) = l.map (·.1) := by
  intro l
  induction l with
  | nil => intro ks h; cases ks with
    | nil => rfl
    | cons _ _ => exact h.elim
  | cons a l ih =>
    obtain ⟨k, x⟩ := a
    intro ks h
    cases ks with
    | nil => exact h.elim
    | cons q ks =>
      obtain ⟨q, v⟩ := q
      obtain ⟨rfl, _, h2⟩ := h
      simp [ih h2]
end Go.GX
