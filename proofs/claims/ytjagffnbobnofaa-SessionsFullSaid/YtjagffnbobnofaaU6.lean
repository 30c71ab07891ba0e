/- The keys of a map that is held, gathered: in terms of what is held. -/
import Derived.Test.YtjagffnbobnofaaU5
import Derived.Test.YtjagffnbobnofaaQ0
namespace Go.Proofs.Ytjagffnbobnofaa
open Go.RowKit Go.Maps Go.Sort Go.Shelf Go.SL Go.Q18
set_option linter.unusedVariables false
set_option linter.unusedSimpArgs false
theorem ofBelow {p : Pers} {w w' : World} {H : List Assn} (s : St p w H) (hb : Below w.heap.size w w') : St p w' H := by
  obtain ⟨h, ha, dp, r, r1, r2, r3⟩ := s
  refine ⟨h, ha, dp, fun k o hk => ?_, hb.os.trans r1, hb.tape.trans r2, hb.output.trans r3⟩
  have h1 := r k o hk
  rw [hb.block k (Array.getElem?_eq_some_iff.1 h1).1]; exact h1
theorem freshIn {p : Pers} {w w' : World} {H : List Assn} {g : Nat} {o : Obj} (s : St p w H) (hb : Below w.heap.size w w') (hg : w.heap.size ≤ g) (ho : w'.heap[g]? = some o) : St p w' (pt g o :: H) := by
  obtain ⟨h, ha, dp, r, r1, r2, r3⟩ := s
  have hn : uni p.h h g = none := by
    cases e : uni p.h h g with
    | none => rfl
    | some q => have := (Array.getElem?_eq_some_iff.1 (r _ _ e)).1; omega
  have hp : p.h g = none ∧ h g = none := by simpa [uni] using hn
  refine ⟨uni (fun k => if k = g then some o else none) h, ⟨_, h, ?_, rfl, rfl, ha⟩, disj_uni.2 ⟨?_, dp⟩, ?_, hb.os.trans r1, hb.tape.trans r2, hb.output.trans r3⟩
  · intro k; by_cases e : k = g
    · subst e; exact .inr hp.2
    · simp [e]
  · intro k; by_cases e : k = g
    · subst e; exact .inl hp.1
    · simp [e]
  · intro k q hk
    by_cases e : k = g
    · subst e
      have : q = o := by
        simp [uni, hp.1] at hk; exact hk.symm
      subst this; exact ho
    · have hk2 : uni p.h h k = some q := by
        simp only [uni] at hk ⊢
        simpa [e] using hk
      have h1 := r k q hk2
      rw [hb.block k (Array.getElem?_eq_some_iff.1 h1).1]; exact h1
theorem rowIn {p : Pers} {w w' : World} {H : List Assn} {v : Value} {n : Nat} {xs : List Value} (s : St p w H) (hb : Below w.heap.size w w') (hr : w'.ownsRow w.heap.size 3 1 v n xs) : St p w' (SL.Own 3 1 v n xs :: H) := by
  obtain ⟨hl, ⟨rfl, rfl⟩ | ⟨g, cap, cur, rfl, hg, ho, h1, h2, h3, h4⟩⟩ := hr
  · have : xs = [] := List.eq_nil_of_length_eq_zero (by omega)
    subst this
    exact (ofBelow s hb).ownNil none
  · exact (freshIn s hb hg ho).ownNew h1 h2 h3 h4
def R0 (H : Type) : Value → Option (DataW H × List MemPlace) := fun _ => some (.lit (.bool false), [])
theorem wf_of {k : Int} (h : I64 k) : (Lit.int .i64 k).wf = true := by
  unfold I64 at h
  simp [Lit.wf, IntKind.min, IntKind.max, IntKind.bits, IntKind.signed]
  omega
def kI : Value → Int
  | .int _ n => n
  | _ => 0
set_option maxRecDepth 100000 in
theorem ownsKs {p : Pers} {w : World} {R : List Assn} {b : Nat} {ks : List (Int × Value)} (hl : ks.length ≤ maxLen) (hk : ∀ q ∈ ks, I64 q.1) (s : St p w (MapI b ks :: R)) :
    ∃ D0 : DataW Unit, w.ownsMap Try.prog 3 (R0 Unit) b ks.length D0 ∧ (intKeys D0).Perm (ks.map (·.1)) ∧ Maps.size D0 = ks.length := by
  obtain ⟨es, cl, s2, he, hst⟩ := s.mapOpen
  have hes : es.size = ks.length := by have := congrArg List.length he; simpa using this
  have hrd : ∀ (x : MapEntry) (q : Int × Value), q ∈ ks → x.key = Value.int .i64 q.1 → Go.WideElems.rd Try.prog 3 (R0 Unit) x = some (.int .i64 q.1, .lit (.bool false)) := fun x q hq e => by
    unfold Go.WideElems.rd
    rw [e, Maps.keyOf_int_mk Try.underlying3 (wf_of (hk q hq))]; rfl
  have hall : ∀ x ∈ es.toList, ∃ q ∈ ks, x.key = Value.int .i64 q.1 := fun x hx => by
    have : (x.key, x.val) ∈ es.toList.map (fun e => (e.key, e.val)) := List.mem_map.2 ⟨x, hx, rfl⟩
    rw [he] at this
    obtain ⟨q, hq, e⟩ := List.mem_map.1 this
    exact ⟨q, hq, (Prod.mk.inj e).1.symm⟩
  refine ⟨_, ⟨es, cl, s2.block, ⟨by omega, hst, fun x hx => ?_⟩, by omega, rfl⟩, ?_, ?_⟩
  · obtain ⟨q, hq, e⟩ := hall x hx
    exact ⟨_, hrd x q hq e⟩
  · refine List.Perm.trans ((Go.WideShapes.sorted_perm _).map _) ?_
    have h3 := congrArg (List.map fun z : Value × Value => kI z.1) he
    rw [List.map_map, List.map_map] at h3
    rw [List.map_map]
    refine List.Perm.of_eq (Eq.trans (List.map_congr_left fun x hx => ?_) (Eq.trans h3 (List.map_congr_left fun q _ => rfl)))
    obtain ⟨q, hq, e⟩ := hall x hx
    have h4 := Go.WideElems.rg_of (hrd x q hq e)
    simp only [Function.comp]
    rw [h4, e]; rfl
  · show ((es.toList.map (Go.WideElems.rg Try.prog 3 (R0 Unit))).foldr DataW.insert []).length = _
    rw [(Go.WideShapes.sorted_perm _).length_eq]; simpa using hes
theorem ks_AppendSeq {p : Pers} {w : World} {R : List Assn} {b Bm : Nat} {ks : List (Int × Value)} (hl : ks.length ≤ 12) (hk : ∀ q ∈ ks, I64 q.1) (hst : St p w (pt Bm (.cells #[.map (some b)] 71) :: MapI b ks :: R)) :
    Calls Try.prog 77 #[.slice none 0 0, .func (.func 62) #[] #[.pointer (some ⟨Bm, 0, none⟩)]] w fun e w' => ∃ (v : Value) (xs : List Int), e = .returned v ∧ xs.Perm (ks.map (·.1)) ∧ St p w' (SL.Own 3 1 v xs.length (xs.flatMap ienc) :: pt Bm (.cells #[.map (some b)] 71) :: MapI b ks :: R) := by
  obtain ⟨D0, hown, hperm, hsz⟩ := ownsKs (by simp only [maxLen]; omega) hk hst.swap
  have hm : w.cell? ⟨Bm, 0, none⟩ = some (.map (some b)) := St.cell hst .here rfl
  have hBm : Bm < w.heap.size := (Array.getElem?_eq_some_iff.1 hst.block).1
  refine Calls.mono ((callsIn_wide (n := 6)).1 (appendSeq_in Fence.wide 6 trivial 62 trivial rfl (by omega) _ (enters_of Try.func62 (by kernel_rfl) rfl) _ _ (Maps.size D0) (by rw [hsz]; simp only [maxLen]; omega) (by omega) w (keys_stops Fence.wide 5 trivial rfl (by omega) Bm b _ D0 w hBm hm hown))) ?_
  rintro e w' ⟨v, xs, rfl, hS, hrow, hnil, hb⟩
  exact ⟨v, xs, rfl, hS.1.trans hperm, by rw [← ienc_map]; exact rowIn hst hb hrow⟩
end Go.Proofs.Ytjagffnbobnofaa
