/- slices.Sorted of what maps.Keys gives, for maps by ints that are held. -/
import Derived.Test.YtifokhheojnipaaGreatDoorA2
import Derived.Test.YtifokhheojnipaaGreatDoorA1
import Derived.Test.YtifokhheojnipaaGreatDoorProg
import Derived.RangeFuncNested
import Derived.RangeFuncBound
import Derived.RangeFuncCalls
import Derived.RangeFuncLeaves
import Derived.RangeFuncStops
import Derived.RangeFuncSeq
import Derived.RangeFuncGives
import Derived.RangeFuncBox
import Derived.RangeFuncWrites
import Derived.Maps.AppendAt
import Derived.Sort.MapsRangeIn
import Derived.Sort.KeysCollected
import Derived.Lib.SlKeysI
import Derived.WalkKit
import Derived.OwnWalkIn
import Derived.TacticsInMore
import Derived.RegionIn
import Derived.LoopNIn
import Derived.LoopIn
import Derived.Shelf.Abstract
import Derived.Test.YtifokhheojnipaaGreatDoorG7
import Derived.Laws.Externs
import Derived.MapKept
import Derived.KernelRfl
set_option linter.unusedVariables false
set_option linter.unusedSimpArgs false
set_option linter.unnecessarySimpa false
set_option linter.unusedVariables false
set_option linter.unusedSimpArgs false
namespace Go.Q18
open Go.RowKit Go.SL
def I64 (n : Int) : Prop := -9223372036854775808 ≤ n ∧ n ≤ 9223372036854775807
def ienc (n : Int) : List Value := [.int .i64 n]
end Go.Q18
namespace Go.Proofs.YtifokhheojnipaaGreatDoor
open Go.RowKit Go.Maps Go.Sort Go.Shelf
attribute [local go_sem] Oper.semAt_some
theorem info3U : (Tryz.prog.info? 3).map (fun i => (i.zero, i.size, i.bytes)) = some (some (.int .i64 0), 1, 8) := by kernel_rfl
set_option maxRecDepth 100000 in
set_option maxHeartbeats 2000000 in
theorem appendSeq_in (F : Fence) (n : Nat) (h77 : F.fn 233) (g : Nat) (hg : F.fn g) (hro : F.round = none) (hn : 3 ≤ n) (lb : Array Value) (eg : ∀ args w, (callFunc g args).run Tryz.prog w = .ok (.enter g args) w) (S Sp : List Int → Prop) (N : Nat) (hN : N ≤ maxLen) (hNb : N * 8 ≤ 140737488355328) (w : World)
    (hseq : SeqStops F (n - 1) Tryz.prog g lb encZ S Sp N w) :
    CallsIn F n Tryz.prog 233 #[.slice none 0 0, .func (.func g) #[] lb] w fun e W' => ∃ (v : Value) (xs : List Int), e = .returned v ∧ S xs ∧ W'.ownsRow w.heap.size 3 1 v xs.length (xs.map encZ) ∧ (v = .slice none 0 0 ↔ xs = []) ∧ Below w.heap.size w W' := by
  have h1 : 1 ≤ n := by omega
  obtain ⟨i0, hi, hz0, hz1, hz2⟩ := info_parts info3U
  refine callsIn_of_wp_marks Tryz.func233 rfl h77 ?_ hro
  simp only [Tryz.ntmps233, List.size_toArray, List.length_cons, List.length_nil, Nat.reduceAdd, Nat.reduceSub, Array.replicate_succ, Array.replicate_zero, List.push_toArray, List.append_toArray, List.nil_append, List.cons_append]
  gi_wp2
  have bO := Boxed.new w 244 (.slice none 0 0)
  have hB0 : Below w.heap.size w (w.alloc (.cells #[.slice none 0 0] 244)) := (Below.refl _ w).alloc (Nat.le_refl _) _
  refine wpIn_rangeFunc_ownG hro h1 (gf := g) (lb := lb) rfl hg eg (show SeqStopsK F (n - 1) Tryz.prog g lb (fun x : Int => #[encZ x]) KeepsWalks S Sp N w from hseq) walksK_t walksK_b hB0 (fun _ => rfl)
    (fun pre W => (∃ v, Boxed W w.heap.size 244 v ∧ W.ownsRow w.heap.size 3 1 v pre.length (pre.map encZ) ∧ (v = .slice none 0 0 ↔ pre = [])) ∧ Below w.heap.size w W)
    (fun _ _ _ => False)
    (OwnFrom.and (Own.from (holdsRow_own w.heap.size w.heap.size 244 3 1 (fun pre => pre.length) (fun pre => pre.map encZ) (fun pre v => v = .slice none 0 0 ↔ pre = [])) _) (ownFrom_below (Nat.le_refl _) (by simp)))
    (fun _ _ _ _ _ hs _ _ => hs)
    ⟨⟨_, bO, World.ownsRow_nil _ _ _ _, by simp⟩, hB0⟩
    (fun x => { tmps := #[.slice none 0 0, .func (.func g) #[] lb, .pointer (some ⟨w.heap.size, 0, none⟩), undef, .slice none 0 0, encZ x, .func (.func g) #[] lb, encZ x, undef, undef, undef, undef, undef], defers := [] }) ?assign ?body ?done ?stop
  case assign =>
    intro l x W K hK
    gi_wp2
    exact hK
  case body =>
    rintro l pre x W ⟨⟨v, hv, hrow, hnil⟩, hB⟩ hlt
    have hc := hv.cell
    gi_wp2_with (gi_at_builtin; refine wpListIn_append_own _ rfl _ _ 244 rfl w.heap.size 3 i0 (.int .i64 0) 1 8 Tryz.underlying244 hi hz0 hz1 hz2 rfl (by decide) _ _ _ rfl (hrow.alloc _) ⟨W.heap.size, 0, none⟩ 1 1 [encZ x] rfl rfl (cell_one_new _ _ _) (by simp [Value.oneCell']) (by omega) (by omega) (by have := hB.size; simp; omega) ?_; intro v' w1 hown' hgrow _; obtain ⟨g', cap', rfl⟩ := ownsRow_succ hown'; obtain ⟨hv1, hv2, hr2, hk2, hb2⟩ := hv.appended (by decide) hrow hB.size (Nat.le_refl _) hown' hgrow; have hc1 := hv1.cell; have hf1 := hv1.frozen)
    exact ⟨hk2.from _, hk2.walks, ⟨_, hv2, by simpa using hr2, by simp⟩, hB.trans hb2⟩
  case done =>
    rintro D ys W hD hS ⟨⟨v, hv, hrow, hnil⟩, hB⟩ hK
    have hc := hv.cell
    gi_wp2
    refine ⟨by simp, .inl ⟨_, _, rfl, run_takeDeferred hK, ?_⟩⟩
    exact ⟨_, results_tmp rfl _ _ _, v, ys, rfl, hS, ownsRow_putObj hrow _ hK rfl, hnil, hB.trans (belowK_b (w := w) (Nat.le_refl _) W D _ _ (by simp at hD; omega) hK rfl rfl)⟩
  case stop =>
    rintro D c pre W _ _ h _
    exact h.elim
end Go.Proofs.YtifokhheojnipaaGreatDoor
namespace Go.Q18
open Go.RowKit Go.SL
theorem ienc_map (l : List Int) : l.map (Value.int .i64) = l.flatMap ienc := by
  induction l with
  | nil => rfl
  | cons a l ih => rw [List.map_cons, List.flatMap_cons, ih]; rfl
end Go.Q18
namespace Go.Proofs.YtifokhheojnipaaGreatDoor
open Go.RowKit Go.Maps Go.Sort Go.Shelf
set_option maxRecDepth 100000 in
set_option maxHeartbeats 1000000 in
theorem keys1S_in {H : Type} (F : Fence) (n : Nat) (h62 : F.fn 211) (hro : F.round = none) (hn : 1 ≤ n) (l Bm b nn : Nat) (D0 : DataW H) {R : Value → Option (DataW H × List MemPlace)} (J Jx : List Int → World → Prop)
    (hY : ∀ pre x W, J pre W → pre.length < Maps.size D0 → YieldAt F (n - 1) Tryz.prog l #[encZ x] W fun e W' =>
      (e = .returned (.bool true) ∧ J (pre ++ [x]) W' ∧ KeepsWalks W W') ∨ (e = .returned (.bool false) ∧ Jx (pre ++ [x]) W'))
    (W : World) (hJ : AbidesFrom W.heap.size J) (hm : W.cell? ⟨Bm, 0, none⟩ = some (.map (some b))) (hown : W.ownsMap Tryz.prog 3 R b nn D0) (h0 : J [] W) :
    CallsIn F n Tryz.prog 211 #[.func (.yield l) #[] #[], .pointer (some ⟨Bm, 0, none⟩)] W fun e W' => (∃ v, e = .returned v) ∧
      ((∃ ss : List Int, (ss.Perm (intKeys D0) ∧ ∀ x, x ∈ ss ↔ has D0 (.int .i64 x) = true) ∧ J ss W') ∨ (∃ pre : List Int, (pre.Nodup ∧ ∀ x ∈ pre, has D0 (.int .i64 x) = true) ∧ Jx pre W')) := by
  refine callsIn_of_wp Tryz.func211 rfl h62 ?_ hro
  simp only [Tryz.ntmps211, List.size_toArray, List.length_cons, List.length_nil, Nat.reduceAdd, Nat.reduceSub, Array.replicate_succ, Array.replicate_zero, List.push_toArray, List.append_toArray, List.nil_append, List.cons_append]
  gi_wp2_with (first
    | (gi_at_range; refine wpListIn_range_own _ rfl _ 174 rfl 3 140 (int_keyed Tryz.underlying3) Tryz.underlying174 _ b nn _ rfl hown ?_; intro w0 hrg0 hg0 hs0)
    | gi_in)
  go_frame
  gi_loopw [3] (fun _ wr => ∃ (left : Lit → Bool) (cnt : Nat) (ss : List Int), wr.ranges Tryz.prog 3 R b W.heap.size nn D0 left cnt ∧ ss.length + cnt ≤ Maps.size D0 ∧ CollectedI D0 left ss ∧ J ss wr)
    (fun _ wr => wr.rangeLeft b W.heap.size)
  case atStart =>
    exact ⟨_, _, [], hrg0, by simp, CollectedI.start D0, hJ [] W w0 none h0 hg0 (fun r e => by cases e)⟩
  case round =>
    obtain ⟨left, cnt, ss, hrg, hcs, hC, hJs⟩ := hrel
    gi_wp2_with (first
      | (gi_at_next; refine wpListIn_next_ranges _ rfl _ rfl 3 (int_keyed Tryz.underlying3) R encZ id (fun key kl hk => by obtain ⟨x, hx, _⟩ := Maps.keyOf_i64 Tryz.underlying3 hk; exact ⟨x, hx⟩) (fun v _ _ => ⟨v, rfl⟩) b W.heap.size nn _ _ _ rfl hrg ?_ ?_)
      | gi_in)
    · -- NOTHING IS LEFT
      intro hc0 hl0
      gi_wp2
      go_end0
      exact ⟨⟨_, rfl⟩, .inl ⟨ss, ⟨hC.perm hown (int_keyed Tryz.underlying3) Tryz.underlying3 hl0, fun x => by rw [hC.2 x, hl0]; simp⟩, hJs⟩⟩
    · -- AN ENTRY HAS COME: yield(k)
      intro x c kl yd yp w2 cnt2 hkey hlk hv hat hrg2 hlt hg2 hs2 hen
      obtain ⟨x', ex, rfl, _⟩ := Maps.keyOf_i64 Tryz.underlying3 hkey
      obtain rfl : x = x' := encZ_inj ex
      have hJ2 : J ss w2 := hJ ss wr w2 (some W.heap.size) hJs hg2 (fun r e => by cases e; exact ⟨Nat.le_refl _, hrg.iter_walk⟩)
      obtain ⟨fn, tmps, assign, body, hy, hR⟩ := hY ss x w2 hJ2 (by omega)
      clear hs2
      gi_wp2
      refine hR.mono ?_
      have hC2 := hC.step hlk hat
      rintro e W3 (⟨rfl, hJ3, hk3⟩ | ⟨rfl, hJx3⟩)
      · gi_wp2
        have hrg3 := hrg2.of_walks hk3
        go_roundw
        case rel => exact ⟨_, cnt2, ss ++ [x], hrg3, by simp; omega, hC2, hJ3⟩
        case measure => rw [hrg3.left_eq, hrg.left_eq]; exact hlt
      · -- THE ROUND HAS SAID 'NO MORE': 'if !yield(k) { return }'
        gi_wp2
        refine bodyPost_ret (results_none rfl _ _ _) rfl ?_
        exact ⟨⟨_, rfl⟩, .inr ⟨ss ++ [x], ⟨hC2.1, fun y hy => ((hC2.2 y).1 hy).1⟩, hJx3⟩⟩



theorem keys_stops {H : Type} (F : Fence) (n : Nat) (h62 : F.fn 211) (hro : F.round = none) (hn : 1 ≤ n) (Bm b nn : Nat) (D0 : DataW H) {R : Value → Option (DataW H × List MemPlace)} (w : World) (hBm : Bm < w.heap.size)
    (hm : w.cell? ⟨Bm, 0, none⟩ = some (.map (some b))) (hown : w.ownsMap Tryz.prog 3 R b nn D0) :
    SeqStops F n Tryz.prog 211 #[.pointer (some ⟨Bm, 0, none⟩)] encZ (fun ss => ss.Perm (intKeys D0) ∧ ∀ x, x ∈ ss ↔ has D0 (.int .i64 x) = true) (fun pre => pre.Nodup ∧ ∀ x ∈ pre, has D0 (.int .i64 x) = true) (Maps.size D0) w := fun l J Jx W hW hJ _ hY h0 => by
  have hown' : W.ownsMap Tryz.prog 3 R b nn D0 := by
    have hbl := hown.lt
    obtain ⟨es, clock, hb, Ft, hs, hD⟩ := hown
    exact ⟨es, clock, (hW.block b hbl).trans hb, Ft, hs, hD⟩
  exact keys1S_in F n h62 hro hn l Bm b nn D0 J Jx hY W hJ ((hW.cell (p := ⟨Bm, 0, none⟩) hBm).trans hm) hown' h0

end Go.Proofs.YtifokhheojnipaaGreatDoor
namespace Go.Proofs.YtifokhheojnipaaGreatDoor
open Go.RowKit Go.Maps Go.Sort Go.Shelf Go.SL Go.Q18
def R0 (H : Type) : Value → Option (DataW H × List MemPlace) := fun _ => some (.lit (.bool false), [])
def kI : Value → Int
  | .int _ n => n
  | _ => 0
theorem wf_of {k : Int} (h : I64 k) : (Lit.int .i64 k).wf = true := by
  unfold I64 at h
  simp [Lit.wf, IntKind.min, IntKind.max, IntKind.bits, IntKind.signed]
  omega
set_option maxRecDepth 100000 in
theorem ownsKs {p : Pers} {w : World} {R : List Assn} {b : Nat} {ks : List (Int × Value)} (hl : ks.length ≤ maxLen) (hk : ∀ q ∈ ks, I64 q.1) (s : St p w (MapI b ks :: R)) :
    ∃ D0 : DataW Unit, w.ownsMap Tryz.prog 3 (R0 Unit) b ks.length D0 ∧ (intKeys D0).Perm (ks.map (·.1)) ∧ Maps.size D0 = ks.length := by
  obtain ⟨es, cl, s2, he, hst⟩ := s.mapOpen
  have hes : es.size = ks.length := by have := congrArg List.length he; simpa using this
  have hrd : ∀ (x : MapEntry) (q : Int × Value), q ∈ ks → x.key = Value.int .i64 q.1 → Go.WideElems.rd Tryz.prog 3 (R0 Unit) x = some (.int .i64 q.1, .lit (.bool false)) := fun x q hq e => by
    unfold Go.WideElems.rd
    rw [e, Maps.keyOf_int_mk Tryz.underlying3 (wf_of (hk q hq))]; rfl
  have hall : ∀ x ∈ es.toList, ∃ q ∈ ks, x.key = Value.int .i64 q.1 := fun x hx => by
    have : (x.key, x.val) ∈ es.toList.map (fun e => (e.key, e.val)) := List.mem_map.2 ⟨x, hx, rfl⟩
    rw [he] at this
    obtain ⟨q, hq, e⟩ := List.mem_map.1 this
    exact ⟨q, hq, (Prod.mk.inj e).1.symm⟩
  refine ⟨_, ⟨es, cl, s2.block, ⟨by omega, hst, fun x hx => ?_⟩, by omega, rfl⟩, ?_, ?_⟩
  · obtain ⟨q, hq, e⟩ := hall x hx
    exact ⟨_, hrd x q hq e⟩
  · refine List.Perm.trans ((Go.WideShapes.sorted_perm _).map _) ?_
    have h3 := congrArg (List.map fun z : Value × Value => kI z.1) he
    rw [List.map_map, List.map_map] at h3
    rw [List.map_map]
    refine List.Perm.of_eq (Eq.trans (List.map_congr_left fun x hx => ?_) (Eq.trans h3 (List.map_congr_left fun q _ => rfl)))
    obtain ⟨q, hq, e⟩ := hall x hx
    have h4 := Go.WideElems.rg_of (hrd x q hq e)
    simp only [Function.comp]
    rw [h4, e]; rfl
  · show ((es.toList.map (Go.WideElems.rg Tryz.prog 3 (R0 Unit))).foldr DataW.insert []).length = _
    rw [(Go.WideShapes.sorted_perm _).length_eq]; simpa using hes
theorem freshIn {p : Pers} {w w' : World} {H : List Assn} {g : Nat} {o : Obj} (s : St p w H) (hb : Below w.heap.size w w') (hg : w.heap.size ≤ g) (ho : w'.heap[g]? = some o) : St p w' (pt g o :: H) := by
  obtain ⟨h, ha, dp, r, r1, r2, r3⟩ := s
  have hn : uni p.h h g = none := by
    cases e : uni p.h h g with
    | none => rfl
    | some q => have := (Array.getElem?_eq_some_iff.1 (r _ _ e)).1; omega
  have hp : p.h g = none ∧ h g = none := by simpa [uni] using hn
  refine ⟨uni (fun k => if k = g then some o else none) h, ⟨_, h, ?_, rfl, rfl, ha⟩, disj_uni.2 ⟨?_, dp⟩, ?_, hb.os.trans r1, hb.tape.trans r2, hb.output.trans r3⟩
  · intro k; by_cases e : k = g
    · subst e; exact .inr hp.2
    · simp [e]
  · intro k; by_cases e : k = g
    · subst e; exact .inl hp.1
    · simp [e]
  · intro k q hk
    by_cases e : k = g
    · subst e
      have : q = o := by
        simp [uni, hp.1] at hk; exact hk.symm
      subst this; exact ho
    · have hk2 : uni p.h h k = some q := by
        simp only [uni] at hk ⊢
        simpa [e] using hk
      have h1 := r k q hk2
      rw [hb.block k (Array.getElem?_eq_some_iff.1 h1).1]; exact h1
theorem ofBelow {p : Pers} {w w' : World} {H : List Assn} (s : St p w H) (hb : Below w.heap.size w w') : St p w' H := by
  obtain ⟨h, ha, dp, r, r1, r2, r3⟩ := s
  refine ⟨h, ha, dp, fun k o hk => ?_, hb.os.trans r1, hb.tape.trans r2, hb.output.trans r3⟩
  have h1 := r k o hk
  rw [hb.block k (Array.getElem?_eq_some_iff.1 h1).1]; exact h1
theorem rowIn {p : Pers} {w w' : World} {H : List Assn} {v : Value} {n : Nat} {xs : List Value} (s : St p w H) (hb : Below w.heap.size w w') (hr : w'.ownsRow w.heap.size 3 1 v n xs) : St p w' (SL.Own 3 1 v n xs :: H) := by
  obtain ⟨hl, ⟨rfl, rfl⟩ | ⟨g, cap, cur, rfl, hg, ho, h1, h2, h3, h4⟩⟩ := hr
  · have : xs = [] := List.eq_nil_of_length_eq_zero (by omega)
    subst this
    exact (ofBelow s hb).ownNil none
  · exact (freshIn s hb hg ho).ownNew h1 h2 (Nat.le_of_eq h3.symm) h4
theorem ks_AppendSeq {p : Pers} {w : World} {R : List Assn} {b Bm : Nat} {ks : List (Int × Value)} (hl : ks.length ≤ 12) (hk : ∀ q ∈ ks, I64 q.1) (hst : St p w (pt Bm (.cells #[.map (some b)] 174) :: MapI b ks :: R)) :
    Calls Tryz.prog 233 #[.slice none 0 0, .func (.func 211) #[] #[.pointer (some ⟨Bm, 0, none⟩)]] w fun e w' => ∃ (v : Value) (xs : List Int), e = .returned v ∧ xs.Perm (ks.map (·.1)) ∧ St p w' (SL.Own 3 1 v xs.length (xs.flatMap ienc) :: pt Bm (.cells #[.map (some b)] 174) :: MapI b ks :: R) := by
  obtain ⟨D0, hown, hperm, hsz⟩ := ownsKs (by simp only [maxLen]; omega) hk hst.swap
  have hm : w.cell? ⟨Bm, 0, none⟩ = some (.map (some b)) := St.cell hst .here rfl
  have hBm : Bm < w.heap.size := (Array.getElem?_eq_some_iff.1 hst.block).1
  refine Calls.mono ((callsIn_wide (n := 6)).1 (appendSeq_in Fence.wide 6 trivial 211 trivial rfl (by omega) _ (enters_of Tryz.func211 (by kernel_rfl) rfl) _ _ (Maps.size D0) (by rw [hsz]; simp only [maxLen]; omega) (by omega) w (keys_stops Fence.wide 5 trivial rfl (by omega) Bm b _ D0 w hBm hm hown))) ?_
  rintro e w' ⟨v, xs, rfl, hS, hrow, hnil, hb⟩
  exact ⟨v, xs, rfl, hS.1.trans hperm, by rw [← ienc_map]; exact rowIn hst hb hrow⟩
end Go.Proofs.YtifokhheojnipaaGreatDoor
namespace Go.Proofs.YtifokhheojnipaaGreatDoor
open Go.RowKit Go.SL Go.Q18
attribute [local irreducible] Go.SL.RW Go.SL.CW Go.SL.RD Go.SL.Hd Go.SL.St
theorem nm233 : (Tryz.f233.name == "runtime.NumGoroutine") = false := by kernel_rfl

theorem ks_Collect {p : Pers} {w : World} {R : List Assn} {b Bm : Nat} {ks : List (Int × Value)} (hl : ks.length ≤ 12) (hk : ∀ q ∈ ks, I64 q.1) (hst : St p w (pt Bm (.cells #[.map (some b)] 174) :: MapI b ks :: R)) :
    Calls Tryz.prog 209 #[.func (.func 211) #[] #[.pointer (some ⟨Bm, 0, none⟩)]] w fun e w' => ∃ (v : Value) (xs : List Int), e = .returned v ∧ xs.Perm (ks.map (·.1)) ∧ St p w' (SL.Own 3 1 v xs.length (xs.flatMap ienc) :: pt Bm (.cells #[.map (some b)] 174) :: MapI b ks :: R) := by
  refine enter Tryz.func209 rfl (by simp) (n := 5) rfl fun τ hτ => ?_
  have hs0 : τ 0 = .func (.func 211) #[] #[.pointer (some ⟨Bm, 0, none⟩)] := hτ 0 (by simp)
  clear hτ
  refine CW.seq ?_
  refine CW.region ?_
  refine RW.soft Wd.a (v := .slice none 0 0) (by exact E.assign rfl) ?_
  refine RW.fin (fun τ => τ 0 = .func (.func 211) #[] #[.pointer (some ⟨Bm, 0, none⟩)] ∧ τ 2 = .slice none 0 0) ⟨up rfl hs0, tp⟩ ?_
  rintro τ ⟨hs0, hs2⟩
  refine CW.seq ?_
  refine CW.region ?_
  refine RW.soft Wd.a (v := .func (.func 211) #[] #[.pointer (some ⟨Bm, 0, none⟩)]) (by exact E.move (AF_ev rfl hs0)) ?_
  refine RW.hard Wd.a ?_
  refine H.call0 Tryz.func233 nm233 rfl (map2 rfl (AF_ev rfl tp)) (Calls.mono (ks_AppendSeq hl hk hst) ?_)
  rintro _ w ⟨vX1, xs, rfl, hPm, hst⟩
  obtain ⟨X1, c2, heX1, hcX1, hmX1, hlX1, hbX1⟩ := hst.shape
  subst heX1
  have hxl : xs.length = ks.length := by rw [hPm.length_eq, List.length_map]
  refine ⟨_, rfl, ?_⟩
  show RW _ _ _ _ _ _ _
  refine RW.soft Wd.a (v := .slice X1 xs.length c2) (by exact E.assign (AF_ev rfl tp)) ?_
  refine RW.fin (fun τ => τ 0 = .func (.func 211) #[] #[.pointer (some ⟨Bm, 0, none⟩)] ∧ τ 2 = .slice X1 xs.length c2) ⟨up rfl (up rfl (up rfl hs0)), tp⟩ ?_
  rintro τ ⟨hs0, hs2⟩
  refine CW.ret ?_
  refine ret1 (v := .slice X1 xs.length c2) rfl (by exact (.tmp (AF_ev rfl hs2) .nil)) ?_
  have hst := hst.take (.there (.there .here))
  have hst := hst.take (.there (.there .here))
  have hst := hst.take (.there (.there .here))
  exact ⟨_, xs, rfl, hPm, hst⟩

theorem nm210 : (Tryz.f210.name == "runtime.NumGoroutine") = false := by kernel_rfl
theorem nm209 : (Tryz.f209.name == "runtime.NumGoroutine") = false := by kernel_rfl
theorem nm234 : (Tryz.f234.name == "runtime.NumGoroutine") = false := by kernel_rfl
theorem nm190 : (Tryz.f190.name == "runtime.NumGoroutine") = false := by kernel_rfl
theorem nm208 : (Tryz.f208.name == "runtime.NumGoroutine") = false := by kernel_rfl

def tab8 : ByteArray := { data := (([0, 1, 2, 2, 3, 3, 3, 3, 4, 4, 4, 4, 4, 4, 4, 4, 5, 5, 5, 5, 5, 5, 5, 5, 5, 5, 5, 5, 5, 5, 5, 5, 6, 6, 6, 6, 6, 6, 6, 6, 6, 6, 6, 6, 6, 6, 6, 6, 6, 6, 6, 6, 6, 6, 6, 6, 6, 6, 6, 6, 6, 6, 6, 6].append [7, 7, 7, 7, 7, 7, 7, 7, 7, 7, 7, 7, 7, 7, 7, 7, 7, 7, 7, 7, 7, 7, 7, 7, 7, 7, 7, 7, 7, 7, 7, 7, 7, 7, 7, 7, 7, 7, 7, 7, 7, 7, 7, 7, 7, 7, 7, 7, 7, 7, 7, 7, 7, 7, 7, 7, 7, 7, 7, 7, 7, 7, 7, 7]).append ([8, 8, 8, 8, 8, 8, 8, 8, 8, 8, 8, 8, 8, 8, 8, 8, 8, 8, 8, 8, 8, 8, 8, 8, 8, 8, 8, 8, 8, 8, 8, 8, 8, 8, 8, 8, 8, 8, 8, 8, 8, 8, 8, 8, 8, 8, 8, 8, 8, 8, 8, 8, 8, 8, 8, 8, 8, 8, 8, 8, 8, 8, 8, 8].append [8, 8, 8, 8, 8, 8, 8, 8, 8, 8, 8, 8, 8, 8, 8, 8, 8, 8, 8, 8, 8, 8, 8, 8, 8, 8, 8, 8, 8, 8, 8, 8, 8, 8, 8, 8, 8, 8, 8, 8, 8, 8, 8, 8, 8, 8, 8, 8, 8, 8, 8, 8, 8, 8, 8, 8, 8, 8, 8, 8, 8, 8, 8, 8])).toArray }
theorem tab8_size : tab8.size = 256 := by kernel_rfl

theorem q_Len64 {p : Pers} {w : World} {R : List Assn} (m : Nat) (hm : m ≤ 12) (hst : St p w (R)) :
    Calls Tryz.prog 208 #[.int .u64 ((m : Nat) : Int)] w fun e w => ∃ r : Int, e = .returned (.int .i64 r) ∧ St p w R := by
  refine enter Tryz.func208 rfl (by simp) (n := 25) rfl fun τ hτ => ?_
  have hs0 : τ 0 = .int .u64 ((m : Nat) : Int) := hτ 0 (by simp)
  clear hτ
  refine CW.seq ?_
  refine CW.region ?_
  refine RW.soft Wd.a (v := .int .i64 0) (by exact E.assign rfl) ?_
  refine RW.fin (fun τ => τ 0 = .int .u64 ((m : Nat) : Int) ∧ τ 2 = .int .i64 0) ⟨up rfl hs0, tp⟩ ?_
  rintro τ ⟨hs0, hs2⟩
  refine CW.seq ?_
  refine CW.seq ?_
  refine CW.region ?_
  refine RW.soft Wd.a (v := .int .u64 ((m : Nat) : Int)) (by exact E.move (AF_ev rfl hs0)) ?_
  refine RW.soft Wd.a (v := .bool false) (by exact E.b (a := decide (((m : Nat) : Int) ≥ 4294967296)) (E.geq (k := .u64) (a := ((m : Nat) : Int)) (b := 4294967296) (AF_ev rfl tp) rfl) (decide_eq_false (by omega))) ?_
  refine RW.fin (fun τ => τ 0 = .int .u64 ((m : Nat) : Int) ∧ τ 2 = .int .i64 0 ∧ τ 4 = .bool false) ⟨up rfl (up rfl hs0), up rfl (up rfl hs2), tp⟩ ?_
  rintro τ ⟨hs0, hs2, hs4⟩
  refine CW.condF (AF_ev rfl hs4) ?_
  refine CW.skip ?_
  refine Th.n ?_
  refine CW.seq ?_
  refine CW.seq ?_
  refine CW.region ?_
  refine RW.soft Wd.a (v := .int .u64 ((m : Nat) : Int)) (by exact E.move (AF_ev rfl hs0)) ?_
  refine RW.soft Wd.a (v := .bool false) (by exact E.b (a := decide (((m : Nat) : Int) ≥ 65536)) (E.geq (k := .u64) (a := ((m : Nat) : Int)) (b := 65536) (AF_ev rfl tp) rfl) (decide_eq_false (by omega))) ?_
  refine RW.fin (fun τ => τ 0 = .int .u64 ((m : Nat) : Int) ∧ τ 2 = .int .i64 0 ∧ τ 4 = .bool false ∧ τ 8 = .bool false) ⟨up rfl (up rfl hs0), up rfl (up rfl hs2), up rfl (up rfl hs4), tp⟩ ?_
  rintro τ ⟨hs0, hs2, hs4, hs8⟩
  refine CW.condF (AF_ev rfl hs8) ?_
  refine CW.skip ?_
  refine Th.n ?_
  refine CW.seq ?_
  refine CW.seq ?_
  refine CW.region ?_
  refine RW.soft Wd.a (v := .int .u64 ((m : Nat) : Int)) (by exact E.move (AF_ev rfl hs0)) ?_
  refine RW.soft Wd.a (v := .bool false) (by exact E.b (a := decide (((m : Nat) : Int) ≥ 256)) (E.geq (k := .u64) (a := ((m : Nat) : Int)) (b := 256) (AF_ev rfl tp) rfl) (decide_eq_false (by omega))) ?_
  refine RW.fin (fun τ => τ 0 = .int .u64 ((m : Nat) : Int) ∧ τ 2 = .int .i64 0 ∧ τ 4 = .bool false ∧ τ 8 = .bool false ∧ τ 14 = .bool false) ⟨up rfl (up rfl hs0), up rfl (up rfl hs2), up rfl (up rfl hs4), up rfl (up rfl hs8), tp⟩ ?_
  rintro τ ⟨hs0, hs2, hs4, hs8, hs14⟩
  refine CW.condF (AF_ev rfl hs14) ?_
  refine CW.skip ?_
  refine Th.n ?_
  refine CW.seq ?_
  refine CW.region ?_
  refine RW.soft Wd.a (v := .int .i64 0) (by exact E.move (AF_ev rfl hs2)) ?_
  refine RW.soft Wd.a (v := .int .u64 ((m : Nat) : Int)) (by exact E.move (AF_ev rfl (up rfl hs0))) ?_
  refine RW.soft Wd.a (v := .int .u8 ((m : Nat) : Int)) (by exact E.convInt (a := ((m : Nat) : Int)) (by rw [Tryz.underlying224]; rfl) Tryz.underlying5 (AF_ev rfl tp) (show IntKind.u8.wrap (((m : Nat) : Int)) = ((m : Nat) : Int) from (by rw [IntWalk.u8_in _ (by omega)]))) ?_
  have hbl_ := byteAt_le tab8 ((m : Nat) : Int)
  refine RW.soft Wd.a (v := .int .u8 (byteAt tab8 ((m : Nat) : Int))) (by exact E.indexS (s := tab8) (i := ((m : Nat) : Int)) Tryz.underlying9 rfl (AF_ev rfl tp) (by omega) (by rw [tab8_size]; omega)) ?_
  refine RW.soft Wd.a (v := .int .i64 (byteAt tab8 ((m : Nat) : Int))) (by exact E.convInt (a := byteAt tab8 ((m : Nat) : Int)) (by rw [Tryz.underlying5]; rfl) Tryz.underlying3 (AF_ev rfl tp) (show IntKind.i64.wrap (byteAt tab8 ((m : Nat) : Int)) = byteAt tab8 ((m : Nat) : Int) from (by rw [IntWalk.i64_in _ (by omega)]))) ?_
  refine RW.soft Wd.a (v := .int .i64 (byteAt tab8 ((m : Nat) : Int))) (by exact E.add (k := .i64) (a := 0) (b := byteAt tab8 ((m : Nat) : Int)) (AF_ev rfl (up rfl (up rfl (up rfl (up rfl tp))))) (AF_ev rfl tp) (show IntKind.i64.wrap (0 + (byteAt tab8 ((m : Nat) : Int))) = byteAt tab8 ((m : Nat) : Int) from (by rw [IntWalk.i64_in _ (by omega)] <;> omega))) ?_
  refine RW.soft Wd.a (v := .int .i64 (byteAt tab8 ((m : Nat) : Int))) (by exact E.assign (AF_ev rfl tp)) ?_
  refine RW.fin (fun τ => τ 0 = .int .u64 ((m : Nat) : Int) ∧ τ 2 = .int .i64 (byteAt tab8 ((m : Nat) : Int)) ∧ τ 4 = .bool false ∧ τ 8 = .bool false ∧ τ 14 = .bool false) ⟨up rfl (up rfl (up rfl (up rfl (up rfl (up rfl (up rfl hs0)))))), tp, up rfl (up rfl (up rfl (up rfl (up rfl (up rfl (up rfl hs4)))))), up rfl (up rfl (up rfl (up rfl (up rfl (up rfl (up rfl hs8)))))), up rfl (up rfl (up rfl (up rfl (up rfl (up rfl (up rfl hs14))))))⟩ ?_
  rintro τ ⟨hs0, hs2, hs4, hs8, hs14⟩
  refine CW.ret ?_
  refine ret1 (v := .int .i64 (byteAt tab8 ((m : Nat) : Int))) rfl (by exact (.tmp (AF_ev rfl hs2) .nil)) ?_
  exact ⟨_, rfl, hst⟩

theorem q_Len {p : Pers} {w : World} {R : List Assn} (m : Nat) (hm : m ≤ 12) (hst : St p w (R)) :
    Calls Tryz.prog 190 #[.int .u64 ((m : Nat) : Int)] w fun e w => ∃ r : Int, e = .returned (.int .i64 r) ∧ St p w R := by
  refine enter Tryz.func190 rfl (by simp) (n := 8) rfl fun τ hτ => ?_
  have hs0 : τ 0 = .int .u64 ((m : Nat) : Int) := hτ 0 (by simp)
  clear hτ
  refine CW.seq ?_
  refine CW.region ?_
  refine RW.soft Wd.a (v := .int .i64 0) (by exact E.assign rfl) ?_
  refine RW.fin (fun τ => τ 0 = .int .u64 ((m : Nat) : Int) ∧ τ 2 = .int .i64 0) ⟨up rfl hs0, tp⟩ ?_
  rintro τ ⟨hs0, hs2⟩
  refine CW.seq ?_
  refine CW.condF rfl ?_
  refine CW.skip ?_
  refine Th.n ?_
  refine CW.seq ?_
  refine CW.region ?_
  refine RW.soft Wd.a (v := .int .u64 ((m : Nat) : Int)) (by exact E.move (AF_ev rfl hs0)) ?_
  refine RW.hard Wd.a ?_
  refine H.call0 Tryz.func208 nm208 rfl (map1 (AF_ev rfl tp)) (Calls.mono (q_Len64 m hm hst) ?_)
  rintro _ w ⟨r, rfl, hst⟩
  refine ⟨_, rfl, ?_⟩
  show RW _ _ _ _ _ _ _
  refine RW.soft Wd.a (v := .int .i64 r) (by exact E.assign (AF_ev rfl tp)) ?_
  refine RW.fin (fun τ => τ 0 = .int .u64 ((m : Nat) : Int) ∧ τ 2 = .int .i64 r) ⟨up rfl (up rfl (up rfl hs0)), tp⟩ ?_
  rintro τ ⟨hs0, hs2⟩
  refine CW.ret ?_
  refine ret1 (v := .int .i64 r) rfl (by exact (.tmp (AF_ev rfl hs2) .nil)) ?_
  exact ⟨_, rfl, hst⟩

theorem nm244 : (Tryz.f244.name == "runtime.NumGoroutine") = false := by kernel_rfl

end Go.Proofs.YtifokhheojnipaaGreatDoor
namespace Go.SL
open Go.RowKit
theorem RD.skip {P : Program} {n : Nat} {ops : Array Oper} {soft : List Nat} {S : World → Prop} {Q : Exit → Fr → World → Prop} {f : Nat} {listed : Array Bool} {τ : Fr} {w : World} (i : Nat) {oi : Oper} (hi : ops[i]? = some oi) (hc : Region.ready .any ops listed = [i]) (hw : Wd n ops oi τ false) (hS : S w)
    (h : RD P n ops soft S Q f (listed.setIfInBounds i true) (upo τ oi.dst undef) w) : RD P n ops soft S Q (f + 1) listed τ w := by
  unfold RD wpC
  refine ⟨fun h => (by rw [hc] at h; cases h), fun j hj => ?_⟩
  rw [hc] at hj
  obtain rfl : j = i := by simpa using hj
  unfold wpOp
  simp only [hi]
  rw [if_neg (by rw [show Region.wanted oi (yielded ops (AF n τ).tmps) = false from hw]; decide)]
  refine ⟨fun _ => hS, ?_⟩
  rw [AF_put]; exact h
end Go.SL
namespace Go.Q18
open Go.RowKit Go.SL
structure Sink (zs : List Int) (i j : Nat) (A B C : List Int) (x : Int) : Prop where
  perm : (A ++ x :: (B ++ C)).Perm zs
  len : A.length = j
  rise : (A ++ B).Pairwise (· ≤ ·)
  low : ∀ y ∈ B, x ≤ y
  sum : A.length + B.length = i
theorem Sink.start {zs L : List Int} {i : Nat} {x : Int} (hp : L.Perm zs) (hs : (L.take i).Pairwise (· ≤ ·)) (hx : L[i]? = some x) : Sink zs i i (L.take i) [] (L.drop (i + 1)) x ∧ L = L.take i ++ x :: ([] ++ L.drop (i + 1)) := by
  obtain ⟨hi, _⟩ := List.getElem?_eq_some_iff.1 hx
  have hc := cut_at hx
  have hl : (L.take i).length = i := by rw [List.length_take]; omega
  exact ⟨⟨by rw [List.nil_append, ← hc]; exact hp, hl, by simpa using hs, by simp, by simp [hl]⟩, hc⟩
theorem ienc_len (n : Int) : (ienc n).length = 1 := rfl
theorem last_of {A : List Int} (h : 0 < A.length) : ∃ A' y, A = A' ++ [y] :=
  ⟨A.dropLast, A.getLast (List.length_pos_iff.1 h), (List.dropLast_concat_getLast _).symm⟩
theorem mid_x {A D : List Int} {x : Int} {j : Nat} (hA : A.length = j) : (A ++ x :: D)[j]? = some x := by
  subst hA; simp
theorem mid_y {A' D : List Int} {x y : Int} {j : Nat} (hA : (A' ++ [y]).length = j) : (A' ++ [y] ++ x :: D)[(((j : Nat) : Int) - 1).toNat]? = some y := by
  subst hA
  have : ((((A' ++ [y]).length : Nat) : Int) - 1).toNat = A'.length := by simp
  rw [this]; simp
end Go.Q18
namespace Go.Proofs.YtifokhheojnipaaGreatDoor
open Go.RowKit Go.SL Go.Q18
attribute [local irreducible] Go.SL.RW Go.SL.CW Go.SL.RD Go.SL.Hd Go.SL.St
theorem mixed : Tryz.prog.follows .mixedOrders = true := by kernel_rfl
theorem nm250 : (Tryz.f250.name == "runtime.NumGoroutine") = false := by kernel_rfl
theorem one_rises {zs : List Int} (h : 0 < zs.length) : (zs.take 1).Pairwise (· ≤ ·) := by
  match zs, h with
  | a :: r, _ => simp

theorem nm266 : (Tryz.f266.name == "runtime.NumGoroutine") = false := by kernel_rfl

theorem q_nan80 {p : Pers} {w : World} {R : List Assn} (x : Int) (hst : St p w (R)) :
    Calls Tryz.prog 266 #[.int .i64 x] w fun e w => e = .returned (.bool false) ∧ St p w R := by
  refine enter Tryz.func266 rfl (by simp) (n := 6) rfl fun τ hτ => ?_
  have hs0 : τ 0 = .int .i64 x := hτ 0 (by simp)
  clear hτ
  refine CW.seq ?_
  refine CW.region ?_
  refine RW.soft Wd.a (v := .bool false) (by exact E.assign rfl) ?_
  refine RW.fin (fun τ => τ 0 = .int .i64 x ∧ τ 2 = .bool false) ⟨up rfl hs0, tp⟩ ?_
  rintro τ ⟨hs0, hs2⟩
  refine CW.seq ?_
  refine CW.region ?_
  refine RW.soft Wd.a (v := .int .i64 x) (by exact E.move (AF_ev rfl hs0)) ?_
  refine RW.soft Wd.a (v := .int .i64 x) (by exact E.move (AF_ev rfl (up rfl hs0))) ?_
  refine RW.soft Wd.a (v := .bool false) (by exact E.b (a := x != x) (E.neq (k := .i64) (a := x) (b := x) (AF_ev rfl (up rfl tp)) (AF_ev rfl tp)) (by simp)) ?_
  refine RW.soft Wd.a (v := .bool false) (by exact E.assign (AF_ev rfl tp)) ?_
  refine RW.fin (fun τ => τ 0 = .int .i64 x ∧ τ 2 = .bool false) ⟨up rfl (up rfl (up rfl (up rfl hs0))), tp⟩ ?_
  rintro τ ⟨hs0, hs2⟩
  refine CW.ret ?_
  refine ret1 (v := .bool false) rfl (by exact (.tmp (AF_ev rfl hs2) .nil)) ?_
  exact ⟨rfl, hst⟩

theorem q_Less {p : Pers} {w : World} {R : List Assn} (x y : Int) (hst : St p w (R)) :
    Calls Tryz.prog 250 #[.int .i64 x, .int .i64 y] w fun e w => e = .returned (.bool (decide (x < y))) ∧ St p w R := by
  refine enter Tryz.func250 rfl (by simp) (n := 17) rfl fun τ hτ => ?_
  have hs0 : τ 0 = .int .i64 x := hτ 0 (by simp)
  have hs1 : τ 1 = .int .i64 y := hτ 1 (by simp)
  clear hτ
  refine CW.seq ?_
  refine CW.region ?_
  refine RW.soft Wd.a (v := .bool false) (by exact E.assign rfl) ?_
  refine RW.fin (fun τ => τ 0 = .int .i64 x ∧ τ 1 = .int .i64 y ∧ τ 4 = .bool false) ⟨up rfl hs0, up rfl hs1, tp⟩ ?_
  rintro τ ⟨hs0, hs1, hs4⟩
  refine CW.seq ?_
  refine CW.region ?_
  refine RW.soft Wd.a (v := .int .i64 x) (by exact E.move (AF_ev rfl hs0)) ?_
  refine RW.hard Wd.a ?_
  refine H.call0 Tryz.func266 nm266 rfl (map1 (AF_ev rfl tp)) (Calls.mono (q_nan80 x hst) ?_)
  rintro _ w ⟨rfl, hst⟩
  refine ⟨_, rfl, ?_⟩
  show RW _ _ _ _ _ _ _
  refine RW.soft Wd.a (v := .bool false) (by exact E.move (AF_ev rfl tp)) ?_
  refine RW.pass (by exact Wd.no (x := 7) (b := false) rfl (AF_ev rfl tp) rfl) ?_
  refine RW.pass (by exact Wd.no (x := 7) (b := false) rfl (AF_ev rfl (up rfl tp)) rfl) ?_
  refine RW.pass (by exact Wd.no (x := 7) (b := false) rfl (AF_ev rfl (up rfl (up rfl tp))) rfl) ?_
  refine RW.soft Wd.a (v := .bool false) (by exact E.pickF (AF_ev rfl (up rfl (up rfl (up rfl tp)))) rfl) ?_
  refine RW.soft Wd.a (v := .bool false) (by exact E.move (AF_ev rfl tp)) ?_
  refine RW.soft (by exact Wd.yes (x := 12) rfl (AF_ev rfl tp)) (v := .int .i64 x) (by exact E.move (AF_ev rfl (up rfl (up rfl (up rfl (up rfl (up rfl (up rfl (up rfl (up rfl hs0)))))))))) ?_
  refine RW.soft (by exact Wd.yes (x := 12) rfl (AF_ev rfl (up rfl tp))) (v := .int .i64 y) (by exact E.move (AF_ev rfl (up rfl (up rfl (up rfl (up rfl (up rfl (up rfl (up rfl (up rfl (up rfl hs1))))))))))) ?_
  refine RW.soft (by exact Wd.yes (x := 12) rfl (AF_ev rfl (up rfl (up rfl tp)))) (v := .bool (decide (x < y))) (by exact E.lss (k := .i64) (a := x) (b := y) (AF_ev rfl (up rfl tp)) (AF_ev rfl tp)) ?_
  refine RW.soft Wd.a (v := .bool (decide (x < y))) (by exact E.pickF (AF_ev rfl (up rfl (up rfl (up rfl tp)))) (AF_ev rfl tp)) ?_
  refine RW.soft Wd.a (v := .bool (decide (x < y))) (by exact E.assign (AF_ev rfl tp)) ?_
  refine RW.fin (fun τ => τ 0 = .int .i64 x ∧ τ 1 = .int .i64 y ∧ τ 4 = .bool (decide (x < y))) ⟨up rfl (up rfl (up rfl (up rfl (up rfl (up rfl (up rfl (up rfl (up rfl (up rfl (up rfl (up rfl (up rfl hs0)))))))))))), up rfl (up rfl (up rfl (up rfl (up rfl (up rfl (up rfl (up rfl (up rfl (up rfl (up rfl (up rfl (up rfl hs1)))))))))))), tp⟩ ?_
  rintro τ ⟨hs0, hs1, hs4⟩
  refine CW.ret ?_
  refine ret1 (v := .bool (decide (x < y))) rfl (by exact (.tmp (AF_ev rfl hs4) .nil)) ?_
  exact ⟨rfl, hst⟩

end Go.Proofs.YtifokhheojnipaaGreatDoor
namespace Go.SL
open Go.RowKit
theorem retE {P : Program} {n : Nat} {τ : Fr} {w : World} {fn : Func} {R : Ending → World → Prop} (hr : fn.results = #[]) (hR : R (.returned (.tuple #[])) w) : bodyPost P fn R .normal (AF n τ) w := by
  refine ⟨rfl, .tuple #[], ?_, hR⟩
  simp [results_eq, hr]
theorem set_ne {α : Type} {l : List α} {i j : Nat} {a b : α} (hn : i ≠ j) (h : l[j]? = some a) : (l.set i b)[j]? = some a := by
  rw [List.getElem?_set_ne hn]; exact h
end Go.SL
namespace Go.Q18
open Go.RowKit Go.SL
theorem swap1 {A' B C : List Int} {x y : Int} {j : Nat} (hA : (A' ++ [y]).length = j) : ((A' ++ [y] ++ x :: (B ++ C)).set j y).set (((j : Nat) : Int) - 1).toNat x = A' ++ x :: ((y :: B) ++ C) := by
  subst hA
  have h1 : ((((A' ++ [y]).length : Nat) : Int) - 1).toNat = A'.length := by simp
  rw [h1]; simp [List.set_append]
theorem swap2 {A' B C : List Int} {x y : Int} {j : Nat} (hA : (A' ++ [y]).length = j) : ((A' ++ [y] ++ x :: (B ++ C)).set (((j : Nat) : Int) - 1).toNat x).set j y = A' ++ x :: ((y :: B) ++ C) := by
  subst hA
  have h1 : ((((A' ++ [y]).length : Nat) : Int) - 1).toNat = A'.length := by simp
  rw [h1]; simp [List.set_append]
end Go.Q18
namespace Go.Proofs.YtifokhheojnipaaGreatDoor
open Go.RowKit Go.SL Go.Q18
attribute [local irreducible] Go.SL.RW Go.SL.CW Go.SL.RD Go.SL.Hd Go.SL.St
theorem sz3 : (Tryz.prog.info? 3).map (·.size) = some 1 := by kernel_rfl
end Go.Proofs.YtifokhheojnipaaGreatDoor
namespace Go.Q18
open Go.RowKit Go.SL
theorem Sink.down {zs : List Int} {i j : Nat} {A' B C : List Int} {x y : Int} (h : Sink zs i j (A' ++ [y]) B C x) (hx : x < y) : Sink zs i (j - 1) A' (y :: B) C x := by
  have hl := h.len
  have hs := h.sum
  simp only [List.length_append, List.length_cons, List.length_nil] at hl hs
  refine ⟨?_, by omega, by have := h.rise; simpa using this, fun z hz => ?_, by simp only [List.length_cons]; omega⟩
  · refine List.Perm.trans ?_ h.perm
    rw [List.append_assoc]
    exact List.Perm.append_left A' (List.Perm.swap y x _)
  · rcases List.mem_cons.1 hz with rfl | hz
    · omega
    · exact h.low z hz
theorem Sink.done0 {zs : List Int} {i j : Nat} {A B C : List Int} {x : Int} (h : Sink zs i j A B C x) (hj : j = 0) : (A ++ x :: B).Pairwise (· ≤ ·) := by
  have hA : A = [] := List.eq_nil_of_length_eq_zero (by rw [h.len]; exact hj)
  have := h.rise
  subst hA
  exact List.Pairwise.cons h.low (by simpa using this)
theorem Sink.done1 {zs : List Int} {i j : Nat} {A' B C : List Int} {x y : Int} (h : Sink zs i j (A' ++ [y]) B C x) (hx : ¬ x < y) : ((A' ++ [y]) ++ x :: B).Pairwise (· ≤ ·) := by
  have hr := h.rise
  rw [List.pairwise_append] at hr ⊢
  obtain ⟨p1, p2, p3⟩ := hr
  refine ⟨p1, List.Pairwise.cons h.low p2, fun a ha b hb => ?_⟩
  rcases List.mem_cons.1 hb with rfl | hb
  · rcases List.mem_append.1 ha with h1 | h1
    · rw [List.pairwise_append] at p1
      have := p1.2.2 a h1 y (by simp)
      omega
    · rw [List.mem_singleton.1 h1]; omega
  · exact p3 a ha b hb
theorem Sink.out {zs : List Int} {i j : Nat} {A B C : List Int} {x : Int} (h : Sink zs i j A B C x) : (A ++ x :: (B ++ C)).take (i + 1) = A ++ x :: B := by
  have e : A ++ x :: (B ++ C) = (A ++ x :: B) ++ C := by simp
  rw [e, List.take_left' (by have := h.sum; simp only [List.length_append, List.length_cons]; omega)]
end Go.Q18
namespace Go.Proofs.YtifokhheojnipaaGreatDoor
open Go.RowKit Go.SL Go.Q18
attribute [local irreducible] Go.SL.RW Go.SL.CW Go.SL.RD Go.SL.Hd Go.SL.St
theorem q_isort {p : Pers} {w : World} {R : List Assn} {g c : Nat} {zs : List Int} (h0 : 0 < zs.length) (h12 : zs.length ≤ 12) (hcz : zs.length ≤ c)  (hst : St p w (SL.Own 3 1 (.slice (some ⟨g, 0, none⟩) zs.length c) zs.length (zs.flatMap ienc) :: R)) :
    Calls Tryz.prog 244 #[.slice (some ⟨g, 0, none⟩) zs.length c, .int .i64 0, .int .i64 ((zs.length : Nat) : Int)] w fun e w => ∃ L : List Int, e = .returned (.tuple #[]) ∧ L.Perm zs ∧ L.Pairwise (· ≤ ·) ∧ St p w (SL.Own 3 1 (.slice (some ⟨g, 0, none⟩) zs.length c) zs.length (L.flatMap ienc) :: R) := by
  refine enter Tryz.func244 rfl (by simp) (n := 49) rfl fun τ hτ => ?_
  have hs0 : τ 0 = .slice (some ⟨g, 0, none⟩) zs.length c := hτ 0 (by simp)
  have hs1 : τ 1 = .int .i64 0 := hτ 1 (by simp)
  have hs2 : τ 2 = .int .i64 ((zs.length : Nat) : Int) := hτ 2 (by simp)
  clear hτ
  refine CW.seq ?_
  refine CW.region ?_
  refine RW.soft Wd.a (v := .int .i64 0) (by exact E.move (AF_ev rfl hs1)) ?_
  refine RW.soft Wd.a (v := .int .i64 1) (by exact E.add (k := .i64) (a := 0) (b := 1) (AF_ev rfl tp) rfl rfl) ?_
  refine RW.soft Wd.a (v := .int .i64 1) (by exact E.assign (AF_ev rfl tp)) ?_
  refine RW.fin (fun τ => τ 0 = .slice (some ⟨g, 0, none⟩) zs.length c ∧ τ 1 = .int .i64 0 ∧ τ 2 = .int .i64 ((zs.length : Nat) : Int) ∧ τ 6 = .int .i64 1) ⟨up rfl (up rfl (up rfl hs0)), up rfl (up rfl (up rfl hs1)), up rfl (up rfl (up rfl hs2)), tp⟩ ?_
  rintro τ ⟨hs0, hs1, hs2, hs6⟩
  refine CW.block ?_
  refine CW.loop (fun (k : Nat) (τ : Fr) (w : World) => ∃ (i : Nat) (L : List Int), L.Perm zs ∧ (L.take i).Pairwise (· ≤ ·) ∧ (1 ≤ i ∧ i ≤ zs.length) ∧ k = zs.length - i ∧ τ 0 = .slice (some ⟨g, 0, none⟩) zs.length c ∧ τ 1 = .int .i64 0 ∧ τ 2 = .int .i64 ((zs.length : Nat) : Int) ∧ τ 6 = .int .i64 ((i : Nat) : Int) ∧ St p w (SL.Own 3 1 (.slice (some ⟨g, 0, none⟩) zs.length c) zs.length (L.flatMap ienc) :: R)) (zs.length - 1) ⟨1, zs, List.Perm.refl _, (one_rises h0), by omega, rfl, hs0, hs1, hs2, (int_eq (a := 1) hs6 (by omega)), hst⟩ ?_
  clear hst
  rintro k τ w ⟨i, L, hP, hW, hi, hki, hs0, hs1, hs2, hs6, hst⟩
  refine CW.seq ?_
  refine CW.seq ?_
  refine CW.region ?_
  refine RW.soft Wd.a (v := .int .i64 ((i : Nat) : Int)) (by exact E.move (AF_ev rfl hs6)) ?_
  refine RW.soft Wd.a (v := .int .i64 ((zs.length : Nat) : Int)) (by exact E.move (AF_ev rfl (up rfl hs2))) ?_
  refine RW.soft Wd.a (v := .bool (decide (((i : Nat) : Int) < ((zs.length : Nat) : Int)))) (by exact E.lss (k := .i64) (a := ((i : Nat) : Int)) (b := ((zs.length : Nat) : Int)) (AF_ev rfl (up rfl tp)) (AF_ev rfl tp)) ?_
  refine RW.fin (fun τ => τ 0 = .slice (some ⟨g, 0, none⟩) zs.length c ∧ τ 1 = .int .i64 0 ∧ τ 2 = .int .i64 ((zs.length : Nat) : Int) ∧ τ 6 = .int .i64 ((i : Nat) : Int) ∧ τ 12 = .bool (decide (((i : Nat) : Int) < ((zs.length : Nat) : Int)))) ⟨up rfl (up rfl (up rfl hs0)), up rfl (up rfl (up rfl hs1)), up rfl (up rfl (up rfl hs2)), up rfl (up rfl (up rfl hs6)), tp⟩ ?_
  rintro τ ⟨hs0, hs1, hs2, hs6, hs12⟩
  refine CW.cond (AF_ev rfl hs12) (fun hc1 => ?_) (fun hc1 => ?_)
  · have hc1_ := hc1
    try simp only [decide_eq_true_eq, decide_eq_false_iff_not, Bool.and_eq_true, Bool.or_eq_true, Bool.and_eq_false_iff, Bool.or_eq_false_iff, Bool.not_eq_true', Bool.not_eq_false', beq_iff_eq, beq_eq_false_iff_ne, bne_iff_ne, bne_eq_false_iff_eq, ne_eq, Int.not_lt, Int.not_le, gt_iff_lt, ge_iff_le] at hc1_
    refine CW.skip ?_
    refine Th.n ?_
    refine CW.seq ?_
    refine CW.block ?_
    refine CW.seq ?_
    have hLl : L.length = zs.length := hP.length_eq
    obtain ⟨x, hx⟩ : ∃ z, L[i]? = some z := ⟨L[i]'(by omega), List.getElem?_eq_getElem (by omega)⟩
    obtain ⟨hSk, hcut⟩ := Sink.start hP hW hx
    rw [hcut] at hst
    refine CW.region ?_
    refine RW.soft Wd.a (v := .int .i64 ((i : Nat) : Int)) (by exact E.move (AF_ev rfl hs6)) ?_
    refine RW.soft Wd.a (v := .int .i64 ((i : Nat) : Int)) (by exact E.assign (AF_ev rfl tp)) ?_
    refine RW.fin (fun τ => τ 0 = .slice (some ⟨g, 0, none⟩) zs.length c ∧ τ 1 = .int .i64 0 ∧ τ 2 = .int .i64 ((zs.length : Nat) : Int) ∧ τ 6 = .int .i64 ((i : Nat) : Int) ∧ τ 7 = .int .i64 ((i : Nat) : Int) ∧ τ 12 = .bool true) ⟨up rfl (up rfl hs0), up rfl (up rfl hs1), up rfl (up rfl hs2), up rfl (up rfl hs6), tp, up rfl (up rfl (Eq.trans hs12 (congrArg Value.bool hc1)))⟩ ?_
    rintro τ ⟨hs0, hs1, hs2, hs6, hs7, hs12⟩
    refine CW.block ?_
    refine CW.loop (fun (k : Nat) (τ : Fr) (w : World) => ∃ (j : Nat) (A B C : List Int), Sink zs i j A B C x ∧ k = j ∧ τ 0 = .slice (some ⟨g, 0, none⟩) zs.length c ∧ τ 1 = .int .i64 0 ∧ τ 2 = .int .i64 ((zs.length : Nat) : Int) ∧ τ 6 = .int .i64 ((i : Nat) : Int) ∧ τ 7 = .int .i64 ((j : Nat) : Int) ∧ St p w (SL.Own 3 1 (.slice (some ⟨g, 0, none⟩) zs.length c) zs.length ((A ++ x :: (B ++ C)).flatMap ienc) :: R)) (i) ⟨i, (L.take i), [], (L.drop (i + 1)), hSk, rfl, hs0, hs1, hs2, hs6, hs7, hst⟩ ?_
    clear hst
    rintro k τ w ⟨j, A, B, C, hSk, hkj, hs0, hs1, hs2, hs6, hs7, hst⟩
    refine CW.seq ?_
    refine CW.seq ?_
    refine Or.elim (Bool.eq_false_or_eq_true (decide (((j : Nat) : Int) > 0))) (fun hj0 => ?_) (fun hj0 => ?_)
    · skip
      have hSl := hSk.len
      have hSs := hSk.sum
      have hj0_ := of_decide_eq_true hj0
      obtain ⟨A', y, rfl⟩ := last_of (A := A) (by omega)
      have hLx := mid_x (D := B ++ C) (x := x) hSk.len
      have hLy := mid_y (D := B ++ C) (x := x) hSk.len
      have hLn := hSk.perm.length_eq
      simp only [List.length_append, List.length_cons, List.length_nil] at hSl hSs hLn
      refine CW.regionD [0, 1, 2, 3, 4, 5, 6, 7, 8, 9, 10, 11, 12] (fun w => w.cell? ⟨g, j * 1, none⟩ = some (.int .i64 x) ∧ w.cell? ⟨g, (((j : Nat) : Int) - 1).toNat * 1, none⟩ = some (.int .i64 y)) mixed ?_
      have hst := hst.drew
      generalize w.drew = w at hst ⊢
      have hS : w.cell? ⟨g, j * 1, none⟩ = some (.int .i64 x) ∧ w.cell? ⟨g, (((j : Nat) : Int) - 1).toNat * 1, none⟩ = some (.int .i64 y) := ⟨(hst.ocell .here (flat_get (j := 0) ienc_len hLx (rfl))), (hst.ocell .here (flat_get (j := 0) ienc_len hLy (rfl)))⟩
      refine RD.take 0 rfl (by kernel_rfl) Wd.a (v := .int .i64 ((j : Nat) : Int)) (fun w hS => by exact E.move (AF_ev rfl hs7)) hS ?_
      refine RD.take 1 rfl (by kernel_rfl) Wd.a (v := .int .i64 0) (fun w hS => by exact E.move (AF_ev rfl (up rfl hs1))) hS ?_
      refine RD.take 2 rfl (by kernel_rfl) Wd.a (v := .bool true) (fun w hS => by exact E.b (a := decide (((j : Nat) : Int) > 0)) (E.gtr (k := .i64) (a := ((j : Nat) : Int)) (b := 0) (AF_ev rfl (up rfl tp)) (AF_ev rfl tp)) hj0) hS ?_
      refine RD.take 3 rfl (by kernel_rfl) Wd.a (v := .bool true) (fun w hS => by exact E.move (AF_ev rfl tp)) hS ?_
      refine RD.take 4 rfl (by kernel_rfl) (by exact Wd.yes (x := 19) rfl (AF_ev rfl tp)) (v := .slice (some ⟨g, 0, none⟩) zs.length c) (fun w hS => by exact E.move (AF_ev rfl (up rfl (up rfl (up rfl (up rfl hs0)))))) hS ?_
      refine RD.take 5 rfl (by kernel_rfl) (by exact Wd.yes (x := 19) rfl (AF_ev rfl (up rfl tp))) (v := .int .i64 ((j : Nat) : Int)) (fun w hS => by exact E.move (AF_ev rfl (up rfl (up rfl (up rfl (up rfl (up rfl hs7))))))) hS ?_
      refine RD.take 6 rfl (by kernel_rfl) (by exact Wd.yes (x := 19) rfl (AF_ev rfl (up rfl (up rfl tp)))) (v := .pointer (some ⟨g, j * 1, none⟩)) (fun w hS => by exact E.indexAddr (b := g) (o := 0) (l := zs.length) (c := c) (i := ((j : Nat) : Int)) Tryz.underlying244 sz3 (AF_ev rfl (up rfl tp)) (AF_ev rfl tp) (by omega) (by omega) (by simp)) hS ?_
      refine RD.take 7 rfl (by kernel_rfl) (by exact Wd.yes (x := 19) rfl (AF_ev rfl (up rfl (up rfl (up rfl tp))))) (v := .int .i64 x) (fun w hS => by exact E.load (a := ⟨g, j * 1, none⟩) Tryz.underlying3 rfl (AF_ev rfl tp) hS.1) hS ?_
      refine RD.take 8 rfl (by kernel_rfl) (by exact Wd.yes (x := 19) rfl (AF_ev rfl (up rfl (up rfl (up rfl (up rfl tp)))))) (v := .slice (some ⟨g, 0, none⟩) zs.length c) (fun w hS => by exact E.move (AF_ev rfl (up rfl (up rfl (up rfl (up rfl (up rfl (up rfl (up rfl (up rfl hs0)))))))))) hS ?_
      refine RD.take 9 rfl (by kernel_rfl) (by exact Wd.yes (x := 19) rfl (AF_ev rfl (up rfl (up rfl (up rfl (up rfl (up rfl tp))))))) (v := .int .i64 ((j : Nat) : Int)) (fun w hS => by exact E.move (AF_ev rfl (up rfl (up rfl (up rfl (up rfl (up rfl (up rfl (up rfl (up rfl (up rfl hs7))))))))))) hS ?_
      refine RD.take 10 rfl (by kernel_rfl) (by exact Wd.yes (x := 19) rfl (AF_ev rfl (up rfl (up rfl (up rfl (up rfl (up rfl (up rfl tp)))))))) (v := .int .i64 (((j : Nat) : Int) - 1)) (fun w hS => by exact E.sub (k := .i64) (a := ((j : Nat) : Int)) (b := 1) (AF_ev rfl tp) rfl (show IntKind.i64.wrap (((j : Nat) : Int) - 1) = ((j : Nat) : Int) - 1 from (by rw [IntWalk.i64_in _ (by omega)]))) hS ?_
      refine RD.take 11 rfl (by kernel_rfl) (by exact Wd.yes (x := 19) rfl (AF_ev rfl (up rfl (up rfl (up rfl (up rfl (up rfl (up rfl (up rfl tp))))))))) (v := .pointer (some ⟨g, (((j : Nat) : Int) - 1).toNat * 1, none⟩)) (fun w hS => by exact E.indexAddr (b := g) (o := 0) (l := zs.length) (c := c) (i := ((j : Nat) : Int) - 1) Tryz.underlying244 sz3 (AF_ev rfl (up rfl (up rfl tp))) (AF_ev rfl tp) (by omega) (by omega) (by simp)) hS ?_
      refine RD.take 12 rfl (by kernel_rfl) (by exact Wd.yes (x := 19) rfl (AF_ev rfl (up rfl (up rfl (up rfl (up rfl (up rfl (up rfl (up rfl (up rfl tp)))))))))) (v := .int .i64 y) (fun w hS => by exact E.load (a := ⟨g, (((j : Nat) : Int) - 1).toNat * 1, none⟩) Tryz.underlying3 rfl (AF_ev rfl tp) hS.2) hS ?_
      refine RD.only 13 rfl (by kernel_rfl) (by exact Wd.yes (x := 19) rfl (AF_ev rfl (up rfl (up rfl (up rfl (up rfl (up rfl (up rfl (up rfl (up rfl (up rfl tp))))))))))) ?_
      refine H.call0 Tryz.func250 nm250 rfl (map2 (AF_ev rfl (up rfl (up rfl (up rfl (up rfl (up rfl tp)))))) (AF_ev rfl tp)) (Calls.mono (q_Less x y hst) ?_)
      rintro _ w ⟨rfl, hst⟩
      refine ⟨_, rfl, ?_⟩
      have hS : w.cell? ⟨g, j * 1, none⟩ = some (.int .i64 x) ∧ w.cell? ⟨g, (((j : Nat) : Int) - 1).toNat * 1, none⟩ = some (.int .i64 y) := ⟨(hst.ocell .here (flat_get (j := 0) ienc_len hLx (rfl))), (hst.ocell .here (flat_get (j := 0) ienc_len hLy (rfl)))⟩
      refine ⟨fun _ => hS, ?_⟩
      refine RD.only 14 rfl (by kernel_rfl) Wd.a (Hd.value (v := .bool (decide (x < y))) (by exact E.pickT (AF_ev rfl (up rfl (up rfl (up rfl (up rfl (up rfl (up rfl (up rfl (up rfl (up rfl (up rfl tp))))))))))) (AF_ev rfl tp)) ⟨fun _ => hS, ?_⟩)
      refine RD.fin (by kernel_rfl) (fun τ => τ 0 = .slice (some ⟨g, 0, none⟩) zs.length c ∧ τ 1 = .int .i64 0 ∧ τ 2 = .int .i64 ((zs.length : Nat) : Int) ∧ τ 6 = .int .i64 ((i : Nat) : Int) ∧ τ 7 = .int .i64 ((j : Nat) : Int) ∧ τ 30 = .bool (decide (x < y))) ⟨up rfl (up rfl (up rfl (up rfl (up rfl (up rfl (up rfl (up rfl (up rfl (up rfl (up rfl (up rfl (up rfl (up rfl (up rfl hs0)))))))))))))), up rfl (up rfl (up rfl (up rfl (up rfl (up rfl (up rfl (up rfl (up rfl (up rfl (up rfl (up rfl (up rfl (up rfl (up rfl hs1)))))))))))))), up rfl (up rfl (up rfl (up rfl (up rfl (up rfl (up rfl (up rfl (up rfl (up rfl (up rfl (up rfl (up rfl (up rfl (up rfl hs2)))))))))))))), up rfl (up rfl (up rfl (up rfl (up rfl (up rfl (up rfl (up rfl (up rfl (up rfl (up rfl (up rfl (up rfl (up rfl (up rfl hs6)))))))))))))), up rfl (up rfl (up rfl (up rfl (up rfl (up rfl (up rfl (up rfl (up rfl (up rfl (up rfl (up rfl (up rfl (up rfl (up rfl hs7)))))))))))))), tp⟩ ?_
      rintro τ ⟨hs0, hs1, hs2, hs6, hs7, hs30⟩
      refine CW.cond (AF_ev rfl hs30) (fun hc2 => ?_) (fun hc2 => ?_)
      · have hc2_ := hc2
        try simp only [decide_eq_true_eq, decide_eq_false_iff_not, Bool.and_eq_true, Bool.or_eq_true, Bool.and_eq_false_iff, Bool.or_eq_false_iff, Bool.not_eq_true', Bool.not_eq_false', beq_iff_eq, beq_eq_false_iff_ne, bne_iff_ne, bne_eq_false_iff_eq, ne_eq, Int.not_lt, Int.not_le, gt_iff_lt, ge_iff_le] at hc2_
        refine CW.skip ?_
        refine Th.n ?_
        refine CW.seq ?_
        refine CW.block ?_
        refine CW.regionD [0, 1, 2, 3, 4, 5, 6, 7, 8, 10, 11, 12] (fun w => True) mixed ?_
        have hst := hst.drew
        generalize w.drew = w at hst ⊢
        have hS : True := trivial
        refine RD.take 0 rfl (by kernel_rfl) Wd.a (v := .slice (some ⟨g, 0, none⟩) zs.length c) (fun w hS => by exact E.move (AF_ev rfl hs0)) hS ?_
        refine RD.take 1 rfl (by kernel_rfl) Wd.a (v := .int .i64 ((j : Nat) : Int)) (fun w hS => by exact E.move (AF_ev rfl (up rfl hs7))) hS ?_
        refine RD.take 2 rfl (by kernel_rfl) Wd.a (v := .slice (some ⟨g, 0, none⟩) zs.length c) (fun w hS => by exact E.move (AF_ev rfl (up rfl (up rfl hs0)))) hS ?_
        refine RD.take 3 rfl (by kernel_rfl) Wd.a (v := .int .i64 ((j : Nat) : Int)) (fun w hS => by exact E.move (AF_ev rfl (up rfl (up rfl (up rfl hs7))))) hS ?_
        refine RD.take 4 rfl (by kernel_rfl) Wd.a (v := .int .i64 (((j : Nat) : Int) - 1)) (fun w hS => by exact E.sub (k := .i64) (a := ((j : Nat) : Int)) (b := 1) (AF_ev rfl tp) rfl (show IntKind.i64.wrap (((j : Nat) : Int) - 1) = ((j : Nat) : Int) - 1 from (by rw [IntWalk.i64_in _ (by omega)]))) hS ?_
        refine RD.take 5 rfl (by kernel_rfl) Wd.a (v := .slice (some ⟨g, 0, none⟩) zs.length c) (fun w hS => by exact E.move (AF_ev rfl (up rfl (up rfl (up rfl (up rfl (up rfl hs0))))))) hS ?_
        refine RD.take 6 rfl (by kernel_rfl) Wd.a (v := .int .i64 ((j : Nat) : Int)) (fun w hS => by exact E.move (AF_ev rfl (up rfl (up rfl (up rfl (up rfl (up rfl (up rfl hs7)))))))) hS ?_
        refine RD.take 7 rfl (by kernel_rfl) Wd.a (v := .int .i64 (((j : Nat) : Int) - 1)) (fun w hS => by exact E.sub (k := .i64) (a := ((j : Nat) : Int)) (b := 1) (AF_ev rfl tp) rfl (show IntKind.i64.wrap (((j : Nat) : Int) - 1) = ((j : Nat) : Int) - 1 from (by rw [IntWalk.i64_in _ (by omega)]))) hS ?_
        refine RD.take 8 rfl (by kernel_rfl) Wd.a (v := .pointer (some ⟨g, (((j : Nat) : Int) - 1).toNat * 1, none⟩)) (fun w hS => by exact E.indexAddr (b := g) (o := 0) (l := zs.length) (c := c) (i := ((j : Nat) : Int) - 1) Tryz.underlying244 sz3 (AF_ev rfl (up rfl (up rfl tp))) (AF_ev rfl tp) (by omega) (by omega) (by simp)) hS ?_
        refine RD.take 10 rfl (by kernel_rfl) Wd.a (v := .slice (some ⟨g, 0, none⟩) zs.length c) (fun w hS => by exact E.move (AF_ev rfl (up rfl (up rfl (up rfl (up rfl (up rfl (up rfl (up rfl (up rfl (up rfl hs0))))))))))) hS ?_
        refine RD.take 11 rfl (by kernel_rfl) Wd.a (v := .int .i64 ((j : Nat) : Int)) (fun w hS => by exact E.move (AF_ev rfl (up rfl (up rfl (up rfl (up rfl (up rfl (up rfl (up rfl (up rfl (up rfl (up rfl hs7)))))))))))) hS ?_
        refine RD.take 12 rfl (by kernel_rfl) Wd.a (v := .pointer (some ⟨g, j * 1, none⟩)) (fun w hS => by exact E.indexAddr (b := g) (o := 0) (l := zs.length) (c := c) (i := ((j : Nat) : Int)) Tryz.underlying244 sz3 (AF_ev rfl (up rfl tp)) (AF_ev rfl tp) (by omega) (by omega) (by simp)) hS ?_
        refine RD.two 9 13 rfl rfl (by kernel_rfl) Wd.a Wd.a ?_ ?_
        · skip
          refine Hd.value (v := .int .i64 y) (by exact E.load (a := ⟨g, (((j : Nat) : Int) - 1).toNat * 1, none⟩) Tryz.underlying3 rfl (AF_ev rfl (up rfl (up rfl (up rfl tp)))) (hst.ocell .here (flat_get (j := 0) ienc_len hLy (rfl)))) ?_
          have hS : True := trivial
          refine ⟨fun _ => hS, ?_⟩
          refine RD.only 13 rfl (by kernel_rfl) Wd.a ?_
          refine Hd.value (v := .int .i64 x) (by exact E.load (a := ⟨g, j * 1, none⟩) Tryz.underlying3 rfl (AF_ev rfl (up rfl tp)) (hst.ocell .here (flat_get (j := 0) ienc_len hLx (rfl)))) ?_
          have hS : True := trivial
          refine ⟨fun _ => hS, ?_⟩
          refine RD.only 14 rfl (by kernel_rfl) Wd.a (Hd.value (v := .pointer (some ⟨g, j * 1, none⟩)) (by exact E.indexAddr (b := g) (o := 0) (l := zs.length) (c := c) (i := ((j : Nat) : Int)) Tryz.underlying244 sz3 (AF_ev rfl (up rfl (up rfl (up rfl (up rfl (up rfl (up rfl (up rfl (up rfl (up rfl (up rfl (up rfl (up rfl (up rfl tp)))))))))))))) (AF_ev rfl (up rfl (up rfl (up rfl (up rfl (up rfl (up rfl (up rfl (up rfl (up rfl (up rfl (up rfl (up rfl tp))))))))))))) (by omega) (by omega) (by simp)) ⟨fun _ => hS, ?_⟩)
          refine RD.only 15 rfl (by kernel_rfl) Wd.a ?_
          refine H.storeInn (f := ienc) (i := j) (d := 0) (m := 1) (v := .int .i64 y) (news := [.int .i64 y]) (a' := y) ienc_len (AF_ev rfl tp) (AF_ev rfl (up rfl (up rfl tp))) hst .here hLx (by omega) rfl rfl rfl sz3 (by omega) (rfl) (by simp [Value.oneCell']) fun w hst => ?_
          have hS : True := trivial
          refine ⟨fun _ => hS, ?_⟩
          refine RD.only 16 rfl (by kernel_rfl) Wd.a (Hd.value (v := .pointer (some ⟨g, (((j : Nat) : Int) - 1).toNat * 1, none⟩)) (by exact E.indexAddr (b := g) (o := 0) (l := zs.length) (c := c) (i := ((j : Nat) : Int) - 1) Tryz.underlying244 sz3 (AF_ev rfl (u0 (up rfl (up rfl (up rfl (up rfl (up rfl (up rfl (up rfl (up rfl (up rfl (up rfl (up rfl (up rfl tp)))))))))))))) (AF_ev rfl (u0 (up rfl (up rfl (up rfl (up rfl (up rfl (up rfl (up rfl (up rfl (up rfl (up rfl tp)))))))))))) (by omega) (by omega) (by simp)) ⟨fun h => Bool.noConfusion ((show needs _ _ _ = false by kernel_rfl).symm.trans h), ?_⟩)
          refine RD.only 17 rfl (by kernel_rfl) Wd.a ?_
          refine H.storeInn (f := ienc) (i := (((j : Nat) : Int) - 1).toNat) (d := 0) (m := 1) (v := .int .i64 x) (news := [.int .i64 x]) (a' := x) ienc_len (AF_ev rfl tp) (AF_ev rfl (up rfl (u0 (up rfl tp)))) hst .here (set_ne (by omega) hLy) (by omega) rfl rfl rfl sz3 (by omega) (rfl) (by simp [Value.oneCell']) fun w hst => ?_
          refine ⟨fun h => Bool.noConfusion ((show needs _ _ _ = false by kernel_rfl).symm.trans h), ?_⟩
          refine RD.done (by kernel_rfl) ?_
          refine Bl.n ?_
          refine Th.n ?_
          refine CW.region ?_
          refine RW.soft Wd.a (v := .int .i64 ((j : Nat) : Int)) (by exact E.move (AF_ev rfl (u0 (up rfl (u0 (up rfl (up rfl (up rfl (up rfl (up rfl (up rfl (up rfl (up rfl (up rfl (up rfl (up rfl (up rfl (up rfl (up rfl (up rfl hs7)))))))))))))))))))) ?_
          refine RW.soft Wd.a (v := .int .i64 (((j : Nat) : Int) - 1)) (by exact E.sub (k := .i64) (a := ((j : Nat) : Int)) (b := 1) (AF_ev rfl tp) rfl (show IntKind.i64.wrap (((j : Nat) : Int) - 1) = ((j : Nat) : Int) - 1 from (by rw [IntWalk.i64_in _ (by omega)]))) ?_
          refine RW.soft Wd.a (v := .int .i64 (((j : Nat) : Int) - 1)) (by exact E.assign (AF_ev rfl tp)) ?_
          refine RW.nil ?_
          refine Th.n ?_
          have hsw : (((A' ++ [y] ++ x :: (B ++ C)).set j y).set ((((j : Nat) : Int) - 1).toNat) x) = (A' ++ x :: ((y :: B) ++ C)) := by first | exact swap1 hSk.len | exact swap2 hSk.len
          rw [hsw] at hst
          have hSk2 := hSk.down (by simpa using hc2)
          exact ⟨j - 1, by omega, j - 1, A', (y :: B), C, hSk2, rfl, up rfl (up rfl (up rfl (u0 (up rfl (u0 (up rfl (up rfl (up rfl (up rfl (up rfl (up rfl (up rfl (up rfl (up rfl (up rfl (up rfl (up rfl (up rfl (up rfl (up rfl hs0)))))))))))))))))))), up rfl (up rfl (up rfl (u0 (up rfl (u0 (up rfl (up rfl (up rfl (up rfl (up rfl (up rfl (up rfl (up rfl (up rfl (up rfl (up rfl (up rfl (up rfl (up rfl (up rfl hs1)))))))))))))))))))), up rfl (up rfl (up rfl (u0 (up rfl (u0 (up rfl (up rfl (up rfl (up rfl (up rfl (up rfl (up rfl (up rfl (up rfl (up rfl (up rfl (up rfl (up rfl (up rfl (up rfl hs2)))))))))))))))))))), up rfl (up rfl (up rfl (u0 (up rfl (u0 (up rfl (up rfl (up rfl (up rfl (up rfl (up rfl (up rfl (up rfl (up rfl (up rfl (up rfl (up rfl (up rfl (up rfl (up rfl hs6)))))))))))))))))))), (int_eq (a := ((j : Nat) : Int) - 1) tp (by omega)), hst⟩
        · skip
          refine Hd.value (v := .int .i64 x) (by exact E.load (a := ⟨g, j * 1, none⟩) Tryz.underlying3 rfl (AF_ev rfl tp) (hst.ocell .here (flat_get (j := 0) ienc_len hLx (rfl)))) ?_
          have hS : True := trivial
          refine ⟨fun _ => hS, ?_⟩
          refine RD.only 9 rfl (by kernel_rfl) Wd.a ?_
          refine Hd.value (v := .int .i64 y) (by exact E.load (a := ⟨g, (((j : Nat) : Int) - 1).toNat * 1, none⟩) Tryz.underlying3 rfl (AF_ev rfl (up rfl (up rfl (up rfl (up rfl tp))))) (hst.ocell .here (flat_get (j := 0) ienc_len hLy (rfl)))) ?_
          have hS : True := trivial
          refine ⟨fun _ => hS, ?_⟩
          refine RD.only 14 rfl (by kernel_rfl) Wd.a (Hd.value (v := .pointer (some ⟨g, j * 1, none⟩)) (by exact E.indexAddr (b := g) (o := 0) (l := zs.length) (c := c) (i := ((j : Nat) : Int)) Tryz.underlying244 sz3 (AF_ev rfl (up rfl (up rfl (up rfl (up rfl (up rfl (up rfl (up rfl (up rfl (up rfl (up rfl (up rfl (up rfl (up rfl tp)))))))))))))) (AF_ev rfl (up rfl (up rfl (up rfl (up rfl (up rfl (up rfl (up rfl (up rfl (up rfl (up rfl (up rfl (up rfl tp))))))))))))) (by omega) (by omega) (by simp)) ⟨fun _ => hS, ?_⟩)
          refine RD.only 15 rfl (by kernel_rfl) Wd.a ?_
          refine H.storeInn (f := ienc) (i := j) (d := 0) (m := 1) (v := .int .i64 y) (news := [.int .i64 y]) (a' := y) ienc_len (AF_ev rfl tp) (AF_ev rfl (up rfl tp)) hst .here hLx (by omega) rfl rfl rfl sz3 (by omega) (rfl) (by simp [Value.oneCell']) fun w hst => ?_
          have hS : True := trivial
          refine ⟨fun _ => hS, ?_⟩
          refine RD.only 16 rfl (by kernel_rfl) Wd.a (Hd.value (v := .pointer (some ⟨g, (((j : Nat) : Int) - 1).toNat * 1, none⟩)) (by exact E.indexAddr (b := g) (o := 0) (l := zs.length) (c := c) (i := ((j : Nat) : Int) - 1) Tryz.underlying244 sz3 (AF_ev rfl (u0 (up rfl (up rfl (up rfl (up rfl (up rfl (up rfl (up rfl (up rfl (up rfl (up rfl (up rfl (up rfl tp)))))))))))))) (AF_ev rfl (u0 (up rfl (up rfl (up rfl (up rfl (up rfl (up rfl (up rfl (up rfl (up rfl (up rfl tp)))))))))))) (by omega) (by omega) (by simp)) ⟨fun h => Bool.noConfusion ((show needs _ _ _ = false by kernel_rfl).symm.trans h), ?_⟩)
          refine RD.only 17 rfl (by kernel_rfl) Wd.a ?_
          refine H.storeInn (f := ienc) (i := (((j : Nat) : Int) - 1).toNat) (d := 0) (m := 1) (v := .int .i64 x) (news := [.int .i64 x]) (a' := x) ienc_len (AF_ev rfl tp) (AF_ev rfl (up rfl (u0 (up rfl (up rfl tp))))) hst .here (set_ne (by omega) hLy) (by omega) rfl rfl rfl sz3 (by omega) (rfl) (by simp [Value.oneCell']) fun w hst => ?_
          refine ⟨fun h => Bool.noConfusion ((show needs _ _ _ = false by kernel_rfl).symm.trans h), ?_⟩
          refine RD.done (by kernel_rfl) ?_
          refine Bl.n ?_
          refine Th.n ?_
          refine CW.region ?_
          refine RW.soft Wd.a (v := .int .i64 ((j : Nat) : Int)) (by exact E.move (AF_ev rfl (u0 (up rfl (u0 (up rfl (up rfl (up rfl (up rfl (up rfl (up rfl (up rfl (up rfl (up rfl (up rfl (up rfl (up rfl (up rfl (up rfl (up rfl hs7)))))))))))))))))))) ?_
          refine RW.soft Wd.a (v := .int .i64 (((j : Nat) : Int) - 1)) (by exact E.sub (k := .i64) (a := ((j : Nat) : Int)) (b := 1) (AF_ev rfl tp) rfl (show IntKind.i64.wrap (((j : Nat) : Int) - 1) = ((j : Nat) : Int) - 1 from (by rw [IntWalk.i64_in _ (by omega)]))) ?_
          refine RW.soft Wd.a (v := .int .i64 (((j : Nat) : Int) - 1)) (by exact E.assign (AF_ev rfl tp)) ?_
          refine RW.nil ?_
          refine Th.n ?_
          have hsw : (((A' ++ [y] ++ x :: (B ++ C)).set j y).set ((((j : Nat) : Int) - 1).toNat) x) = (A' ++ x :: ((y :: B) ++ C)) := by first | exact swap1 hSk.len | exact swap2 hSk.len
          rw [hsw] at hst
          have hSk2 := hSk.down (by simpa using hc2)
          exact ⟨j - 1, by omega, j - 1, A', (y :: B), C, hSk2, rfl, up rfl (up rfl (up rfl (u0 (up rfl (u0 (up rfl (up rfl (up rfl (up rfl (up rfl (up rfl (up rfl (up rfl (up rfl (up rfl (up rfl (up rfl (up rfl (up rfl (up rfl hs0)))))))))))))))))))), up rfl (up rfl (up rfl (u0 (up rfl (u0 (up rfl (up rfl (up rfl (up rfl (up rfl (up rfl (up rfl (up rfl (up rfl (up rfl (up rfl (up rfl (up rfl (up rfl (up rfl hs1)))))))))))))))))))), up rfl (up rfl (up rfl (u0 (up rfl (u0 (up rfl (up rfl (up rfl (up rfl (up rfl (up rfl (up rfl (up rfl (up rfl (up rfl (up rfl (up rfl (up rfl (up rfl (up rfl hs2)))))))))))))))))))), up rfl (up rfl (up rfl (u0 (up rfl (u0 (up rfl (up rfl (up rfl (up rfl (up rfl (up rfl (up rfl (up rfl (up rfl (up rfl (up rfl (up rfl (up rfl (up rfl (up rfl hs6)))))))))))))))))))), (int_eq (a := ((j : Nat) : Int) - 1) tp (by omega)), hst⟩
      · have hc2_ := hc2
        try simp only [decide_eq_true_eq, decide_eq_false_iff_not, Bool.and_eq_true, Bool.or_eq_true, Bool.and_eq_false_iff, Bool.or_eq_false_iff, Bool.not_eq_true', Bool.not_eq_false', beq_iff_eq, beq_eq_false_iff_ne, bne_iff_ne, bne_eq_false_iff_eq, ne_eq, Int.not_lt, Int.not_le, gt_iff_lt, ge_iff_le] at hc2_
        refine CW.exit ?_
        refine Th.x ?_
        refine Th.x ?_
        refine Bl.x ?_
        refine Bl.n ?_
        refine Th.n ?_
        refine CW.region ?_
        refine RW.soft Wd.a (v := .int .i64 ((i : Nat) : Int)) (by exact E.move (AF_ev rfl hs6)) ?_
        refine RW.soft Wd.a (v := .int .i64 (((i : Nat) : Int) + 1)) (by exact E.add (k := .i64) (a := ((i : Nat) : Int)) (b := 1) (AF_ev rfl tp) rfl (show IntKind.i64.wrap (((i : Nat) : Int) + 1) = ((i : Nat) : Int) + 1 from (by rw [IntWalk.i64_in _ (by omega)]))) ?_
        refine RW.soft Wd.a (v := .int .i64 (((i : Nat) : Int) + 1)) (by exact E.assign (AF_ev rfl tp)) ?_
        refine RW.nil ?_
        refine Th.n ?_
        have hdn := hSk.done1 (by simpa using hc2)
        have hso := hSk.out
        have hpw : (((A' ++ [y] ++ x :: (B ++ C))).take (i + 1)).Pairwise (· ≤ ·) := by rw [hso]; exact hdn
        exact ⟨zs.length - (i + 1), by omega, i + 1, (A' ++ [y] ++ x :: (B ++ C)), hSk.perm, hpw, (by omega), rfl, up rfl (up rfl (up rfl hs0)), up rfl (up rfl (up rfl hs1)), up rfl (up rfl (up rfl hs2)), (int_eq (a := ((i : Nat) : Int) + 1) tp (by omega)), hst⟩
    · skip
      have hSl := hSk.len
      have hSs := hSk.sum
      have hj0_ := of_decide_eq_false hj0
      refine CW.regionD [0, 1, 2, 3, 4, 5, 6, 7, 8, 9, 10, 11, 12] (fun w => True) mixed ?_
      have hst := hst.drew
      generalize w.drew = w at hst ⊢
      have hS : True := trivial
      refine RD.take 0 rfl (by kernel_rfl) Wd.a (v := .int .i64 ((j : Nat) : Int)) (fun w hS => by exact E.move (AF_ev rfl hs7)) hS ?_
      refine RD.take 1 rfl (by kernel_rfl) Wd.a (v := .int .i64 0) (fun w hS => by exact E.move (AF_ev rfl (up rfl hs1))) hS ?_
      refine RD.take 2 rfl (by kernel_rfl) Wd.a (v := .bool false) (fun w hS => by exact E.b (a := decide (((j : Nat) : Int) > 0)) (E.gtr (k := .i64) (a := ((j : Nat) : Int)) (b := 0) (AF_ev rfl (up rfl tp)) (AF_ev rfl tp)) hj0) hS ?_
      refine RD.take 3 rfl (by kernel_rfl) Wd.a (v := .bool false) (fun w hS => by exact E.move (AF_ev rfl tp)) hS ?_
      refine RD.pass 4 rfl (by kernel_rfl) (by exact Wd.no (x := 19) (b := false) rfl (AF_ev rfl tp) rfl) hS ?_
      refine RD.pass 5 rfl (by kernel_rfl) (by exact Wd.no (x := 19) (b := false) rfl (AF_ev rfl (up rfl tp)) rfl) hS ?_
      refine RD.pass 6 rfl (by kernel_rfl) (by exact Wd.no (x := 19) (b := false) rfl (AF_ev rfl (up rfl (up rfl tp))) rfl) hS ?_
      refine RD.pass 7 rfl (by kernel_rfl) (by exact Wd.no (x := 19) (b := false) rfl (AF_ev rfl (up rfl (up rfl (up rfl tp)))) rfl) hS ?_
      refine RD.pass 8 rfl (by kernel_rfl) (by exact Wd.no (x := 19) (b := false) rfl (AF_ev rfl (up rfl (up rfl (up rfl (up rfl tp))))) rfl) hS ?_
      refine RD.pass 9 rfl (by kernel_rfl) (by exact Wd.no (x := 19) (b := false) rfl (AF_ev rfl (up rfl (up rfl (up rfl (up rfl (up rfl tp)))))) rfl) hS ?_
      refine RD.pass 10 rfl (by kernel_rfl) (by exact Wd.no (x := 19) (b := false) rfl (AF_ev rfl (up rfl (up rfl (up rfl (up rfl (up rfl (up rfl tp))))))) rfl) hS ?_
      refine RD.pass 11 rfl (by kernel_rfl) (by exact Wd.no (x := 19) (b := false) rfl (AF_ev rfl (up rfl (up rfl (up rfl (up rfl (up rfl (up rfl (up rfl tp)))))))) rfl) hS ?_
      refine RD.pass 12 rfl (by kernel_rfl) (by exact Wd.no (x := 19) (b := false) rfl (AF_ev rfl (up rfl (up rfl (up rfl (up rfl (up rfl (up rfl (up rfl (up rfl tp))))))))) rfl) hS ?_
      refine RD.skip 13 rfl (by kernel_rfl) (by exact Wd.no (x := 19) (b := false) rfl (AF_ev rfl (up rfl (up rfl (up rfl (up rfl (up rfl (up rfl (up rfl (up rfl (up rfl tp)))))))))) rfl) hS ?_
      refine RD.only 14 rfl (by kernel_rfl) Wd.a (Hd.value (v := .bool false) (by exact E.pickF (AF_ev rfl (up rfl (up rfl (up rfl (up rfl (up rfl (up rfl (up rfl (up rfl (up rfl (up rfl tp))))))))))) rfl) ⟨fun _ => hS, ?_⟩)
      refine RD.fin (by kernel_rfl) (fun τ => τ 0 = .slice (some ⟨g, 0, none⟩) zs.length c ∧ τ 1 = .int .i64 0 ∧ τ 2 = .int .i64 ((zs.length : Nat) : Int) ∧ τ 6 = .int .i64 ((i : Nat) : Int) ∧ τ 7 = .int .i64 ((j : Nat) : Int) ∧ τ 30 = .bool false) ⟨up rfl (up rfl (up rfl (up rfl (up rfl (up rfl (up rfl (up rfl (up rfl (up rfl (up rfl (up rfl (up rfl (up rfl (up rfl hs0)))))))))))))), up rfl (up rfl (up rfl (up rfl (up rfl (up rfl (up rfl (up rfl (up rfl (up rfl (up rfl (up rfl (up rfl (up rfl (up rfl hs1)))))))))))))), up rfl (up rfl (up rfl (up rfl (up rfl (up rfl (up rfl (up rfl (up rfl (up rfl (up rfl (up rfl (up rfl (up rfl (up rfl hs2)))))))))))))), up rfl (up rfl (up rfl (up rfl (up rfl (up rfl (up rfl (up rfl (up rfl (up rfl (up rfl (up rfl (up rfl (up rfl (up rfl hs6)))))))))))))), up rfl (up rfl (up rfl (up rfl (up rfl (up rfl (up rfl (up rfl (up rfl (up rfl (up rfl (up rfl (up rfl (up rfl (up rfl hs7)))))))))))))), tp⟩ ?_
      rintro τ ⟨hs0, hs1, hs2, hs6, hs7, hs30⟩
      refine CW.condF (AF_ev rfl hs30) ?_
      refine CW.exit ?_
      refine Th.x ?_
      refine Th.x ?_
      refine Bl.x ?_
      refine Bl.n ?_
      refine Th.n ?_
      refine CW.region ?_
      refine RW.soft Wd.a (v := .int .i64 ((i : Nat) : Int)) (by exact E.move (AF_ev rfl hs6)) ?_
      refine RW.soft Wd.a (v := .int .i64 (((i : Nat) : Int) + 1)) (by exact E.add (k := .i64) (a := ((i : Nat) : Int)) (b := 1) (AF_ev rfl tp) rfl (show IntKind.i64.wrap (((i : Nat) : Int) + 1) = ((i : Nat) : Int) + 1 from (by rw [IntWalk.i64_in _ (by omega)]))) ?_
      refine RW.soft Wd.a (v := .int .i64 (((i : Nat) : Int) + 1)) (by exact E.assign (AF_ev rfl tp)) ?_
      refine RW.nil ?_
      refine Th.n ?_
      have hdn := hSk.done0 (by omega)
      have hso := hSk.out
      have hpw : (((A ++ x :: (B ++ C))).take (i + 1)).Pairwise (· ≤ ·) := by rw [hso]; exact hdn
      exact ⟨zs.length - (i + 1), by omega, i + 1, (A ++ x :: (B ++ C)), hSk.perm, hpw, (by omega), rfl, up rfl (up rfl (up rfl hs0)), up rfl (up rfl (up rfl hs1)), up rfl (up rfl (up rfl hs2)), (int_eq (a := ((i : Nat) : Int) + 1) tp (by omega)), hst⟩
  · have hc1_ := hc1
    try simp only [decide_eq_true_eq, decide_eq_false_iff_not, Bool.and_eq_true, Bool.or_eq_true, Bool.and_eq_false_iff, Bool.or_eq_false_iff, Bool.not_eq_true', Bool.not_eq_false', beq_iff_eq, beq_eq_false_iff_ne, bne_iff_ne, bne_eq_false_iff_eq, ne_eq, Int.not_lt, Int.not_le, gt_iff_lt, ge_iff_le] at hc1_
    refine CW.exit ?_
    refine Th.x ?_
    refine Th.x ?_
    refine Bl.x ?_
    refine retE rfl ?_
    
    exact ⟨L, rfl, hP, by rw [List.take_of_length_le (by rw [hP.length_eq]; omega)] at hW; exact hW, hst⟩
theorem q_pdq {p : Pers} {w : World} {R : List Assn} {g c : Nat} {zs : List Int} (h0 : 0 < zs.length) (h12 : zs.length ≤ 12) (hcz : zs.length ≤ c) (r : Int) (hst : St p w (SL.Own 3 1 (.slice (some ⟨g, 0, none⟩) zs.length c) zs.length (zs.flatMap ienc) :: R)) :
    Calls Tryz.prog 234 #[.slice (some ⟨g, 0, none⟩) zs.length c, .int .i64 0, .int .i64 ((zs.length : Nat) : Int), .int .i64 r] w fun e w => ∃ L : List Int, e = .returned (.tuple #[]) ∧ L.Perm zs ∧ L.Pairwise (· ≤ ·) ∧ St p w (SL.Own 3 1 (.slice (some ⟨g, 0, none⟩) zs.length c) zs.length (L.flatMap ienc) :: R) := by
  refine enter Tryz.func234 rfl (by simp) (n := 134) rfl fun τ hτ => ?_
  have hs0 : τ 0 = .slice (some ⟨g, 0, none⟩) zs.length c := hτ 0 (by simp)
  have hs1 : τ 1 = .int .i64 0 := hτ 1 (by simp)
  have hs2 : τ 2 = .int .i64 ((zs.length : Nat) : Int) := hτ 2 (by simp)
  have hs3 : τ 3 = .int .i64 r := hτ 3 (by simp)
  clear hτ
  refine CW.seq ?_
  refine CW.region ?_
  refine RW.soft Wd.a (v := .bool true) (by exact E.assign rfl) ?_
  refine RW.fin (fun τ => τ 0 = .slice (some ⟨g, 0, none⟩) zs.length c ∧ τ 1 = .int .i64 0 ∧ τ 2 = .int .i64 ((zs.length : Nat) : Int) ∧ τ 3 = .int .i64 r ∧ τ 8 = .bool true) ⟨up rfl hs0, up rfl hs1, up rfl hs2, up rfl hs3, tp⟩ ?_
  rintro τ ⟨hs0, hs1, hs2, hs3, hs8⟩
  refine CW.seq ?_
  refine CW.region ?_
  refine RW.soft Wd.a (v := .bool true) (by exact E.assign rfl) ?_
  refine RW.fin (fun τ => τ 0 = .slice (some ⟨g, 0, none⟩) zs.length c ∧ τ 1 = .int .i64 0 ∧ τ 2 = .int .i64 ((zs.length : Nat) : Int) ∧ τ 3 = .int .i64 r ∧ τ 8 = .bool true ∧ τ 9 = .bool true) ⟨up rfl hs0, up rfl hs1, up rfl hs2, up rfl hs3, up rfl hs8, tp⟩ ?_
  rintro τ ⟨hs0, hs1, hs2, hs3, hs8, hs9⟩
  refine CW.block ?_
  refine CW.loop (fun (k : Nat) (τ : Fr) (w : World) => ∃ (u_ : Unit), k = 0 ∧ τ 0 = .slice (some ⟨g, 0, none⟩) zs.length c ∧ τ 1 = .int .i64 0 ∧ τ 2 = .int .i64 ((zs.length : Nat) : Int) ∧ τ 3 = .int .i64 r ∧ τ 8 = .bool true ∧ τ 9 = .bool true ∧ St p w (SL.Own 3 1 (.slice (some ⟨g, 0, none⟩) zs.length c) zs.length (zs.flatMap ienc) :: R)) (0) ⟨(), rfl, hs0, hs1, hs2, hs3, hs8, hs9, hst⟩ ?_
  clear hst
  rintro k τ w ⟨u_, hk0, hs0, hs1, hs2, hs3, hs8, hs9, hst⟩
  refine CW.block ?_
  refine CW.seq ?_
  refine CW.region ?_
  refine RW.soft Wd.a (v := .int .i64 ((zs.length : Nat) : Int)) (by exact E.move (AF_ev rfl hs2)) ?_
  refine RW.soft Wd.a (v := .int .i64 0) (by exact E.move (AF_ev rfl (up rfl hs1))) ?_
  refine RW.soft Wd.a (v := .int .i64 ((zs.length : Nat) : Int)) (by exact E.sub (k := .i64) (a := ((zs.length : Nat) : Int)) (b := 0) (AF_ev rfl (up rfl tp)) (AF_ev rfl tp) (show IntKind.i64.wrap (((zs.length : Nat) : Int) - 0) = ((zs.length : Nat) : Int) from (by rw [IntWalk.i64_in _ (by omega)] <;> omega))) ?_
  refine RW.soft Wd.a (v := .int .i64 ((zs.length : Nat) : Int)) (by exact E.assign (AF_ev rfl tp)) ?_
  refine RW.fin (fun τ => τ 0 = .slice (some ⟨g, 0, none⟩) zs.length c ∧ τ 1 = .int .i64 0 ∧ τ 2 = .int .i64 ((zs.length : Nat) : Int) ∧ τ 3 = .int .i64 r ∧ τ 8 = .bool true ∧ τ 9 = .bool true ∧ τ 10 = .int .i64 ((zs.length : Nat) : Int)) ⟨up rfl (up rfl (up rfl (up rfl hs0))), up rfl (up rfl (up rfl (up rfl hs1))), up rfl (up rfl (up rfl (up rfl hs2))), up rfl (up rfl (up rfl (up rfl hs3))), up rfl (up rfl (up rfl (up rfl hs8))), up rfl (up rfl (up rfl (up rfl hs9))), tp⟩ ?_
  rintro τ ⟨hs0, hs1, hs2, hs3, hs8, hs9, hs10⟩
  refine CW.seq ?_
  refine CW.seq ?_
  refine CW.region ?_
  refine RW.soft Wd.a (v := .int .i64 ((zs.length : Nat) : Int)) (by exact E.move (AF_ev rfl hs10)) ?_
  refine RW.soft Wd.a (v := .bool true) (by exact E.b (a := decide (((zs.length : Nat) : Int) ≤ 12)) (E.leq (k := .i64) (a := ((zs.length : Nat) : Int)) (b := 12) (AF_ev rfl tp) rfl) (decide_eq_true (by omega))) ?_
  refine RW.fin (fun τ => τ 0 = .slice (some ⟨g, 0, none⟩) zs.length c ∧ τ 1 = .int .i64 0 ∧ τ 2 = .int .i64 ((zs.length : Nat) : Int) ∧ τ 3 = .int .i64 r ∧ τ 8 = .bool true ∧ τ 9 = .bool true ∧ τ 10 = .int .i64 ((zs.length : Nat) : Int) ∧ τ 23 = .bool true) ⟨up rfl (up rfl hs0), up rfl (up rfl hs1), up rfl (up rfl hs2), up rfl (up rfl hs3), up rfl (up rfl hs8), up rfl (up rfl hs9), up rfl (up rfl hs10), tp⟩ ?_
  rintro τ ⟨hs0, hs1, hs2, hs3, hs8, hs9, hs10, hs23⟩
  refine CW.condT (AF_ev rfl hs23) ?_
  refine CW.seq ?_
  refine CW.region ?_
  refine RW.soft Wd.a (v := .slice (some ⟨g, 0, none⟩) zs.length c) (by exact E.move (AF_ev rfl hs0)) ?_
  refine RW.soft Wd.a (v := .int .i64 0) (by exact E.move (AF_ev rfl (up rfl hs1))) ?_
  refine RW.soft Wd.a (v := .int .i64 ((zs.length : Nat) : Int)) (by exact E.move (AF_ev rfl (up rfl (up rfl hs2)))) ?_
  refine RW.hard Wd.a ?_
  refine H.call0 Tryz.func244 nm244 rfl (map3 (AF_ev rfl (up rfl (up rfl tp))) (AF_ev rfl (up rfl tp)) (AF_ev rfl tp)) (Calls.mono (q_isort h0 h12 hcz hst) ?_)
  rintro _ w ⟨L, rfl, hP, hW, hst⟩
  refine ⟨_, rfl, ?_⟩
  show RW _ _ _ _ _ _ _
  refine RW.fin (fun τ => τ 0 = .slice (some ⟨g, 0, none⟩) zs.length c ∧ τ 1 = .int .i64 0 ∧ τ 2 = .int .i64 ((zs.length : Nat) : Int) ∧ τ 3 = .int .i64 r ∧ τ 8 = .bool true ∧ τ 9 = .bool true ∧ τ 10 = .int .i64 ((zs.length : Nat) : Int) ∧ τ 23 = .bool true) ⟨up rfl (up rfl (up rfl (up rfl hs0))), up rfl (up rfl (up rfl (up rfl hs1))), up rfl (up rfl (up rfl (up rfl hs2))), up rfl (up rfl (up rfl (up rfl hs3))), up rfl (up rfl (up rfl (up rfl hs8))), up rfl (up rfl (up rfl (up rfl hs9))), up rfl (up rfl (up rfl (up rfl hs10))), up rfl (up rfl (up rfl (up rfl hs23)))⟩ ?_
  rintro τ ⟨hs0, hs1, hs2, hs3, hs8, hs9, hs10, hs23⟩
  refine CW.ret ?_
  refine Th.r ?_
  refine Bl.r ?_
  refine Th.r ?_
  refine Bl.r ?_
  refine retN (rs := []) (vs := []) rfl (by exact .nil) (by simp) ?_
  
  exact ⟨L, rfl, hP, hW, hst⟩

theorem q_Sort {p : Pers} {w : World} {R : List Assn} {g c : Nat} {zs : List Int} (h0 : 0 < zs.length) (h12 : zs.length ≤ 12) (hcz : zs.length ≤ c) (hst : St p w (SL.Own 3 1 (.slice (some ⟨g, 0, none⟩) zs.length c) zs.length (zs.flatMap ienc) :: R)) :
    Calls Tryz.prog 210 #[.slice (some ⟨g, 0, none⟩) zs.length c] w fun e w => ∃ L : List Int, e = .returned (.tuple #[]) ∧ L.Perm zs ∧ L.Pairwise (· ≤ ·) ∧ St p w (SL.Own 3 1 (.slice (some ⟨g, 0, none⟩) zs.length c) zs.length (L.flatMap ienc) :: R) := by
  refine enter Tryz.func210 rfl (by simp) (n := 11) rfl fun τ hτ => ?_
  have hs0 : τ 0 = .slice (some ⟨g, 0, none⟩) zs.length c := hτ 0 (by simp)
  clear hτ
  refine CW.seq ?_
  refine CW.region ?_
  refine RW.soft Wd.a (v := .slice (some ⟨g, 0, none⟩) zs.length c) (by exact E.move (AF_ev rfl hs0)) ?_
  refine RW.soft Wd.a (v := .int .i64 ((zs.length : Nat) : Int)) (by exact E.lenS (p := (some ⟨g, 0, none⟩)) (l := zs.length) (c := c) Tryz.underlying244 (AF_ev rfl tp)) ?_
  refine RW.soft Wd.a (v := .int .i64 ((zs.length : Nat) : Int)) (by exact E.assign (AF_ev rfl tp)) ?_
  refine RW.fin (fun τ => τ 0 = .slice (some ⟨g, 0, none⟩) zs.length c ∧ τ 2 = .int .i64 ((zs.length : Nat) : Int)) ⟨up rfl (up rfl (up rfl hs0)), tp⟩ ?_
  rintro τ ⟨hs0, hs2⟩
  refine CW.region ?_
  refine RW.soft Wd.a (v := .slice (some ⟨g, 0, none⟩) zs.length c) (by exact E.move (AF_ev rfl hs0)) ?_
  refine RW.soft Wd.a (v := .int .i64 ((zs.length : Nat) : Int)) (by exact E.move (AF_ev rfl (up rfl hs2))) ?_
  refine RW.soft Wd.a (v := .int .i64 ((zs.length : Nat) : Int)) (by exact E.move (AF_ev rfl (up rfl (up rfl hs2)))) ?_
  refine RW.soft Wd.a (v := .int .u64 ((zs.length : Nat) : Int)) (by exact E.convInt (a := ((zs.length : Nat) : Int)) (by rw [Tryz.underlying3]; rfl) Tryz.underlying243 (AF_ev rfl tp) (show IntKind.u64.wrap (((zs.length : Nat) : Int)) = ((zs.length : Nat) : Int) from (by rw [IntWalk.u64_in _ (by omega)]))) ?_
  refine RW.hard Wd.a ?_
  refine H.call0 Tryz.func190 nm190 rfl (map1 (AF_ev rfl tp)) (Calls.mono (q_Len zs.length h12 hst) ?_)
  rintro _ w ⟨r, rfl, hst⟩
  refine ⟨_, rfl, ?_⟩
  show RW _ _ _ _ _ _ _
  refine RW.hard Wd.a ?_
  refine H.call0 Tryz.func234 nm234 rfl (map4 (AF_ev rfl (up rfl (up rfl (up rfl (up rfl tp))))) rfl (AF_ev rfl (up rfl (up rfl (up rfl tp)))) (AF_ev rfl tp)) (Calls.mono (q_pdq h0 h12 hcz r hst) ?_)
  rintro _ w ⟨L, rfl, hP, hW, hst⟩
  refine ⟨_, rfl, ?_⟩
  show RW _ _ _ _ _ _ _
  refine RW.nil ?_
  refine retE rfl ?_
  
  exact ⟨L, rfl, hP, hW, hst⟩

theorem ks_Sorted {p : Pers} {w : World} {R : List Assn} {b Bm : Nat} {ks : List (Int × Value)} (hl : ks.length ≤ 12) (hk : ∀ q ∈ ks, I64 q.1) (h0 : 0 < ks.length) (hst : St p w (pt Bm (.cells #[.map (some b)] 174) :: MapI b ks :: R)) :
    Calls Tryz.prog 191 #[.func (.func 211) #[] #[.pointer (some ⟨Bm, 0, none⟩)]] w fun e w' => ∃ (v : Value) (L : List Int), e = .returned v ∧ L.Perm (ks.map (·.1)) ∧ L.Pairwise (· ≤ ·) ∧ St p w' (SL.Own 3 1 v ks.length (L.flatMap ienc) :: pt Bm (.cells #[.map (some b)] 174) :: MapI b ks :: R) := by
  refine enter Tryz.func191 rfl (by simp) (n := 9) rfl fun τ hτ => ?_
  have hs0 : τ 0 = .func (.func 211) #[] #[.pointer (some ⟨Bm, 0, none⟩)] := hτ 0 (by simp)
  clear hτ
  refine CW.seq ?_
  refine CW.region ?_
  refine RW.soft Wd.a (v := .slice none 0 0) (by exact E.assign rfl) ?_
  refine RW.fin (fun τ => τ 0 = .func (.func 211) #[] #[.pointer (some ⟨Bm, 0, none⟩)] ∧ τ 2 = .slice none 0 0) ⟨up rfl hs0, tp⟩ ?_
  rintro τ ⟨hs0, hs2⟩
  refine CW.seq ?_
  refine CW.region ?_
  refine RW.soft Wd.a (v := .func (.func 211) #[] #[.pointer (some ⟨Bm, 0, none⟩)]) (by exact E.move (AF_ev rfl hs0)) ?_
  refine RW.hard Wd.a ?_
  refine H.call0 Tryz.func209 nm209 rfl (map1 (AF_ev rfl tp)) (Calls.mono (ks_Collect hl hk hst) ?_)
  rintro _ w ⟨vX1, xs, rfl, hPm, hst⟩
  obtain ⟨X1, c2, heX1, hcX1, hmX1, hlX1, hbX1⟩ := hst.shape
  subst heX1
  have hxl : xs.length = ks.length := by rw [hPm.length_eq, List.length_map]
  refine ⟨_, rfl, ?_⟩
  show RW _ _ _ _ _ _ _
  refine RW.soft Wd.a (v := .slice X1 xs.length c2) (by exact E.assign (AF_ev rfl tp)) ?_
  refine RW.fin (fun τ => τ 0 = .func (.func 211) #[] #[.pointer (some ⟨Bm, 0, none⟩)] ∧ τ 2 = .slice none 0 0 ∧ τ 3 = .slice X1 xs.length c2) ⟨up rfl (up rfl (up rfl hs0)), up rfl (up rfl (up rfl hs2)), tp⟩ ?_
  rintro τ ⟨hs0, hs2, hs3⟩
  refine CW.seq ?_
  obtain ⟨X8, c8, he8, hc8, hm8, hl8, hb8⟩ := hst.shape
  cases he8
  obtain ⟨g, hg⟩ := hb8 (by omega)
  subst hg
  refine CW.region ?_
  refine RW.soft Wd.a (v := .slice (some ⟨g, 0, none⟩) xs.length c2) (by exact E.move (AF_ev rfl hs3)) ?_
  refine RW.hard Wd.a ?_
  refine H.call0 Tryz.func210 nm210 rfl (map1 (AF_ev rfl tp)) (Calls.mono (q_Sort (zs := xs) (by omega) (by omega) hc8 hst) ?_)
  rintro _ w ⟨L2, rfl, hP, hW, hst⟩
  refine ⟨_, rfl, ?_⟩
  show RW _ _ _ _ _ _ _
  refine RW.fin (fun τ => τ 0 = .func (.func 211) #[] #[.pointer (some ⟨Bm, 0, none⟩)] ∧ τ 2 = .slice none 0 0 ∧ τ 3 = .slice (some ⟨g, 0, none⟩) xs.length c2) ⟨up rfl (up rfl hs0), up rfl (up rfl hs2), up rfl (up rfl hs3)⟩ ?_
  rintro τ ⟨hs0, hs2, hs3⟩
  refine CW.seq ?_
  refine CW.region ?_
  refine RW.soft Wd.a (v := .slice (some ⟨g, 0, none⟩) xs.length c2) (by exact E.move (AF_ev rfl hs3)) ?_
  refine RW.soft Wd.a (v := .slice (some ⟨g, 0, none⟩) xs.length c2) (by exact E.assign (AF_ev rfl tp)) ?_
  refine RW.fin (fun τ => τ 0 = .func (.func 211) #[] #[.pointer (some ⟨Bm, 0, none⟩)] ∧ τ 2 = .slice (some ⟨g, 0, none⟩) xs.length c2 ∧ τ 3 = .slice (some ⟨g, 0, none⟩) xs.length c2) ⟨up rfl (up rfl hs0), tp, up rfl (up rfl hs3)⟩ ?_
  rintro τ ⟨hs0, hs2, hs3⟩
  refine CW.ret ?_
  refine ret1 (v := .slice (some ⟨g, 0, none⟩) xs.length c2) rfl (by exact (.tmp (AF_ev rfl hs2) .nil)) ?_
  have hst := hst.take (.there (.there .here))
  have hst := hst.take (.there (.there .here))
  have hst := hst.take (.there (.there .here))
  exact ⟨_, L2, rfl, hP.trans hPm, hW, by rw [← hxl]; exact hst⟩

theorem q_isort0 {p : Pers} {w : World} {R : List Assn} (X : Option Addr) (c : Nat) (hst : St p w (R)) :
    Calls Tryz.prog 244 #[.slice X 0 c, .int .i64 0, .int .i64 0] w fun e w => e = .returned (.tuple #[]) ∧ St p w R := by
  refine enter Tryz.func244 rfl (by simp) (n := 49) rfl fun τ hτ => ?_
  have hs0 : τ 0 = .slice X 0 c := hτ 0 (by simp)
  have hs1 : τ 1 = .int .i64 0 := hτ 1 (by simp)
  have hs2 : τ 2 = .int .i64 0 := hτ 2 (by simp)
  clear hτ
  refine CW.seq ?_
  refine CW.region ?_
  refine RW.soft Wd.a (v := .int .i64 0) (by exact E.move (AF_ev rfl hs1)) ?_
  refine RW.soft Wd.a (v := .int .i64 1) (by exact E.add (k := .i64) (a := 0) (b := 1) (AF_ev rfl tp) rfl rfl) ?_
  refine RW.soft Wd.a (v := .int .i64 1) (by exact E.assign (AF_ev rfl tp)) ?_
  refine RW.fin (fun τ => τ 0 = .slice X 0 c ∧ τ 1 = .int .i64 0 ∧ τ 2 = .int .i64 0 ∧ τ 6 = .int .i64 1) ⟨up rfl (up rfl (up rfl hs0)), up rfl (up rfl (up rfl hs1)), up rfl (up rfl (up rfl hs2)), tp⟩ ?_
  rintro τ ⟨hs0, hs1, hs2, hs6⟩
  refine CW.block ?_
  refine CW.loop (fun (k : Nat) (τ : Fr) (w : World) => ∃ (u_ : Unit), k = 0 ∧ τ 0 = .slice X 0 c ∧ τ 1 = .int .i64 0 ∧ τ 2 = .int .i64 0 ∧ τ 6 = .int .i64 1 ∧ St p w (R)) (0) ⟨(), rfl, hs0, hs1, hs2, hs6, hst⟩ ?_
  clear hst
  rintro k τ w ⟨u_, hk0, hs0, hs1, hs2, hs6, hst⟩
  refine CW.seq ?_
  refine CW.seq ?_
  refine CW.region ?_
  refine RW.soft Wd.a (v := .int .i64 1) (by exact E.move (AF_ev rfl hs6)) ?_
  refine RW.soft Wd.a (v := .int .i64 0) (by exact E.move (AF_ev rfl (up rfl hs2))) ?_
  refine RW.soft Wd.a (v := .bool false) (by exact E.lss (k := .i64) (a := 1) (b := 0) (AF_ev rfl (up rfl tp)) (AF_ev rfl tp)) ?_
  refine RW.fin (fun τ => τ 0 = .slice X 0 c ∧ τ 1 = .int .i64 0 ∧ τ 2 = .int .i64 0 ∧ τ 6 = .int .i64 1 ∧ τ 12 = .bool false) ⟨up rfl (up rfl (up rfl hs0)), up rfl (up rfl (up rfl hs1)), up rfl (up rfl (up rfl hs2)), up rfl (up rfl (up rfl hs6)), tp⟩ ?_
  rintro τ ⟨hs0, hs1, hs2, hs6, hs12⟩
  refine CW.condF (AF_ev rfl hs12) ?_
  refine CW.exit ?_
  refine Th.x ?_
  refine Th.x ?_
  refine Bl.x ?_
  refine retE rfl ?_
  
  exact ⟨rfl, hst⟩

theorem q_pdq0 {p : Pers} {w : World} {R : List Assn} (X : Option Addr) (c : Nat) (r : Int) (hst : St p w (R)) :
    Calls Tryz.prog 234 #[.slice X 0 c, .int .i64 0, .int .i64 0, .int .i64 r] w fun e w => e = .returned (.tuple #[]) ∧ St p w R := by
  refine enter Tryz.func234 rfl (by simp) (n := 134) rfl fun τ hτ => ?_
  have hs0 : τ 0 = .slice X 0 c := hτ 0 (by simp)
  have hs1 : τ 1 = .int .i64 0 := hτ 1 (by simp)
  have hs2 : τ 2 = .int .i64 0 := hτ 2 (by simp)
  have hs3 : τ 3 = .int .i64 r := hτ 3 (by simp)
  clear hτ
  refine CW.seq ?_
  refine CW.region ?_
  refine RW.soft Wd.a (v := .bool true) (by exact E.assign rfl) ?_
  refine RW.fin (fun τ => τ 0 = .slice X 0 c ∧ τ 1 = .int .i64 0 ∧ τ 2 = .int .i64 0 ∧ τ 3 = .int .i64 r ∧ τ 8 = .bool true) ⟨up rfl hs0, up rfl hs1, up rfl hs2, up rfl hs3, tp⟩ ?_
  rintro τ ⟨hs0, hs1, hs2, hs3, hs8⟩
  refine CW.seq ?_
  refine CW.region ?_
  refine RW.soft Wd.a (v := .bool true) (by exact E.assign rfl) ?_
  refine RW.fin (fun τ => τ 0 = .slice X 0 c ∧ τ 1 = .int .i64 0 ∧ τ 2 = .int .i64 0 ∧ τ 3 = .int .i64 r ∧ τ 8 = .bool true ∧ τ 9 = .bool true) ⟨up rfl hs0, up rfl hs1, up rfl hs2, up rfl hs3, up rfl hs8, tp⟩ ?_
  rintro τ ⟨hs0, hs1, hs2, hs3, hs8, hs9⟩
  refine CW.block ?_
  refine CW.loop (fun (k : Nat) (τ : Fr) (w : World) => ∃ (u_ : Unit), k = 0 ∧ τ 0 = .slice X 0 c ∧ τ 1 = .int .i64 0 ∧ τ 2 = .int .i64 0 ∧ τ 3 = .int .i64 r ∧ τ 8 = .bool true ∧ τ 9 = .bool true ∧ St p w (R)) (0) ⟨(), rfl, hs0, hs1, hs2, hs3, hs8, hs9, hst⟩ ?_
  clear hst
  rintro k τ w ⟨u_, hk0, hs0, hs1, hs2, hs3, hs8, hs9, hst⟩
  refine CW.block ?_
  refine CW.seq ?_
  refine CW.region ?_
  refine RW.soft Wd.a (v := .int .i64 0) (by exact E.move (AF_ev rfl hs2)) ?_
  refine RW.soft Wd.a (v := .int .i64 0) (by exact E.move (AF_ev rfl (up rfl hs1))) ?_
  refine RW.soft Wd.a (v := .int .i64 0) (by exact E.sub (k := .i64) (a := 0) (b := 0) (AF_ev rfl (up rfl tp)) (AF_ev rfl tp) rfl) ?_
  refine RW.soft Wd.a (v := .int .i64 0) (by exact E.assign (AF_ev rfl tp)) ?_
  refine RW.fin (fun τ => τ 0 = .slice X 0 c ∧ τ 1 = .int .i64 0 ∧ τ 2 = .int .i64 0 ∧ τ 3 = .int .i64 r ∧ τ 8 = .bool true ∧ τ 9 = .bool true ∧ τ 10 = .int .i64 0) ⟨up rfl (up rfl (up rfl (up rfl hs0))), up rfl (up rfl (up rfl (up rfl hs1))), up rfl (up rfl (up rfl (up rfl hs2))), up rfl (up rfl (up rfl (up rfl hs3))), up rfl (up rfl (up rfl (up rfl hs8))), up rfl (up rfl (up rfl (up rfl hs9))), tp⟩ ?_
  rintro τ ⟨hs0, hs1, hs2, hs3, hs8, hs9, hs10⟩
  refine CW.seq ?_
  refine CW.seq ?_
  refine CW.region ?_
  refine RW.soft Wd.a (v := .int .i64 0) (by exact E.move (AF_ev rfl hs10)) ?_
  refine RW.soft Wd.a (v := .bool true) (by exact E.leq (k := .i64) (a := 0) (b := 12) (AF_ev rfl tp) rfl) ?_
  refine RW.fin (fun τ => τ 0 = .slice X 0 c ∧ τ 1 = .int .i64 0 ∧ τ 2 = .int .i64 0 ∧ τ 3 = .int .i64 r ∧ τ 8 = .bool true ∧ τ 9 = .bool true ∧ τ 10 = .int .i64 0 ∧ τ 23 = .bool true) ⟨up rfl (up rfl hs0), up rfl (up rfl hs1), up rfl (up rfl hs2), up rfl (up rfl hs3), up rfl (up rfl hs8), up rfl (up rfl hs9), up rfl (up rfl hs10), tp⟩ ?_
  rintro τ ⟨hs0, hs1, hs2, hs3, hs8, hs9, hs10, hs23⟩
  refine CW.condT (AF_ev rfl hs23) ?_
  refine CW.seq ?_
  refine CW.region ?_
  refine RW.soft Wd.a (v := .slice X 0 c) (by exact E.move (AF_ev rfl hs0)) ?_
  refine RW.soft Wd.a (v := .int .i64 0) (by exact E.move (AF_ev rfl (up rfl hs1))) ?_
  refine RW.soft Wd.a (v := .int .i64 0) (by exact E.move (AF_ev rfl (up rfl (up rfl hs2)))) ?_
  refine RW.hard Wd.a ?_
  refine H.call0 Tryz.func244 nm244 rfl (map3 (AF_ev rfl (up rfl (up rfl tp))) (AF_ev rfl (up rfl tp)) (AF_ev rfl tp)) (Calls.mono (q_isort0 X c hst) ?_)
  rintro _ w ⟨rfl, hst⟩
  refine ⟨_, rfl, ?_⟩
  show RW _ _ _ _ _ _ _
  refine RW.fin (fun τ => τ 0 = .slice X 0 c ∧ τ 1 = .int .i64 0 ∧ τ 2 = .int .i64 0 ∧ τ 3 = .int .i64 r ∧ τ 8 = .bool true ∧ τ 9 = .bool true ∧ τ 10 = .int .i64 0 ∧ τ 23 = .bool true) ⟨up rfl (up rfl (up rfl (up rfl hs0))), up rfl (up rfl (up rfl (up rfl hs1))), up rfl (up rfl (up rfl (up rfl hs2))), up rfl (up rfl (up rfl (up rfl hs3))), up rfl (up rfl (up rfl (up rfl hs8))), up rfl (up rfl (up rfl (up rfl hs9))), up rfl (up rfl (up rfl (up rfl hs10))), up rfl (up rfl (up rfl (up rfl hs23)))⟩ ?_
  rintro τ ⟨hs0, hs1, hs2, hs3, hs8, hs9, hs10, hs23⟩
  refine CW.ret ?_
  refine Th.r ?_
  refine Bl.r ?_
  refine Th.r ?_
  refine Bl.r ?_
  refine retN (rs := []) (vs := []) rfl (by exact .nil) (by simp) ?_
  
  exact ⟨rfl, hst⟩

theorem q_Sort0 {p : Pers} {w : World} {R : List Assn} (X : Option Addr) (c : Nat) (hst : St p w (R)) :
    Calls Tryz.prog 210 #[.slice X 0 c] w fun e w => e = .returned (.tuple #[]) ∧ St p w R := by
  refine enter Tryz.func210 rfl (by simp) (n := 11) rfl fun τ hτ => ?_
  have hs0 : τ 0 = .slice X 0 c := hτ 0 (by simp)
  clear hτ
  refine CW.seq ?_
  refine CW.region ?_
  refine RW.soft Wd.a (v := .slice X 0 c) (by exact E.move (AF_ev rfl hs0)) ?_
  refine RW.soft Wd.a (v := .int .i64 0) (by exact E.lenS (p := X) (l := 0) (c := c) Tryz.underlying244 (AF_ev rfl tp)) ?_
  refine RW.soft Wd.a (v := .int .i64 0) (by exact E.assign (AF_ev rfl tp)) ?_
  refine RW.fin (fun τ => τ 0 = .slice X 0 c ∧ τ 2 = .int .i64 0) ⟨up rfl (up rfl (up rfl hs0)), tp⟩ ?_
  rintro τ ⟨hs0, hs2⟩
  refine CW.region ?_
  refine RW.soft Wd.a (v := .slice X 0 c) (by exact E.move (AF_ev rfl hs0)) ?_
  refine RW.soft Wd.a (v := .int .i64 0) (by exact E.move (AF_ev rfl (up rfl hs2))) ?_
  refine RW.soft Wd.a (v := .int .i64 0) (by exact E.move (AF_ev rfl (up rfl (up rfl hs2)))) ?_
  refine RW.soft Wd.a (v := .int .u64 0) (by exact E.convInt (a := 0) (by rw [Tryz.underlying3]; rfl) Tryz.underlying243 (AF_ev rfl tp) rfl) ?_
  refine RW.hard Wd.a ?_
  refine H.call0 Tryz.func190 nm190 rfl (map1 (AF_ev rfl tp)) (Calls.mono (q_Len 0 (by omega) hst) ?_)
  rintro _ w ⟨r, rfl, hst⟩
  refine ⟨_, rfl, ?_⟩
  show RW _ _ _ _ _ _ _
  refine RW.hard Wd.a ?_
  refine H.call0 Tryz.func234 nm234 rfl (map4 (AF_ev rfl (up rfl (up rfl (up rfl (up rfl tp))))) rfl (AF_ev rfl (up rfl (up rfl (up rfl tp)))) (AF_ev rfl tp)) (Calls.mono (q_pdq0 X c r hst) ?_)
  rintro _ w ⟨rfl, hst⟩
  refine ⟨_, rfl, ?_⟩
  show RW _ _ _ _ _ _ _
  refine RW.nil ?_
  refine retE rfl ?_
  
  exact ⟨rfl, hst⟩

theorem ks_Sorted0 {p : Pers} {w : World} {R : List Assn} {b Bm : Nat} {ks : List (Int × Value)} (hl : ks.length ≤ 12) (hk : ∀ q ∈ ks, I64 q.1) (h0 : ks.length = 0) (hst : St p w (pt Bm (.cells #[.map (some b)] 174) :: MapI b ks :: R)) :
    Calls Tryz.prog 191 #[.func (.func 211) #[] #[.pointer (some ⟨Bm, 0, none⟩)]] w fun e w' => ∃ (v : Value) (L : List Int), e = .returned v ∧ L.Perm (ks.map (·.1)) ∧ L.Pairwise (· ≤ ·) ∧ St p w' (SL.Own 3 1 v ks.length (L.flatMap ienc) :: pt Bm (.cells #[.map (some b)] 174) :: MapI b ks :: R) := by
  refine enter Tryz.func191 rfl (by simp) (n := 9) rfl fun τ hτ => ?_
  have hs0 : τ 0 = .func (.func 211) #[] #[.pointer (some ⟨Bm, 0, none⟩)] := hτ 0 (by simp)
  clear hτ
  refine CW.seq ?_
  refine CW.region ?_
  refine RW.soft Wd.a (v := .slice none 0 0) (by exact E.assign rfl) ?_
  refine RW.fin (fun τ => τ 0 = .func (.func 211) #[] #[.pointer (some ⟨Bm, 0, none⟩)] ∧ τ 2 = .slice none 0 0) ⟨up rfl hs0, tp⟩ ?_
  rintro τ ⟨hs0, hs2⟩
  refine CW.seq ?_
  refine CW.region ?_
  refine RW.soft Wd.a (v := .func (.func 211) #[] #[.pointer (some ⟨Bm, 0, none⟩)]) (by exact E.move (AF_ev rfl hs0)) ?_
  refine RW.hard Wd.a ?_
  refine H.call0 Tryz.func209 nm209 rfl (map1 (AF_ev rfl tp)) (Calls.mono (ks_Collect hl hk hst) ?_)
  rintro _ w ⟨vX1, xs, rfl, hPm, hst⟩
  obtain ⟨X1, c2, heX1, hcX1, hmX1, hlX1, hbX1⟩ := hst.shape
  subst heX1
  have hxl : xs.length = ks.length := by rw [hPm.length_eq, List.length_map]
  refine ⟨_, rfl, ?_⟩
  show RW _ _ _ _ _ _ _
  refine RW.soft Wd.a (v := .slice X1 xs.length c2) (by exact E.assign (AF_ev rfl tp)) ?_
  refine RW.fin (fun τ => τ 0 = .func (.func 211) #[] #[.pointer (some ⟨Bm, 0, none⟩)] ∧ τ 2 = .slice none 0 0 ∧ τ 3 = .slice X1 xs.length c2) ⟨up rfl (up rfl (up rfl hs0)), up rfl (up rfl (up rfl hs2)), tp⟩ ?_
  rintro τ ⟨hs0, hs2, hs3⟩
  refine CW.seq ?_
  obtain rfl : xs = [] := List.eq_nil_of_length_eq_zero (by omega)
  refine CW.region ?_
  refine RW.soft Wd.a (v := .slice X1 0 c2) (by exact E.move (AF_ev rfl hs3)) ?_
  refine RW.hard Wd.a ?_
  refine H.call0 Tryz.func210 nm210 rfl (map1 (AF_ev rfl tp)) (Calls.mono (q_Sort0 X1 c2 hst) ?_)
  rintro _ w ⟨rfl, hst⟩
  refine ⟨_, rfl, ?_⟩
  show RW _ _ _ _ _ _ _
  refine RW.fin (fun τ => τ 0 = .func (.func 211) #[] #[.pointer (some ⟨Bm, 0, none⟩)] ∧ τ 2 = .slice none 0 0 ∧ τ 3 = .slice X1 0 c2) ⟨up rfl (up rfl hs0), up rfl (up rfl hs2), up rfl (up rfl hs3)⟩ ?_
  rintro τ ⟨hs0, hs2, hs3⟩
  refine CW.seq ?_
  refine CW.region ?_
  refine RW.soft Wd.a (v := .slice X1 0 c2) (by exact E.move (AF_ev rfl hs3)) ?_
  refine RW.soft Wd.a (v := .slice X1 0 c2) (by exact E.assign (AF_ev rfl tp)) ?_
  refine RW.fin (fun τ => τ 0 = .func (.func 211) #[] #[.pointer (some ⟨Bm, 0, none⟩)] ∧ τ 2 = .slice X1 0 c2 ∧ τ 3 = .slice X1 0 c2) ⟨up rfl (up rfl hs0), tp, up rfl (up rfl hs3)⟩ ?_
  rintro τ ⟨hs0, hs2, hs3⟩
  refine CW.ret ?_
  refine ret1 (v := .slice X1 0 c2) rfl (by exact (.tmp (AF_ev rfl hs2) .nil)) ?_
  have hst := hst.take (.there (.there .here))
  have hst := hst.take (.there (.there .here))
  have hst := hst.take (.there (.there .here))
  exact ⟨_, [], rfl, hPm, List.Pairwise.nil, by rw [h0]; exact hst⟩

theorem ks_SortedAll {p : Pers} {w : World} {R : List Assn} {b Bm : Nat} {ks : List (Int × Value)} (hl : ks.length ≤ 12) (hk : ∀ q ∈ ks, I64 q.1) (hst : St p w (pt Bm (.cells #[.map (some b)] 174) :: MapI b ks :: R)) : Calls Tryz.prog 191 #[.func (.func 211) #[] #[.pointer (some ⟨Bm, 0, none⟩)]] w (fun e w' => ∃ (v : Value) (L : List Int), e = .returned v ∧ L.Perm (ks.map (·.1)) ∧ L.Pairwise (· ≤ ·) ∧ St p w' (SL.Own 3 1 v ks.length (L.flatMap ienc) :: pt Bm (.cells #[.map (some b)] 174) :: MapI b ks :: R)) := by
  rcases Nat.eq_zero_or_pos ks.length with h | h
  · exact ks_Sorted0 hl hk h hst
  · exact ks_Sorted hl hk h hst
end Go.Proofs.YtifokhheojnipaaGreatDoor
namespace Go.Proofs.YtifokhheojnipaaGreatDoor
open Go.RowKit Go.SL Go.GX
set_option linter.unusedVariables false
set_option linter.unusedSimpArgs false
section
variable {P : Program} (w : World)
theorem eqIn_map (d : Nat) (t k e : TypeId) (p : Option Nat) (h : P.underlying t = some (.map k e)) : (Op.equalIn (d + 1) t (.map p) (.map none)).run P w = .ok p.isNone w := by
  cases p <;> simp [Op.equalIn, run_underlying h]
theorem eql_map (t k e : TypeId) (p : Option Nat) (h : P.underlying t = some (.map k e)) : (binOp .eql t (.map p) (.map none)).run P w = .ok (.bool p.isNone) w := by
  simp only [binOp]
  simp [show Op.equal t (.map p) (.map none) = Op.equalIn (9999 + 1) t (.map p) (.map none) from rfl, eqIn_map w 9999 t k e p h]
theorem assert_map (t xT k e : TypeId) (v : Value) (h : P.underlying t = some (.map k e)) : (Instr.typeAssert (.iface t v) xT t false).run P w = .ok v w := by
  simp [Instr.typeAssert, run_underlying h, go_sem, Result.andThen]
theorem ext_clone {r : Nat} {es : Array MapEntry} {clock : Nat} (t : TypeId) (hb : w.heap[r]? = some (.map es clock)) :
    (Extern.MapsClone.clone #[.iface t (.map (some r))]).run P w = .ok (.iface t (.map (some w.heap.size))) (w.alloc (.map es clock)) := by
  have e : Extern.MapsClone.clone #[.iface t (.map (some r))] = (getObj r >>= fun o => match o with
      | .map entries clock => (newObj (.map entries clock) >>= fun n => pure (.iface t (.map (some n))))
      | _ => stuck "maps.clone: a map expected") := rfl
  rw [e]
  simp [MapKept.run_getObj_map hb, Result.andThen, go_sem]
end
set_option maxRecDepth 100000 in
set_option maxHeartbeats 2000000 in
theorem mclone (b : Nat) (es : Array MapEntry) (clock : Nat) (w : World) (hb : w.heap[b]? = some (.map es clock)) :
    Calls Tryz.prog 152 #[.map (some b)] w fun e w' => e = .returned (.map (some w.heap.size)) ∧ w' = w.alloc (.map es clock) := by
  have hq := fun w => eql_map (P := Tryz.prog) w 174 _ _ (some b) Tryz.underlying174
  go_enter Tryz.func152, Tryz.ntmps152
  go_wp2
  rw [run_callFunc_extern Tryz.func193 (by kernel_rfl) (by kernel_rfl) (by kernel_rfl) (e := Extern.MapsClone.clone) (by kernel_rfl), ext_clone w 174 hb]
  simp only [Result.andThen]
  rw [Oper.upon_value]
  go_wp2
  rw [assert_map _ 174 20 _ _ _ Tryz.underlying174]
  simp only [Result.andThen]
  rw [Oper.upon_value]
  go_wp2
  go_ret
  exact ⟨rfl, rfl⟩
theorem sp_clone : Sp.ok Tryz.prog 152 .clone := by
  refine ⟨⟨Tryz.f152, Tryz.func152, by kernel_rfl, by kernel_rfl⟩, fun p w R b ks st => ?_⟩
  obtain ⟨es, cl, s2, he, hst⟩ := st.mapOpen
  refine Calls.mono (mclone b es cl w s2.block) ?_
  rintro e w' ⟨rfl, rfl⟩
  refine ⟨_, rfl, ?_⟩
  have s3 := s2.alloc (.map es cl)
  exact (Go.SL.St.mapClose (Go.SL.St.swap (Go.SL.St.mapClose (Go.SL.St.swap s3) he hst)) he hst)
theorem sp_sorted : Sp.ok Tryz.prog 191 (.sorted 211 174 3) := by
  refine ⟨⟨Tryz.f191, Tryz.func191, by kernel_rfl, by kernel_rfl⟩, fun p w R Bm b ks hl hk st => ?_⟩
  exact ks_SortedAll hl hk st
theorem sp_ok : SpT.ok Tryz.prog [(191, .sorted 211 174 3), (152, .clone)] := SpT.ok_cons sp_sorted (SpT.ok_cons sp_clone SpT.ok_nil)
end Go.Proofs.YtifokhheojnipaaGreatDoor
