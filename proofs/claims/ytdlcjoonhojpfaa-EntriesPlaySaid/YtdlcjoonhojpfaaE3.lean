/- The calls of the package entries, walked through operation by operation. -/
import Derived.Test.YtdlcjoonhojpfaaE0
import Derived.Test.YtdlcjoonhojpfaaT1
import Derived.Test.YtdlcjoonhojpfaaE1
import Derived.Test.YtdlcjoonhojpfaaE2
namespace Go.Proofs.Ytdlcjoonhojpfaa
open Go.RowKit Go.SL Go.E17
attribute [local irreducible] Go.SL.RW Go.SL.CW Go.SL.RD Go.SL.Hd Go.SL.St
set_option linter.unusedVariables false
set_option linter.unusedSimpArgs false

theorem nm68 : (Try.f68.name == "runtime.NumGoroutine") = false := by kernel_rfl

theorem E_sliceTo {P : Program} {ρ : Operand → Value} {dst : Option Tmp} {ty : TypeId} {pos : String} {af : Array Edge} {gd : Option (Nat × Bool)} {w : World} {x y : Operand} {t e : TypeId} {X : Option Addr} {l c j sz : Nat} (ht : P.underlying t = some (.slice e)) (hz : (P.info? e).map (·.size) = some sz)
    (hx : ρ x = .slice X l c) (hy : ρ y = .int .i64 j) (hj : j ≤ c) (hn : X = none → c = 0 ∧ l = 0) : Ev P ρ ⟨dst, .slice t x none (some y) none, ty, pos, af, gd⟩ w (.slice X j c) := by
  cases hq : P.info? e with
  | none => simp [hq] at hz
  | some q =>
    have h0 : ¬ (j : Int) < 0 := by omega
    cases X with
    | none =>
      obtain ⟨rfl, rfl⟩ := hn rfl
      obtain rfl : j = 0 := by omega
      simp [Ev, execOp, Instr.sliceAt, run_underlying ht, Instr.slice, Instr.sliceBounds, Instr.sliceBound, asIntOf, hx, hy, sizeOf, typeInfo, hq]
    | some a =>
      have h1 : (j : Int) ≤ (c : Int) := by omega
      simp [Ev, execOp, Instr.sliceAt, run_underlying ht, Instr.slice, Instr.sliceBounds, Instr.sliceBound, asIntOf, hx, hy, sizeOf, typeInfo, hq, hj, h0, h1, Addr.add]
theorem St_nilcap {p : Pers} {w : World} {H : List Assn} {e sz n c : Nat} {X : Option Addr} {xs : List Value} (s : St p w (Own e sz (.slice X n c) n xs :: H)) : X = none → c = 0 ∧ n = 0 := by
  rintro rfl
  obtain ⟨_, ⟨A, h, hn, _⟩ | ⟨g, cap, cur, h, _⟩⟩ := s.ownOpen
  · cases h; exact ⟨rfl, rfl⟩
  · cases h
def endJ (i t : Int) (T : List Int) (idx : Int) (U : List Int) : Int := if findJ i t T idx U 0 < 0 then idx + U.length else idx + findJ i t T idx U 0 + 1
theorem drop_ts {l : List Ent} {j : Nat} {x : Ent} (hx : l[j]? = some x) : (ts l).drop j = x.term :: (ts l).drop (j + 1) := by
  have h : (ts l)[j]? = some x.term := by simp [ts, hx]
  obtain ⟨hlt, he⟩ := List.getElem?_eq_some_iff.1 h
  rw [List.drop_eq_getElem_cons hlt, he]
theorem findJ_spec {i t idx : Int} {T : List Int} : ∀ (U : List Int) (n : Int), 0 ≤ n → idx + n ≤ i + T.length → 0 ≤ findJ i t T idx U n →
    n ≤ findJ i t T idx U n ∧ findJ i t T idx U n < n + U.length ∧ i < idx + findJ i t T idx U n + 1 ∧ idx + findJ i t T idx U n + 1 ≤ i + T.length + 1
  | [], n, _, _, h => by unfold findJ at h; omega
  | u :: U, n, hn, hl, h => by
    unfold findJ at h ⊢
    by_cases hs : stopB i t T (idx + n + 1) u = true
    · rw [if_pos hs] at h ⊢
      unfold stopB at hs
      rw [Bool.and_eq_true, decide_eq_true_eq] at hs
      refine ⟨by omega, by simp; omega, by omega, by omega⟩
    · rw [if_neg hs] at h ⊢
      have hl' : idx + (n + 1) ≤ i + T.length := by
        unfold stopB at hs
        rw [Bool.and_eq_true, decide_eq_true_eq, Bool.or_eq_true] at hs
        by_cases h1 : idx + n + 1 > i
        · have h2 : termE i T (idx + n + 1) = 0 := by
            by_cases h3 : termE i T (idx + n + 1) = 0
            · exact h3
            · exact absurd ⟨h1, .inl (by simpa using h3)⟩ hs
          unfold termE at h2
          rw [if_neg (by omega)] at h2
          split at h2
          · rename_i h4; omega
          · omega
        · omega
      have := findJ_spec U (n + 1) (by omega) hl' h
      simp only [List.length_cons] at this ⊢
      omega
theorem findJ_ge {i t idx : Int} {T : List Int} : ∀ (U : List Int) (n : Int), 0 ≤ n → -1 ≤ findJ i t T idx U n ∧ findJ i t T idx U n ≤ n + U.length
  | [], n, h => by unfold findJ; simp; omega
  | u :: U, n, h => by
    unfold findJ
    have := findJ_ge (i := i) (t := t) (idx := idx) (T := T) U (n + 1) (by omega)
    simp only [List.length_cons]
    split <;> omega

theorem ent_Join1 {p : Pers} {w : World} {R : List Assn} {X : Option Addr} {c b : Nat} {i t : Int} {es : List Ent} {ic gc : Nat} (hi : 0 ≤ i ∧ i ≤ 1099511627776) (hn : es.length ≤ 1000000) (hX : 0 < es.length → ∃ g, X = some ⟨g, 0, none⟩) (idx : Int) (hidx : -9223372036854775808 ≤ idx ∧ idx ≤ 4000000000000) (x : Ent) (hst : St p w (pt ic (.cells #[.int .i64 idx] 3) :: pt gc (.cells #[.pointer (some ⟨b, 0, none⟩)] 47) :: pt b (.cells #[.int .i64 i, .int .i64 t, .slice X es.length c] 122) :: Own 58 4 (.slice X es.length c) es.length (flat es) :: R)) :
    Calls Try.prog 68 #[.agg #[.int .i64 x.term, .int .i64 x.kind, .slice x.X x.ns.length x.xc, .slice x.Y x.ms.length x.yc], .pointer (some ⟨ic, 0, none⟩), .pointer (some ⟨gc, 0, none⟩)] w fun e w => e = .returned (.bool (stopB i t (ts es) (idx + 1) x.term)) ∧ St p w (pt ic (.cells #[.int .i64 (idx + 1)] 3) :: pt gc (.cells #[.pointer (some ⟨b, 0, none⟩)] 47) :: pt b (.cells #[.int .i64 i, .int .i64 t, .slice X es.length c] 122) :: Own 58 4 (.slice X es.length c) es.length (flat es) :: R) := by
  refine enter Try.func68 rfl (by simp) (n := 31) rfl fun τ hτ => ?_
  have hs0 : τ 0 = .agg #[.int .i64 x.term, .int .i64 x.kind, .slice x.X x.ns.length x.xc, .slice x.Y x.ms.length x.yc] := hτ 0 (by simp)
  have hs1 : τ 1 = .pointer (some ⟨ic, 0, none⟩) := hτ 1 (by simp)
  have hs2 : τ 2 = .pointer (some ⟨gc, 0, none⟩) := hτ 2 (by simp)
  clear hτ
  refine CW.seq ?_
  refine CW.region ?_
  refine RW.hard Wd.a ?_
  refine H.box (v := .agg #[.int .i64 x.term, .int .i64 x.kind, .slice x.X x.ns.length x.xc, .slice x.Y x.ms.length x.yc]) (AF_ev rfl hs0) hst fun b1 w hst => ?_
  refine RW.soft Wd.a (v := .bool false) (by exact E.assign rfl) ?_
  refine RW.fin (fun τ => τ 0 = .agg #[.int .i64 x.term, .int .i64 x.kind, .slice x.X x.ns.length x.xc, .slice x.Y x.ms.length x.yc] ∧ τ 1 = .pointer (some ⟨ic, 0, none⟩) ∧ τ 2 = .pointer (some ⟨gc, 0, none⟩) ∧ τ 3 = .pointer (some ⟨b1, 0, none⟩) ∧ τ 4 = .bool false) ⟨up rfl (up rfl hs0), up rfl (up rfl hs1), up rfl (up rfl hs2), up rfl tp, tp⟩ ?_
  rintro τ ⟨hs0, hs1, hs2, hs3, hs4⟩
  refine CW.seq ?_
  refine CW.region ?_
  refine RW.soft Wd.a (v := .int .i64 idx) (by exact E.load (a := ⟨ic, 0, none⟩) Try.underlying3 rfl (AF_ev rfl hs1) (hst.cell (.there .here) rfl)) ?_
  refine RW.soft Wd.a (v := .int .i64 (idx + 1)) (by exact E.add (k := .i64) (a := idx) (b := 1) (AF_ev rfl tp) rfl (show IntKind.i64.wrap (idx + 1) = idx + 1 from (by rw [IntWalk.i64_in _ (by omega)]))) ?_
  refine RW.hard Wd.a ?_
  refine H.store (b := ic) (o := 0) (v := .int .i64 (idx + 1)) (c' := #[.int .i64 (idx + 1)]) (AF_ev rfl (up rfl (up rfl hs1))) (AF_ev rfl tp) hst (.there .here) sz3 (by simp [Value.cells]) (by simp [Value.cells, Value.oneCell']) rfl fun w hst => ?_
  refine RW.fin (fun τ => τ 0 = .agg #[.int .i64 x.term, .int .i64 x.kind, .slice x.X x.ns.length x.xc, .slice x.Y x.ms.length x.yc] ∧ τ 1 = .pointer (some ⟨ic, 0, none⟩) ∧ τ 2 = .pointer (some ⟨gc, 0, none⟩) ∧ τ 3 = .pointer (some ⟨b1, 0, none⟩) ∧ τ 4 = .bool false) ⟨u0 (up rfl (up rfl hs0)), u0 (up rfl (up rfl hs1)), u0 (up rfl (up rfl hs2)), u0 (up rfl (up rfl hs3)), u0 (up rfl (up rfl hs4))⟩ ?_
  rintro τ ⟨hs0, hs1, hs2, hs3, hs4⟩
  refine CW.seq ?_
  refine CW.region ?_
  refine RW.soft Wd.a (v := .pointer (some ⟨b, 0, none⟩)) (by exact E.load (a := ⟨gc, 0, none⟩) Try.underlying47 rfl (AF_ev rfl hs2) (hst.cell (.there (.there .here)) rfl)) ?_
  refine RW.soft Wd.a (v := .int .i64 (idx + 1)) (by exact E.load (a := ⟨ic, 0, none⟩) Try.underlying3 rfl (AF_ev rfl (up rfl hs1)) (hst.cell (.there .here) rfl)) ?_
  have hst := hst.take (.there (.there (.there (.there .here))))
  have hst := hst.take (.there (.there (.there (.there .here))))
  refine RW.hard Wd.a ?_
  refine H.call0 Try.func32 nm32 rfl (map2 (AF_ev rfl (up rfl tp)) (AF_ev rfl tp)) (Calls.mono (ent_Term (by omega) (by omega) hX (idx + 1) (by omega) hst) ?_)
  rintro _ w ⟨rfl, hst⟩
  refine ⟨_, rfl, ?_⟩
  show RW _ _ _ _ _ _ _
  refine RW.soft Wd.a (v := .tuple #[.int .i64 (termT i t (ts es) (idx + 1)), .int .i64 (termE i (ts es) (idx + 1))]) (by exact E.move (AF_ev rfl tp)) ?_
  refine RW.soft Wd.a (v := .int .i64 (termT i t (ts es) (idx + 1))) (by exact E.extract (vs := #[.int .i64 (termT i t (ts es) (idx + 1)), .int .i64 (termE i (ts es) (idx + 1))]) (AF_ev rfl tp) rfl) ?_
  refine RW.soft Wd.a (v := .int .i64 (termE i (ts es) (idx + 1))) (by exact E.extract (vs := #[.int .i64 (termT i t (ts es) (idx + 1)), .int .i64 (termE i (ts es) (idx + 1))]) (AF_ev rfl (up rfl tp)) rfl) ?_
  refine RW.soft Wd.a (v := .int .i64 (termT i t (ts es) (idx + 1))) (by exact E.assign (AF_ev rfl (up rfl tp))) ?_
  refine RW.soft Wd.a (v := .int .i64 (termE i (ts es) (idx + 1))) (by exact E.assign (AF_ev rfl (up rfl tp))) ?_
  refine RW.fin (fun τ => τ 0 = .agg #[.int .i64 x.term, .int .i64 x.kind, .slice x.X x.ns.length x.xc, .slice x.Y x.ms.length x.yc] ∧ τ 1 = .pointer (some ⟨ic, 0, none⟩) ∧ τ 2 = .pointer (some ⟨gc, 0, none⟩) ∧ τ 3 = .pointer (some ⟨b1, 0, none⟩) ∧ τ 4 = .bool false ∧ τ 5 = .int .i64 (termT i t (ts es) (idx + 1)) ∧ τ 6 = .int .i64 (termE i (ts es) (idx + 1))) ⟨up rfl (up rfl (up rfl (up rfl (up rfl (up rfl (up rfl (up rfl hs0))))))), up rfl (up rfl (up rfl (up rfl (up rfl (up rfl (up rfl (up rfl hs1))))))), up rfl (up rfl (up rfl (up rfl (up rfl (up rfl (up rfl (up rfl hs2))))))), up rfl (up rfl (up rfl (up rfl (up rfl (up rfl (up rfl (up rfl hs3))))))), up rfl (up rfl (up rfl (up rfl (up rfl (up rfl (up rfl (up rfl hs4))))))), up rfl tp, tp⟩ ?_
  rintro τ ⟨hs0, hs1, hs2, hs3, hs4, hs5, hs6⟩
  refine CW.seq ?_
  refine Or.elim (Bool.eq_false_or_eq_true (decide ((idx + 1) > i))) (fun hq1 => ?_) (fun hq1 => ?_)
  · skip
    refine Or.elim (Bool.eq_false_or_eq_true ((termE i (ts es) (idx + 1)) != 0)) (fun hq2 => ?_) (fun hq2 => ?_)
    · skip
      refine CW.regionD [0, 1, 2, 3, 4, 5, 6, 7, 8, 9, 10, 11, 12, 13, 14, 15, 16] (fun w => w.cell? ⟨ic, 0, none⟩ = some (.int .i64 (idx + 1)) ∧ w.cell? ⟨gc, 0, none⟩ = some (.pointer (some ⟨b, 0, none⟩)) ∧ w.cell? ⟨b, 0, none⟩ = some (.int .i64 i)) mixed ?_
      have hst := hst.drew
      generalize w.drew = w at hst ⊢
      have hS : w.cell? ⟨ic, 0, none⟩ = some (.int .i64 (idx + 1)) ∧ w.cell? ⟨gc, 0, none⟩ = some (.pointer (some ⟨b, 0, none⟩)) ∧ w.cell? ⟨b, 0, none⟩ = some (.int .i64 i) := ⟨hst.cell (.there (.there (.there .here))) rfl, hst.cell (.there (.there (.there (.there .here)))) rfl, hst.cell .here rfl⟩
      refine RD.take 0 rfl (by kernel_rfl) Wd.a (v := .int .i64 (idx + 1)) (fun w hS => by exact E.load (a := ⟨ic, 0, none⟩) Try.underlying3 rfl (AF_ev rfl hs1) hS.1) hS ?_
      refine RD.take 1 rfl (by kernel_rfl) Wd.a (v := .pointer (some ⟨b, 0, none⟩)) (fun w hS => by exact E.load (a := ⟨gc, 0, none⟩) Try.underlying47 rfl (AF_ev rfl (up rfl hs2)) hS.2.1) hS ?_
      refine RD.take 2 rfl (by kernel_rfl) Wd.a (v := .pointer (some ⟨b, 0, none⟩)) (fun w hS => by exact E.nilCheck (a := ⟨b, 0, none⟩) (AF_ev rfl tp)) hS ?_
      refine RD.take 3 rfl (by kernel_rfl) Wd.a (v := .pointer (some ⟨b, 0, none⟩)) (fun w hS => by exact E.fieldAddr (b := b) (o := 0) (f := { name := "index", type := 3, offset := 0, embedded := false, tag := "", pkgPath := "strongroom/entries", byteOffset := 0 }) (AF_ev rfl tp) Try.underlying122 rfl sz3 rfl) hS ?_
      refine RD.take 4 rfl (by kernel_rfl) Wd.a (v := .int .i64 i) (fun w hS => by exact E.load (a := ⟨b, 0, none⟩) Try.underlying3 rfl (AF_ev rfl tp) hS.2.2) hS ?_
      refine RD.take 5 rfl (by kernel_rfl) Wd.a (v := .bool true) (fun w hS => by exact E.b (a := decide ((idx + 1) > i)) (E.gtr (k := .i64) (a := idx + 1) (b := i) (AF_ev rfl (up rfl (up rfl (up rfl (up rfl tp))))) (AF_ev rfl tp)) hq1) hS ?_
      refine RD.take 6 rfl (by kernel_rfl) Wd.a (v := .bool true) (fun w hS => by exact E.move (AF_ev rfl tp)) hS ?_
      refine RD.take 7 rfl (by kernel_rfl) (by exact Wd.yes (x := 21) rfl (AF_ev rfl tp)) (v := .int .i64 (termE i (ts es) (idx + 1))) (fun w hS => by exact E.move (AF_ev rfl (up rfl (up rfl (up rfl (up rfl (up rfl (up rfl (up rfl hs6))))))))) hS ?_
      refine RD.take 8 rfl (by kernel_rfl) (by exact Wd.yes (x := 21) rfl (AF_ev rfl (up rfl tp))) (v := .bool true) (fun w hS => by exact E.b (a := (termE i (ts es) (idx + 1)) != 0) (E.neq (k := .i64) (a := termE i (ts es) (idx + 1)) (b := 0) (AF_ev rfl tp) rfl) hq2) hS ?_
      refine RD.take 9 rfl (by kernel_rfl) (by exact Wd.yes (x := 21) rfl (AF_ev rfl (up rfl (up rfl tp)))) (v := .bool true) (fun w hS => by exact E.move (AF_ev rfl tp)) hS ?_
      refine RD.pass 10 rfl (by kernel_rfl) (by exact Wd.no (x := 24) (b := true) rfl (AF_ev rfl tp) rfl) hS ?_
      refine RD.pass 11 rfl (by kernel_rfl) (by exact Wd.no (x := 24) (b := true) rfl (AF_ev rfl (up rfl tp)) rfl) hS ?_
      refine RD.pass 12 rfl (by kernel_rfl) (by exact Wd.no (x := 24) (b := true) rfl (AF_ev rfl (up rfl (up rfl tp))) rfl) hS ?_
      refine RD.pass 13 rfl (by kernel_rfl) (by exact Wd.no (x := 24) (b := true) rfl (AF_ev rfl (up rfl (up rfl (up rfl tp)))) rfl) hS ?_
      refine RD.take 14 rfl (by kernel_rfl) (by exact Wd.yes (x := 21) rfl (AF_ev rfl (up rfl (up rfl (up rfl (up rfl (up rfl (up rfl (up rfl tp))))))))) (v := .bool true) (fun w hS => by exact E.pickT (AF_ev rfl (up rfl (up rfl (up rfl (up rfl tp))))) rfl) hS ?_
      refine RD.take 15 rfl (by kernel_rfl) Wd.a (v := .bool true) (fun w hS => by exact E.pickT (AF_ev rfl (up rfl (up rfl (up rfl (up rfl (up rfl (up rfl (up rfl (up rfl tp))))))))) (AF_ev rfl tp)) hS ?_
      refine RD.take 16 rfl (by kernel_rfl) Wd.a (v := .bool true) (fun w hS => by exact E.assign (AF_ev rfl tp)) hS ?_
      refine RD.fin (by kernel_rfl) (fun τ => τ 0 = .agg #[.int .i64 x.term, .int .i64 x.kind, .slice x.X x.ns.length x.xc, .slice x.Y x.ms.length x.yc] ∧ τ 1 = .pointer (some ⟨ic, 0, none⟩) ∧ τ 2 = .pointer (some ⟨gc, 0, none⟩) ∧ τ 3 = .pointer (some ⟨b1, 0, none⟩) ∧ τ 4 = .bool true ∧ τ 5 = .int .i64 (termT i t (ts es) (idx + 1)) ∧ τ 6 = .int .i64 (termE i (ts es) (idx + 1))) ⟨up rfl (up rfl (up rfl (up rfl (up rfl (up rfl (up rfl (up rfl (up rfl (up rfl (up rfl (up rfl (up rfl (up rfl (up rfl (up rfl (up rfl hs0)))))))))))))))), up rfl (up rfl (up rfl (up rfl (up rfl (up rfl (up rfl (up rfl (up rfl (up rfl (up rfl (up rfl (up rfl (up rfl (up rfl (up rfl (up rfl hs1)))))))))))))))), up rfl (up rfl (up rfl (up rfl (up rfl (up rfl (up rfl (up rfl (up rfl (up rfl (up rfl (up rfl (up rfl (up rfl (up rfl (up rfl (up rfl hs2)))))))))))))))), up rfl (up rfl (up rfl (up rfl (up rfl (up rfl (up rfl (up rfl (up rfl (up rfl (up rfl (up rfl (up rfl (up rfl (up rfl (up rfl (up rfl hs3)))))))))))))))), tp, up rfl (up rfl (up rfl (up rfl (up rfl (up rfl (up rfl (up rfl (up rfl (up rfl (up rfl (up rfl (up rfl (up rfl (up rfl (up rfl (up rfl hs5)))))))))))))))), up rfl (up rfl (up rfl (up rfl (up rfl (up rfl (up rfl (up rfl (up rfl (up rfl (up rfl (up rfl (up rfl (up rfl (up rfl (up rfl (up rfl hs6))))))))))))))))⟩ ?_
      rintro τ ⟨hs0, hs1, hs2, hs3, hs4, hs5, hs6⟩
      refine CW.ret ?_
      refine ret1 (v := .bool true) rfl (by exact (.tmp (AF_ev rfl hs4) .nil)) ?_
      have hst := hst.take (.there .here)
      have hst := hst.take (.there .here)
      have hst := hst.take (.there (.there (.there (.there .here))))
      have hst := hst.take (.there (.there (.there (.there .here))))
      have hst := (hst.take (.there (.there (.there (.there .here))))).drop
      exact ⟨by unfold stopB; simp only [hq1, hq2, Bool.true_or, Bool.false_or, Bool.true_and, Bool.false_and, Bool.or_true, Bool.or_false], hst⟩
    · skip
      refine Or.elim (Bool.eq_false_or_eq_true ((termT i t (ts es) (idx + 1)) != x.term)) (fun hq3 => ?_) (fun hq3 => ?_)
      · skip
        refine CW.regionD [0, 1, 2, 3, 4, 5, 6, 7, 8, 9, 10, 11, 12, 13, 14, 15, 16] (fun w => w.cell? ⟨ic, 0, none⟩ = some (.int .i64 (idx + 1)) ∧ w.cell? ⟨gc, 0, none⟩ = some (.pointer (some ⟨b, 0, none⟩)) ∧ w.cell? ⟨b, 0, none⟩ = some (.int .i64 i) ∧ w.cell? ⟨b1, 0, none⟩ = some (.int .i64 x.term)) mixed ?_
        have hst := hst.drew
        generalize w.drew = w at hst ⊢
        have hS : w.cell? ⟨ic, 0, none⟩ = some (.int .i64 (idx + 1)) ∧ w.cell? ⟨gc, 0, none⟩ = some (.pointer (some ⟨b, 0, none⟩)) ∧ w.cell? ⟨b, 0, none⟩ = some (.int .i64 i) ∧ w.cell? ⟨b1, 0, none⟩ = some (.int .i64 x.term) := ⟨hst.cell (.there (.there (.there .here))) rfl, hst.cell (.there (.there (.there (.there .here)))) rfl, hst.cell .here rfl, hst.cell (.there (.there .here)) rfl⟩
        refine RD.take 0 rfl (by kernel_rfl) Wd.a (v := .int .i64 (idx + 1)) (fun w hS => by exact E.load (a := ⟨ic, 0, none⟩) Try.underlying3 rfl (AF_ev rfl hs1) hS.1) hS ?_
        refine RD.take 1 rfl (by kernel_rfl) Wd.a (v := .pointer (some ⟨b, 0, none⟩)) (fun w hS => by exact E.load (a := ⟨gc, 0, none⟩) Try.underlying47 rfl (AF_ev rfl (up rfl hs2)) hS.2.1) hS ?_
        refine RD.take 2 rfl (by kernel_rfl) Wd.a (v := .pointer (some ⟨b, 0, none⟩)) (fun w hS => by exact E.nilCheck (a := ⟨b, 0, none⟩) (AF_ev rfl tp)) hS ?_
        refine RD.take 3 rfl (by kernel_rfl) Wd.a (v := .pointer (some ⟨b, 0, none⟩)) (fun w hS => by exact E.fieldAddr (b := b) (o := 0) (f := { name := "index", type := 3, offset := 0, embedded := false, tag := "", pkgPath := "strongroom/entries", byteOffset := 0 }) (AF_ev rfl tp) Try.underlying122 rfl sz3 rfl) hS ?_
        refine RD.take 4 rfl (by kernel_rfl) Wd.a (v := .int .i64 i) (fun w hS => by exact E.load (a := ⟨b, 0, none⟩) Try.underlying3 rfl (AF_ev rfl tp) hS.2.2.1) hS ?_
        refine RD.take 5 rfl (by kernel_rfl) Wd.a (v := .bool true) (fun w hS => by exact E.b (a := decide ((idx + 1) > i)) (E.gtr (k := .i64) (a := idx + 1) (b := i) (AF_ev rfl (up rfl (up rfl (up rfl (up rfl tp))))) (AF_ev rfl tp)) hq1) hS ?_
        refine RD.take 6 rfl (by kernel_rfl) Wd.a (v := .bool true) (fun w hS => by exact E.move (AF_ev rfl tp)) hS ?_
        refine RD.take 7 rfl (by kernel_rfl) (by exact Wd.yes (x := 21) rfl (AF_ev rfl tp)) (v := .int .i64 (termE i (ts es) (idx + 1))) (fun w hS => by exact E.move (AF_ev rfl (up rfl (up rfl (up rfl (up rfl (up rfl (up rfl (up rfl hs6))))))))) hS ?_
        refine RD.take 8 rfl (by kernel_rfl) (by exact Wd.yes (x := 21) rfl (AF_ev rfl (up rfl tp))) (v := .bool false) (fun w hS => by exact E.b (a := (termE i (ts es) (idx + 1)) != 0) (E.neq (k := .i64) (a := termE i (ts es) (idx + 1)) (b := 0) (AF_ev rfl tp) rfl) hq2) hS ?_
        refine RD.take 9 rfl (by kernel_rfl) (by exact Wd.yes (x := 21) rfl (AF_ev rfl (up rfl (up rfl tp)))) (v := .bool false) (fun w hS => by exact E.move (AF_ev rfl tp)) hS ?_
        refine RD.take 10 rfl (by kernel_rfl) (by exact Wd.yes (x := 24) rfl (AF_ev rfl tp)) (v := .int .i64 (termT i t (ts es) (idx + 1))) (fun w hS => by exact E.move (AF_ev rfl (up rfl (up rfl (up rfl (up rfl (up rfl (up rfl (up rfl (up rfl (up rfl (up rfl hs5)))))))))))) hS ?_
        refine RD.take 11 rfl (by kernel_rfl) (by exact Wd.yes (x := 24) rfl (AF_ev rfl (up rfl tp))) (v := .pointer (some ⟨b1, 0, none⟩)) (fun w hS => by exact E.fieldAddr (b := b1) (o := 0) (f := { name := "Term", type := 3, offset := 0, embedded := false, tag := "", pkgPath := "", byteOffset := 0 }) (AF_ev rfl (up rfl (up rfl (up rfl (up rfl (up rfl (up rfl (up rfl (up rfl (up rfl (up rfl (up rfl hs3)))))))))))) Try.underlying58 rfl sz3 rfl) hS ?_
        refine RD.take 12 rfl (by kernel_rfl) (by exact Wd.yes (x := 24) rfl (AF_ev rfl (up rfl (up rfl tp)))) (v := .int .i64 x.term) (fun w hS => by exact E.load (a := ⟨b1, 0, none⟩) Try.underlying3 rfl (AF_ev rfl tp) hS.2.2.2) hS ?_
        refine RD.take 13 rfl (by kernel_rfl) (by exact Wd.yes (x := 24) rfl (AF_ev rfl (up rfl (up rfl (up rfl tp))))) (v := .bool true) (fun w hS => by exact E.b (a := (termT i t (ts es) (idx + 1)) != x.term) (E.neq (k := .i64) (a := termT i t (ts es) (idx + 1)) (b := x.term) (AF_ev rfl (up rfl (up rfl tp))) (AF_ev rfl tp)) hq3) hS ?_
        refine RD.take 14 rfl (by kernel_rfl) (by exact Wd.yes (x := 21) rfl (AF_ev rfl (up rfl (up rfl (up rfl (up rfl (up rfl (up rfl (up rfl tp))))))))) (v := .bool true) (fun w hS => by exact E.pickF (AF_ev rfl (up rfl (up rfl (up rfl (up rfl tp))))) (AF_ev rfl tp)) hS ?_
        refine RD.take 15 rfl (by kernel_rfl) Wd.a (v := .bool true) (fun w hS => by exact E.pickT (AF_ev rfl (up rfl (up rfl (up rfl (up rfl (up rfl (up rfl (up rfl (up rfl tp))))))))) (AF_ev rfl tp)) hS ?_
        refine RD.take 16 rfl (by kernel_rfl) Wd.a (v := .bool true) (fun w hS => by exact E.assign (AF_ev rfl tp)) hS ?_
        refine RD.fin (by kernel_rfl) (fun τ => τ 0 = .agg #[.int .i64 x.term, .int .i64 x.kind, .slice x.X x.ns.length x.xc, .slice x.Y x.ms.length x.yc] ∧ τ 1 = .pointer (some ⟨ic, 0, none⟩) ∧ τ 2 = .pointer (some ⟨gc, 0, none⟩) ∧ τ 3 = .pointer (some ⟨b1, 0, none⟩) ∧ τ 4 = .bool true ∧ τ 5 = .int .i64 (termT i t (ts es) (idx + 1)) ∧ τ 6 = .int .i64 (termE i (ts es) (idx + 1))) ⟨up rfl (up rfl (up rfl (up rfl (up rfl (up rfl (up rfl (up rfl (up rfl (up rfl (up rfl (up rfl (up rfl (up rfl (up rfl (up rfl (up rfl hs0)))))))))))))))), up rfl (up rfl (up rfl (up rfl (up rfl (up rfl (up rfl (up rfl (up rfl (up rfl (up rfl (up rfl (up rfl (up rfl (up rfl (up rfl (up rfl hs1)))))))))))))))), up rfl (up rfl (up rfl (up rfl (up rfl (up rfl (up rfl (up rfl (up rfl (up rfl (up rfl (up rfl (up rfl (up rfl (up rfl (up rfl (up rfl hs2)))))))))))))))), up rfl (up rfl (up rfl (up rfl (up rfl (up rfl (up rfl (up rfl (up rfl (up rfl (up rfl (up rfl (up rfl (up rfl (up rfl (up rfl (up rfl hs3)))))))))))))))), tp, up rfl (up rfl (up rfl (up rfl (up rfl (up rfl (up rfl (up rfl (up rfl (up rfl (up rfl (up rfl (up rfl (up rfl (up rfl (up rfl (up rfl hs5)))))))))))))))), up rfl (up rfl (up rfl (up rfl (up rfl (up rfl (up rfl (up rfl (up rfl (up rfl (up rfl (up rfl (up rfl (up rfl (up rfl (up rfl (up rfl hs6))))))))))))))))⟩ ?_
        rintro τ ⟨hs0, hs1, hs2, hs3, hs4, hs5, hs6⟩
        refine CW.ret ?_
        refine ret1 (v := .bool true) rfl (by exact (.tmp (AF_ev rfl hs4) .nil)) ?_
        have hst := hst.take (.there .here)
        have hst := hst.take (.there .here)
        have hst := hst.take (.there (.there (.there (.there .here))))
        have hst := hst.take (.there (.there (.there (.there .here))))
        have hst := (hst.take (.there (.there (.there (.there .here))))).drop
        exact ⟨by unfold stopB; simp only [hq1, hq2, hq3, Bool.true_or, Bool.false_or, Bool.true_and, Bool.false_and, Bool.or_true, Bool.or_false], hst⟩
      · skip
        refine CW.regionD [0, 1, 2, 3, 4, 5, 6, 7, 8, 9, 10, 11, 12, 13, 14, 15, 16] (fun w => w.cell? ⟨ic, 0, none⟩ = some (.int .i64 (idx + 1)) ∧ w.cell? ⟨gc, 0, none⟩ = some (.pointer (some ⟨b, 0, none⟩)) ∧ w.cell? ⟨b, 0, none⟩ = some (.int .i64 i) ∧ w.cell? ⟨b1, 0, none⟩ = some (.int .i64 x.term)) mixed ?_
        have hst := hst.drew
        generalize w.drew = w at hst ⊢
        have hS : w.cell? ⟨ic, 0, none⟩ = some (.int .i64 (idx + 1)) ∧ w.cell? ⟨gc, 0, none⟩ = some (.pointer (some ⟨b, 0, none⟩)) ∧ w.cell? ⟨b, 0, none⟩ = some (.int .i64 i) ∧ w.cell? ⟨b1, 0, none⟩ = some (.int .i64 x.term) := ⟨hst.cell (.there (.there (.there .here))) rfl, hst.cell (.there (.there (.there (.there .here)))) rfl, hst.cell .here rfl, hst.cell (.there (.there .here)) rfl⟩
        refine RD.take 0 rfl (by kernel_rfl) Wd.a (v := .int .i64 (idx + 1)) (fun w hS => by exact E.load (a := ⟨ic, 0, none⟩) Try.underlying3 rfl (AF_ev rfl hs1) hS.1) hS ?_
        refine RD.take 1 rfl (by kernel_rfl) Wd.a (v := .pointer (some ⟨b, 0, none⟩)) (fun w hS => by exact E.load (a := ⟨gc, 0, none⟩) Try.underlying47 rfl (AF_ev rfl (up rfl hs2)) hS.2.1) hS ?_
        refine RD.take 2 rfl (by kernel_rfl) Wd.a (v := .pointer (some ⟨b, 0, none⟩)) (fun w hS => by exact E.nilCheck (a := ⟨b, 0, none⟩) (AF_ev rfl tp)) hS ?_
        refine RD.take 3 rfl (by kernel_rfl) Wd.a (v := .pointer (some ⟨b, 0, none⟩)) (fun w hS => by exact E.fieldAddr (b := b) (o := 0) (f := { name := "index", type := 3, offset := 0, embedded := false, tag := "", pkgPath := "strongroom/entries", byteOffset := 0 }) (AF_ev rfl tp) Try.underlying122 rfl sz3 rfl) hS ?_
        refine RD.take 4 rfl (by kernel_rfl) Wd.a (v := .int .i64 i) (fun w hS => by exact E.load (a := ⟨b, 0, none⟩) Try.underlying3 rfl (AF_ev rfl tp) hS.2.2.1) hS ?_
        refine RD.take 5 rfl (by kernel_rfl) Wd.a (v := .bool true) (fun w hS => by exact E.b (a := decide ((idx + 1) > i)) (E.gtr (k := .i64) (a := idx + 1) (b := i) (AF_ev rfl (up rfl (up rfl (up rfl (up rfl tp))))) (AF_ev rfl tp)) hq1) hS ?_
        refine RD.take 6 rfl (by kernel_rfl) Wd.a (v := .bool true) (fun w hS => by exact E.move (AF_ev rfl tp)) hS ?_
        refine RD.take 7 rfl (by kernel_rfl) (by exact Wd.yes (x := 21) rfl (AF_ev rfl tp)) (v := .int .i64 (termE i (ts es) (idx + 1))) (fun w hS => by exact E.move (AF_ev rfl (up rfl (up rfl (up rfl (up rfl (up rfl (up rfl (up rfl hs6))))))))) hS ?_
        refine RD.take 8 rfl (by kernel_rfl) (by exact Wd.yes (x := 21) rfl (AF_ev rfl (up rfl tp))) (v := .bool false) (fun w hS => by exact E.b (a := (termE i (ts es) (idx + 1)) != 0) (E.neq (k := .i64) (a := termE i (ts es) (idx + 1)) (b := 0) (AF_ev rfl tp) rfl) hq2) hS ?_
        refine RD.take 9 rfl (by kernel_rfl) (by exact Wd.yes (x := 21) rfl (AF_ev rfl (up rfl (up rfl tp)))) (v := .bool false) (fun w hS => by exact E.move (AF_ev rfl tp)) hS ?_
        refine RD.take 10 rfl (by kernel_rfl) (by exact Wd.yes (x := 24) rfl (AF_ev rfl tp)) (v := .int .i64 (termT i t (ts es) (idx + 1))) (fun w hS => by exact E.move (AF_ev rfl (up rfl (up rfl (up rfl (up rfl (up rfl (up rfl (up rfl (up rfl (up rfl (up rfl hs5)))))))))))) hS ?_
        refine RD.take 11 rfl (by kernel_rfl) (by exact Wd.yes (x := 24) rfl (AF_ev rfl (up rfl tp))) (v := .pointer (some ⟨b1, 0, none⟩)) (fun w hS => by exact E.fieldAddr (b := b1) (o := 0) (f := { name := "Term", type := 3, offset := 0, embedded := false, tag := "", pkgPath := "", byteOffset := 0 }) (AF_ev rfl (up rfl (up rfl (up rfl (up rfl (up rfl (up rfl (up rfl (up rfl (up rfl (up rfl (up rfl hs3)))))))))))) Try.underlying58 rfl sz3 rfl) hS ?_
        refine RD.take 12 rfl (by kernel_rfl) (by exact Wd.yes (x := 24) rfl (AF_ev rfl (up rfl (up rfl tp)))) (v := .int .i64 x.term) (fun w hS => by exact E.load (a := ⟨b1, 0, none⟩) Try.underlying3 rfl (AF_ev rfl tp) hS.2.2.2) hS ?_
        refine RD.take 13 rfl (by kernel_rfl) (by exact Wd.yes (x := 24) rfl (AF_ev rfl (up rfl (up rfl (up rfl tp))))) (v := .bool false) (fun w hS => by exact E.b (a := (termT i t (ts es) (idx + 1)) != x.term) (E.neq (k := .i64) (a := termT i t (ts es) (idx + 1)) (b := x.term) (AF_ev rfl (up rfl (up rfl tp))) (AF_ev rfl tp)) hq3) hS ?_
        refine RD.take 14 rfl (by kernel_rfl) (by exact Wd.yes (x := 21) rfl (AF_ev rfl (up rfl (up rfl (up rfl (up rfl (up rfl (up rfl (up rfl tp))))))))) (v := .bool false) (fun w hS => by exact E.pickF (AF_ev rfl (up rfl (up rfl (up rfl (up rfl tp))))) (AF_ev rfl tp)) hS ?_
        refine RD.take 15 rfl (by kernel_rfl) Wd.a (v := .bool false) (fun w hS => by exact E.pickT (AF_ev rfl (up rfl (up rfl (up rfl (up rfl (up rfl (up rfl (up rfl (up rfl tp))))))))) (AF_ev rfl tp)) hS ?_
        refine RD.take 16 rfl (by kernel_rfl) Wd.a (v := .bool false) (fun w hS => by exact E.assign (AF_ev rfl tp)) hS ?_
        refine RD.fin (by kernel_rfl) (fun τ => τ 0 = .agg #[.int .i64 x.term, .int .i64 x.kind, .slice x.X x.ns.length x.xc, .slice x.Y x.ms.length x.yc] ∧ τ 1 = .pointer (some ⟨ic, 0, none⟩) ∧ τ 2 = .pointer (some ⟨gc, 0, none⟩) ∧ τ 3 = .pointer (some ⟨b1, 0, none⟩) ∧ τ 4 = .bool false ∧ τ 5 = .int .i64 (termT i t (ts es) (idx + 1)) ∧ τ 6 = .int .i64 (termE i (ts es) (idx + 1))) ⟨up rfl (up rfl (up rfl (up rfl (up rfl (up rfl (up rfl (up rfl (up rfl (up rfl (up rfl (up rfl (up rfl (up rfl (up rfl (up rfl (up rfl hs0)))))))))))))))), up rfl (up rfl (up rfl (up rfl (up rfl (up rfl (up rfl (up rfl (up rfl (up rfl (up rfl (up rfl (up rfl (up rfl (up rfl (up rfl (up rfl hs1)))))))))))))))), up rfl (up rfl (up rfl (up rfl (up rfl (up rfl (up rfl (up rfl (up rfl (up rfl (up rfl (up rfl (up rfl (up rfl (up rfl (up rfl (up rfl hs2)))))))))))))))), up rfl (up rfl (up rfl (up rfl (up rfl (up rfl (up rfl (up rfl (up rfl (up rfl (up rfl (up rfl (up rfl (up rfl (up rfl (up rfl (up rfl hs3)))))))))))))))), tp, up rfl (up rfl (up rfl (up rfl (up rfl (up rfl (up rfl (up rfl (up rfl (up rfl (up rfl (up rfl (up rfl (up rfl (up rfl (up rfl (up rfl hs5)))))))))))))))), up rfl (up rfl (up rfl (up rfl (up rfl (up rfl (up rfl (up rfl (up rfl (up rfl (up rfl (up rfl (up rfl (up rfl (up rfl (up rfl (up rfl hs6))))))))))))))))⟩ ?_
        rintro τ ⟨hs0, hs1, hs2, hs3, hs4, hs5, hs6⟩
        refine CW.ret ?_
        refine ret1 (v := .bool false) rfl (by exact (.tmp (AF_ev rfl hs4) .nil)) ?_
        have hst := hst.take (.there .here)
        have hst := hst.take (.there .here)
        have hst := hst.take (.there (.there (.there (.there .here))))
        have hst := hst.take (.there (.there (.there (.there .here))))
        have hst := (hst.take (.there (.there (.there (.there .here))))).drop
        exact ⟨by unfold stopB; simp only [hq1, hq2, hq3, Bool.true_or, Bool.false_or, Bool.true_and, Bool.false_and, Bool.or_true, Bool.or_false], hst⟩
  · skip
    refine CW.regionD [0, 1, 2, 3, 4, 5, 6, 7, 8, 9, 10, 11, 12, 13, 14, 15, 16] (fun w => w.cell? ⟨ic, 0, none⟩ = some (.int .i64 (idx + 1)) ∧ w.cell? ⟨gc, 0, none⟩ = some (.pointer (some ⟨b, 0, none⟩)) ∧ w.cell? ⟨b, 0, none⟩ = some (.int .i64 i)) mixed ?_
    have hst := hst.drew
    generalize w.drew = w at hst ⊢
    have hS : w.cell? ⟨ic, 0, none⟩ = some (.int .i64 (idx + 1)) ∧ w.cell? ⟨gc, 0, none⟩ = some (.pointer (some ⟨b, 0, none⟩)) ∧ w.cell? ⟨b, 0, none⟩ = some (.int .i64 i) := ⟨hst.cell (.there (.there (.there .here))) rfl, hst.cell (.there (.there (.there (.there .here)))) rfl, hst.cell .here rfl⟩
    refine RD.take 0 rfl (by kernel_rfl) Wd.a (v := .int .i64 (idx + 1)) (fun w hS => by exact E.load (a := ⟨ic, 0, none⟩) Try.underlying3 rfl (AF_ev rfl hs1) hS.1) hS ?_
    refine RD.take 1 rfl (by kernel_rfl) Wd.a (v := .pointer (some ⟨b, 0, none⟩)) (fun w hS => by exact E.load (a := ⟨gc, 0, none⟩) Try.underlying47 rfl (AF_ev rfl (up rfl hs2)) hS.2.1) hS ?_
    refine RD.take 2 rfl (by kernel_rfl) Wd.a (v := .pointer (some ⟨b, 0, none⟩)) (fun w hS => by exact E.nilCheck (a := ⟨b, 0, none⟩) (AF_ev rfl tp)) hS ?_
    refine RD.take 3 rfl (by kernel_rfl) Wd.a (v := .pointer (some ⟨b, 0, none⟩)) (fun w hS => by exact E.fieldAddr (b := b) (o := 0) (f := { name := "index", type := 3, offset := 0, embedded := false, tag := "", pkgPath := "strongroom/entries", byteOffset := 0 }) (AF_ev rfl tp) Try.underlying122 rfl sz3 rfl) hS ?_
    refine RD.take 4 rfl (by kernel_rfl) Wd.a (v := .int .i64 i) (fun w hS => by exact E.load (a := ⟨b, 0, none⟩) Try.underlying3 rfl (AF_ev rfl tp) hS.2.2) hS ?_
    refine RD.take 5 rfl (by kernel_rfl) Wd.a (v := .bool false) (fun w hS => by exact E.b (a := decide ((idx + 1) > i)) (E.gtr (k := .i64) (a := idx + 1) (b := i) (AF_ev rfl (up rfl (up rfl (up rfl (up rfl tp))))) (AF_ev rfl tp)) hq1) hS ?_
    refine RD.take 6 rfl (by kernel_rfl) Wd.a (v := .bool false) (fun w hS => by exact E.move (AF_ev rfl tp)) hS ?_
    refine RD.pass 7 rfl (by kernel_rfl) (by exact Wd.no (x := 21) (b := false) rfl (AF_ev rfl tp) rfl) hS ?_
    refine RD.pass 8 rfl (by kernel_rfl) (by exact Wd.no (x := 21) (b := false) rfl (AF_ev rfl (up rfl tp)) rfl) hS ?_
    refine RD.pass 9 rfl (by kernel_rfl) (by exact Wd.no (x := 21) (b := false) rfl (AF_ev rfl (up rfl (up rfl tp))) rfl) hS ?_
    refine RD.pass 10 rfl (by kernel_rfl) (by exact Wd.u (x := 24) rfl (AF_ev rfl tp)) hS ?_
    refine RD.pass 11 rfl (by kernel_rfl) (by exact Wd.u (x := 24) rfl (AF_ev rfl (up rfl tp))) hS ?_
    refine RD.pass 12 rfl (by kernel_rfl) (by exact Wd.u (x := 24) rfl (AF_ev rfl (up rfl (up rfl tp)))) hS ?_
    refine RD.pass 13 rfl (by kernel_rfl) (by exact Wd.u (x := 24) rfl (AF_ev rfl (up rfl (up rfl (up rfl tp))))) hS ?_
    refine RD.pass 14 rfl (by kernel_rfl) (by exact Wd.no (x := 21) (b := false) rfl (AF_ev rfl (up rfl (up rfl (up rfl (up rfl (up rfl (up rfl (up rfl tp)))))))) rfl) hS ?_
    refine RD.take 15 rfl (by kernel_rfl) Wd.a (v := .bool false) (fun w hS => by exact E.pickF (AF_ev rfl (up rfl (up rfl (up rfl (up rfl (up rfl (up rfl (up rfl (up rfl tp))))))))) rfl) hS ?_
    refine RD.take 16 rfl (by kernel_rfl) Wd.a (v := .bool false) (fun w hS => by exact E.assign (AF_ev rfl tp)) hS ?_
    refine RD.fin (by kernel_rfl) (fun τ => τ 0 = .agg #[.int .i64 x.term, .int .i64 x.kind, .slice x.X x.ns.length x.xc, .slice x.Y x.ms.length x.yc] ∧ τ 1 = .pointer (some ⟨ic, 0, none⟩) ∧ τ 2 = .pointer (some ⟨gc, 0, none⟩) ∧ τ 3 = .pointer (some ⟨b1, 0, none⟩) ∧ τ 4 = .bool false ∧ τ 5 = .int .i64 (termT i t (ts es) (idx + 1)) ∧ τ 6 = .int .i64 (termE i (ts es) (idx + 1))) ⟨up rfl (up rfl (up rfl (up rfl (up rfl (up rfl (up rfl (up rfl (up rfl (up rfl (up rfl (up rfl (up rfl (up rfl (up rfl (up rfl (up rfl hs0)))))))))))))))), up rfl (up rfl (up rfl (up rfl (up rfl (up rfl (up rfl (up rfl (up rfl (up rfl (up rfl (up rfl (up rfl (up rfl (up rfl (up rfl (up rfl hs1)))))))))))))))), up rfl (up rfl (up rfl (up rfl (up rfl (up rfl (up rfl (up rfl (up rfl (up rfl (up rfl (up rfl (up rfl (up rfl (up rfl (up rfl (up rfl hs2)))))))))))))))), up rfl (up rfl (up rfl (up rfl (up rfl (up rfl (up rfl (up rfl (up rfl (up rfl (up rfl (up rfl (up rfl (up rfl (up rfl (up rfl (up rfl hs3)))))))))))))))), tp, up rfl (up rfl (up rfl (up rfl (up rfl (up rfl (up rfl (up rfl (up rfl (up rfl (up rfl (up rfl (up rfl (up rfl (up rfl (up rfl (up rfl hs5)))))))))))))))), up rfl (up rfl (up rfl (up rfl (up rfl (up rfl (up rfl (up rfl (up rfl (up rfl (up rfl (up rfl (up rfl (up rfl (up rfl (up rfl (up rfl hs6))))))))))))))))⟩ ?_
    rintro τ ⟨hs0, hs1, hs2, hs3, hs4, hs5, hs6⟩
    refine CW.ret ?_
    refine ret1 (v := .bool false) rfl (by exact (.tmp (AF_ev rfl hs4) .nil)) ?_
    have hst := hst.take (.there .here)
    have hst := hst.take (.there .here)
    have hst := hst.take (.there (.there (.there (.there .here))))
    have hst := hst.take (.there (.there (.there (.there .here))))
    have hst := (hst.take (.there (.there (.there (.there .here))))).drop
    exact ⟨by unfold stopB; simp only [hq1, Bool.true_or, Bool.false_or, Bool.true_and, Bool.false_and, Bool.or_true, Bool.or_false], hst⟩

theorem ent_IndexFunc {p : Pers} {w : World} {R : List Assn} {X : Option Addr} {c b : Nat} {i t : Int} {es : List Ent} {ic gc : Nat} {A : Assn} {XL : Option Addr} {cl : Nat} {l : List Ent} (hi : 0 ≤ i ∧ i ≤ 1099511627776) (hn : es.length ≤ 1000000) (hX : 0 < es.length → ∃ g, X = some ⟨g, 0, none⟩) (idx : Int) (hidx : -9223372036854775808 ≤ idx ∧ idx ≤ 2000000000000) (hl : l.length ≤ 1000000) (hA : Tells p A 4 (.slice XL l.length cl) l.length (flat l)) (hst : St p w (pt ic (.cells #[.int .i64 idx] 3) :: pt gc (.cells #[.pointer (some ⟨b, 0, none⟩)] 47) :: pt b (.cells #[.int .i64 i, .int .i64 t, .slice X es.length c] 122) :: Own 58 4 (.slice X es.length c) es.length (flat es) :: A :: R)) :
    Calls Try.prog 69 #[.slice XL l.length cl, .func (.func 68) #[] #[.pointer (some ⟨ic, 0, none⟩), .pointer (some ⟨gc, 0, none⟩)]] w fun e w => e = .returned (.int .i64 (findJ i t (ts es) idx (ts l) 0)) ∧ St p w (pt ic (.cells #[.int .i64 (endJ i t (ts es) idx (ts l))] 3) :: pt gc (.cells #[.pointer (some ⟨b, 0, none⟩)] 47) :: pt b (.cells #[.int .i64 i, .int .i64 t, .slice X es.length c] 122) :: Own 58 4 (.slice X es.length c) es.length (flat es) :: A :: R) := by
  refine enter Try.func69 rfl (by simp) (n := 19) rfl fun τ hτ => ?_
  have hs0 : τ 0 = .slice XL l.length cl := hτ 0 (by simp)
  have hs1 : τ 1 = .func (.func 68) #[] #[.pointer (some ⟨ic, 0, none⟩), .pointer (some ⟨gc, 0, none⟩)] := hτ 1 (by simp)
  clear hτ
  refine CW.seq ?_
  refine CW.region ?_
  refine RW.soft Wd.a (v := .int .i64 0) (by exact E.assign rfl) ?_
  refine RW.fin (fun τ => τ 0 = .slice XL l.length cl ∧ τ 1 = .func (.func 68) #[] #[.pointer (some ⟨ic, 0, none⟩), .pointer (some ⟨gc, 0, none⟩)] ∧ τ 4 = .int .i64 0) ⟨up rfl hs0, up rfl hs1, tp⟩ ?_
  rintro τ ⟨hs0, hs1, hs4⟩
  refine CW.seq ?_
  refine CW.seq ?_
  refine CW.region ?_
  refine RW.soft Wd.a (v := .slice XL l.length cl) (by exact E.move (AF_ev rfl hs0)) ?_
  refine RW.soft Wd.a (v := .int .i64 ((l.length : Nat) : Int)) (by exact E.lenS (p := XL) (l := l.length) (c := cl) Try.underlying44 (AF_ev rfl tp)) ?_
  refine RW.soft Wd.a (v := .int .i64 0) (by exact E.move rfl) ?_
  refine RW.fin (fun τ => τ 0 = .slice XL l.length cl ∧ τ 1 = .func (.func 68) #[] #[.pointer (some ⟨ic, 0, none⟩), .pointer (some ⟨gc, 0, none⟩)] ∧ τ 4 = .int .i64 0 ∧ τ 7 = .int .i64 ((l.length : Nat) : Int) ∧ τ 8 = .int .i64 0) ⟨up rfl (up rfl (up rfl hs0)), up rfl (up rfl (up rfl hs1)), up rfl (up rfl (up rfl hs4)), up rfl tp, tp⟩ ?_
  rintro τ ⟨hs0, hs1, hs4, hs7, hs8⟩
  refine CW.block ?_
  have hst : St p w (pt ic (.cells #[.int .i64 (idx + ((0 : Nat) : Int))] 3) :: pt gc (.cells #[.pointer (some ⟨b, 0, none⟩)] 47) :: pt b (.cells #[.int .i64 i, .int .i64 t, .slice X es.length c] 122) :: Own 58 4 (.slice X es.length c) es.length (flat es) :: A :: R) := by rw [show idx + ((0 : Nat) : Int) = idx from by omega]; exact hst
  refine CW.loop (fun (k : Nat) (τ : Fr) (w : World) => ∃ (j : Nat), findJ i t (ts es) idx (ts l) 0 = findJ i t (ts es) idx ((ts l).drop j) (j : Int) ∧ j ≤ l.length ∧ k = l.length - j ∧ τ 0 = .slice XL l.length cl ∧ τ 1 = .func (.func 68) #[] #[.pointer (some ⟨ic, 0, none⟩), .pointer (some ⟨gc, 0, none⟩)] ∧ τ 7 = .int .i64 ((l.length : Nat) : Int) ∧ τ 8 = .int .i64 ((j : Nat) : Int) ∧ St p w (pt ic (.cells #[.int .i64 (idx + ((j : Nat) : Int))] 3) :: pt gc (.cells #[.pointer (some ⟨b, 0, none⟩)] 47) :: pt b (.cells #[.int .i64 i, .int .i64 t, .slice X es.length c] 122) :: Own 58 4 (.slice X es.length c) es.length (flat es) :: A :: R)) (l.length - 0) ⟨0, rfl, by omega, rfl, hs0, hs1, hs7, (int_eq (a := 0) hs8 (by omega)), hst⟩ ?_
  clear hst
  rintro k τ w ⟨j, hf, hj, hk, hs0, hs1, hs7, hs8, hst⟩
  refine CW.seq ?_
  refine CW.region ?_
  refine RW.soft Wd.a (v := .bool (decide (((j : Nat) : Int) < ((l.length : Nat) : Int)))) (by exact E.lss (k := .i64) (a := ((j : Nat) : Int)) (b := ((l.length : Nat) : Int)) (AF_ev rfl hs8) (AF_ev rfl hs7)) ?_
  refine RW.fin (fun τ => τ 0 = .slice XL l.length cl ∧ τ 1 = .func (.func 68) #[] #[.pointer (some ⟨ic, 0, none⟩), .pointer (some ⟨gc, 0, none⟩)] ∧ τ 7 = .int .i64 ((l.length : Nat) : Int) ∧ τ 8 = .int .i64 ((j : Nat) : Int) ∧ τ 9 = .bool (decide (((j : Nat) : Int) < ((l.length : Nat) : Int)))) ⟨up rfl hs0, up rfl hs1, up rfl hs7, up rfl hs8, tp⟩ ?_
  rintro τ ⟨hs0, hs1, hs7, hs8, hs9⟩
  refine CW.seq ?_
  refine CW.cond (AF_ev rfl hs9) (fun hc1 => ?_) (fun hc1 => ?_)
  · have hc1_ := hc1
    try simp only [decide_eq_true_eq, decide_eq_false_iff_not, Bool.and_eq_true, Bool.or_eq_true, Bool.and_eq_false_iff, Bool.or_eq_false_iff, Bool.not_eq_true', Bool.not_eq_false', beq_iff_eq, beq_eq_false_iff_ne, bne_iff_ne, bne_eq_false_iff_eq, ne_eq, Int.not_lt, Int.not_le, gt_iff_lt, ge_iff_le] at hc1_
    refine CW.skip ?_
    refine Th.n ?_
    refine CW.seq ?_
    refine CW.block ?_
    refine CW.seq ?_
    obtain ⟨b0, o0, rfl, hcell0⟩ := hA.place (hst.take (.there (.there (.there (.there .here))))) (by omega)
    obtain ⟨x, hx⟩ : ∃ x, l[j]? = some x := ⟨l[j]'(by omega), List.getElem?_eq_getElem (by omega)⟩
    refine CW.region ?_
    refine RW.soft Wd.a (v := .int .i64 ((j : Nat) : Int)) (by exact E.move (AF_ev rfl hs8)) ?_
    refine RW.soft Wd.a (v := .int .i64 ((j : Nat) : Int)) (by exact E.assign (AF_ev rfl tp)) ?_
    refine RW.fin (fun τ => τ 0 = .slice (some ⟨b0, o0, none⟩) l.length cl ∧ τ 1 = .func (.func 68) #[] #[.pointer (some ⟨ic, 0, none⟩), .pointer (some ⟨gc, 0, none⟩)] ∧ τ 5 = .int .i64 ((j : Nat) : Int) ∧ τ 7 = .int .i64 ((l.length : Nat) : Int) ∧ τ 8 = .int .i64 ((j : Nat) : Int) ∧ τ 9 = .bool true) ⟨up rfl (up rfl hs0), up rfl (up rfl hs1), tp, up rfl (up rfl hs7), up rfl (up rfl hs8), up rfl (up rfl (Eq.trans hs9 (congrArg Value.bool hc1)))⟩ ?_
    rintro τ ⟨hs0, hs1, hs5, hs7, hs8, hs9⟩
    refine CW.seq ?_
    refine CW.region ?_
    refine RW.soft Wd.a (v := .func (.func 68) #[] #[.pointer (some ⟨ic, 0, none⟩), .pointer (some ⟨gc, 0, none⟩)]) (by exact E.move (AF_ev rfl hs1)) ?_
    refine RW.soft Wd.a (v := .slice (some ⟨b0, o0, none⟩) l.length cl) (by exact E.move (AF_ev rfl (up rfl hs0))) ?_
    refine RW.soft Wd.a (v := .int .i64 ((j : Nat) : Int)) (by exact E.move (AF_ev rfl (up rfl (up rfl hs5)))) ?_
    refine RW.soft Wd.a (v := .pointer (some ⟨b0, o0 + j * 4, none⟩)) (by exact E.indexAddr (b := b0) (o := o0) (l := l.length) (c := cl) (i := ((j : Nat) : Int)) Try.underlying44 sz58 (AF_ev rfl (up rfl tp)) (AF_ev rfl tp) (by omega) (by omega) (by simp)) ?_
    refine RW.soft Wd.a (v := .agg #[.int .i64 x.term, .int .i64 x.kind, .slice x.X x.ns.length x.xc, .slice x.Y x.ms.length x.yc]) (by exact E.loadN (b := b0) (o := o0 + j * 4) (cs := x.enc) Try.underlying58 rfl sz58 (AF_ev rfl tp) rfl (fun j u hu => by rw [Nat.add_assoc]; exact hcell0 p.le_refl (hst.take (.there (.there (.there (.there .here))))) _ _ (flat_get Ent.enc_len hx hu))) ?_
    have hst := hst.take (.there (.there (.there .here)))
    have hst := hst.take (.there (.there (.there .here)))
    have hst := hst.take (.there (.there (.there .here)))
    have hst := hst.take (.there (.there (.there .here)))
    refine RW.hard Wd.a ?_
    refine H.call (AF_ev rfl (up rfl (up rfl (up rfl (up rfl tp))))) Try.func68 nm68 rfl (map1 (AF_ev rfl tp)) (Calls.mono (ent_Join1 (by omega) (by omega) hX (idx + ((j : Nat) : Int)) (by omega) x hst) ?_)
    rintro _ w ⟨rfl, hst⟩
    refine ⟨_, rfl, ?_⟩
    show RW _ _ _ _ _ _ _
    refine RW.fin (fun τ => τ 0 = .slice (some ⟨b0, o0, none⟩) l.length cl ∧ τ 1 = .func (.func 68) #[] #[.pointer (some ⟨ic, 0, none⟩), .pointer (some ⟨gc, 0, none⟩)] ∧ τ 5 = .int .i64 ((j : Nat) : Int) ∧ τ 7 = .int .i64 ((l.length : Nat) : Int) ∧ τ 8 = .int .i64 ((j : Nat) : Int) ∧ τ 9 = .bool true ∧ τ 16 = .bool (stopB i t (ts es) (idx + ((j : Nat) : Int) + 1) x.term)) ⟨up rfl (up rfl (up rfl (up rfl (up rfl (up rfl hs0))))), up rfl (up rfl (up rfl (up rfl (up rfl (up rfl hs1))))), up rfl (up rfl (up rfl (up rfl (up rfl (up rfl hs5))))), up rfl (up rfl (up rfl (up rfl (up rfl (up rfl hs7))))), up rfl (up rfl (up rfl (up rfl (up rfl (up rfl hs8))))), up rfl (up rfl (up rfl (up rfl (up rfl (up rfl hs9))))), tp⟩ ?_
    rintro τ ⟨hs0, hs1, hs5, hs7, hs8, hs9, hs16⟩
    refine CW.cond (AF_ev rfl hs16) (fun hc2 => ?_) (fun hc2 => ?_)
    · have hc2_ := hc2
      try simp only [decide_eq_true_eq, decide_eq_false_iff_not, Bool.and_eq_true, Bool.or_eq_true, Bool.and_eq_false_iff, Bool.or_eq_false_iff, Bool.not_eq_true', Bool.not_eq_false', beq_iff_eq, beq_eq_false_iff_ne, bne_iff_ne, bne_eq_false_iff_eq, ne_eq, Int.not_lt, Int.not_le, gt_iff_lt, ge_iff_le] at hc2_
      refine CW.seq ?_
      refine CW.region ?_
      refine RW.soft Wd.a (v := .int .i64 ((j : Nat) : Int)) (by exact E.move (AF_ev rfl hs5)) ?_
      refine RW.soft Wd.a (v := .int .i64 ((j : Nat) : Int)) (by exact E.assign (AF_ev rfl tp)) ?_
      refine RW.fin (fun τ => τ 0 = .slice (some ⟨b0, o0, none⟩) l.length cl ∧ τ 1 = .func (.func 68) #[] #[.pointer (some ⟨ic, 0, none⟩), .pointer (some ⟨gc, 0, none⟩)] ∧ τ 4 = .int .i64 ((j : Nat) : Int) ∧ τ 5 = .int .i64 ((j : Nat) : Int) ∧ τ 7 = .int .i64 ((l.length : Nat) : Int) ∧ τ 8 = .int .i64 ((j : Nat) : Int) ∧ τ 9 = .bool true ∧ τ 16 = .bool true) ⟨up rfl (up rfl hs0), up rfl (up rfl hs1), tp, up rfl (up rfl hs5), up rfl (up rfl hs7), up rfl (up rfl hs8), up rfl (up rfl hs9), up rfl (up rfl (Eq.trans hs16 (congrArg Value.bool hc2)))⟩ ?_
      rintro τ ⟨hs0, hs1, hs4, hs5, hs7, hs8, hs9, hs16⟩
      refine CW.ret ?_
      refine Bl.r ?_
      refine Th.r ?_
      refine Th.r ?_
      refine Bl.r ?_
      refine Th.r ?_
      refine ret1 (v := .int .i64 ((j : Nat) : Int)) rfl (by exact (.tmp (AF_ev rfl hs4) .nil)) ?_
      have hst := hst.take (.there (.there (.there (.there .here))))
      have hst := hst.take (.there (.there (.there (.there .here))))
      have hst := hst.take (.there (.there (.there (.there .here))))
      have hst := hst.take (.there (.there (.there (.there .here))))
      have hst := hst.take (.there (.there (.there (.there .here))))
      have hr : findJ i t (ts es) idx (ts l) 0 = j := by rw [hf, drop_ts hx]; unfold findJ; rw [if_pos hc2]
      have he : endJ i t (ts es) idx (ts l) = idx + ((j : Nat) : Int) + 1 := by unfold endJ; rw [if_neg (by omega), hr]
      exact ⟨by rw [hr], by rw [he]; exact hst⟩
    · have hc2_ := hc2
      try simp only [decide_eq_true_eq, decide_eq_false_iff_not, Bool.and_eq_true, Bool.or_eq_true, Bool.and_eq_false_iff, Bool.or_eq_false_iff, Bool.not_eq_true', Bool.not_eq_false', beq_iff_eq, beq_eq_false_iff_ne, bne_iff_ne, bne_eq_false_iff_eq, ne_eq, Int.not_lt, Int.not_le, gt_iff_lt, ge_iff_le] at hc2_
      refine CW.skip ?_
      refine Bl.n ?_
      refine Th.n ?_
      refine CW.region ?_
      refine RW.soft Wd.a (v := .int .i64 (((j : Nat) : Int) + 1)) (by exact E.add (k := .i64) (a := ((j : Nat) : Int)) (b := 1) (AF_ev rfl hs8) rfl (show IntKind.i64.wrap (((j : Nat) : Int) + 1) = ((j : Nat) : Int) + 1 from (by rw [IntWalk.i64_in _ (by omega)]))) ?_
      refine RW.soft Wd.a (v := .int .i64 (((j : Nat) : Int) + 1)) (by exact E.move (AF_ev rfl tp)) ?_
      refine RW.nil ?_
      refine Th.n ?_
      have hff : findJ i t (ts es) idx (ts l) 0 = findJ i t (ts es) idx ((ts l).drop (j + 1)) ((j + 1 : Nat) : Int) := by
        rw [hf, drop_ts hx]; conv => lhs; unfold findJ
        rw [if_neg (by rw [hc2]; simp)]; rfl
      have hst := hst.take (.there (.there (.there (.there .here))))
      have hst := hst.take (.there (.there (.there (.there .here))))
      have hst := hst.take (.there (.there (.there (.there .here))))
      have hst := hst.take (.there (.there (.there (.there .here))))
      have hst := hst.take (.there (.there (.there (.there .here))))
      have hst : St p w (pt ic (.cells #[.int .i64 (idx + ((j + 1 : Nat) : Int))] 3) :: pt gc (.cells #[.pointer (some ⟨b, 0, none⟩)] 47) :: pt b (.cells #[.int .i64 i, .int .i64 t, .slice X es.length c] 122) :: Own 58 4 (.slice X es.length c) es.length (flat es) :: A :: R) := by rw [show idx + ((j + 1 : Nat) : Int) = idx + ((j : Nat) : Int) + 1 from by omega]; exact hst
      have hst := hst.take (.there (.there (.there (.there .here))))
      have hst := hst.take (.there (.there (.there (.there .here))))
      have hst := hst.take (.there (.there (.there (.there .here))))
      have hst := hst.take (.there (.there (.there (.there .here))))
      have hst := hst.take (.there (.there (.there (.there .here))))
      exact ⟨l.length - (j + 1), by omega, j + 1, hff, (by omega), (by omega), up rfl (up rfl hs0), up rfl (up rfl hs1), up rfl (up rfl hs7), (int_eq (a := ((j : Nat) : Int) + 1) tp (by omega)), hst⟩
  · have hc1_ := hc1
    try simp only [decide_eq_true_eq, decide_eq_false_iff_not, Bool.and_eq_true, Bool.or_eq_true, Bool.and_eq_false_iff, Bool.or_eq_false_iff, Bool.not_eq_true', Bool.not_eq_false', beq_iff_eq, beq_eq_false_iff_ne, bne_iff_ne, bne_eq_false_iff_eq, ne_eq, Int.not_lt, Int.not_le, gt_iff_lt, ge_iff_le] at hc1_
    refine CW.exit ?_
    refine Th.x ?_
    refine Th.x ?_
    refine Bl.x ?_
    refine Th.n ?_
    refine CW.seq ?_
    refine CW.region ?_
    refine RW.soft Wd.a (v := .int .i64 (-1)) (by exact E.assign rfl) ?_
    refine RW.fin (fun τ => τ 0 = .slice XL l.length cl ∧ τ 1 = .func (.func 68) #[] #[.pointer (some ⟨ic, 0, none⟩), .pointer (some ⟨gc, 0, none⟩)] ∧ τ 4 = .int .i64 (-1) ∧ τ 7 = .int .i64 ((l.length : Nat) : Int) ∧ τ 8 = .int .i64 ((j : Nat) : Int) ∧ τ 9 = .bool false) ⟨up rfl hs0, up rfl hs1, tp, up rfl hs7, up rfl hs8, up rfl (Eq.trans hs9 (congrArg Value.bool hc1))⟩ ?_
    rintro τ ⟨hs0, hs1, hs4, hs7, hs8, hs9⟩
    refine CW.ret ?_
    refine ret1 (v := .int .i64 (-1)) rfl (by exact (.tmp (AF_ev rfl hs4) .nil)) ?_
    obtain rfl : j = l.length := by omega
    have hr : findJ i t (ts es) idx (ts l) 0 = -1 := by rw [hf, List.drop_eq_nil_of_le (by rw [ts_len]; omega)]; rfl
    have he : endJ i t (ts es) idx (ts l) = idx + ((l.length : Nat) : Int) := by unfold endJ; rw [if_pos (by omega), ts_len]
    exact ⟨by rw [hr], by rw [he]; exact hst⟩
end Go.Proofs.Ytdlcjoonhojpfaa
