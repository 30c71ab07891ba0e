/- The calls of the package keyring, walked through operation by operation. -/
import Derived.Test.YtdlcjoonhojpfaaK14
import Derived.Test.YtdlcjoonhojpfaaK13
import Derived.Test.YtdlcjoonhojpfaaK12
import Derived.Test.YtdlcjoonhojpfaaK11
import Derived.Test.YtdlcjoonhojpfaaK10
import Derived.Test.YtdlcjoonhojpfaaK9
import Derived.Test.YtdlcjoonhojpfaaK8
import Derived.Test.YtdlcjoonhojpfaaK7
import Derived.Test.YtdlcjoonhojpfaaK6
import Derived.Test.YtdlcjoonhojpfaaK5
import Derived.Test.YtdlcjoonhojpfaaK4
import Derived.Test.YtdlcjoonhojpfaaK3
namespace Go.Proofs.Ytdlcjoonhojpfaa
open Go.RowKit Go.SL Go.K13
attribute [local irreducible] Go.SL.RW Go.SL.CW Go.SL.RD Go.SL.Hd Go.SL.St
set_option linter.unusedVariables false
set_option linter.unusedSimpArgs false

theorem nm38 : (Try.f38.name == "runtime.NumGoroutine") = false := by kernel_rfl
theorem nm40 : (Try.f40.name == "runtime.NumGoroutine") = false := by kernel_rfl
theorem nm48 : (Try.f48.name == "runtime.NumGoroutine") = false := by kernel_rfl

theorem rowsShape2 {p : Pers} {w : World} {R : List Assn} {v : Value} {ks : RK} {n : Nat} (hn : ks.length = n) (h0 : 0 < n) (hst : St p w (RowsV v ks :: R)) : ∃ g c, v = .slice (some ⟨g, 0, none⟩) n c ∧ n ≤ c := by
  subst hn
  obtain ⟨rs, X, c, he, _, hc, _, hX, _⟩ := rowsOpen hst
  obtain ⟨g, rfl⟩ := hX h0
  exact ⟨g, c, he, hc⟩
theorem flat_take {α : Type} {f : α → List Value} {sz : Nat} (hf : ∀ a, (f a).length = sz) (l : List α) (k : Nat) : (l.flatMap f).take (k * sz) = (l.take k).flatMap f := by
  induction l generalizing k with
  | nil => simp
  | cons a l ih =>
    cases k with
    | zero => simp
    | succ k =>
      rw [List.flatMap_cons, List.take_succ_cons, List.flatMap_cons, Nat.add_mul, Nat.one_mul, ← ih k]
      rw [List.take_append, hf, Nat.add_sub_cancel, List.take_of_length_le (by rw [hf]; omega)]
theorem tells_take {p : Pers} {A : Assn} {X : Option Addr} {n c : Nat} {rs : List RingM} (k : Nat) (hA : Tells13 p A (.slice X n c) rs) (hk : k ≤ rs.length) : Tells13 p A (.slice X k c) (rs.take k) := fun w H s => by
  obtain ⟨h1, h2⟩ := hA w H s
  have hn : n = rs.length := by obtain ⟨_, X', c', he, _⟩ := h1; cases he; rfl
  subst hn
  have h3 := h1.take hk
  rw [flat_take RingM.enc_len] at h3
  have hl : (rs.take k).length = k := by rw [List.length_take]; omega
  rw [hl]
  exact ⟨h3, fun r hr => h2 r (List.mem_of_mem_take hr)⟩
def offS (m0 m1 : K32) (o : Bool) (u v : Int) : RK := [(o, [⟨m0, u, false⟩]), (false, [⟨m1, v, false⟩])]
theorem off_use {m0 m1 : K32} {u : Int} (h : 0 ≤ u ∧ u ≤ 16) : ∃ u', (0 ≤ u' ∧ u' ≤ 16) ∧ (kUse (offS m0 m1 false u 0) 1).2.2.2.2 = offS m0 m1 false u' 0 := by
  have e1 : kUse (offS m0 m1 false u 0) 1 = rUse (offS m0 m1 false u 0) 1 false [⟨m0, u, false⟩] ⟨m0, u, false⟩ := rfl
  rw [e1]; unfold rUse
  by_cases hu : 16 ≤ u
  · exact ⟨u, h, by rw [if_neg (by decide), if_neg (show ¬ (false = true) from Bool.false_ne_true), if_pos hu]⟩
  · exact ⟨u + 1, by omega, by rw [if_neg (by decide), if_neg (show ¬ (false = true) from Bool.false_ne_true), if_neg hu]; rfl⟩
theorem off_same {p : Pers} {w : World} {R : List Assn} {X Y : Option Addr} {c d : Nat} {m0 m1 : K32} {u a b : Int} (hst : St p w (RowsV (.slice X 2 c) (offS m0 m1 false u a) :: RowsV (.slice Y 2 d) (offS m0 m1 false u b) :: R)) :
    Calls Try.prog 48 #[.slice X 1 c, .slice Y 1 d] w fun e w => e = .returned (.bool true) ∧ St p w R := by
  obtain ⟨ra, hva, hst⟩ := rowsR hst
  obtain ⟨rb, hvb, hst⟩ := rowsR (hst.take (.there .here))
  have hla : ra.length = 2 := by have := congrArg List.length hva; rw [List.length_map] at this; exact this
  have hlb : rb.length = 2 := by have := congrArg List.length hvb; rw [List.length_map] at this; exact this
  have e1 : (ra.take 1).map RingM.view = [(false, [⟨m0, u, false⟩])] := by rw [List.map_take, hva]; rfl
  have e2 : (rb.take 1).map RingM.view = [(false, [⟨m0, u, false⟩])] := by rw [List.map_take, hvb]; rfl
  refine Calls.mono (ref_SameT (tells_take 1 rowsR_tells (by omega)) (tells_take 1 rowsR_tells (by omega)) (e1.trans e2.symm) ?_ (hst.take (.there .here))) ?_
  · rw [e1]; exact ⟨show 1 ≤ 12 from by decide, fun r hr => by rw [List.mem_singleton.1 hr]; exact (show 1 ≤ 8 from by decide)⟩
  · rintro _ w ⟨rfl, s⟩
    exact ⟨rfl, s.drop.drop⟩
theorem kind21 {p : Pers} {w : World} {R : List Assn} (c : Int) (hc : -9223372036854775808 ≤ c ∧ c ≤ 9223372036854775807) (hst : St p w R) : Calls Try.prog 41 #[.int .i64 c, .int .i64 21] w fun e w => e = .returned (.int .i64 (((kindF c 21).toNat : Nat) : Int)) ∧ St p w R := by
  have h := kind13 c 21 hc (by omega) hst
  have h1 : (((kindF c 21).toNat : Nat) : Int) = kindF c 21 := by
    have : 0 ≤ kindF c 21 := by unfold kindF; split <;> omega
    omega
  rw [h1]; exact h
theorem kind21_le (c : Int) : (kindF c 21).toNat ≤ 20 := by unfold kindF; split <;> omega

theorem off_walk {p : Pers} {w : World} {R : List Assn} (m0 m1 : K32) (n : Int) (hn : -9223372036854775808 ≤ n ∧ n ≤ 9223372036854775807) (hst : St p w (R)) :
    Calls Try.prog 11 #[.agg (bk m0 ++ bk m1).toArray, .int .i64 n] w fun e w => e = .returned (.bool true) ∧ St p w R := by
  refine enter Try.func11 rfl (by simp) (n := 111) rfl fun τ hτ => ?_
  have hs0 : τ 0 = .agg (bk m0 ++ bk m1).toArray := hτ 0 (by simp)
  have hs1 : τ 1 = .int .i64 n := hτ 1 (by simp)
  clear hτ
  refine CW.seq ?_
  refine CW.region ?_
  refine RW.hard Wd.a ?_
  refine H.box (v := .agg (bk m0 ++ bk m1).toArray) (AF_ev rfl hs0) hst fun b1 w hst => ?_
  refine RW.soft Wd.a (v := .bool false) (by exact E.assign rfl) ?_
  refine RW.fin (fun τ => τ 0 = .agg (bk m0 ++ bk m1).toArray ∧ τ 1 = .int .i64 n ∧ τ 2 = .pointer (some ⟨b1, 0, none⟩) ∧ τ 4 = .bool false) ⟨up rfl (up rfl hs0), up rfl (up rfl hs1), up rfl tp, tp⟩ ?_
  rintro τ ⟨hs0, hs1, hs2, hs4⟩
  refine CW.seq ?_
  refine CW.region ?_
  refine RW.hard Wd.a ?_
  refine H.call0 Try.func38 nm38 rfl map0 (Calls.mono (shown13 hst) ?_)
  rintro _ w ⟨rfl, hst⟩
  refine ⟨_, rfl, ?_⟩
  show RW _ _ _ _ _ _ _
  refine RW.soft Wd.a (v := .bool true) (by exact E.assign (AF_ev rfl tp)) ?_
  refine RW.fin (fun τ => τ 0 = .agg (bk m0 ++ bk m1).toArray ∧ τ 1 = .int .i64 n ∧ τ 2 = .pointer (some ⟨b1, 0, none⟩) ∧ τ 4 = .bool false ∧ τ 5 = .bool true) ⟨up rfl (up rfl hs0), up rfl (up rfl hs1), up rfl (up rfl hs2), up rfl (up rfl hs4), tp⟩ ?_
  rintro τ ⟨hs0, hs1, hs2, hs4, hs5⟩
  refine CW.seq ?_
  refine CW.region ?_
  refine RW.hard Wd.a ?_
  refine H.call0 Try.func39 nm39 rfl map0 (Calls.mono (prog_New hst) ?_)
  rintro _ w ⟨k2, rfl, hst⟩
  refine ⟨_, rfl, ?_⟩
  show RW _ _ _ _ _ _ _
  refine RW.soft Wd.a (v := .pointer (some ⟨k2, 0, none⟩)) (by exact E.assign (AF_ev rfl tp)) ?_
  refine RW.fin (fun τ => τ 0 = .agg (bk m0 ++ bk m1).toArray ∧ τ 1 = .int .i64 n ∧ τ 2 = .pointer (some ⟨b1, 0, none⟩) ∧ τ 4 = .bool false ∧ τ 5 = .bool true ∧ τ 6 = .pointer (some ⟨k2, 0, none⟩)) ⟨up rfl (up rfl hs0), up rfl (up rfl hs1), up rfl (up rfl hs2), up rfl (up rfl hs4), up rfl (up rfl hs5), tp⟩ ?_
  rintro τ ⟨hs0, hs1, hs2, hs4, hs5, hs6⟩
  refine CW.seq ?_
  refine CW.seq ?_
  refine CW.region ?_
  refine RW.soft Wd.a (v := .bool true) (by exact E.move (AF_ev rfl hs5)) ?_
  refine RW.soft Wd.a (v := .bool false) (by exact E.not (b := true) (AF_ev rfl tp)) ?_
  refine RW.soft Wd.a (v := .bool false) (by exact E.move (AF_ev rfl tp)) ?_
  refine RW.soft (by exact Wd.yes (x := 26) rfl (AF_ev rfl tp)) (v := .pointer (some ⟨k2, 0, none⟩)) (by exact E.move (AF_ev rfl (up rfl (up rfl (up rfl hs6))))) ?_
  refine RW.soft (by exact Wd.yes (x := 26) rfl (AF_ev rfl (up rfl tp))) (v := .bool false) (by exact E.eqlP (p := (some ⟨k2, 0, none⟩)) Try.underlying69 (AF_ev rfl tp) rfl) ?_
  refine RW.soft Wd.a (v := .bool false) (by exact E.pickF (AF_ev rfl (up rfl (up rfl tp))) (AF_ev rfl tp)) ?_
  refine RW.fin (fun τ => τ 0 = .agg (bk m0 ++ bk m1).toArray ∧ τ 1 = .int .i64 n ∧ τ 2 = .pointer (some ⟨b1, 0, none⟩) ∧ τ 4 = .bool false ∧ τ 5 = .bool true ∧ τ 6 = .pointer (some ⟨k2, 0, none⟩) ∧ τ 29 = .bool false) ⟨up rfl (up rfl (up rfl (up rfl (up rfl (up rfl hs0))))), up rfl (up rfl (up rfl (up rfl (up rfl (up rfl hs1))))), up rfl (up rfl (up rfl (up rfl (up rfl (up rfl hs2))))), up rfl (up rfl (up rfl (up rfl (up rfl (up rfl hs4))))), up rfl (up rfl (up rfl (up rfl (up rfl (up rfl hs5))))), up rfl (up rfl (up rfl (up rfl (up rfl (up rfl hs6))))), tp⟩ ?_
  rintro τ ⟨hs0, hs1, hs2, hs4, hs5, hs6, hs29⟩
  refine CW.condF (AF_ev rfl hs29) ?_
  refine CW.skip ?_
  refine Th.n ?_
  refine CW.seq ?_
  refine CW.region ?_
  refine RW.soft Wd.a (v := .pointer (some ⟨k2, 0, none⟩)) (by exact E.move (AF_ev rfl hs6)) ?_
  refine RW.soft Wd.a (v := .pointer (some ⟨b1, 0, none⟩)) (by exact E.indexAddrA (b := b1) (o := 0) (i := 0) Try.underlying89 sz74 (AF_ev rfl (up rfl hs2)) rfl (by omega) (by omega) (by simp)) ?_
  refine RW.soft Wd.a (v := .agg (bk m0).toArray) (by exact E.loadN (b := b1) (o := 0) (cs := bk m0) Try.underlying74 rfl sz74 (AF_ev rfl tp) (bk_len _) (St.cellsOf hst (.there .here) (fun j v hv => by rw [Nat.zero_add]; exact pair_at0 _ _ hv))) ?_
  refine RW.hard Wd.a ?_
  refine H.call0 Try.func42 nm42 rfl (map2 (AF_ev rfl (up rfl (up rfl tp))) (AF_ev rfl tp)) (Calls.mono ((show Calls Try.prog 42 #[.pointer (some ⟨k2, 0, none⟩), .agg (bk m0).toArray] w (fun e w => e = .returned (.tuple #[.int .i64 1, .int .i64 0]) ∧ St p w (KeysV 127 k2 ([(false, [Ver.mk m0 0 false])]) :: pt b1 (.cells (bk m0 ++ bk m1).toArray 89) :: R)) from (by
    have hm : kCreate ([]) m0 = (1, 0, [(false, [Ver.mk m0 0 false])]) := rfl
    have hq := prog_Create   m0 hst
    rw [hm] at hq; exact hq))) ?_)
  rintro _ w ⟨rfl, hst⟩
  refine ⟨_, rfl, ?_⟩
  show RW _ _ _ _ _ _ _
  refine RW.fin (fun τ => τ 0 = .agg (bk m0 ++ bk m1).toArray ∧ τ 1 = .int .i64 n ∧ τ 2 = .pointer (some ⟨b1, 0, none⟩) ∧ τ 4 = .bool false ∧ τ 5 = .bool true ∧ τ 6 = .pointer (some ⟨k2, 0, none⟩) ∧ τ 29 = .bool false) ⟨up rfl (up rfl (up rfl (up rfl hs0))), up rfl (up rfl (up rfl (up rfl hs1))), up rfl (up rfl (up rfl (up rfl hs2))), up rfl (up rfl (up rfl (up rfl hs4))), up rfl (up rfl (up rfl (up rfl hs5))), up rfl (up rfl (up rfl (up rfl hs6))), up rfl (up rfl (up rfl (up rfl hs29)))⟩ ?_
  rintro τ ⟨hs0, hs1, hs2, hs4, hs5, hs6, hs29⟩
  refine CW.seq ?_
  refine CW.region ?_
  refine RW.soft Wd.a (v := .pointer (some ⟨k2, 0, none⟩)) (by exact E.move (AF_ev rfl hs6)) ?_
  refine RW.soft Wd.a (v := .pointer (some ⟨b1, 32, none⟩)) (by exact E.indexAddrA (b := b1) (o := 0) (i := 1) Try.underlying89 sz74 (AF_ev rfl (up rfl hs2)) rfl (by omega) (by omega) (by simp)) ?_
  refine RW.soft Wd.a (v := .agg (bk m1).toArray) (by exact E.loadN (b := b1) (o := 32) (cs := bk m1) Try.underlying74 rfl sz74 (AF_ev rfl tp) (bk_len _) (St.cellsOf hst (.there .here) (fun j v hv => pair_at1 _ _ hv))) ?_
  refine RW.hard Wd.a ?_
  refine H.call0 Try.func42 nm42 rfl (map2 (AF_ev rfl (up rfl (up rfl tp))) (AF_ev rfl tp)) (Calls.mono ((show Calls Try.prog 42 #[.pointer (some ⟨k2, 0, none⟩), .agg (bk m1).toArray] w (fun e w => e = .returned (.tuple #[.int .i64 2, .int .i64 0]) ∧ St p w (KeysV 127 k2 (offS m0 m1 false 0 0) :: pt b1 (.cells (bk m0 ++ bk m1).toArray 89) :: R)) from (by
    have hm : kCreate ([(false, [Ver.mk m0 0 false])]) m1 = (2, 0, (offS m0 m1 false 0 0)) := rfl
    have hq := prog_Create   m1 hst
    rw [hm] at hq; exact hq))) ?_)
  rintro _ w ⟨rfl, hst⟩
  refine ⟨_, rfl, ?_⟩
  show RW _ _ _ _ _ _ _
  refine RW.fin (fun τ => τ 0 = .agg (bk m0 ++ bk m1).toArray ∧ τ 1 = .int .i64 n ∧ τ 2 = .pointer (some ⟨b1, 0, none⟩) ∧ τ 4 = .bool false ∧ τ 5 = .bool true ∧ τ 6 = .pointer (some ⟨k2, 0, none⟩) ∧ τ 29 = .bool false) ⟨up rfl (up rfl (up rfl (up rfl hs0))), up rfl (up rfl (up rfl (up rfl hs1))), up rfl (up rfl (up rfl (up rfl hs2))), up rfl (up rfl (up rfl (up rfl hs4))), up rfl (up rfl (up rfl (up rfl hs5))), up rfl (up rfl (up rfl (up rfl hs6))), up rfl (up rfl (up rfl (up rfl hs29)))⟩ ?_
  rintro τ ⟨hs0, hs1, hs2, hs4, hs5, hs6, hs29⟩
  refine CW.seq ?_
  refine CW.seq ?_
  refine CW.region ?_
  refine RW.soft Wd.a (v := .int .i64 0) (by exact E.assign rfl) ?_
  refine RW.fin (fun τ => τ 0 = .agg (bk m0 ++ bk m1).toArray ∧ τ 1 = .int .i64 n ∧ τ 2 = .pointer (some ⟨b1, 0, none⟩) ∧ τ 4 = .bool false ∧ τ 5 = .bool true ∧ τ 6 = .pointer (some ⟨k2, 0, none⟩) ∧ τ 7 = .int .i64 0 ∧ τ 29 = .bool false) ⟨up rfl hs0, up rfl hs1, up rfl hs2, up rfl hs4, up rfl hs5, up rfl hs6, tp, up rfl hs29⟩ ?_
  rintro τ ⟨hs0, hs1, hs2, hs4, hs5, hs6, hs7, hs29⟩
  refine CW.block ?_
  have hst := hst.take (.there .here)
  have hst := hst.take (.there .here)
  refine CW.loop (fun (k : Nat) (τ : Fr) (w : World) => ∃ (j : Nat) (u : Int), (0 ≤ u ∧ u ≤ 16) ∧ j ≤ (kindF n 21).toNat ∧ k = (kindF n 21).toNat - j ∧ τ 1 = .int .i64 n ∧ τ 2 = .pointer (some ⟨b1, 0, none⟩) ∧ τ 6 = .pointer (some ⟨k2, 0, none⟩) ∧ τ 7 = .int .i64 ((j : Nat) : Int) ∧ St p w (KeysV 127 k2 (offS m0 m1 false u 0) :: pt b1 (.cells (bk m0 ++ bk m1).toArray 89) :: R)) ((kindF n 21).toNat - 0) ⟨0, 0, by omega, by omega, rfl, hs1, hs2, hs6, (int_eq (a := 0) hs7 (by omega)), hst⟩ ?_
  clear hst
  rintro k τ w ⟨j, u, hu, hj, hkj, hs1, hs2, hs6, hs7, hst⟩
  refine CW.seq ?_
  refine CW.seq ?_
  refine CW.region ?_
  refine RW.soft Wd.a (v := .int .i64 ((j : Nat) : Int)) (by exact E.move (AF_ev rfl hs7)) ?_
  refine RW.soft Wd.a (v := .int .i64 n) (by exact E.move (AF_ev rfl (up rfl hs1))) ?_
  refine RW.hard Wd.a ?_
  refine H.call0 Try.func41 nm41 rfl (map2 (AF_ev rfl tp) rfl) (Calls.mono (kind21 n hn hst) ?_)
  rintro _ w ⟨rfl, hst⟩
  have hk21 := kind21_le n
  refine ⟨_, rfl, ?_⟩
  show RW _ _ _ _ _ _ _
  refine RW.soft Wd.a (v := .bool (decide (((j : Nat) : Int) < (((kindF n 21).toNat : Nat) : Int)))) (by exact E.lss (k := .i64) (a := ((j : Nat) : Int)) (b := (((kindF n 21).toNat : Nat) : Int)) (AF_ev rfl (up rfl (up rfl tp))) (AF_ev rfl tp)) ?_
  refine RW.fin (fun τ => τ 1 = .int .i64 n ∧ τ 2 = .pointer (some ⟨b1, 0, none⟩) ∧ τ 6 = .pointer (some ⟨k2, 0, none⟩) ∧ τ 7 = .int .i64 ((j : Nat) : Int) ∧ τ 41 = .bool (decide (((j : Nat) : Int) < (((kindF n 21).toNat : Nat) : Int)))) ⟨up rfl (up rfl (up rfl (up rfl hs1))), up rfl (up rfl (up rfl (up rfl hs2))), up rfl (up rfl (up rfl (up rfl hs6))), up rfl (up rfl (up rfl (up rfl hs7))), tp⟩ ?_
  rintro τ ⟨hs1, hs2, hs6, hs7, hs41⟩
  refine CW.cond (AF_ev rfl hs41) (fun hc3 => ?_) (fun hc3 => ?_)
  · have hc3_ := hc3
    try simp only [decide_eq_true_eq, decide_eq_false_iff_not, Bool.and_eq_true, Bool.or_eq_true, Bool.and_eq_false_iff, Bool.or_eq_false_iff, Bool.not_eq_true', Bool.not_eq_false', beq_iff_eq, beq_eq_false_iff_ne, bne_iff_ne, bne_eq_false_iff_eq, ne_eq, Int.not_lt, Int.not_le, gt_iff_lt, ge_iff_le] at hc3_
    refine CW.skip ?_
    refine Th.n ?_
    refine CW.seq ?_
    refine CW.block ?_
    refine CW.region ?_
    refine RW.soft Wd.a (v := .pointer (some ⟨k2, 0, none⟩)) (by exact E.move (AF_ev rfl hs6)) ?_
    refine RW.hard Wd.a ?_
    refine H.call0 Try.func46 nm46 rfl (map2 (AF_ev rfl tp) rfl) (Calls.mono (prog_Use 1 (by omega) hst) ?_)
    rintro _ w ⟨rfl, hst⟩
    obtain ⟨u4, hu4, hsu4⟩ := off_use (m0 := m0) (m1 := m1) hu
    rw [hsu4] at hst
    refine ⟨_, rfl, ?_⟩
    show RW _ _ _ _ _ _ _
    refine RW.nil ?_
    refine Bl.n ?_
    refine Th.n ?_
    refine CW.region ?_
    refine RW.soft Wd.a (v := .int .i64 ((j : Nat) : Int)) (by exact E.move (AF_ev rfl (up rfl (up rfl hs7)))) ?_
    refine RW.soft Wd.a (v := .int .i64 (((j : Nat) : Int) + 1)) (by exact E.add (k := .i64) (a := ((j : Nat) : Int)) (b := 1) (AF_ev rfl tp) rfl (show IntKind.i64.wrap (((j : Nat) : Int) + 1) = ((j : Nat) : Int) + 1 from (by rw [IntWalk.i64_in _ (by omega)]))) ?_
    refine RW.soft Wd.a (v := .int .i64 (((j : Nat) : Int) + 1)) (by exact E.assign (AF_ev rfl tp)) ?_
    refine RW.nil ?_
    refine Th.n ?_
    have hst := hst.take (.there .here)
    have hst := hst.take (.there .here)
    exact ⟨(kindF n 21).toNat - (j + 1), by omega, j + 1, u4, hu4, (by omega), rfl, up rfl (up rfl (up rfl (up rfl (up rfl hs1)))), up rfl (up rfl (up rfl (up rfl (up rfl hs2)))), up rfl (up rfl (up rfl (up rfl (up rfl hs6)))), (int_eq (a := ((j : Nat) : Int) + 1) tp (by omega)), hst⟩
  · have hc3_ := hc3
    try simp only [decide_eq_true_eq, decide_eq_false_iff_not, Bool.and_eq_true, Bool.or_eq_true, Bool.and_eq_false_iff, Bool.or_eq_false_iff, Bool.not_eq_true', Bool.not_eq_false', beq_iff_eq, beq_eq_false_iff_ne, bne_iff_ne, bne_eq_false_iff_eq, ne_eq, Int.not_lt, Int.not_le, gt_iff_lt, ge_iff_le] at hc3_
    refine CW.exit ?_
    refine Th.x ?_
    refine Th.x ?_
    refine Bl.x ?_
    refine Th.n ?_
    refine CW.seq ?_
    refine CW.region ?_
    refine RW.soft Wd.a (v := .pointer (some ⟨k2, 0, none⟩)) (by exact E.move (AF_ev rfl hs6)) ?_
    refine RW.hard Wd.a ?_
    refine H.call0 Try.func40 nm40 rfl (map1 (AF_ev rfl tp)) (Calls.mono (prog_Rings hst) ?_)
    rintro _ w ⟨vg5, rfl, hst⟩
    obtain ⟨g5, c6, rfl, hcg5⟩ := rowsShape2 (n := 2) rfl (by decide) hst
    refine ⟨_, rfl, ?_⟩
    show RW _ _ _ _ _ _ _
    refine RW.soft Wd.a (v := .slice (some ⟨g5, 0, none⟩) 2 c6) (by exact E.assign (AF_ev rfl tp)) ?_
    refine RW.fin (fun τ => τ 1 = .int .i64 n ∧ τ 2 = .pointer (some ⟨b1, 0, none⟩) ∧ τ 6 = .pointer (some ⟨k2, 0, none⟩) ∧ τ 7 = .int .i64 ((j : Nat) : Int) ∧ τ 8 = .slice (some ⟨g5, 0, none⟩) 2 c6 ∧ τ 41 = .bool false) ⟨up rfl (up rfl (up rfl hs1)), up rfl (up rfl (up rfl hs2)), up rfl (up rfl (up rfl hs6)), up rfl (up rfl (up rfl hs7)), tp, up rfl (up rfl (up rfl (Eq.trans hs41 (congrArg Value.bool hc3))))⟩ ?_
    rintro τ ⟨hs1, hs2, hs6, hs7, hs8, hs41⟩
    refine CW.seq ?_
    refine CW.region ?_
    refine RW.soft Wd.a (v := .pointer (some ⟨k2, 0, none⟩)) (by exact E.move (AF_ev rfl hs6)) ?_
    have hst := hst.take (.there .here)
    refine RW.hard Wd.a ?_
    refine H.call0 Try.func44 nm44 rfl (map3 (AF_ev rfl tp) rfl rfl) (Calls.mono ((show Calls Try.prog 44 #[.pointer (some ⟨k2, 0, none⟩), .int .i64 1, .bool false] w (fun e w => e = .returned (.int .i64 0) ∧ St p w (KeysV 127 k2 (offS m0 m1 true u 0) :: RowsV (.slice (some ⟨g5, 0, none⟩) 2 c6) (offS m0 m1 false u 0) :: pt b1 (.cells (bk m0 ++ bk m1).toArray 89) :: R)) from (by
      have hm : kSwitch (offS m0 m1 false u 0) 1 false = (0, (offS m0 m1 true u 0)) := rfl
      have hq := prog_Switch 1 (by omega) false hst
      rw [hm] at hq; exact hq))) ?_)
    rintro _ w ⟨rfl, hst⟩
    refine ⟨_, rfl, ?_⟩
    show RW _ _ _ _ _ _ _
    refine RW.fin (fun τ => τ 1 = .int .i64 n ∧ τ 2 = .pointer (some ⟨b1, 0, none⟩) ∧ τ 6 = .pointer (some ⟨k2, 0, none⟩) ∧ τ 7 = .int .i64 ((j : Nat) : Int) ∧ τ 8 = .slice (some ⟨g5, 0, none⟩) 2 c6 ∧ τ 41 = .bool false) ⟨up rfl (up rfl hs1), up rfl (up rfl hs2), up rfl (up rfl hs6), up rfl (up rfl hs7), up rfl (up rfl hs8), up rfl (up rfl hs41)⟩ ?_
    rintro τ ⟨hs1, hs2, hs6, hs7, hs8, hs41⟩
    refine CW.seq ?_
    refine CW.region ?_
    refine RW.soft Wd.a (v := .pointer (some ⟨k2, 0, none⟩)) (by exact E.move (AF_ev rfl hs6)) ?_
    refine RW.hard Wd.a ?_
    refine H.call0 Try.func46 nm46 rfl (map2 (AF_ev rfl tp) rfl) (Calls.mono ((show Calls Try.prog 46 #[.pointer (some ⟨k2, 0, none⟩), .int .i64 1] w (fun e w => e = .returned (.tuple #[.int .i64 0, .int .i64 0, .agg (bk kz).toArray, .int .i64 131]) ∧ St p w (KeysV 127 k2 (offS m0 m1 true u 0) :: RowsV (.slice (some ⟨g5, 0, none⟩) 2 c6) (offS m0 m1 false u 0) :: pt b1 (.cells (bk m0 ++ bk m1).toArray 89) :: R)) from (by
      have hm : kUse (offS m0 m1 true u 0) 1 = (0, 0, kz, 131, (offS m0 m1 true u 0)) := rfl
      have hq := prog_Use 1 (by omega)  hst
      rw [hm] at hq; exact hq))) ?_)
    rintro _ w ⟨rfl, hst⟩
    refine ⟨_, rfl, ?_⟩
    show RW _ _ _ _ _ _ _
    refine RW.soft Wd.a (v := .tuple #[.int .i64 0, .int .i64 0, .agg (bk kz).toArray, .int .i64 131]) (by exact E.move (AF_ev rfl tp)) ?_
    refine RW.soft Wd.a (v := .int .i64 0) (by exact E.extract (vs := #[.int .i64 0, .int .i64 0, .agg (bk kz).toArray, .int .i64 131]) (AF_ev rfl tp) rfl) ?_
    refine RW.soft Wd.a (v := .int .i64 0) (by exact E.extract (vs := #[.int .i64 0, .int .i64 0, .agg (bk kz).toArray, .int .i64 131]) (AF_ev rfl (up rfl tp)) rfl) ?_
    refine RW.soft Wd.a (v := .agg (bk kz).toArray) (by exact E.extract (vs := #[.int .i64 0, .int .i64 0, .agg (bk kz).toArray, .int .i64 131]) (AF_ev rfl (up rfl (up rfl tp))) rfl) ?_
    refine RW.soft Wd.a (v := .int .i64 131) (by exact E.extract (vs := #[.int .i64 0, .int .i64 0, .agg (bk kz).toArray, .int .i64 131]) (AF_ev rfl (up rfl (up rfl (up rfl tp)))) rfl) ?_
    refine RW.hard Wd.a ?_
    refine H.alloc zr74k hst fun b7 w hst => ?_
    refine RW.soft Wd.a (v := .int .i64 0) (by exact E.assign (AF_ev rfl (up rfl (up rfl (up rfl (up rfl tp)))))) ?_
    refine RW.soft Wd.a (v := .int .i64 0) (by exact E.assign (AF_ev rfl (up rfl (up rfl (up rfl (up rfl tp)))))) ?_
    refine RW.hard Wd.a ?_
    refine H.storeWhole (b := b7) (m := 32) (v := .agg (bk kz).toArray) (news := bk kz) (AF_ev rfl (up rfl (up rfl tp))) (AF_ev rfl (up rfl (up rfl (up rfl (up rfl tp))))) hst .here rfl (bk_len _) (by rw [List.size_toArray]; exact (bk_len _)) sz74 (bk_one _) fun w hst => ?_
    refine RW.soft Wd.a (v := .int .i64 131) (by exact E.assign (AF_ev rfl (u0 (up rfl (up rfl (up rfl tp)))))) ?_
    refine RW.fin (fun τ => τ 1 = .int .i64 n ∧ τ 2 = .pointer (some ⟨b1, 0, none⟩) ∧ τ 6 = .pointer (some ⟨k2, 0, none⟩) ∧ τ 7 = .int .i64 ((j : Nat) : Int) ∧ τ 8 = .slice (some ⟨g5, 0, none⟩) 2 c6 ∧ τ 12 = .int .i64 131 ∧ τ 41 = .bool false) ⟨up rfl (u0 (up rfl (up rfl (up rfl (up rfl (up rfl (up rfl (up rfl (up rfl (up rfl (up rfl hs1))))))))))), up rfl (u0 (up rfl (up rfl (up rfl (up rfl (up rfl (up rfl (up rfl (up rfl (up rfl (up rfl hs2))))))))))), up rfl (u0 (up rfl (up rfl (up rfl (up rfl (up rfl (up rfl (up rfl (up rfl (up rfl (up rfl hs6))))))))))), up rfl (u0 (up rfl (up rfl (up rfl (up rfl (up rfl (up rfl (up rfl (up rfl (up rfl (up rfl hs7))))))))))), up rfl (u0 (up rfl (up rfl (up rfl (up rfl (up rfl (up rfl (up rfl (up rfl (up rfl (up rfl hs8))))))))))), tp, up rfl (u0 (up rfl (up rfl (up rfl (up rfl (up rfl (up rfl (up rfl (up rfl (up rfl (up rfl hs41)))))))))))⟩ ?_
    rintro τ ⟨hs1, hs2, hs6, hs7, hs8, hs12, hs41⟩
    refine CW.seq ?_
    refine CW.region ?_
    refine RW.soft Wd.a (v := .pointer (some ⟨k2, 0, none⟩)) (by exact E.move (AF_ev rfl hs6)) ?_
    have hst := hst.take (.there .here)
    refine RW.hard Wd.a ?_
    refine H.call0 Try.func47 nm47 rfl (map3 (AF_ev rfl tp) rfl rfl) (Calls.mono ((show Calls Try.prog 47 #[.pointer (some ⟨k2, 0, none⟩), .int .i64 1, .int .i64 1] w (fun e w => e = .returned (.tuple #[.agg (bk kz).toArray, .int .i64 131]) ∧ St p w (KeysV 127 k2 (offS m0 m1 true u 0) :: pt b7 (.cells (bk kz).toArray 74) :: RowsV (.slice (some ⟨g5, 0, none⟩) 2 c6) (offS m0 m1 false u 0) :: pt b1 (.cells (bk m0 ++ bk m1).toArray 89) :: R)) from (by
      have hm : kMat (offS m0 m1 true u 0) 1 1 = (kz, 131) := rfl
      have hq := prog_Material 1 1 (by omega) (by omega)  hst
      rw [hm] at hq; exact hq))) ?_)
    rintro _ w ⟨rfl, hst⟩
    refine ⟨_, rfl, ?_⟩
    show RW _ _ _ _ _ _ _
    refine RW.soft Wd.a (v := .tuple #[.agg (bk kz).toArray, .int .i64 131]) (by exact E.move (AF_ev rfl tp)) ?_
    refine RW.soft Wd.a (v := .agg (bk kz).toArray) (by exact E.extract (vs := #[.agg (bk kz).toArray, .int .i64 131]) (AF_ev rfl tp) rfl) ?_
    refine RW.soft Wd.a (v := .int .i64 131) (by exact E.extract (vs := #[.agg (bk kz).toArray, .int .i64 131]) (AF_ev rfl (up rfl tp)) rfl) ?_
    refine RW.hard Wd.a ?_
    refine H.alloc zr74k hst fun b8 w hst => ?_
    refine RW.hard Wd.a ?_
    refine H.storeWhole (b := b8) (m := 32) (v := .agg (bk kz).toArray) (news := bk kz) (AF_ev rfl tp) (AF_ev rfl (up rfl (up rfl tp))) hst .here rfl (bk_len _) (by rw [List.size_toArray]; exact (bk_len _)) sz74 (bk_one _) fun w hst => ?_
    refine RW.soft Wd.a (v := .int .i64 131) (by exact E.assign (AF_ev rfl (u0 (up rfl tp)))) ?_
    refine RW.fin (fun τ => τ 1 = .int .i64 n ∧ τ 2 = .pointer (some ⟨b1, 0, none⟩) ∧ τ 6 = .pointer (some ⟨k2, 0, none⟩) ∧ τ 7 = .int .i64 ((j : Nat) : Int) ∧ τ 8 = .slice (some ⟨g5, 0, none⟩) 2 c6 ∧ τ 12 = .int .i64 131 ∧ τ 14 = .int .i64 131 ∧ τ 41 = .bool false) ⟨up rfl (u0 (up rfl (up rfl (up rfl (up rfl (up rfl (up rfl hs1))))))), up rfl (u0 (up rfl (up rfl (up rfl (up rfl (up rfl (up rfl hs2))))))), up rfl (u0 (up rfl (up rfl (up rfl (up rfl (up rfl (up rfl hs6))))))), up rfl (u0 (up rfl (up rfl (up rfl (up rfl (up rfl (up rfl hs7))))))), up rfl (u0 (up rfl (up rfl (up rfl (up rfl (up rfl (up rfl hs8))))))), up rfl (u0 (up rfl (up rfl (up rfl (up rfl (up rfl (up rfl hs12))))))), tp, up rfl (u0 (up rfl (up rfl (up rfl (up rfl (up rfl (up rfl hs41)))))))⟩ ?_
    rintro τ ⟨hs1, hs2, hs6, hs7, hs8, hs12, hs14, hs41⟩
    refine CW.seq ?_
    refine CW.region ?_
    refine RW.soft Wd.a (v := .pointer (some ⟨k2, 0, none⟩)) (by exact E.move (AF_ev rfl hs6)) ?_
    have hst := hst.take (.there .here)
    refine RW.hard Wd.a ?_
    refine H.call0 Try.func46 nm46 rfl (map2 (AF_ev rfl tp) rfl) (Calls.mono ((show Calls Try.prog 46 #[.pointer (some ⟨k2, 0, none⟩), .int .i64 2] w (fun e w => e = .returned (.tuple #[.int .i64 1, .int .i64 0, .agg (bk m1).toArray, .int .i64 0]) ∧ St p w (KeysV 127 k2 (offS m0 m1 true u 1) :: pt b8 (.cells (bk kz).toArray 74) :: pt b7 (.cells (bk kz).toArray 74) :: RowsV (.slice (some ⟨g5, 0, none⟩) 2 c6) (offS m0 m1 false u 0) :: pt b1 (.cells (bk m0 ++ bk m1).toArray 89) :: R)) from (by
      have hm : kUse (offS m0 m1 true u 0) 2 = (1, 0, m1, 0, (offS m0 m1 true u 1)) := rfl
      have hq := prog_Use 2 (by omega)  hst
      rw [hm] at hq; exact hq))) ?_)
    rintro _ w ⟨rfl, hst⟩
    refine ⟨_, rfl, ?_⟩
    show RW _ _ _ _ _ _ _
    refine RW.soft Wd.a (v := .tuple #[.int .i64 1, .int .i64 0, .agg (bk m1).toArray, .int .i64 0]) (by exact E.move (AF_ev rfl tp)) ?_
    refine RW.soft Wd.a (v := .int .i64 1) (by exact E.extract (vs := #[.int .i64 1, .int .i64 0, .agg (bk m1).toArray, .int .i64 0]) (AF_ev rfl tp) rfl) ?_
    refine RW.soft Wd.a (v := .int .i64 0) (by exact E.extract (vs := #[.int .i64 1, .int .i64 0, .agg (bk m1).toArray, .int .i64 0]) (AF_ev rfl (up rfl tp)) rfl) ?_
    refine RW.soft Wd.a (v := .agg (bk m1).toArray) (by exact E.extract (vs := #[.int .i64 1, .int .i64 0, .agg (bk m1).toArray, .int .i64 0]) (AF_ev rfl (up rfl (up rfl tp))) rfl) ?_
    refine RW.soft Wd.a (v := .int .i64 0) (by exact E.extract (vs := #[.int .i64 1, .int .i64 0, .agg (bk m1).toArray, .int .i64 0]) (AF_ev rfl (up rfl (up rfl (up rfl tp)))) rfl) ?_
    refine RW.hard Wd.a ?_
    refine H.alloc zr74k hst fun b9 w hst => ?_
    refine RW.soft Wd.a (v := .int .i64 1) (by exact E.assign (AF_ev rfl (up rfl (up rfl (up rfl (up rfl tp)))))) ?_
    refine RW.soft Wd.a (v := .int .i64 0) (by exact E.assign (AF_ev rfl (up rfl (up rfl (up rfl (up rfl tp)))))) ?_
    refine RW.hard Wd.a ?_
    refine H.storeWhole (b := b9) (m := 32) (v := .agg (bk m1).toArray) (news := bk m1) (AF_ev rfl (up rfl (up rfl tp))) (AF_ev rfl (up rfl (up rfl (up rfl (up rfl tp))))) hst .here rfl (bk_len _) (by rw [List.size_toArray]; exact (bk_len _)) sz74 (bk_one _) fun w hst => ?_
    refine RW.soft Wd.a (v := .int .i64 0) (by exact E.assign (AF_ev rfl (u0 (up rfl (up rfl (up rfl tp)))))) ?_
    refine RW.fin (fun τ => τ 1 = .int .i64 n ∧ τ 2 = .pointer (some ⟨b1, 0, none⟩) ∧ τ 6 = .pointer (some ⟨k2, 0, none⟩) ∧ τ 7 = .int .i64 ((j : Nat) : Int) ∧ τ 8 = .slice (some ⟨g5, 0, none⟩) 2 c6 ∧ τ 12 = .int .i64 131 ∧ τ 14 = .int .i64 131 ∧ τ 17 = .pointer (some ⟨b9, 0, none⟩) ∧ τ 18 = .int .i64 0 ∧ τ 41 = .bool false) ⟨up rfl (u0 (up rfl (up rfl (up rfl (up rfl (up rfl (up rfl (up rfl (up rfl (up rfl (up rfl hs1))))))))))), up rfl (u0 (up rfl (up rfl (up rfl (up rfl (up rfl (up rfl (up rfl (up rfl (up rfl (up rfl hs2))))))))))), up rfl (u0 (up rfl (up rfl (up rfl (up rfl (up rfl (up rfl (up rfl (up rfl (up rfl (up rfl hs6))))))))))), up rfl (u0 (up rfl (up rfl (up rfl (up rfl (up rfl (up rfl (up rfl (up rfl (up rfl (up rfl hs7))))))))))), up rfl (u0 (up rfl (up rfl (up rfl (up rfl (up rfl (up rfl (up rfl (up rfl (up rfl (up rfl hs8))))))))))), up rfl (u0 (up rfl (up rfl (up rfl (up rfl (up rfl (up rfl (up rfl (up rfl (up rfl (up rfl hs12))))))))))), up rfl (u0 (up rfl (up rfl (up rfl (up rfl (up rfl (up rfl (up rfl (up rfl (up rfl (up rfl hs14))))))))))), up rfl (u0 (up rfl (up rfl tp))), tp, up rfl (u0 (up rfl (up rfl (up rfl (up rfl (up rfl (up rfl (up rfl (up rfl (up rfl (up rfl hs41)))))))))))⟩ ?_
    rintro τ ⟨hs1, hs2, hs6, hs7, hs8, hs12, hs14, hs17, hs18, hs41⟩
    refine CW.seq ?_
    refine CW.region ?_
    refine RW.soft Wd.a (v := .pointer (some ⟨k2, 0, none⟩)) (by exact E.move (AF_ev rfl hs6)) ?_
    have hst := hst.take (.there .here)
    refine RW.hard Wd.a ?_
    refine H.call0 Try.func44 nm44 rfl (map3 (AF_ev rfl tp) rfl rfl) (Calls.mono ((show Calls Try.prog 44 #[.pointer (some ⟨k2, 0, none⟩), .int .i64 1, .bool true] w (fun e w => e = .returned (.int .i64 0) ∧ St p w (KeysV 127 k2 (offS m0 m1 false u 1) :: pt b9 (.cells (bk m1).toArray 74) :: pt b8 (.cells (bk kz).toArray 74) :: pt b7 (.cells (bk kz).toArray 74) :: RowsV (.slice (some ⟨g5, 0, none⟩) 2 c6) (offS m0 m1 false u 0) :: pt b1 (.cells (bk m0 ++ bk m1).toArray 89) :: R)) from (by
      have hm : kSwitch (offS m0 m1 true u 1) 1 true = (0, (offS m0 m1 false u 1)) := rfl
      have hq := prog_Switch 1 (by omega) true hst
      rw [hm] at hq; exact hq))) ?_)
    rintro _ w ⟨rfl, hst⟩
    refine ⟨_, rfl, ?_⟩
    show RW _ _ _ _ _ _ _
    refine RW.fin (fun τ => τ 1 = .int .i64 n ∧ τ 2 = .pointer (some ⟨b1, 0, none⟩) ∧ τ 6 = .pointer (some ⟨k2, 0, none⟩) ∧ τ 7 = .int .i64 ((j : Nat) : Int) ∧ τ 8 = .slice (some ⟨g5, 0, none⟩) 2 c6 ∧ τ 12 = .int .i64 131 ∧ τ 14 = .int .i64 131 ∧ τ 17 = .pointer (some ⟨b9, 0, none⟩) ∧ τ 18 = .int .i64 0 ∧ τ 41 = .bool false) ⟨up rfl (up rfl hs1), up rfl (up rfl hs2), up rfl (up rfl hs6), up rfl (up rfl hs7), up rfl (up rfl hs8), up rfl (up rfl hs12), up rfl (up rfl hs14), up rfl (up rfl hs17), up rfl (up rfl hs18), up rfl (up rfl hs41)⟩ ?_
    rintro τ ⟨hs1, hs2, hs6, hs7, hs8, hs12, hs14, hs17, hs18, hs41⟩
    refine CW.seq ?_
    refine CW.region ?_
    refine RW.soft Wd.a (v := .pointer (some ⟨k2, 0, none⟩)) (by exact E.move (AF_ev rfl hs6)) ?_
    refine RW.hard Wd.a ?_
    refine H.call0 Try.func47 nm47 rfl (map3 (AF_ev rfl tp) rfl rfl) (Calls.mono ((show Calls Try.prog 47 #[.pointer (some ⟨k2, 0, none⟩), .int .i64 1, .int .i64 1] w (fun e w => e = .returned (.tuple #[.agg (bk m0).toArray, .int .i64 0]) ∧ St p w (KeysV 127 k2 (offS m0 m1 false u 1) :: pt b9 (.cells (bk m1).toArray 74) :: pt b8 (.cells (bk kz).toArray 74) :: pt b7 (.cells (bk kz).toArray 74) :: RowsV (.slice (some ⟨g5, 0, none⟩) 2 c6) (offS m0 m1 false u 0) :: pt b1 (.cells (bk m0 ++ bk m1).toArray 89) :: R)) from (by
      have hm : kMat (offS m0 m1 false u 1) 1 1 = (m0, 0) := rfl
      have hq := prog_Material 1 1 (by omega) (by omega)  hst
      rw [hm] at hq; exact hq))) ?_)
    rintro _ w ⟨rfl, hst⟩
    refine ⟨_, rfl, ?_⟩
    show RW _ _ _ _ _ _ _
    refine RW.soft Wd.a (v := .tuple #[.agg (bk m0).toArray, .int .i64 0]) (by exact E.move (AF_ev rfl tp)) ?_
    refine RW.soft Wd.a (v := .agg (bk m0).toArray) (by exact E.extract (vs := #[.agg (bk m0).toArray, .int .i64 0]) (AF_ev rfl tp) rfl) ?_
    refine RW.soft Wd.a (v := .int .i64 0) (by exact E.extract (vs := #[.agg (bk m0).toArray, .int .i64 0]) (AF_ev rfl (up rfl tp)) rfl) ?_
    refine RW.hard Wd.a ?_
    refine H.alloc zr74k hst fun b10 w hst => ?_
    refine RW.hard Wd.a ?_
    refine H.storeWhole (b := b10) (m := 32) (v := .agg (bk m0).toArray) (news := bk m0) (AF_ev rfl tp) (AF_ev rfl (up rfl (up rfl tp))) hst .here rfl (bk_len _) (by rw [List.size_toArray]; exact (bk_len _)) sz74 (bk_one _) fun w hst => ?_
    refine RW.soft Wd.a (v := .int .i64 0) (by exact E.assign (AF_ev rfl (u0 (up rfl tp)))) ?_
    refine RW.fin (fun τ => τ 1 = .int .i64 n ∧ τ 2 = .pointer (some ⟨b1, 0, none⟩) ∧ τ 6 = .pointer (some ⟨k2, 0, none⟩) ∧ τ 7 = .int .i64 ((j : Nat) : Int) ∧ τ 8 = .slice (some ⟨g5, 0, none⟩) 2 c6 ∧ τ 12 = .int .i64 131 ∧ τ 14 = .int .i64 131 ∧ τ 17 = .pointer (some ⟨b9, 0, none⟩) ∧ τ 18 = .int .i64 0 ∧ τ 19 = .pointer (some ⟨b10, 0, none⟩) ∧ τ 20 = .int .i64 0 ∧ τ 41 = .bool false) ⟨up rfl (u0 (up rfl (up rfl (up rfl (up rfl (up rfl (up rfl hs1))))))), up rfl (u0 (up rfl (up rfl (up rfl (up rfl (up rfl (up rfl hs2))))))), up rfl (u0 (up rfl (up rfl (up rfl (up rfl (up rfl (up rfl hs6))))))), up rfl (u0 (up rfl (up rfl (up rfl (up rfl (up rfl (up rfl hs7))))))), up rfl (u0 (up rfl (up rfl (up rfl (up rfl (up rfl (up rfl hs8))))))), up rfl (u0 (up rfl (up rfl (up rfl (up rfl (up rfl (up rfl hs12))))))), up rfl (u0 (up rfl (up rfl (up rfl (up rfl (up rfl (up rfl hs14))))))), up rfl (u0 (up rfl (up rfl (up rfl (up rfl (up rfl (up rfl hs17))))))), up rfl (u0 (up rfl (up rfl (up rfl (up rfl (up rfl (up rfl hs18))))))), up rfl (u0 tp), tp, up rfl (u0 (up rfl (up rfl (up rfl (up rfl (up rfl (up rfl hs41)))))))⟩ ?_
    rintro τ ⟨hs1, hs2, hs6, hs7, hs8, hs12, hs14, hs17, hs18, hs19, hs20, hs41⟩
    refine CW.seq ?_
    refine CW.region ?_
    refine RW.soft Wd.a (v := .pointer (some ⟨k2, 0, none⟩)) (by exact E.move (AF_ev rfl hs6)) ?_
    have hst := hst.take (.there .here)
    refine RW.hard Wd.a ?_
    refine H.call0 Try.func40 nm40 rfl (map1 (AF_ev rfl tp)) (Calls.mono (prog_Rings hst) ?_)
    rintro _ w ⟨vg11, rfl, hst⟩
    obtain ⟨g11, c12, rfl, hcg11⟩ := rowsShape2 (n := 2) rfl (by decide) hst
    refine ⟨_, rfl, ?_⟩
    show RW _ _ _ _ _ _ _
    refine RW.soft Wd.a (v := .slice (some ⟨g11, 0, none⟩) 2 c12) (by exact E.assign (AF_ev rfl tp)) ?_
    refine RW.fin (fun τ => τ 1 = .int .i64 n ∧ τ 2 = .pointer (some ⟨b1, 0, none⟩) ∧ τ 6 = .pointer (some ⟨k2, 0, none⟩) ∧ τ 7 = .int .i64 ((j : Nat) : Int) ∧ τ 8 = .slice (some ⟨g5, 0, none⟩) 2 c6 ∧ τ 12 = .int .i64 131 ∧ τ 14 = .int .i64 131 ∧ τ 17 = .pointer (some ⟨b9, 0, none⟩) ∧ τ 18 = .int .i64 0 ∧ τ 19 = .pointer (some ⟨b10, 0, none⟩) ∧ τ 20 = .int .i64 0 ∧ τ 21 = .slice (some ⟨g11, 0, none⟩) 2 c12 ∧ τ 41 = .bool false) ⟨up rfl (up rfl (up rfl hs1)), up rfl (up rfl (up rfl hs2)), up rfl (up rfl (up rfl hs6)), up rfl (up rfl (up rfl hs7)), up rfl (up rfl (up rfl hs8)), up rfl (up rfl (up rfl hs12)), up rfl (up rfl (up rfl hs14)), up rfl (up rfl (up rfl hs17)), up rfl (up rfl (up rfl hs18)), up rfl (up rfl (up rfl hs19)), up rfl (up rfl (up rfl hs20)), tp, up rfl (up rfl (up rfl hs41))⟩ ?_
    rintro τ ⟨hs1, hs2, hs6, hs7, hs8, hs12, hs14, hs17, hs18, hs19, hs20, hs21, hs41⟩
    refine CW.seq ?_
    refine CW.regionD [0, 1, 2, 3, 4, 5, 6, 7, 8, 9, 10, 11, 12, 13, 14, 15, 16, 17, 18, 19, 20, 21, 22, 23, 24, 25, 26, 27, 28, 29, 30] (fun w => (∀ j_ v_, (bk m1 : List Value)[j_]? = some v_ → w.cell? ⟨b9, 0 + j_, none⟩ = some v_) ∧ (∀ j_ v_, (bk m1 : List Value)[j_]? = some v_ → w.cell? ⟨b1, 32 + j_, none⟩ = some v_) ∧ (∀ j_ v_, (bk m0 : List Value)[j_]? = some v_ → w.cell? ⟨b10, 0 + j_, none⟩ = some v_) ∧ (∀ j_ v_, (bk m0 : List Value)[j_]? = some v_ → w.cell? ⟨b1, 0 + j_, none⟩ = some v_)) mixed ?_
    have hst := hst.drew
    generalize w.drew = w at hst ⊢
    have hS : (∀ j_ v_, (bk m1 : List Value)[j_]? = some v_ → w.cell? ⟨b9, 0 + j_, none⟩ = some v_) ∧ (∀ j_ v_, (bk m1 : List Value)[j_]? = some v_ → w.cell? ⟨b1, 32 + j_, none⟩ = some v_) ∧ (∀ j_ v_, (bk m0 : List Value)[j_]? = some v_ → w.cell? ⟨b10, 0 + j_, none⟩ = some v_) ∧ (∀ j_ v_, (bk m0 : List Value)[j_]? = some v_ → w.cell? ⟨b1, 0 + j_, none⟩ = some v_) := ⟨(St.cellsOf hst (.there (.there (.there .here))) (fun j v hv => by rw [Nat.zero_add]; exact hv)), (St.cellsOf hst (.there (.there (.there (.there (.there (.there (.there .here))))))) (fun j v hv => pair_at1 _ _ hv)), (St.cellsOf hst (.there (.there .here)) (fun j v hv => by rw [Nat.zero_add]; exact hv)), (St.cellsOf hst (.there (.there (.there (.there (.there (.there (.there .here))))))) (fun j v hv => by rw [Nat.zero_add]; exact pair_at0 _ _ hv))⟩
    refine RD.take 0 rfl (by kernel_rfl) Wd.a (v := .int .i64 131) (fun w hS => by exact E.move (AF_ev rfl hs12)) hS ?_
    refine RD.take 1 rfl (by kernel_rfl) Wd.a (v := .bool true) (fun w hS => by exact E.eql (k := .i64) (a := 131) (b := 131) (AF_ev rfl tp) rfl) hS ?_
    refine RD.take 2 rfl (by kernel_rfl) Wd.a (v := .bool true) (fun w hS => by exact E.move (AF_ev rfl tp)) hS ?_
    refine RD.take 3 rfl (by kernel_rfl) (by exact Wd.yes (x := 80) rfl (AF_ev rfl tp)) (v := .int .i64 131) (fun w hS => by exact E.move (AF_ev rfl (up rfl (up rfl (up rfl hs14))))) hS ?_
    refine RD.take 4 rfl (by kernel_rfl) (by exact Wd.yes (x := 80) rfl (AF_ev rfl (up rfl tp))) (v := .bool true) (fun w hS => by exact E.eql (k := .i64) (a := 131) (b := 131) (AF_ev rfl tp) rfl) hS ?_
    refine RD.take 5 rfl (by kernel_rfl) Wd.a (v := .bool true) (fun w hS => by exact E.pickT (AF_ev rfl (up rfl (up rfl tp))) (AF_ev rfl tp)) hS ?_
    refine RD.take 6 rfl (by kernel_rfl) Wd.a (v := .bool true) (fun w hS => by exact E.move (AF_ev rfl tp)) hS ?_
    refine RD.take 7 rfl (by kernel_rfl) (by exact Wd.yes (x := 84) rfl (AF_ev rfl tp)) (v := .agg (bk m1).toArray) (fun w hS => by exact E.loadN (b := b9) (o := 0) (cs := bk m1) Try.underlying74 rfl sz74 (AF_ev rfl (up rfl (up rfl (up rfl (up rfl (up rfl (up rfl (up rfl hs17)))))))) (bk_len _) hS.1) hS ?_
    refine RD.take 8 rfl (by kernel_rfl) (by exact Wd.yes (x := 84) rfl (AF_ev rfl (up rfl tp))) (v := .pointer (some ⟨b1, 32, none⟩)) (fun w hS => by exact E.indexAddrA (b := b1) (o := 0) (i := 1) Try.underlying89 sz74 (AF_ev rfl (up rfl (up rfl (up rfl (up rfl (up rfl (up rfl (up rfl (up rfl hs2))))))))) rfl (by omega) (by omega) (by simp)) hS ?_
    refine RD.take 9 rfl (by kernel_rfl) (by exact Wd.yes (x := 84) rfl (AF_ev rfl (up rfl (up rfl tp)))) (v := .agg (bk m1).toArray) (fun w hS => by exact E.loadN (b := b1) (o := 32) (cs := bk m1) Try.underlying74 rfl sz74 (AF_ev rfl tp) (bk_len _) hS.2.1) hS ?_
    refine RD.take 10 rfl (by kernel_rfl) (by exact Wd.yes (x := 84) rfl (AF_ev rfl (up rfl (up rfl (up rfl tp))))) (v := .bool true) (fun w hS => by exact E.b (a := decide (m1 = m1)) (E.eql74 (a := m1) (b := m1) (AF_ev rfl (up rfl (up rfl tp))) (AF_ev rfl tp)) (by simp)) hS ?_
    refine RD.take 11 rfl (by kernel_rfl) Wd.a (v := .bool true) (fun w hS => by exact E.pickT (AF_ev rfl (up rfl (up rfl (up rfl (up rfl tp))))) (AF_ev rfl tp)) hS ?_
    refine RD.take 12 rfl (by kernel_rfl) Wd.a (v := .bool true) (fun w hS => by exact E.move (AF_ev rfl tp)) hS ?_
    refine RD.take 13 rfl (by kernel_rfl) (by exact Wd.yes (x := 90) rfl (AF_ev rfl tp)) (v := .int .i64 0) (fun w hS => by exact E.move (AF_ev rfl (up rfl (up rfl (up rfl (up rfl (up rfl (up rfl (up rfl (up rfl (up rfl (up rfl (up rfl (up rfl (up rfl hs18))))))))))))))) hS ?_
    refine RD.take 14 rfl (by kernel_rfl) (by exact Wd.yes (x := 90) rfl (AF_ev rfl (up rfl tp))) (v := .bool true) (fun w hS => by exact E.eql (k := .i64) (a := 0) (b := 0) (AF_ev rfl tp) rfl) hS ?_
    refine RD.take 15 rfl (by kernel_rfl) Wd.a (v := .bool true) (fun w hS => by exact E.pickT (AF_ev rfl (up rfl (up rfl tp))) (AF_ev rfl tp)) hS ?_
    refine RD.take 16 rfl (by kernel_rfl) Wd.a (v := .bool true) (fun w hS => by exact E.move (AF_ev rfl tp)) hS ?_
    refine RD.take 17 rfl (by kernel_rfl) (by exact Wd.yes (x := 94) rfl (AF_ev rfl tp)) (v := .agg (bk m0).toArray) (fun w hS => by exact E.loadN (b := b10) (o := 0) (cs := bk m0) Try.underlying74 rfl sz74 (AF_ev rfl (up rfl (up rfl (up rfl (up rfl (up rfl (up rfl (up rfl (up rfl (up rfl (up rfl (up rfl (up rfl (up rfl (up rfl (up rfl (up rfl (up rfl hs19)))))))))))))))))) (bk_len _) hS.2.2.1) hS ?_
    refine RD.take 18 rfl (by kernel_rfl) (by exact Wd.yes (x := 94) rfl (AF_ev rfl (up rfl tp))) (v := .pointer (some ⟨b1, 0, none⟩)) (fun w hS => by exact E.indexAddrA (b := b1) (o := 0) (i := 0) Try.underlying89 sz74 (AF_ev rfl (up rfl (up rfl (up rfl (up rfl (up rfl (up rfl (up rfl (up rfl (up rfl (up rfl (up rfl (up rfl (up rfl (up rfl (up rfl (up rfl (up rfl (up rfl hs2))))))))))))))))))) rfl (by omega) (by omega) (by simp)) hS ?_
    refine RD.take 19 rfl (by kernel_rfl) (by exact Wd.yes (x := 94) rfl (AF_ev rfl (up rfl (up rfl tp)))) (v := .agg (bk m0).toArray) (fun w hS => by exact E.loadN (b := b1) (o := 0) (cs := bk m0) Try.underlying74 rfl sz74 (AF_ev rfl tp) (bk_len _) hS.2.2.2) hS ?_
    refine RD.take 20 rfl (by kernel_rfl) (by exact Wd.yes (x := 94) rfl (AF_ev rfl (up rfl (up rfl (up rfl tp))))) (v := .bool true) (fun w hS => by exact E.b (a := decide (m0 = m0)) (E.eql74 (a := m0) (b := m0) (AF_ev rfl (up rfl (up rfl tp))) (AF_ev rfl tp)) (by simp)) hS ?_
    refine RD.take 21 rfl (by kernel_rfl) Wd.a (v := .bool true) (fun w hS => by exact E.pickT (AF_ev rfl (up rfl (up rfl (up rfl (up rfl tp))))) (AF_ev rfl tp)) hS ?_
    refine RD.take 22 rfl (by kernel_rfl) Wd.a (v := .bool true) (fun w hS => by exact E.move (AF_ev rfl tp)) hS ?_
    refine RD.take 23 rfl (by kernel_rfl) (by exact Wd.yes (x := 100) rfl (AF_ev rfl tp)) (v := .int .i64 0) (fun w hS => by exact E.move (AF_ev rfl (up rfl (up rfl (up rfl (up rfl (up rfl (up rfl (up rfl (up rfl (up rfl (up rfl (up rfl (up rfl (up rfl (up rfl (up rfl (up rfl (up rfl (up rfl (up rfl (up rfl (up rfl (up rfl (up rfl hs20))))))))))))))))))))))))) hS ?_
    refine RD.take 24 rfl (by kernel_rfl) (by exact Wd.yes (x := 100) rfl (AF_ev rfl (up rfl tp))) (v := .bool true) (fun w hS => by exact E.eql (k := .i64) (a := 0) (b := 0) (AF_ev rfl tp) rfl) hS ?_
    refine RD.take 25 rfl (by kernel_rfl) Wd.a (v := .bool true) (fun w hS => by exact E.pickT (AF_ev rfl (up rfl (up rfl tp))) (AF_ev rfl tp)) hS ?_
    refine RD.take 26 rfl (by kernel_rfl) Wd.a (v := .bool true) (fun w hS => by exact E.move (AF_ev rfl tp)) hS ?_
    refine RD.take 27 rfl (by kernel_rfl) (by exact Wd.yes (x := 104) rfl (AF_ev rfl tp)) (v := .slice (some ⟨g5, 0, none⟩) 2 c6) (fun w hS => by exact E.move (AF_ev rfl (up rfl (up rfl (up rfl (up rfl (up rfl (up rfl (up rfl (up rfl (up rfl (up rfl (up rfl (up rfl (up rfl (up rfl (up rfl (up rfl (up rfl (up rfl (up rfl (up rfl (up rfl (up rfl (up rfl (up rfl (up rfl (up rfl (up rfl hs8))))))))))))))))))))))))))))) hS ?_
    refine RD.take 28 rfl (by kernel_rfl) (by exact Wd.yes (x := 104) rfl (AF_ev rfl (up rfl tp))) (v := .slice (some ⟨g5, 0, none⟩) 1 c6) (fun w hS => by exact E.slice (i := 0) (j := 1) Try.underlying71 sz84 (AF_ev rfl tp) rfl rfl (by omega) (by omega) (by simp)) hS ?_
    refine RD.take 29 rfl (by kernel_rfl) (by exact Wd.yes (x := 104) rfl (AF_ev rfl (up rfl (up rfl tp)))) (v := .slice (some ⟨g11, 0, none⟩) 2 c12) (fun w hS => by exact E.move (AF_ev rfl (up rfl (up rfl (up rfl (up rfl (up rfl (up rfl (up rfl (up rfl (up rfl (up rfl (up rfl (up rfl (up rfl (up rfl (up rfl (up rfl (up rfl (up rfl (up rfl (up rfl (up rfl (up rfl (up rfl (up rfl (up rfl (up rfl (up rfl (up rfl (up rfl hs21))))))))))))))))))))))))))))))) hS ?_
    refine RD.take 30 rfl (by kernel_rfl) (by exact Wd.yes (x := 104) rfl (AF_ev rfl (up rfl (up rfl (up rfl tp))))) (v := .slice (some ⟨g11, 0, none⟩) 1 c12) (fun w hS => by exact E.slice (i := 0) (j := 1) Try.underlying71 sz84 (AF_ev rfl tp) rfl rfl (by omega) (by omega) (by simp)) hS ?_
    refine RD.only 31 rfl (by kernel_rfl) (by exact Wd.yes (x := 104) rfl (AF_ev rfl (up rfl (up rfl (up rfl (up rfl tp)))))) ?_
    have hst := hst.take (.there (.there (.there (.there (.there (.there .here))))))
    refine H.call0 Try.func48 nm48 rfl (map2 (AF_ev rfl (up rfl (up rfl tp))) (AF_ev rfl tp)) (Calls.mono (off_same hst) ?_)
    rintro _ w ⟨rfl, hst⟩
    refine ⟨_, rfl, ?_⟩
    have hS : (∀ j_ v_, (bk m1 : List Value)[j_]? = some v_ → w.cell? ⟨b9, 0 + j_, none⟩ = some v_) ∧ (∀ j_ v_, (bk m1 : List Value)[j_]? = some v_ → w.cell? ⟨b1, 32 + j_, none⟩ = some v_) ∧ (∀ j_ v_, (bk m0 : List Value)[j_]? = some v_ → w.cell? ⟨b10, 0 + j_, none⟩ = some v_) ∧ (∀ j_ v_, (bk m0 : List Value)[j_]? = some v_ → w.cell? ⟨b1, 0 + j_, none⟩ = some v_) := ⟨(St.cellsOf hst (.there (.there .here)) (fun j v hv => by rw [Nat.zero_add]; exact hv)), (St.cellsOf hst (.there (.there (.there (.there (.there .here))))) (fun j v hv => pair_at1 _ _ hv)), (St.cellsOf hst (.there .here) (fun j v hv => by rw [Nat.zero_add]; exact hv)), (St.cellsOf hst (.there (.there (.there (.there (.there .here))))) (fun j v hv => by rw [Nat.zero_add]; exact pair_at0 _ _ hv))⟩
    refine ⟨fun _ => hS, ?_⟩
    refine RD.only 32 rfl (by kernel_rfl) Wd.a (Hd.value (v := .bool true) (by exact E.pickT (AF_ev rfl (up rfl (up rfl (up rfl (up rfl (up rfl tp)))))) (AF_ev rfl tp)) ⟨fun _ => hS, ?_⟩)
    refine RD.only 33 rfl (by kernel_rfl) Wd.a (Hd.value (v := .bool true) (by exact E.assign (AF_ev rfl tp)) ⟨fun h => Bool.noConfusion ((show needs _ _ _ = false by kernel_rfl).symm.trans h), ?_⟩)
    refine RD.fin (by kernel_rfl) (fun τ => τ 1 = .int .i64 n ∧ τ 2 = .pointer (some ⟨b1, 0, none⟩) ∧ τ 4 = .bool true ∧ τ 6 = .pointer (some ⟨k2, 0, none⟩) ∧ τ 7 = .int .i64 ((j : Nat) : Int) ∧ τ 8 = .slice (some ⟨g5, 0, none⟩) 2 c6 ∧ τ 12 = .int .i64 131 ∧ τ 14 = .int .i64 131 ∧ τ 17 = .pointer (some ⟨b9, 0, none⟩) ∧ τ 18 = .int .i64 0 ∧ τ 19 = .pointer (some ⟨b10, 0, none⟩) ∧ τ 20 = .int .i64 0 ∧ τ 21 = .slice (some ⟨g11, 0, none⟩) 2 c12 ∧ τ 41 = .bool false) ⟨up rfl (up rfl (up rfl (up rfl (up rfl (up rfl (up rfl (up rfl (up rfl (up rfl (up rfl (up rfl (up rfl (up rfl (up rfl (up rfl (up rfl (up rfl (up rfl (up rfl (up rfl (up rfl (up rfl (up rfl (up rfl (up rfl (up rfl (up rfl (up rfl (up rfl (up rfl (up rfl (up rfl (up rfl hs1))))))))))))))))))))))))))))))))), up rfl (up rfl (up rfl (up rfl (up rfl (up rfl (up rfl (up rfl (up rfl (up rfl (up rfl (up rfl (up rfl (up rfl (up rfl (up rfl (up rfl (up rfl (up rfl (up rfl (up rfl (up rfl (up rfl (up rfl (up rfl (up rfl (up rfl (up rfl (up rfl (up rfl (up rfl (up rfl (up rfl (up rfl hs2))))))))))))))))))))))))))))))))), tp, up rfl (up rfl (up rfl (up rfl (up rfl (up rfl (up rfl (up rfl (up rfl (up rfl (up rfl (up rfl (up rfl (up rfl (up rfl (up rfl (up rfl (up rfl (up rfl (up rfl (up rfl (up rfl (up rfl (up rfl (up rfl (up rfl (up rfl (up rfl (up rfl (up rfl (up rfl (up rfl (up rfl (up rfl hs6))))))))))))))))))))))))))))))))), up rfl (up rfl (up rfl (up rfl (up rfl (up rfl (up rfl (up rfl (up rfl (up rfl (up rfl (up rfl (up rfl (up rfl (up rfl (up rfl (up rfl (up rfl (up rfl (up rfl (up rfl (up rfl (up rfl (up rfl (up rfl (up rfl (up rfl (up rfl (up rfl (up rfl (up rfl (up rfl (up rfl (up rfl hs7))))))))))))))))))))))))))))))))), up rfl (up rfl (up rfl (up rfl (up rfl (up rfl (up rfl (up rfl (up rfl (up rfl (up rfl (up rfl (up rfl (up rfl (up rfl (up rfl (up rfl (up rfl (up rfl (up rfl (up rfl (up rfl (up rfl (up rfl (up rfl (up rfl (up rfl (up rfl (up rfl (up rfl (up rfl (up rfl (up rfl (up rfl hs8))))))))))))))))))))))))))))))))), up rfl (up rfl (up rfl (up rfl (up rfl (up rfl (up rfl (up rfl (up rfl (up rfl (up rfl (up rfl (up rfl (up rfl (up rfl (up rfl (up rfl (up rfl (up rfl (up rfl (up rfl (up rfl (up rfl (up rfl (up rfl (up rfl (up rfl (up rfl (up rfl (up rfl (up rfl (up rfl (up rfl (up rfl hs12))))))))))))))))))))))))))))))))), up rfl (up rfl (up rfl (up rfl (up rfl (up rfl (up rfl (up rfl (up rfl (up rfl (up rfl (up rfl (up rfl (up rfl (up rfl (up rfl (up rfl (up rfl (up rfl (up rfl (up rfl (up rfl (up rfl (up rfl (up rfl (up rfl (up rfl (up rfl (up rfl (up rfl (up rfl (up rfl (up rfl (up rfl hs14))))))))))))))))))))))))))))))))), up rfl (up rfl (up rfl (up rfl (up rfl (up rfl (up rfl (up rfl (up rfl (up rfl (up rfl (up rfl (up rfl (up rfl (up rfl (up rfl (up rfl (up rfl (up rfl (up rfl (up rfl (up rfl (up rfl (up rfl (up rfl (up rfl (up rfl (up rfl (up rfl (up rfl (up rfl (up rfl (up rfl (up rfl hs17))))))))))))))))))))))))))))))))), up rfl (up rfl (up rfl (up rfl (up rfl (up rfl (up rfl (up rfl (up rfl (up rfl (up rfl (up rfl (up rfl (up rfl (up rfl (up rfl (up rfl (up rfl (up rfl (up rfl (up rfl (up rfl (up rfl (up rfl (up rfl (up rfl (up rfl (up rfl (up rfl (up rfl (up rfl (up rfl (up rfl (up rfl hs18))))))))))))))))))))))))))))))))), up rfl (up rfl (up rfl (up rfl (up rfl (up rfl (up rfl (up rfl (up rfl (up rfl (up rfl (up rfl (up rfl (up rfl (up rfl (up rfl (up rfl (up rfl (up rfl (up rfl (up rfl (up rfl (up rfl (up rfl (up rfl (up rfl (up rfl (up rfl (up rfl (up rfl (up rfl (up rfl (up rfl (up rfl hs19))))))))))))))))))))))))))))))))), up rfl (up rfl (up rfl (up rfl (up rfl (up rfl (up rfl (up rfl (up rfl (up rfl (up rfl (up rfl (up rfl (up rfl (up rfl (up rfl (up rfl (up rfl (up rfl (up rfl (up rfl (up rfl (up rfl (up rfl (up rfl (up rfl (up rfl (up rfl (up rfl (up rfl (up rfl (up rfl (up rfl (up rfl hs20))))))))))))))))))))))))))))))))), up rfl (up rfl (up rfl (up rfl (up rfl (up rfl (up rfl (up rfl (up rfl (up rfl (up rfl (up rfl (up rfl (up rfl (up rfl (up rfl (up rfl (up rfl (up rfl (up rfl (up rfl (up rfl (up rfl (up rfl (up rfl (up rfl (up rfl (up rfl (up rfl (up rfl (up rfl (up rfl (up rfl (up rfl hs21))))))))))))))))))))))))))))))))), up rfl (up rfl (up rfl (up rfl (up rfl (up rfl (up rfl (up rfl (up rfl (up rfl (up rfl (up rfl (up rfl (up rfl (up rfl (up rfl (up rfl (up rfl (up rfl (up rfl (up rfl (up rfl (up rfl (up rfl (up rfl (up rfl (up rfl (up rfl (up rfl (up rfl (up rfl (up rfl (up rfl (up rfl hs41)))))))))))))))))))))))))))))))))⟩ ?_
    rintro τ ⟨hs1, hs2, hs4, hs6, hs7, hs8, hs12, hs14, hs17, hs18, hs19, hs20, hs21, hs41⟩
    refine CW.ret ?_
    refine ret1 (v := .bool true) rfl (by exact (.tmp (AF_ev rfl hs4) .nil)) ?_
    have hst := (hst.take .here).drop
    have hst := (hst.take .here).drop
    have hst := (hst.take .here).drop
    have hst := (hst.take .here).drop
    have hst := (hst.take .here).drop
    have hst := (hst.take .here).drop
    exact ⟨rfl, hst⟩
end Go.Proofs.Ytdlcjoonhojpfaa
