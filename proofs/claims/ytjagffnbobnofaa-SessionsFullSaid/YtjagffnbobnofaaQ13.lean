/- The functions of the package quorum, walked through operation by operation. -/
import Derived.Test.YtjagffnbobnofaaQ11
import Derived.Test.YtjagffnbobnofaaQ12
import Derived.Test.YtjagffnbobnofaaQ9
import Derived.Test.YtjagffnbobnofaaQ10
import Derived.Test.YtjagffnbobnofaaQ8
import Derived.Test.YtjagffnbobnofaaSN
import Derived.Test.YtjagffnbobnofaaQ6
import Derived.Test.YtjagffnbobnofaaQ7
import Derived.Test.YtjagffnbobnofaaQ4
import Derived.Test.YtjagffnbobnofaaQ5
import Derived.Test.YtjagffnbobnofaaQ2
import Derived.Test.YtjagffnbobnofaaQ1
import Derived.Test.YtjagffnbobnofaaQ3
import Derived.Test.YtjagffnbobnofaaQ0
import Derived.Test.YtjagffnbobnofaaSM
namespace Go.Proofs.Ytjagffnbobnofaa
open Go.RowKit Go.SL Go.Q18
attribute [local irreducible] Go.SL.RW Go.SL.CW Go.SL.RD Go.SL.Hd Go.SL.St
set_option linter.unusedVariables false
set_option linter.unusedSimpArgs false

theorem nm91 : (Try.f91.name == "runtime.NumGoroutine") = false := by kernel_rfl

def tab8 : ByteArray := { data := (([0, 1, 2, 2, 3, 3, 3, 3, 4, 4, 4, 4, 4, 4, 4, 4, 5, 5, 5, 5, 5, 5, 5, 5, 5, 5, 5, 5, 5, 5, 5, 5, 6, 6, 6, 6, 6, 6, 6, 6, 6, 6, 6, 6, 6, 6, 6, 6, 6, 6, 6, 6, 6, 6, 6, 6, 6, 6, 6, 6, 6, 6, 6, 6].append [7, 7, 7, 7, 7, 7, 7, 7, 7, 7, 7, 7, 7, 7, 7, 7, 7, 7, 7, 7, 7, 7, 7, 7, 7, 7, 7, 7, 7, 7, 7, 7, 7, 7, 7, 7, 7, 7, 7, 7, 7, 7, 7, 7, 7, 7, 7, 7, 7, 7, 7, 7, 7, 7, 7, 7, 7, 7, 7, 7, 7, 7, 7, 7]).append ([8, 8, 8, 8, 8, 8, 8, 8, 8, 8, 8, 8, 8, 8, 8, 8, 8, 8, 8, 8, 8, 8, 8, 8, 8, 8, 8, 8, 8, 8, 8, 8, 8, 8, 8, 8, 8, 8, 8, 8, 8, 8, 8, 8, 8, 8, 8, 8, 8, 8, 8, 8, 8, 8, 8, 8, 8, 8, 8, 8, 8, 8, 8, 8].append [8, 8, 8, 8, 8, 8, 8, 8, 8, 8, 8, 8, 8, 8, 8, 8, 8, 8, 8, 8, 8, 8, 8, 8, 8, 8, 8, 8, 8, 8, 8, 8, 8, 8, 8, 8, 8, 8, 8, 8, 8, 8, 8, 8, 8, 8, 8, 8, 8, 8, 8, 8, 8, 8, 8, 8, 8, 8, 8, 8, 8, 8, 8, 8])).toArray }
theorem tab8_size : tab8.size = 256 := by kernel_rfl

theorem q_Len64 {p : Pers} {w : World} {R : List Assn} (m : Nat) (hm : m ≤ 12) (hst : St p w (R)) :
    Calls Try.prog 91 #[.int .u64 ((m : Nat) : Int)] w fun e w => ∃ r : Int, e = .returned (.int .i64 r) ∧ St p w R := by
  refine enter Try.func91 rfl (by simp) (n := 25) rfl fun τ hτ => ?_
  have hs0 : τ 0 = .int .u64 ((m : Nat) : Int) := hτ 0 (by simp)
  clear hτ
  refine CW.seq ?_
  refine CW.region ?_
  refine RW.soft Wd.a (v := .int .i64 0) (by exact E.assign rfl) ?_
  refine RW.fin (fun τ => τ 0 = .int .u64 ((m : Nat) : Int) ∧ τ 2 = .int .i64 0) ⟨up rfl hs0, tp⟩ ?_
  rintro τ ⟨hs0, hs2⟩
  refine CW.seq ?_
  refine CW.seq ?_
  refine CW.region ?_
  refine RW.soft Wd.a (v := .int .u64 ((m : Nat) : Int)) (by exact E.move (AF_ev rfl hs0)) ?_
  refine RW.soft Wd.a (v := .bool false) (by exact E.b (a := decide (((m : Nat) : Int) ≥ 4294967296)) (E.geq (k := .u64) (a := ((m : Nat) : Int)) (b := 4294967296) (AF_ev rfl tp) rfl) (decide_eq_false (by omega))) ?_
  refine RW.fin (fun τ => τ 0 = .int .u64 ((m : Nat) : Int) ∧ τ 2 = .int .i64 0 ∧ τ 4 = .bool false) ⟨up rfl (up rfl hs0), up rfl (up rfl hs2), tp⟩ ?_
  rintro τ ⟨hs0, hs2, hs4⟩
  refine CW.condF (AF_ev rfl hs4) ?_
  refine CW.skip ?_
  refine Th.n ?_
  refine CW.seq ?_
  refine CW.seq ?_
  refine CW.region ?_
  refine RW.soft Wd.a (v := .int .u64 ((m : Nat) : Int)) (by exact E.move (AF_ev rfl hs0)) ?_
  refine RW.soft Wd.a (v := .bool false) (by exact E.b (a := decide (((m : Nat) : Int) ≥ 65536)) (E.geq (k := .u64) (a := ((m : Nat) : Int)) (b := 65536) (AF_ev rfl tp) rfl) (decide_eq_false (by omega))) ?_
  refine RW.fin (fun τ => τ 0 = .int .u64 ((m : Nat) : Int) ∧ τ 2 = .int .i64 0 ∧ τ 4 = .bool false ∧ τ 8 = .bool false) ⟨up rfl (up rfl hs0), up rfl (up rfl hs2), up rfl (up rfl hs4), tp⟩ ?_
  rintro τ ⟨hs0, hs2, hs4, hs8⟩
  refine CW.condF (AF_ev rfl hs8) ?_
  refine CW.skip ?_
  refine Th.n ?_
  refine CW.seq ?_
  refine CW.seq ?_
  refine CW.region ?_
  refine RW.soft Wd.a (v := .int .u64 ((m : Nat) : Int)) (by exact E.move (AF_ev rfl hs0)) ?_
  refine RW.soft Wd.a (v := .bool false) (by exact E.b (a := decide (((m : Nat) : Int) ≥ 256)) (E.geq (k := .u64) (a := ((m : Nat) : Int)) (b := 256) (AF_ev rfl tp) rfl) (decide_eq_false (by omega))) ?_
  refine RW.fin (fun τ => τ 0 = .int .u64 ((m : Nat) : Int) ∧ τ 2 = .int .i64 0 ∧ τ 4 = .bool false ∧ τ 8 = .bool false ∧ τ 14 = .bool false) ⟨up rfl (up rfl hs0), up rfl (up rfl hs2), up rfl (up rfl hs4), up rfl (up rfl hs8), tp⟩ ?_
  rintro τ ⟨hs0, hs2, hs4, hs8, hs14⟩
  refine CW.condF (AF_ev rfl hs14) ?_
  refine CW.skip ?_
  refine Th.n ?_
  refine CW.seq ?_
  refine CW.region ?_
  refine RW.soft Wd.a (v := .int .i64 0) (by exact E.move (AF_ev rfl hs2)) ?_
  refine RW.soft Wd.a (v := .int .u64 ((m : Nat) : Int)) (by exact E.move (AF_ev rfl (up rfl hs0))) ?_
  refine RW.soft Wd.a (v := .int .u8 ((m : Nat) : Int)) (by exact E.convInt (a := ((m : Nat) : Int)) (by rw [Try.underlying112]; rfl) Try.underlying5 (AF_ev rfl tp) (show IntKind.u8.wrap (((m : Nat) : Int)) = ((m : Nat) : Int) from (by rw [IntWalk.u8_in _ (by omega)]))) ?_
  have hbl_ := byteAt_le tab8 ((m : Nat) : Int)
  refine RW.soft Wd.a (v := .int .u8 (byteAt tab8 ((m : Nat) : Int))) (by exact E.indexS (s := tab8) (i := ((m : Nat) : Int)) Try.underlying9 rfl (AF_ev rfl tp) (by omega) (by rw [tab8_size]; omega)) ?_
  refine RW.soft Wd.a (v := .int .i64 (byteAt tab8 ((m : Nat) : Int))) (by exact E.convInt (a := byteAt tab8 ((m : Nat) : Int)) (by rw [Try.underlying5]; rfl) Try.underlying3 (AF_ev rfl tp) (show IntKind.i64.wrap (byteAt tab8 ((m : Nat) : Int)) = byteAt tab8 ((m : Nat) : Int) from (by rw [IntWalk.i64_in _ (by omega)]))) ?_
  refine RW.soft Wd.a (v := .int .i64 (byteAt tab8 ((m : Nat) : Int))) (by exact E.add (k := .i64) (a := 0) (b := byteAt tab8 ((m : Nat) : Int)) (AF_ev rfl (up rfl (up rfl (up rfl (up rfl tp))))) (AF_ev rfl tp) (show IntKind.i64.wrap (0 + (byteAt tab8 ((m : Nat) : Int))) = byteAt tab8 ((m : Nat) : Int) from (by rw [IntWalk.i64_in _ (by omega)] <;> omega))) ?_
  refine RW.soft Wd.a (v := .int .i64 (byteAt tab8 ((m : Nat) : Int))) (by exact E.assign (AF_ev rfl tp)) ?_
  refine RW.fin (fun τ => τ 0 = .int .u64 ((m : Nat) : Int) ∧ τ 2 = .int .i64 (byteAt tab8 ((m : Nat) : Int)) ∧ τ 4 = .bool false ∧ τ 8 = .bool false ∧ τ 14 = .bool false) ⟨up rfl (up rfl (up rfl (up rfl (up rfl (up rfl (up rfl hs0)))))), tp, up rfl (up rfl (up rfl (up rfl (up rfl (up rfl (up rfl hs4)))))), up rfl (up rfl (up rfl (up rfl (up rfl (up rfl (up rfl hs8)))))), up rfl (up rfl (up rfl (up rfl (up rfl (up rfl (up rfl hs14))))))⟩ ?_
  rintro τ ⟨hs0, hs2, hs4, hs8, hs14⟩
  refine CW.ret ?_
  refine ret1 (v := .int .i64 (byteAt tab8 ((m : Nat) : Int))) rfl (by exact (.tmp (AF_ev rfl hs2) .nil)) ?_
  exact ⟨_, rfl, hst⟩

theorem q_Len {p : Pers} {w : World} {R : List Assn} (m : Nat) (hm : m ≤ 12) (hst : St p w (R)) :
    Calls Try.prog 76 #[.int .u64 ((m : Nat) : Int)] w fun e w => ∃ r : Int, e = .returned (.int .i64 r) ∧ St p w R := by
  refine enter Try.func76 rfl (by simp) (n := 8) rfl fun τ hτ => ?_
  have hs0 : τ 0 = .int .u64 ((m : Nat) : Int) := hτ 0 (by simp)
  clear hτ
  refine CW.seq ?_
  refine CW.region ?_
  refine RW.soft Wd.a (v := .int .i64 0) (by exact E.assign rfl) ?_
  refine RW.fin (fun τ => τ 0 = .int .u64 ((m : Nat) : Int) ∧ τ 2 = .int .i64 0) ⟨up rfl hs0, tp⟩ ?_
  rintro τ ⟨hs0, hs2⟩
  refine CW.seq ?_
  refine CW.condF rfl ?_
  refine CW.skip ?_
  refine Th.n ?_
  refine CW.seq ?_
  refine CW.region ?_
  refine RW.soft Wd.a (v := .int .u64 ((m : Nat) : Int)) (by exact E.move (AF_ev rfl hs0)) ?_
  refine RW.hard Wd.a ?_
  refine H.call0 Try.func91 nm91 rfl (map1 (AF_ev rfl tp)) (Calls.mono (q_Len64 m hm hst) ?_)
  rintro _ w ⟨r, rfl, hst⟩
  refine ⟨_, rfl, ?_⟩
  show RW _ _ _ _ _ _ _
  refine RW.soft Wd.a (v := .int .i64 r) (by exact E.assign (AF_ev rfl tp)) ?_
  refine RW.fin (fun τ => τ 0 = .int .u64 ((m : Nat) : Int) ∧ τ 2 = .int .i64 r) ⟨up rfl (up rfl (up rfl hs0)), tp⟩ ?_
  rintro τ ⟨hs0, hs2⟩
  refine CW.ret ?_
  refine ret1 (v := .int .i64 r) rfl (by exact (.tmp (AF_ev rfl hs2) .nil)) ?_
  exact ⟨_, rfl, hst⟩

theorem one_rises {zs : List Int} (h : 0 < zs.length) : (zs.take 1).Pairwise (· ≤ ·) := by
  match zs, h with
  | a :: r, _ => simp

theorem q_isort {p : Pers} {w : World} {R : List Assn} {g c : Nat} {zs : List Int} (h0 : 0 < zs.length) (h12 : zs.length ≤ 12) (hcz : zs.length ≤ c)  (hst : St p w (Own 3 1 (.slice (some ⟨g, 0, none⟩) zs.length c) zs.length (zs.flatMap ienc) :: R)) :
    Calls Try.prog 82 #[.slice (some ⟨g, 0, none⟩) zs.length c, .int .i64 0, .int .i64 ((zs.length : Nat) : Int)] w fun e w => ∃ L : List Int, e = .returned (.tuple #[]) ∧ L.Perm zs ∧ L.Pairwise (· ≤ ·) ∧ St p w (Own 3 1 (.slice (some ⟨g, 0, none⟩) zs.length c) zs.length (L.flatMap ienc) :: R) := by
  refine enter Try.func82 rfl (by simp) (n := 49) rfl fun τ hτ => ?_
  have hs0 : τ 0 = .slice (some ⟨g, 0, none⟩) zs.length c := hτ 0 (by simp)
  have hs1 : τ 1 = .int .i64 0 := hτ 1 (by simp)
  have hs2 : τ 2 = .int .i64 ((zs.length : Nat) : Int) := hτ 2 (by simp)
  clear hτ
  refine CW.seq ?_
  refine CW.region ?_
  refine RW.soft Wd.a (v := .int .i64 0) (by exact E.move (AF_ev rfl hs1)) ?_
  refine RW.soft Wd.a (v := .int .i64 1) (by exact E.add (k := .i64) (a := 0) (b := 1) (AF_ev rfl tp) rfl rfl) ?_
  refine RW.soft Wd.a (v := .int .i64 1) (by exact E.assign (AF_ev rfl tp)) ?_
  refine RW.fin (fun τ => τ 0 = .slice (some ⟨g, 0, none⟩) zs.length c ∧ τ 1 = .int .i64 0 ∧ τ 2 = .int .i64 ((zs.length : Nat) : Int) ∧ τ 6 = .int .i64 1) ⟨up rfl (up rfl (up rfl hs0)), up rfl (up rfl (up rfl hs1)), up rfl (up rfl (up rfl hs2)), tp⟩ ?_
  rintro τ ⟨hs0, hs1, hs2, hs6⟩
  refine CW.block ?_
  refine CW.loop (fun (k : Nat) (τ : Fr) (w : World) => ∃ (i : Nat) (L : List Int), L.Perm zs ∧ (L.take i).Pairwise (· ≤ ·) ∧ (1 ≤ i ∧ i ≤ zs.length) ∧ k = zs.length - i ∧ τ 0 = .slice (some ⟨g, 0, none⟩) zs.length c ∧ τ 1 = .int .i64 0 ∧ τ 2 = .int .i64 ((zs.length : Nat) : Int) ∧ τ 6 = .int .i64 ((i : Nat) : Int) ∧ St p w (Own 3 1 (.slice (some ⟨g, 0, none⟩) zs.length c) zs.length (L.flatMap ienc) :: R)) (zs.length - 1) ⟨1, zs, List.Perm.refl _, (one_rises h0), by omega, rfl, hs0, hs1, hs2, (int_eq (a := 1) hs6 (by omega)), hst⟩ ?_
  clear hst
  rintro k τ w ⟨i, L, hP, hW, hi, hki, hs0, hs1, hs2, hs6, hst⟩
  refine CW.seq ?_
  refine CW.seq ?_
  refine CW.region ?_
  refine RW.soft Wd.a (v := .int .i64 ((i : Nat) : Int)) (by exact E.move (AF_ev rfl hs6)) ?_
  refine RW.soft Wd.a (v := .int .i64 ((zs.length : Nat) : Int)) (by exact E.move (AF_ev rfl (up rfl hs2))) ?_
  refine RW.soft Wd.a (v := .bool (decide (((i : Nat) : Int) < ((zs.length : Nat) : Int)))) (by exact E.lss (k := .i64) (a := ((i : Nat) : Int)) (b := ((zs.length : Nat) : Int)) (AF_ev rfl (up rfl tp)) (AF_ev rfl tp)) ?_
  refine RW.fin (fun τ => τ 0 = .slice (some ⟨g, 0, none⟩) zs.length c ∧ τ 1 = .int .i64 0 ∧ τ 2 = .int .i64 ((zs.length : Nat) : Int) ∧ τ 6 = .int .i64 ((i : Nat) : Int) ∧ τ 12 = .bool (decide (((i : Nat) : Int) < ((zs.length : Nat) : Int)))) ⟨up rfl (up rfl (up rfl hs0)), up rfl (up rfl (up rfl hs1)), up rfl (up rfl (up rfl hs2)), up rfl (up rfl (up rfl hs6)), tp⟩ ?_
  rintro τ ⟨hs0, hs1, hs2, hs6, hs12⟩
  refine CW.cond (AF_ev rfl hs12) (fun hc1 => ?_) (fun hc1 => ?_)
  · have hc1_ := hc1
    try simp only [decide_eq_true_eq, decide_eq_false_iff_not, Bool.and_eq_true, Bool.or_eq_true, Bool.and_eq_false_iff, Bool.or_eq_false_iff, Bool.not_eq_true', Bool.not_eq_false', beq_iff_eq, beq_eq_false_iff_ne, bne_iff_ne, bne_eq_false_iff_eq, ne_eq, Int.not_lt, Int.not_le, gt_iff_lt, ge_iff_le] at hc1_
    refine CW.skip ?_
    refine Th.n ?_
    refine CW.seq ?_
    refine CW.block ?_
    refine CW.seq ?_
    have hLl : L.length = zs.length := hP.length_eq
    obtain ⟨x, hx⟩ : ∃ z, L[i]? = some z := ⟨L[i]'(by omega), List.getElem?_eq_getElem (by omega)⟩
    obtain ⟨hSk, hcut⟩ := Sink.start hP hW hx
    rw [hcut] at hst
    refine CW.region ?_
    refine RW.soft Wd.a (v := .int .i64 ((i : Nat) : Int)) (by exact E.move (AF_ev rfl hs6)) ?_
    refine RW.soft Wd.a (v := .int .i64 ((i : Nat) : Int)) (by exact E.assign (AF_ev rfl tp)) ?_
    refine RW.fin (fun τ => τ 0 = .slice (some ⟨g, 0, none⟩) zs.length c ∧ τ 1 = .int .i64 0 ∧ τ 2 = .int .i64 ((zs.length : Nat) : Int) ∧ τ 6 = .int .i64 ((i : Nat) : Int) ∧ τ 7 = .int .i64 ((i : Nat) : Int) ∧ τ 12 = .bool true) ⟨up rfl (up rfl hs0), up rfl (up rfl hs1), up rfl (up rfl hs2), up rfl (up rfl hs6), tp, up rfl (up rfl (Eq.trans hs12 (congrArg Value.bool hc1)))⟩ ?_
    rintro τ ⟨hs0, hs1, hs2, hs6, hs7, hs12⟩
    refine CW.block ?_
    refine CW.loop (fun (k : Nat) (τ : Fr) (w : World) => ∃ (j : Nat) (A B C : List Int), Sink zs i j A B C x ∧ k = j ∧ τ 0 = .slice (some ⟨g, 0, none⟩) zs.length c ∧ τ 1 = .int .i64 0 ∧ τ 2 = .int .i64 ((zs.length : Nat) : Int) ∧ τ 6 = .int .i64 ((i : Nat) : Int) ∧ τ 7 = .int .i64 ((j : Nat) : Int) ∧ St p w (Own 3 1 (.slice (some ⟨g, 0, none⟩) zs.length c) zs.length ((A ++ x :: (B ++ C)).flatMap ienc) :: R)) (i) ⟨i, (L.take i), [], (L.drop (i + 1)), hSk, rfl, hs0, hs1, hs2, hs6, hs7, hst⟩ ?_
    clear hst
    rintro k τ w ⟨j, A, B, C, hSk, hkj, hs0, hs1, hs2, hs6, hs7, hst⟩
    refine CW.seq ?_
    refine CW.seq ?_
    refine Or.elim (Bool.eq_false_or_eq_true (decide (((j : Nat) : Int) > 0))) (fun hj0 => ?_) (fun hj0 => ?_)
    · skip
      have hSl := hSk.len
      have hSs := hSk.sum
      have hj0_ := of_decide_eq_true hj0
      obtain ⟨A', y, rfl⟩ := last_of (A := A) (by omega)
      have hLx := mid_x (D := B ++ C) (x := x) hSk.len
      have hLy := mid_y (D := B ++ C) (x := x) hSk.len
      have hLn := hSk.perm.length_eq
      simp only [List.length_append, List.length_cons, List.length_nil] at hSl hSs hLn
      refine CW.regionD [0, 1, 2, 3, 4, 5, 6, 7, 8, 9, 10, 11, 12] (fun w => w.cell? ⟨g, j * 1, none⟩ = some (.int .i64 x) ∧ w.cell? ⟨g, (((j : Nat) : Int) - 1).toNat * 1, none⟩ = some (.int .i64 y)) mixed ?_
      have hst := hst.drew
      generalize w.drew = w at hst ⊢
      have hS : w.cell? ⟨g, j * 1, none⟩ = some (.int .i64 x) ∧ w.cell? ⟨g, (((j : Nat) : Int) - 1).toNat * 1, none⟩ = some (.int .i64 y) := ⟨(hst.ocell .here (flat_get (j := 0) ienc_len hLx (rfl))), (hst.ocell .here (flat_get (j := 0) ienc_len hLy (rfl)))⟩
      refine RD.take 0 rfl (by kernel_rfl) Wd.a (v := .int .i64 ((j : Nat) : Int)) (fun w hS => by exact E.move (AF_ev rfl hs7)) hS ?_
      refine RD.take 1 rfl (by kernel_rfl) Wd.a (v := .int .i64 0) (fun w hS => by exact E.move (AF_ev rfl (up rfl hs1))) hS ?_
      refine RD.take 2 rfl (by kernel_rfl) Wd.a (v := .bool true) (fun w hS => by exact E.b (a := decide (((j : Nat) : Int) > 0)) (E.gtr (k := .i64) (a := ((j : Nat) : Int)) (b := 0) (AF_ev rfl (up rfl tp)) (AF_ev rfl tp)) hj0) hS ?_
      refine RD.take 3 rfl (by kernel_rfl) Wd.a (v := .bool true) (fun w hS => by exact E.move (AF_ev rfl tp)) hS ?_
      refine RD.take 4 rfl (by kernel_rfl) (by exact Wd.yes (x := 19) rfl (AF_ev rfl tp)) (v := .slice (some ⟨g, 0, none⟩) zs.length c) (fun w hS => by exact E.move (AF_ev rfl (up rfl (up rfl (up rfl (up rfl hs0)))))) hS ?_
      refine RD.take 5 rfl (by kernel_rfl) (by exact Wd.yes (x := 19) rfl (AF_ev rfl (up rfl tp))) (v := .int .i64 ((j : Nat) : Int)) (fun w hS => by exact E.move (AF_ev rfl (up rfl (up rfl (up rfl (up rfl (up rfl hs7))))))) hS ?_
      refine RD.take 6 rfl (by kernel_rfl) (by exact Wd.yes (x := 19) rfl (AF_ev rfl (up rfl (up rfl tp)))) (v := .pointer (some ⟨g, j * 1, none⟩)) (fun w hS => by exact E.indexAddr (b := g) (o := 0) (l := zs.length) (c := c) (i := ((j : Nat) : Int)) Try.underlying58 sz3 (AF_ev rfl (up rfl tp)) (AF_ev rfl tp) (by omega) (by omega) (by simp)) hS ?_
      refine RD.take 7 rfl (by kernel_rfl) (by exact Wd.yes (x := 19) rfl (AF_ev rfl (up rfl (up rfl (up rfl tp))))) (v := .int .i64 x) (fun w hS => by exact E.load (a := ⟨g, j * 1, none⟩) Try.underlying3 rfl (AF_ev rfl tp) hS.1) hS ?_
      refine RD.take 8 rfl (by kernel_rfl) (by exact Wd.yes (x := 19) rfl (AF_ev rfl (up rfl (up rfl (up rfl (up rfl tp)))))) (v := .slice (some ⟨g, 0, none⟩) zs.length c) (fun w hS => by exact E.move (AF_ev rfl (up rfl (up rfl (up rfl (up rfl (up rfl (up rfl (up rfl (up rfl hs0)))))))))) hS ?_
      refine RD.take 9 rfl (by kernel_rfl) (by exact Wd.yes (x := 19) rfl (AF_ev rfl (up rfl (up rfl (up rfl (up rfl (up rfl tp))))))) (v := .int .i64 ((j : Nat) : Int)) (fun w hS => by exact E.move (AF_ev rfl (up rfl (up rfl (up rfl (up rfl (up rfl (up rfl (up rfl (up rfl (up rfl hs7))))))))))) hS ?_
      refine RD.take 10 rfl (by kernel_rfl) (by exact Wd.yes (x := 19) rfl (AF_ev rfl (up rfl (up rfl (up rfl (up rfl (up rfl (up rfl tp)))))))) (v := .int .i64 (((j : Nat) : Int) - 1)) (fun w hS => by exact E.sub (k := .i64) (a := ((j : Nat) : Int)) (b := 1) (AF_ev rfl tp) rfl (show IntKind.i64.wrap (((j : Nat) : Int) - 1) = ((j : Nat) : Int) - 1 from (by rw [IntWalk.i64_in _ (by omega)]))) hS ?_
      refine RD.take 11 rfl (by kernel_rfl) (by exact Wd.yes (x := 19) rfl (AF_ev rfl (up rfl (up rfl (up rfl (up rfl (up rfl (up rfl (up rfl tp))))))))) (v := .pointer (some ⟨g, (((j : Nat) : Int) - 1).toNat * 1, none⟩)) (fun w hS => by exact E.indexAddr (b := g) (o := 0) (l := zs.length) (c := c) (i := ((j : Nat) : Int) - 1) Try.underlying58 sz3 (AF_ev rfl (up rfl (up rfl tp))) (AF_ev rfl tp) (by omega) (by omega) (by simp)) hS ?_
      refine RD.take 12 rfl (by kernel_rfl) (by exact Wd.yes (x := 19) rfl (AF_ev rfl (up rfl (up rfl (up rfl (up rfl (up rfl (up rfl (up rfl (up rfl tp)))))))))) (v := .int .i64 y) (fun w hS => by exact E.load (a := ⟨g, (((j : Nat) : Int) - 1).toNat * 1, none⟩) Try.underlying3 rfl (AF_ev rfl tp) hS.2) hS ?_
      refine RD.only 13 rfl (by kernel_rfl) (by exact Wd.yes (x := 19) rfl (AF_ev rfl (up rfl (up rfl (up rfl (up rfl (up rfl (up rfl (up rfl (up rfl (up rfl tp))))))))))) ?_
      refine H.call0 Try.func69 nm69 rfl (map2 (AF_ev rfl (up rfl (up rfl (up rfl (up rfl (up rfl tp)))))) (AF_ev rfl tp)) (Calls.mono (q_Less x y hst) ?_)
      rintro _ w ⟨rfl, hst⟩
      refine ⟨_, rfl, ?_⟩
      have hS : w.cell? ⟨g, j * 1, none⟩ = some (.int .i64 x) ∧ w.cell? ⟨g, (((j : Nat) : Int) - 1).toNat * 1, none⟩ = some (.int .i64 y) := ⟨(hst.ocell .here (flat_get (j := 0) ienc_len hLx (rfl))), (hst.ocell .here (flat_get (j := 0) ienc_len hLy (rfl)))⟩
      refine ⟨fun _ => hS, ?_⟩
      refine RD.only 14 rfl (by kernel_rfl) Wd.a (Hd.value (v := .bool (decide (x < y))) (by exact E.pickT (AF_ev rfl (up rfl (up rfl (up rfl (up rfl (up rfl (up rfl (up rfl (up rfl (up rfl (up rfl tp))))))))))) (AF_ev rfl tp)) ⟨fun _ => hS, ?_⟩)
      refine RD.fin (by kernel_rfl) (fun τ => τ 0 = .slice (some ⟨g, 0, none⟩) zs.length c ∧ τ 1 = .int .i64 0 ∧ τ 2 = .int .i64 ((zs.length : Nat) : Int) ∧ τ 6 = .int .i64 ((i : Nat) : Int) ∧ τ 7 = .int .i64 ((j : Nat) : Int) ∧ τ 30 = .bool (decide (x < y))) ⟨up rfl (up rfl (up rfl (up rfl (up rfl (up rfl (up rfl (up rfl (up rfl (up rfl (up rfl (up rfl (up rfl (up rfl (up rfl hs0)))))))))))))), up rfl (up rfl (up rfl (up rfl (up rfl (up rfl (up rfl (up rfl (up rfl (up rfl (up rfl (up rfl (up rfl (up rfl (up rfl hs1)))))))))))))), up rfl (up rfl (up rfl (up rfl (up rfl (up rfl (up rfl (up rfl (up rfl (up rfl (up rfl (up rfl (up rfl (up rfl (up rfl hs2)))))))))))))), up rfl (up rfl (up rfl (up rfl (up rfl (up rfl (up rfl (up rfl (up rfl (up rfl (up rfl (up rfl (up rfl (up rfl (up rfl hs6)))))))))))))), up rfl (up rfl (up rfl (up rfl (up rfl (up rfl (up rfl (up rfl (up rfl (up rfl (up rfl (up rfl (up rfl (up rfl (up rfl hs7)))))))))))))), tp⟩ ?_
      rintro τ ⟨hs0, hs1, hs2, hs6, hs7, hs30⟩
      refine CW.cond (AF_ev rfl hs30) (fun hc2 => ?_) (fun hc2 => ?_)
      · have hc2_ := hc2
        try simp only [decide_eq_true_eq, decide_eq_false_iff_not, Bool.and_eq_true, Bool.or_eq_true, Bool.and_eq_false_iff, Bool.or_eq_false_iff, Bool.not_eq_true', Bool.not_eq_false', beq_iff_eq, beq_eq_false_iff_ne, bne_iff_ne, bne_eq_false_iff_eq, ne_eq, Int.not_lt, Int.not_le, gt_iff_lt, ge_iff_le] at hc2_
        refine CW.skip ?_
        refine Th.n ?_
        refine CW.seq ?_
        refine CW.block ?_
        refine CW.regionD [0, 1, 2, 3, 4, 5, 6, 7, 8, 10, 11, 12] (fun w => True) mixed ?_
        have hst := hst.drew
        generalize w.drew = w at hst ⊢
        have hS : True := trivial
        refine RD.take 0 rfl (by kernel_rfl) Wd.a (v := .slice (some ⟨g, 0, none⟩) zs.length c) (fun w hS => by exact E.move (AF_ev rfl hs0)) hS ?_
        refine RD.take 1 rfl (by kernel_rfl) Wd.a (v := .int .i64 ((j : Nat) : Int)) (fun w hS => by exact E.move (AF_ev rfl (up rfl hs7))) hS ?_
        refine RD.take 2 rfl (by kernel_rfl) Wd.a (v := .slice (some ⟨g, 0, none⟩) zs.length c) (fun w hS => by exact E.move (AF_ev rfl (up rfl (up rfl hs0)))) hS ?_
        refine RD.take 3 rfl (by kernel_rfl) Wd.a (v := .int .i64 ((j : Nat) : Int)) (fun w hS => by exact E.move (AF_ev rfl (up rfl (up rfl (up rfl hs7))))) hS ?_
        refine RD.take 4 rfl (by kernel_rfl) Wd.a (v := .int .i64 (((j : Nat) : Int) - 1)) (fun w hS => by exact E.sub (k := .i64) (a := ((j : Nat) : Int)) (b := 1) (AF_ev rfl tp) rfl (show IntKind.i64.wrap (((j : Nat) : Int) - 1) = ((j : Nat) : Int) - 1 from (by rw [IntWalk.i64_in _ (by omega)]))) hS ?_
        refine RD.take 5 rfl (by kernel_rfl) Wd.a (v := .slice (some ⟨g, 0, none⟩) zs.length c) (fun w hS => by exact E.move (AF_ev rfl (up rfl (up rfl (up rfl (up rfl (up rfl hs0))))))) hS ?_
        refine RD.take 6 rfl (by kernel_rfl) Wd.a (v := .int .i64 ((j : Nat) : Int)) (fun w hS => by exact E.move (AF_ev rfl (up rfl (up rfl (up rfl (up rfl (up rfl (up rfl hs7)))))))) hS ?_
        refine RD.take 7 rfl (by kernel_rfl) Wd.a (v := .int .i64 (((j : Nat) : Int) - 1)) (fun w hS => by exact E.sub (k := .i64) (a := ((j : Nat) : Int)) (b := 1) (AF_ev rfl tp) rfl (show IntKind.i64.wrap (((j : Nat) : Int) - 1) = ((j : Nat) : Int) - 1 from (by rw [IntWalk.i64_in _ (by omega)]))) hS ?_
        refine RD.take 8 rfl (by kernel_rfl) Wd.a (v := .pointer (some ⟨g, (((j : Nat) : Int) - 1).toNat * 1, none⟩)) (fun w hS => by exact E.indexAddr (b := g) (o := 0) (l := zs.length) (c := c) (i := ((j : Nat) : Int) - 1) Try.underlying58 sz3 (AF_ev rfl (up rfl (up rfl tp))) (AF_ev rfl tp) (by omega) (by omega) (by simp)) hS ?_
        refine RD.take 10 rfl (by kernel_rfl) Wd.a (v := .slice (some ⟨g, 0, none⟩) zs.length c) (fun w hS => by exact E.move (AF_ev rfl (up rfl (up rfl (up rfl (up rfl (up rfl (up rfl (up rfl (up rfl (up rfl hs0))))))))))) hS ?_
        refine RD.take 11 rfl (by kernel_rfl) Wd.a (v := .int .i64 ((j : Nat) : Int)) (fun w hS => by exact E.move (AF_ev rfl (up rfl (up rfl (up rfl (up rfl (up rfl (up rfl (up rfl (up rfl (up rfl (up rfl hs7)))))))))))) hS ?_
        refine RD.take 12 rfl (by kernel_rfl) Wd.a (v := .pointer (some ⟨g, j * 1, none⟩)) (fun w hS => by exact E.indexAddr (b := g) (o := 0) (l := zs.length) (c := c) (i := ((j : Nat) : Int)) Try.underlying58 sz3 (AF_ev rfl (up rfl tp)) (AF_ev rfl tp) (by omega) (by omega) (by simp)) hS ?_
        refine RD.two 9 13 rfl rfl (by kernel_rfl) Wd.a Wd.a ?_ ?_
        · skip
          refine Hd.value (v := .int .i64 y) (by exact E.load (a := ⟨g, (((j : Nat) : Int) - 1).toNat * 1, none⟩) Try.underlying3 rfl (AF_ev rfl (up rfl (up rfl (up rfl tp)))) (hst.ocell .here (flat_get (j := 0) ienc_len hLy (rfl)))) ?_
          have hS : True := trivial
          refine ⟨fun _ => hS, ?_⟩
          refine RD.only 13 rfl (by kernel_rfl) Wd.a ?_
          refine Hd.value (v := .int .i64 x) (by exact E.load (a := ⟨g, j * 1, none⟩) Try.underlying3 rfl (AF_ev rfl (up rfl tp)) (hst.ocell .here (flat_get (j := 0) ienc_len hLx (rfl)))) ?_
          have hS : True := trivial
          refine ⟨fun _ => hS, ?_⟩
          refine RD.only 14 rfl (by kernel_rfl) Wd.a (Hd.value (v := .pointer (some ⟨g, j * 1, none⟩)) (by exact E.indexAddr (b := g) (o := 0) (l := zs.length) (c := c) (i := ((j : Nat) : Int)) Try.underlying58 sz3 (AF_ev rfl (up rfl (up rfl (up rfl (up rfl (up rfl (up rfl (up rfl (up rfl (up rfl (up rfl (up rfl (up rfl (up rfl tp)))))))))))))) (AF_ev rfl (up rfl (up rfl (up rfl (up rfl (up rfl (up rfl (up rfl (up rfl (up rfl (up rfl (up rfl (up rfl tp))))))))))))) (by omega) (by omega) (by simp)) ⟨fun _ => hS, ?_⟩)
          refine RD.only 15 rfl (by kernel_rfl) Wd.a ?_
          refine H.storeInn (f := ienc) (i := j) (d := 0) (m := 1) (v := .int .i64 y) (news := [.int .i64 y]) (a' := y) ienc_len (AF_ev rfl tp) (AF_ev rfl (up rfl (up rfl tp))) hst .here hLx (by omega) rfl rfl rfl sz3 (by omega) (rfl) (by simp [Value.oneCell']) fun w hst => ?_
          have hS : True := trivial
          refine ⟨fun _ => hS, ?_⟩
          refine RD.only 16 rfl (by kernel_rfl) Wd.a (Hd.value (v := .pointer (some ⟨g, (((j : Nat) : Int) - 1).toNat * 1, none⟩)) (by exact E.indexAddr (b := g) (o := 0) (l := zs.length) (c := c) (i := ((j : Nat) : Int) - 1) Try.underlying58 sz3 (AF_ev rfl (u0 (up rfl (up rfl (up rfl (up rfl (up rfl (up rfl (up rfl (up rfl (up rfl (up rfl (up rfl (up rfl tp)))))))))))))) (AF_ev rfl (u0 (up rfl (up rfl (up rfl (up rfl (up rfl (up rfl (up rfl (up rfl (up rfl (up rfl tp)))))))))))) (by omega) (by omega) (by simp)) ⟨fun h => Bool.noConfusion ((show needs _ _ _ = false by kernel_rfl).symm.trans h), ?_⟩)
          refine RD.only 17 rfl (by kernel_rfl) Wd.a ?_
          refine H.storeInn (f := ienc) (i := (((j : Nat) : Int) - 1).toNat) (d := 0) (m := 1) (v := .int .i64 x) (news := [.int .i64 x]) (a' := x) ienc_len (AF_ev rfl tp) (AF_ev rfl (up rfl (u0 (up rfl tp)))) hst .here (set_ne (by omega) hLy) (by omega) rfl rfl rfl sz3 (by omega) (rfl) (by simp [Value.oneCell']) fun w hst => ?_
          refine ⟨fun h => Bool.noConfusion ((show needs _ _ _ = false by kernel_rfl).symm.trans h), ?_⟩
          refine RD.done (by kernel_rfl) ?_
          refine Bl.n ?_
          refine Th.n ?_
          refine CW.region ?_
          refine RW.soft Wd.a (v := .int .i64 ((j : Nat) : Int)) (by exact E.move (AF_ev rfl (u0 (up rfl (u0 (up rfl (up rfl (up rfl (up rfl (up rfl (up rfl (up rfl (up rfl (up rfl (up rfl (up rfl (up rfl (up rfl (up rfl (up rfl hs7)))))))))))))))))))) ?_
          refine RW.soft Wd.a (v := .int .i64 (((j : Nat) : Int) - 1)) (by exact E.sub (k := .i64) (a := ((j : Nat) : Int)) (b := 1) (AF_ev rfl tp) rfl (show IntKind.i64.wrap (((j : Nat) : Int) - 1) = ((j : Nat) : Int) - 1 from (by rw [IntWalk.i64_in _ (by omega)]))) ?_
          refine RW.soft Wd.a (v := .int .i64 (((j : Nat) : Int) - 1)) (by exact E.assign (AF_ev rfl tp)) ?_
          refine RW.nil ?_
          refine Th.n ?_
          have hsw : (((A' ++ [y] ++ x :: (B ++ C)).set j y).set ((((j : Nat) : Int) - 1).toNat) x) = (A' ++ x :: ((y :: B) ++ C)) := by first | exact swap1 hSk.len | exact swap2 hSk.len
          rw [hsw] at hst
          have hSk2 := hSk.down (by simpa using hc2)
          exact ⟨j - 1, by omega, j - 1, A', (y :: B), C, hSk2, rfl, up rfl (up rfl (up rfl (u0 (up rfl (u0 (up rfl (up rfl (up rfl (up rfl (up rfl (up rfl (up rfl (up rfl (up rfl (up rfl (up rfl (up rfl (up rfl (up rfl (up rfl hs0)))))))))))))))))))), up rfl (up rfl (up rfl (u0 (up rfl (u0 (up rfl (up rfl (up rfl (up rfl (up rfl (up rfl (up rfl (up rfl (up rfl (up rfl (up rfl (up rfl (up rfl (up rfl (up rfl hs1)))))))))))))))))))), up rfl (up rfl (up rfl (u0 (up rfl (u0 (up rfl (up rfl (up rfl (up rfl (up rfl (up rfl (up rfl (up rfl (up rfl (up rfl (up rfl (up rfl (up rfl (up rfl (up rfl hs2)))))))))))))))))))), up rfl (up rfl (up rfl (u0 (up rfl (u0 (up rfl (up rfl (up rfl (up rfl (up rfl (up rfl (up rfl (up rfl (up rfl (up rfl (up rfl (up rfl (up rfl (up rfl (up rfl hs6)))))))))))))))))))), (int_eq (a := ((j : Nat) : Int) - 1) tp (by omega)), hst⟩
        · skip
          refine Hd.value (v := .int .i64 x) (by exact E.load (a := ⟨g, j * 1, none⟩) Try.underlying3 rfl (AF_ev rfl tp) (hst.ocell .here (flat_get (j := 0) ienc_len hLx (rfl)))) ?_
          have hS : True := trivial
          refine ⟨fun _ => hS, ?_⟩
          refine RD.only 9 rfl (by kernel_rfl) Wd.a ?_
          refine Hd.value (v := .int .i64 y) (by exact E.load (a := ⟨g, (((j : Nat) : Int) - 1).toNat * 1, none⟩) Try.underlying3 rfl (AF_ev rfl (up rfl (up rfl (up rfl (up rfl tp))))) (hst.ocell .here (flat_get (j := 0) ienc_len hLy (rfl)))) ?_
          have hS : True := trivial
          refine ⟨fun _ => hS, ?_⟩
          refine RD.only 14 rfl (by kernel_rfl) Wd.a (Hd.value (v := .pointer (some ⟨g, j * 1, none⟩)) (by exact E.indexAddr (b := g) (o := 0) (l := zs.length) (c := c) (i := ((j : Nat) : Int)) Try.underlying58 sz3 (AF_ev rfl (up rfl (up rfl (up rfl (up rfl (up rfl (up rfl (up rfl (up rfl (up rfl (up rfl (up rfl (up rfl (up rfl tp)))))))))))))) (AF_ev rfl (up rfl (up rfl (up rfl (up rfl (up rfl (up rfl (up rfl (up rfl (up rfl (up rfl (up rfl (up rfl tp))))))))))))) (by omega) (by omega) (by simp)) ⟨fun _ => hS, ?_⟩)
          refine RD.only 15 rfl (by kernel_rfl) Wd.a ?_
          refine H.storeInn (f := ienc) (i := j) (d := 0) (m := 1) (v := .int .i64 y) (news := [.int .i64 y]) (a' := y) ienc_len (AF_ev rfl tp) (AF_ev rfl (up rfl tp)) hst .here hLx (by omega) rfl rfl rfl sz3 (by omega) (rfl) (by simp [Value.oneCell']) fun w hst => ?_
          have hS : True := trivial
          refine ⟨fun _ => hS, ?_⟩
          refine RD.only 16 rfl (by kernel_rfl) Wd.a (Hd.value (v := .pointer (some ⟨g, (((j : Nat) : Int) - 1).toNat * 1, none⟩)) (by exact E.indexAddr (b := g) (o := 0) (l := zs.length) (c := c) (i := ((j : Nat) : Int) - 1) Try.underlying58 sz3 (AF_ev rfl (u0 (up rfl (up rfl (up rfl (up rfl (up rfl (up rfl (up rfl (up rfl (up rfl (up rfl (up rfl (up rfl tp)))))))))))))) (AF_ev rfl (u0 (up rfl (up rfl (up rfl (up rfl (up rfl (up rfl (up rfl (up rfl (up rfl (up rfl tp)))))))))))) (by omega) (by omega) (by simp)) ⟨fun h => Bool.noConfusion ((show needs _ _ _ = false by kernel_rfl).symm.trans h), ?_⟩)
          refine RD.only 17 rfl (by kernel_rfl) Wd.a ?_
          refine H.storeInn (f := ienc) (i := (((j : Nat) : Int) - 1).toNat) (d := 0) (m := 1) (v := .int .i64 x) (news := [.int .i64 x]) (a' := x) ienc_len (AF_ev rfl tp) (AF_ev rfl (up rfl (u0 (up rfl (up rfl tp))))) hst .here (set_ne (by omega) hLy) (by omega) rfl rfl rfl sz3 (by omega) (rfl) (by simp [Value.oneCell']) fun w hst => ?_
          refine ⟨fun h => Bool.noConfusion ((show needs _ _ _ = false by kernel_rfl).symm.trans h), ?_⟩
          refine RD.done (by kernel_rfl) ?_
          refine Bl.n ?_
          refine Th.n ?_
          refine CW.region ?_
          refine RW.soft Wd.a (v := .int .i64 ((j : Nat) : Int)) (by exact E.move (AF_ev rfl (u0 (up rfl (u0 (up rfl (up rfl (up rfl (up rfl (up rfl (up rfl (up rfl (up rfl (up rfl (up rfl (up rfl (up rfl (up rfl (up rfl (up rfl hs7)))))))))))))))))))) ?_
          refine RW.soft Wd.a (v := .int .i64 (((j : Nat) : Int) - 1)) (by exact E.sub (k := .i64) (a := ((j : Nat) : Int)) (b := 1) (AF_ev rfl tp) rfl (show IntKind.i64.wrap (((j : Nat) : Int) - 1) = ((j : Nat) : Int) - 1 from (by rw [IntWalk.i64_in _ (by omega)]))) ?_
          refine RW.soft Wd.a (v := .int .i64 (((j : Nat) : Int) - 1)) (by exact E.assign (AF_ev rfl tp)) ?_
          refine RW.nil ?_
          refine Th.n ?_
          have hsw : (((A' ++ [y] ++ x :: (B ++ C)).set j y).set ((((j : Nat) : Int) - 1).toNat) x) = (A' ++ x :: ((y :: B) ++ C)) := by first | exact swap1 hSk.len | exact swap2 hSk.len
          rw [hsw] at hst
          have hSk2 := hSk.down (by simpa using hc2)
          exact ⟨j - 1, by omega, j - 1, A', (y :: B), C, hSk2, rfl, up rfl (up rfl (up rfl (u0 (up rfl (u0 (up rfl (up rfl (up rfl (up rfl (up rfl (up rfl (up rfl (up rfl (up rfl (up rfl (up rfl (up rfl (up rfl (up rfl (up rfl hs0)))))))))))))))))))), up rfl (up rfl (up rfl (u0 (up rfl (u0 (up rfl (up rfl (up rfl (up rfl (up rfl (up rfl (up rfl (up rfl (up rfl (up rfl (up rfl (up rfl (up rfl (up rfl (up rfl hs1)))))))))))))))))))), up rfl (up rfl (up rfl (u0 (up rfl (u0 (up rfl (up rfl (up rfl (up rfl (up rfl (up rfl (up rfl (up rfl (up rfl (up rfl (up rfl (up rfl (up rfl (up rfl (up rfl hs2)))))))))))))))))))), up rfl (up rfl (up rfl (u0 (up rfl (u0 (up rfl (up rfl (up rfl (up rfl (up rfl (up rfl (up rfl (up rfl (up rfl (up rfl (up rfl (up rfl (up rfl (up rfl (up rfl hs6)))))))))))))))))))), (int_eq (a := ((j : Nat) : Int) - 1) tp (by omega)), hst⟩
      · have hc2_ := hc2
        try simp only [decide_eq_true_eq, decide_eq_false_iff_not, Bool.and_eq_true, Bool.or_eq_true, Bool.and_eq_false_iff, Bool.or_eq_false_iff, Bool.not_eq_true', Bool.not_eq_false', beq_iff_eq, beq_eq_false_iff_ne, bne_iff_ne, bne_eq_false_iff_eq, ne_eq, Int.not_lt, Int.not_le, gt_iff_lt, ge_iff_le] at hc2_
        refine CW.exit ?_
        refine Th.x ?_
        refine Th.x ?_
        refine Bl.x ?_
        refine Bl.n ?_
        refine Th.n ?_
        refine CW.region ?_
        refine RW.soft Wd.a (v := .int .i64 ((i : Nat) : Int)) (by exact E.move (AF_ev rfl hs6)) ?_
        refine RW.soft Wd.a (v := .int .i64 (((i : Nat) : Int) + 1)) (by exact E.add (k := .i64) (a := ((i : Nat) : Int)) (b := 1) (AF_ev rfl tp) rfl (show IntKind.i64.wrap (((i : Nat) : Int) + 1) = ((i : Nat) : Int) + 1 from (by rw [IntWalk.i64_in _ (by omega)]))) ?_
        refine RW.soft Wd.a (v := .int .i64 (((i : Nat) : Int) + 1)) (by exact E.assign (AF_ev rfl tp)) ?_
        refine RW.nil ?_
        refine Th.n ?_
        have hdn := hSk.done1 (by simpa using hc2)
        have hso := hSk.out
        have hpw : (((A' ++ [y] ++ x :: (B ++ C))).take (i + 1)).Pairwise (· ≤ ·) := by rw [hso]; exact hdn
        exact ⟨zs.length - (i + 1), by omega, i + 1, (A' ++ [y] ++ x :: (B ++ C)), hSk.perm, hpw, (by omega), rfl, up rfl (up rfl (up rfl hs0)), up rfl (up rfl (up rfl hs1)), up rfl (up rfl (up rfl hs2)), (int_eq (a := ((i : Nat) : Int) + 1) tp (by omega)), hst⟩
    · skip
      have hSl := hSk.len
      have hSs := hSk.sum
      have hj0_ := of_decide_eq_false hj0
      refine CW.regionD [0, 1, 2, 3, 4, 5, 6, 7, 8, 9, 10, 11, 12] (fun w => True) mixed ?_
      have hst := hst.drew
      generalize w.drew = w at hst ⊢
      have hS : True := trivial
      refine RD.take 0 rfl (by kernel_rfl) Wd.a (v := .int .i64 ((j : Nat) : Int)) (fun w hS => by exact E.move (AF_ev rfl hs7)) hS ?_
      refine RD.take 1 rfl (by kernel_rfl) Wd.a (v := .int .i64 0) (fun w hS => by exact E.move (AF_ev rfl (up rfl hs1))) hS ?_
      refine RD.take 2 rfl (by kernel_rfl) Wd.a (v := .bool false) (fun w hS => by exact E.b (a := decide (((j : Nat) : Int) > 0)) (E.gtr (k := .i64) (a := ((j : Nat) : Int)) (b := 0) (AF_ev rfl (up rfl tp)) (AF_ev rfl tp)) hj0) hS ?_
      refine RD.take 3 rfl (by kernel_rfl) Wd.a (v := .bool false) (fun w hS => by exact E.move (AF_ev rfl tp)) hS ?_
      refine RD.pass 4 rfl (by kernel_rfl) (by exact Wd.no (x := 19) (b := false) rfl (AF_ev rfl tp) rfl) hS ?_
      refine RD.pass 5 rfl (by kernel_rfl) (by exact Wd.no (x := 19) (b := false) rfl (AF_ev rfl (up rfl tp)) rfl) hS ?_
      refine RD.pass 6 rfl (by kernel_rfl) (by exact Wd.no (x := 19) (b := false) rfl (AF_ev rfl (up rfl (up rfl tp))) rfl) hS ?_
      refine RD.pass 7 rfl (by kernel_rfl) (by exact Wd.no (x := 19) (b := false) rfl (AF_ev rfl (up rfl (up rfl (up rfl tp)))) rfl) hS ?_
      refine RD.pass 8 rfl (by kernel_rfl) (by exact Wd.no (x := 19) (b := false) rfl (AF_ev rfl (up rfl (up rfl (up rfl (up rfl tp))))) rfl) hS ?_
      refine RD.pass 9 rfl (by kernel_rfl) (by exact Wd.no (x := 19) (b := false) rfl (AF_ev rfl (up rfl (up rfl (up rfl (up rfl (up rfl tp)))))) rfl) hS ?_
      refine RD.pass 10 rfl (by kernel_rfl) (by exact Wd.no (x := 19) (b := false) rfl (AF_ev rfl (up rfl (up rfl (up rfl (up rfl (up rfl (up rfl tp))))))) rfl) hS ?_
      refine RD.pass 11 rfl (by kernel_rfl) (by exact Wd.no (x := 19) (b := false) rfl (AF_ev rfl (up rfl (up rfl (up rfl (up rfl (up rfl (up rfl (up rfl tp)))))))) rfl) hS ?_
      refine RD.pass 12 rfl (by kernel_rfl) (by exact Wd.no (x := 19) (b := false) rfl (AF_ev rfl (up rfl (up rfl (up rfl (up rfl (up rfl (up rfl (up rfl (up rfl tp))))))))) rfl) hS ?_
      refine RD.skip 13 rfl (by kernel_rfl) (by exact Wd.no (x := 19) (b := false) rfl (AF_ev rfl (up rfl (up rfl (up rfl (up rfl (up rfl (up rfl (up rfl (up rfl (up rfl tp)))))))))) rfl) hS ?_
      refine RD.only 14 rfl (by kernel_rfl) Wd.a (Hd.value (v := .bool false) (by exact E.pickF (AF_ev rfl (up rfl (up rfl (up rfl (up rfl (up rfl (up rfl (up rfl (up rfl (up rfl (up rfl tp))))))))))) rfl) ⟨fun _ => hS, ?_⟩)
      refine RD.fin (by kernel_rfl) (fun τ => τ 0 = .slice (some ⟨g, 0, none⟩) zs.length c ∧ τ 1 = .int .i64 0 ∧ τ 2 = .int .i64 ((zs.length : Nat) : Int) ∧ τ 6 = .int .i64 ((i : Nat) : Int) ∧ τ 7 = .int .i64 ((j : Nat) : Int) ∧ τ 30 = .bool false) ⟨up rfl (up rfl (up rfl (up rfl (up rfl (up rfl (up rfl (up rfl (up rfl (up rfl (up rfl (up rfl (up rfl (up rfl (up rfl hs0)))))))))))))), up rfl (up rfl (up rfl (up rfl (up rfl (up rfl (up rfl (up rfl (up rfl (up rfl (up rfl (up rfl (up rfl (up rfl (up rfl hs1)))))))))))))), up rfl (up rfl (up rfl (up rfl (up rfl (up rfl (up rfl (up rfl (up rfl (up rfl (up rfl (up rfl (up rfl (up rfl (up rfl hs2)))))))))))))), up rfl (up rfl (up rfl (up rfl (up rfl (up rfl (up rfl (up rfl (up rfl (up rfl (up rfl (up rfl (up rfl (up rfl (up rfl hs6)))))))))))))), up rfl (up rfl (up rfl (up rfl (up rfl (up rfl (up rfl (up rfl (up rfl (up rfl (up rfl (up rfl (up rfl (up rfl (up rfl hs7)))))))))))))), tp⟩ ?_
      rintro τ ⟨hs0, hs1, hs2, hs6, hs7, hs30⟩
      refine CW.condF (AF_ev rfl hs30) ?_
      refine CW.exit ?_
      refine Th.x ?_
      refine Th.x ?_
      refine Bl.x ?_
      refine Bl.n ?_
      refine Th.n ?_
      refine CW.region ?_
      refine RW.soft Wd.a (v := .int .i64 ((i : Nat) : Int)) (by exact E.move (AF_ev rfl hs6)) ?_
      refine RW.soft Wd.a (v := .int .i64 (((i : Nat) : Int) + 1)) (by exact E.add (k := .i64) (a := ((i : Nat) : Int)) (b := 1) (AF_ev rfl tp) rfl (show IntKind.i64.wrap (((i : Nat) : Int) + 1) = ((i : Nat) : Int) + 1 from (by rw [IntWalk.i64_in _ (by omega)]))) ?_
      refine RW.soft Wd.a (v := .int .i64 (((i : Nat) : Int) + 1)) (by exact E.assign (AF_ev rfl tp)) ?_
      refine RW.nil ?_
      refine Th.n ?_
      have hdn := hSk.done0 (by omega)
      have hso := hSk.out
      have hpw : (((A ++ x :: (B ++ C))).take (i + 1)).Pairwise (· ≤ ·) := by rw [hso]; exact hdn
      exact ⟨zs.length - (i + 1), by omega, i + 1, (A ++ x :: (B ++ C)), hSk.perm, hpw, (by omega), rfl, up rfl (up rfl (up rfl hs0)), up rfl (up rfl (up rfl hs1)), up rfl (up rfl (up rfl hs2)), (int_eq (a := ((i : Nat) : Int) + 1) tp (by omega)), hst⟩
  · have hc1_ := hc1
    try simp only [decide_eq_true_eq, decide_eq_false_iff_not, Bool.and_eq_true, Bool.or_eq_true, Bool.and_eq_false_iff, Bool.or_eq_false_iff, Bool.not_eq_true', Bool.not_eq_false', beq_iff_eq, beq_eq_false_iff_ne, bne_iff_ne, bne_eq_false_iff_eq, ne_eq, Int.not_lt, Int.not_le, gt_iff_lt, ge_iff_le] at hc1_
    refine CW.exit ?_
    refine Th.x ?_
    refine Th.x ?_
    refine Bl.x ?_
    refine retE rfl ?_
    
    exact ⟨L, rfl, hP, by rw [List.take_of_length_le (by rw [hP.length_eq]; omega)] at hW; exact hW, hst⟩
end Go.Proofs.Ytjagffnbobnofaa
