/- The functions of the package quorum, walked through operation by operation. -/
import Derived.Test.YtjagffnbobnofaaQ8
import Derived.Test.YtjagffnbobnofaaSN
import Derived.Test.YtjagffnbobnofaaQ6
import Derived.Test.YtjagffnbobnofaaQ7
import Derived.Test.YtjagffnbobnofaaQ4
import Derived.Test.YtjagffnbobnofaaQ5
import Derived.Test.YtjagffnbobnofaaQ2
import Derived.Test.YtjagffnbobnofaaQ1
import Derived.Test.YtjagffnbobnofaaQ3
import Derived.Test.YtjagffnbobnofaaQ0
import Derived.Test.YtjagffnbobnofaaSM
namespace Go.Proofs.Ytjagffnbobnofaa
open Go.RowKit Go.SL Go.Q18
attribute [local irreducible] Go.SL.RW Go.SL.CW Go.SL.RD Go.SL.Hd Go.SL.St
set_option linter.unusedVariables false
set_option linter.unusedSimpArgs false

theorem nm71 : (Try.f71.name == "runtime.NumGoroutine") = false := by kernel_rfl

theorem ins_list {A D Z : List Value} {v : Value} {i n : Nat} (hA : A.length = i) (hZ : (A ++ Z).length = n + 1) (hD : D.length = n - i) (hi : i < n) :
    ((((A ++ Z).take i ++ [v] ++ (A ++ Z).drop (i + 1)).take (i + 1) ++ D) ++ ((A ++ Z).take i ++ [v] ++ (A ++ Z).drop (i + 1)).drop (i + 1 + (n - i))) = A ++ [v] ++ D := by
  have h1 : (A ++ Z).take i = A := by rw [← hA]; exact List.take_left
  have h2 : (A ++ [v]).length = i + 1 := by simp [hA]
  have h3 : ((A ++ Z).drop (i + 1)).length = n - i := by rw [List.length_drop, hZ]; omega
  rw [h1]
  rw [List.take_left' h2, List.drop_of_length_le (by rw [List.length_append, h2, h3]; omega), List.append_nil]
theorem ins_list2 {A D xs : List Value} {v : Value} {i n : Nat} (hA : xs.take i = A) (hx : xs.length = n + 1) (hD : D.length = n - i) (hi : i < n) :
    ((xs.take (i + 1) ++ D ++ xs.drop (i + 1 + (n - i))).take i ++ [v] ++ (xs.take (i + 1) ++ D ++ xs.drop (i + 1 + (n - i))).drop (i + 1)) = A ++ [v] ++ D := by
  have h1 : (xs.take (i + 1)).length = i + 1 := by rw [List.length_take, hx]; omega
  have h0 : xs.drop (i + 1 + (n - i)) = [] := List.drop_of_length_le (by omega)
  rw [h0, List.append_nil, List.drop_left' h1, List.take_append_of_le_length (by omega), List.take_take, Nat.min_eq_left (by omega), hA]
theorem ins_take {A ys : List Value} {n i : Nat} (hA : A.length = n) (hi : i ≤ n) : ((A ++ ys).drop i).take (n - i) = A.drop i := by
  rw [List.drop_append_of_le_length (by omega), List.take_left' (by rw [List.length_drop, hA])]
theorem fun71 : Try.prog.funcs[71]? = some Try.f71 := Try.func71
theorem size3 (w : World) : (Go.sizeOf 3).run Try.prog w = .ok 1 w := by
  cases hq : Try.prog.info? 3 with
  | none => have := sz3; simp [hq] at this
  | some i =>
    have hs : i.size = 1 := by have := sz3; simpa [hq] using this
    simp [Go.sizeOf, typeInfo, hq, hs]

theorem put_flat (zs : List Int) (id : Int) (i : Nat) : (putIn zs id i).flatMap ienc = (zs.take i).flatMap ienc ++ [Value.int .i64 id] ++ (zs.drop i).flatMap ienc := by
  unfold putIn; simp [ienc]

theorem q_Insert {p : Pers} {w : World} {R : List Assn} {g c n i vb : Nat} {zs : List Int} {id : Int} (hnz : zs.length = n) (hl : n ≤ 1000000) (hcz : n ≤ c) (hcm : c ≤ maxLen) (hi : i ≤ n) (hn0 : 0 < n) (hst : St p w (Own 3 1 (.slice (some ⟨g, 0, none⟩) n c) n (zs.flatMap ienc) :: pt vb (.cells #[.int .i64 id] 3) :: R)) :
    Calls Try.prog 55 #[.slice (some ⟨g, 0, none⟩) n c, .int .i64 ((i : Nat) : Int), .slice (some ⟨vb, 0, none⟩) 1 1] w fun e w => ∃ v, e = .returned v ∧ St p w (Own 3 1 v (n + 1) ((putIn zs id i).flatMap ienc) :: R) := by
  have hcm2 : c ≤ 9223372036854775807 := by simp only [maxLen] at hcm; omega
  refine enter Try.func55 rfl (by simp) (n := 95) rfl fun τ hτ => ?_
  have hs0 : τ 0 = .slice (some ⟨g, 0, none⟩) n c := hτ 0 (by simp)
  have hs1 : τ 1 = .int .i64 ((i : Nat) : Int) := hτ 1 (by simp)
  have hs2 : τ 2 = .slice (some ⟨vb, 0, none⟩) 1 1 := hτ 2 (by simp)
  clear hτ
  refine CW.seq ?_
  refine CW.region ?_
  refine RW.soft Wd.a (v := .slice none 0 0) (by exact E.assign rfl) ?_
  refine RW.fin (fun τ => τ 0 = .slice (some ⟨g, 0, none⟩) n c ∧ τ 1 = .int .i64 ((i : Nat) : Int) ∧ τ 2 = .slice (some ⟨vb, 0, none⟩) 1 1 ∧ τ 6 = .slice none 0 0) ⟨up rfl hs0, up rfl hs1, up rfl hs2, tp⟩ ?_
  rintro τ ⟨hs0, hs1, hs2, hs6⟩
  refine CW.seq ?_
  refine CW.region ?_
  refine RW.soft Wd.a (v := .slice (some ⟨g, 0, none⟩) n c) (by exact E.move (AF_ev rfl hs0)) ?_
  refine RW.soft Wd.a (v := .int .i64 ((i : Nat) : Int)) (by exact E.move (AF_ev rfl (up rfl hs1))) ?_
  refine RW.soft Wd.a (v := .slice (some ⟨g, if i = c then 0 else 0 + i * 1, none⟩) (n - i) (c - i)) (by exact E.slice (i := i) (j := n) Try.underlying58 sz3 (AF_ev rfl (up rfl tp)) (int_eq (a := ((i : Nat) : Int)) (AF_ev rfl tp) (by omega)) rfl (by omega) (by omega) rfl) ?_
  refine RW.fin (fun τ => τ 0 = .slice (some ⟨g, 0, none⟩) n c ∧ τ 1 = .int .i64 ((i : Nat) : Int) ∧ τ 2 = .slice (some ⟨vb, 0, none⟩) 1 1 ∧ τ 6 = .slice none 0 0) ⟨up rfl (up rfl (up rfl hs0)), up rfl (up rfl (up rfl hs1)), up rfl (up rfl (up rfl hs2)), up rfl (up rfl (up rfl hs6))⟩ ?_
  rintro τ ⟨hs0, hs1, hs2, hs6⟩
  refine CW.seq ?_
  refine CW.region ?_
  refine RW.soft Wd.a (v := .slice (some ⟨vb, 0, none⟩) 1 1) (by exact E.move (AF_ev rfl hs2)) ?_
  refine RW.soft Wd.a (v := .int .i64 1) (by exact E.lenS (p := (some ⟨vb, 0, none⟩)) (l := 1) (c := 1) Try.underlying58 (AF_ev rfl tp)) ?_
  refine RW.soft Wd.a (v := .int .i64 1) (by exact E.assign (AF_ev rfl tp)) ?_
  refine RW.fin (fun τ => τ 0 = .slice (some ⟨g, 0, none⟩) n c ∧ τ 1 = .int .i64 ((i : Nat) : Int) ∧ τ 2 = .slice (some ⟨vb, 0, none⟩) 1 1 ∧ τ 6 = .slice none 0 0 ∧ τ 7 = .int .i64 1) ⟨up rfl (up rfl (up rfl hs0)), up rfl (up rfl (up rfl hs1)), up rfl (up rfl (up rfl hs2)), up rfl (up rfl (up rfl hs6)), tp⟩ ?_
  rintro τ ⟨hs0, hs1, hs2, hs6, hs7⟩
  refine CW.seq ?_
  refine CW.seq ?_
  refine CW.region ?_
  refine RW.soft Wd.a (v := .int .i64 1) (by exact E.move (AF_ev rfl hs7)) ?_
  refine RW.soft Wd.a (v := .bool false) (by exact E.eql (k := .i64) (a := 1) (b := 0) (AF_ev rfl tp) rfl) ?_
  refine RW.fin (fun τ => τ 0 = .slice (some ⟨g, 0, none⟩) n c ∧ τ 1 = .int .i64 ((i : Nat) : Int) ∧ τ 2 = .slice (some ⟨vb, 0, none⟩) 1 1 ∧ τ 6 = .slice none 0 0 ∧ τ 7 = .int .i64 1 ∧ τ 16 = .bool false) ⟨up rfl (up rfl hs0), up rfl (up rfl hs1), up rfl (up rfl hs2), up rfl (up rfl hs6), up rfl (up rfl hs7), tp⟩ ?_
  rintro τ ⟨hs0, hs1, hs2, hs6, hs7, hs16⟩
  refine CW.condF (AF_ev rfl hs16) ?_
  refine CW.skip ?_
  refine Th.n ?_
  refine CW.seq ?_
  refine CW.region ?_
  refine RW.soft Wd.a (v := .slice (some ⟨g, 0, none⟩) n c) (by exact E.move (AF_ev rfl hs0)) ?_
  refine RW.soft Wd.a (v := .int .i64 ((n : Nat) : Int)) (by exact E.lenS (p := (some ⟨g, 0, none⟩)) (l := n) (c := c) Try.underlying58 (AF_ev rfl tp)) ?_
  refine RW.soft Wd.a (v := .int .i64 ((n : Nat) : Int)) (by exact E.assign (AF_ev rfl tp)) ?_
  refine RW.fin (fun τ => τ 0 = .slice (some ⟨g, 0, none⟩) n c ∧ τ 1 = .int .i64 ((i : Nat) : Int) ∧ τ 2 = .slice (some ⟨vb, 0, none⟩) 1 1 ∧ τ 6 = .slice none 0 0 ∧ τ 7 = .int .i64 1 ∧ τ 8 = .int .i64 ((n : Nat) : Int) ∧ τ 16 = .bool false) ⟨up rfl (up rfl (up rfl hs0)), up rfl (up rfl (up rfl hs1)), up rfl (up rfl (up rfl hs2)), up rfl (up rfl (up rfl hs6)), up rfl (up rfl (up rfl hs7)), tp, up rfl (up rfl (up rfl hs16))⟩ ?_
  rintro τ ⟨hs0, hs1, hs2, hs6, hs7, hs8, hs16⟩
  refine CW.seq ?_
  refine CW.seq ?_
  refine Or.elim (Bool.eq_false_or_eq_true (((i : Nat) : Int) == ((n : Nat) : Int))) (fun hDN => ?_) (fun hDN => ?_)
  · skip
    have hDN_ : i = n := by have := eq_of_beq hDN; omega
    have hin : i ≤ n := hi
    refine CW.region ?_
    refine RW.soft Wd.a (v := .int .i64 ((i : Nat) : Int)) (by exact E.move (AF_ev rfl hs1)) ?_
    refine RW.soft Wd.a (v := .int .i64 ((n : Nat) : Int)) (by exact E.move (AF_ev rfl (up rfl hs8))) ?_
    refine RW.soft Wd.a (v := .bool true) (by exact E.b (a := ((i : Nat) : Int) == ((n : Nat) : Int)) (E.eql (k := .i64) (a := ((i : Nat) : Int)) (b := ((n : Nat) : Int)) (AF_ev rfl (up rfl tp)) (AF_ev rfl tp)) hDN) ?_
    refine RW.fin (fun τ => τ 0 = .slice (some ⟨g, 0, none⟩) n c ∧ τ 1 = .int .i64 ((i : Nat) : Int) ∧ τ 2 = .slice (some ⟨vb, 0, none⟩) 1 1 ∧ τ 6 = .slice none 0 0 ∧ τ 7 = .int .i64 1 ∧ τ 8 = .int .i64 ((n : Nat) : Int) ∧ τ 16 = .bool false ∧ τ 22 = .bool true) ⟨up rfl (up rfl (up rfl hs0)), up rfl (up rfl (up rfl hs1)), up rfl (up rfl (up rfl hs2)), up rfl (up rfl (up rfl hs6)), up rfl (up rfl (up rfl hs7)), up rfl (up rfl (up rfl hs8)), up rfl (up rfl (up rfl hs16)), tp⟩ ?_
    rintro τ ⟨hs0, hs1, hs2, hs6, hs7, hs8, hs16, hs22⟩
    refine CW.condT (AF_ev rfl hs22) ?_
    refine CW.seq ?_
    refine CW.region ?_
    refine RW.soft Wd.a (v := .slice (some ⟨g, 0, none⟩) n c) (by exact E.move (AF_ev rfl hs0)) ?_
    refine RW.soft Wd.a (v := .slice (some ⟨vb, 0, none⟩) 1 1) (by exact E.move (AF_ev rfl (up rfl hs2))) ?_
    refine RW.hard Wd.a ?_
    refine H.append2 (m := 1) (news := [.int .i64 id]) (n2 := (zs ++ [id]).length) (xs2 := (zs ++ [id]).flatMap ienc) (s0 := .slice (some ⟨g, 0, none⟩) n c) (x0 := .slice (some ⟨vb, 0, none⟩) 1 1) (by first | (simp; done) | (rw [List.length_append]; simp only [List.length_cons, List.length_nil]; omega)) (by simp [ienc]) Try.underlying58 inf3 rfl (AF_ev rfl (up rfl tp)) (AF_ev rfl tp) hst .here ⟨rfl, _, _, rfl, by omega, .inr ⟨_, 0, rfl, hst.cellsIn (.there .here) rfl⟩⟩ (by simp [Value.oneCell']) (by omega) (by simp only [maxLen]; omega) ?_
    intro vX1 w hnilX1 hst
    obtain ⟨X1, c2, rfl, hcX1, hmX1, hlX1, hbX1⟩ := hst.shape
    refine RW.soft Wd.a (v := .slice X1 ((zs ++ [id]).length) c2) (by exact E.assign (AF_ev rfl tp)) ?_
    refine RW.fin (fun τ => τ 0 = .slice (some ⟨g, 0, none⟩) n c ∧ τ 1 = .int .i64 ((i : Nat) : Int) ∧ τ 2 = .slice (some ⟨vb, 0, none⟩) 1 1 ∧ τ 6 = .slice X1 ((zs ++ [id]).length) c2 ∧ τ 7 = .int .i64 1 ∧ τ 8 = .int .i64 ((n : Nat) : Int) ∧ τ 16 = .bool false ∧ τ 22 = .bool true) ⟨up rfl (up rfl (up rfl (up rfl hs0))), up rfl (up rfl (up rfl (up rfl hs1))), up rfl (up rfl (up rfl (up rfl hs2))), tp, up rfl (up rfl (up rfl (up rfl hs7))), up rfl (up rfl (up rfl (up rfl hs8))), up rfl (up rfl (up rfl (up rfl hs16))), up rfl (up rfl (up rfl (up rfl hs22)))⟩ ?_
    rintro τ ⟨hs0, hs1, hs2, hs6, hs7, hs8, hs16, hs22⟩
    refine CW.ret ?_
    refine Th.r ?_
    refine ret1 (v := .slice X1 ((zs ++ [id]).length) c2) rfl (by exact (.tmp (AF_ev rfl hs6) .nil)) ?_
    have hst := (hst.take (.there .here)).drop
    have hp : putIn zs id i = zs ++ [id] := by unfold putIn; rw [List.take_of_length_le (by omega), List.drop_of_length_le (by omega), List.append_nil]
    have hlz : (zs ++ [id]).length = n + 1 := by rw [List.length_append, hnz]; rfl
    refine ⟨_, rfl, ?_⟩
    rw [hp]
    rw [hlz] at hst ⊢
    exact hst
  · skip
    refine Or.elim (Bool.eq_false_or_eq_true (decide ((((n : Nat) : Int) + 1) > ((c : Nat) : Int)))) (fun hDC => ?_) (fun hDC => ?_)
    · skip
      have hDN_ : ¬ i = n := by have := beq_eq_false_iff_ne.1 hDN; omega
      have hDC_ : c < n + 1 := by have := of_decide_eq_true hDC; omega
      have hin : i ≤ n := hi
      refine CW.region ?_
      refine RW.soft Wd.a (v := .int .i64 ((i : Nat) : Int)) (by exact E.move (AF_ev rfl hs1)) ?_
      refine RW.soft Wd.a (v := .int .i64 ((n : Nat) : Int)) (by exact E.move (AF_ev rfl (up rfl hs8))) ?_
      refine RW.soft Wd.a (v := .bool false) (by exact E.b (a := ((i : Nat) : Int) == ((n : Nat) : Int)) (E.eql (k := .i64) (a := ((i : Nat) : Int)) (b := ((n : Nat) : Int)) (AF_ev rfl (up rfl tp)) (AF_ev rfl tp)) hDN) ?_
      refine RW.fin (fun τ => τ 0 = .slice (some ⟨g, 0, none⟩) n c ∧ τ 1 = .int .i64 ((i : Nat) : Int) ∧ τ 2 = .slice (some ⟨vb, 0, none⟩) 1 1 ∧ τ 6 = .slice none 0 0 ∧ τ 7 = .int .i64 1 ∧ τ 8 = .int .i64 ((n : Nat) : Int) ∧ τ 16 = .bool false ∧ τ 22 = .bool false) ⟨up rfl (up rfl (up rfl hs0)), up rfl (up rfl (up rfl hs1)), up rfl (up rfl (up rfl hs2)), up rfl (up rfl (up rfl hs6)), up rfl (up rfl (up rfl hs7)), up rfl (up rfl (up rfl hs8)), up rfl (up rfl (up rfl hs16)), tp⟩ ?_
      rintro τ ⟨hs0, hs1, hs2, hs6, hs7, hs8, hs16, hs22⟩
      refine CW.condF (AF_ev rfl hs22) ?_
      refine CW.skip ?_
      refine Th.n ?_
      refine CW.seq ?_
      refine CW.seq ?_
      refine CW.region ?_
      refine RW.soft Wd.a (v := .int .i64 ((n : Nat) : Int)) (by exact E.move (AF_ev rfl hs8)) ?_
      refine RW.soft Wd.a (v := .int .i64 1) (by exact E.move (AF_ev rfl (up rfl hs7))) ?_
      refine RW.soft Wd.a (v := .int .i64 (((n : Nat) : Int) + 1)) (by exact E.add (k := .i64) (a := ((n : Nat) : Int)) (b := 1) (AF_ev rfl (up rfl tp)) (AF_ev rfl tp) (show IntKind.i64.wrap (((n : Nat) : Int) + 1) = ((n : Nat) : Int) + 1 from (by rw [IntWalk.i64_in _ (by omega)]))) ?_
      refine RW.soft Wd.a (v := .slice (some ⟨g, 0, none⟩) n c) (by exact E.move (AF_ev rfl (up rfl (up rfl (up rfl hs0))))) ?_
      refine RW.soft Wd.a (v := .int .i64 ((c : Nat) : Int)) (by exact E.capS (p := (some ⟨g, 0, none⟩)) (l := n) (c := c) Try.underlying58 (AF_ev rfl tp)) ?_
      refine RW.soft Wd.a (v := .bool true) (by exact E.b (a := decide ((((n : Nat) : Int) + 1) > ((c : Nat) : Int))) (E.gtr (k := .i64) (a := ((n : Nat) : Int) + 1) (b := ((c : Nat) : Int)) (AF_ev rfl (up rfl (up rfl tp))) (AF_ev rfl tp)) hDC) ?_
      refine RW.fin (fun τ => τ 0 = .slice (some ⟨g, 0, none⟩) n c ∧ τ 1 = .int .i64 ((i : Nat) : Int) ∧ τ 2 = .slice (some ⟨vb, 0, none⟩) 1 1 ∧ τ 6 = .slice none 0 0 ∧ τ 7 = .int .i64 1 ∧ τ 8 = .int .i64 ((n : Nat) : Int) ∧ τ 16 = .bool false ∧ τ 22 = .bool false ∧ τ 31 = .bool true) ⟨up rfl (up rfl (up rfl (up rfl (up rfl (up rfl hs0))))), up rfl (up rfl (up rfl (up rfl (up rfl (up rfl hs1))))), up rfl (up rfl (up rfl (up rfl (up rfl (up rfl hs2))))), up rfl (up rfl (up rfl (up rfl (up rfl (up rfl hs6))))), up rfl (up rfl (up rfl (up rfl (up rfl (up rfl hs7))))), up rfl (up rfl (up rfl (up rfl (up rfl (up rfl hs8))))), up rfl (up rfl (up rfl (up rfl (up rfl (up rfl hs16))))), up rfl (up rfl (up rfl (up rfl (up rfl (up rfl hs22))))), tp⟩ ?_
      rintro τ ⟨hs0, hs1, hs2, hs6, hs7, hs8, hs16, hs22, hs31⟩
      refine CW.condT (AF_ev rfl hs31) ?_
      refine CW.seq ?_
      refine CW.region ?_
      refine RW.soft Wd.a (v := .slice (some ⟨g, 0, none⟩) n c) (by exact E.move (AF_ev rfl hs0)) ?_
      refine RW.soft Wd.a (v := .int .i64 ((i : Nat) : Int)) (by exact E.move (AF_ev rfl (up rfl hs1))) ?_
      refine RW.soft Wd.a (v := .slice (some ⟨g, 0, none⟩) i c) (by exact E.slice (i := 0) (j := i) Try.underlying58 sz3 (AF_ev rfl (up rfl tp)) rfl (AF_ev rfl tp) (by omega) (by omega) (by simp)) ?_
      refine RW.soft Wd.a (v := .int .i64 ((n : Nat) : Int)) (by exact E.move (AF_ev rfl (up rfl (up rfl (up rfl hs8))))) ?_
      refine RW.soft Wd.a (v := .int .i64 1) (by exact E.move (AF_ev rfl (up rfl (up rfl (up rfl (up rfl hs7)))))) ?_
      refine RW.soft Wd.a (v := .int .i64 (((n : Nat) : Int) + 1)) (by exact E.add (k := .i64) (a := ((n : Nat) : Int)) (b := 1) (AF_ev rfl (up rfl tp)) (AF_ev rfl tp) (show IntKind.i64.wrap (((n : Nat) : Int) + 1) = ((n : Nat) : Int) + 1 from (by rw [IntWalk.i64_in _ (by omega)]))) ?_
      refine RW.soft Wd.a (v := .int .i64 ((i : Nat) : Int)) (by exact E.move (AF_ev rfl (up rfl (up rfl (up rfl (up rfl (up rfl (up rfl hs1)))))))) ?_
      refine RW.soft Wd.a (v := .int .i64 (((n : Nat) : Int) + 1 - ((i : Nat) : Int))) (by exact E.sub (k := .i64) (a := ((n : Nat) : Int) + 1) (b := ((i : Nat) : Int)) (AF_ev rfl (up rfl tp)) (AF_ev rfl tp) (show IntKind.i64.wrap ((((n : Nat) : Int) + 1) - ((i : Nat) : Int)) = ((n : Nat) : Int) + 1 - ((i : Nat) : Int) from (by rw [IntWalk.i64_in _ (by omega)] <;> omega))) ?_
      have hsrcT := (Own.src (hst.take .here)).take (k := i) (by omega)
      rw [Nat.mul_one, ienc_take] at hsrcT
      refine RW.hard Wd.a ?_
      refine H.appendZeros (b := g) (k := i) (c := c) (m := n - i + 1) Try.underlying58 Try.underlying3 inf3 rfl (by omega) (AF_ev rfl (up rfl (up rfl (up rfl (up rfl (up rfl tp)))))) (int_eq (a := ((n : Nat) : Int) + 1 - ((i : Nat) : Int)) (AF_ev rfl tp) (by omega)) hst hsrcT (by omega) (by omega) (by omega) (by simp only [maxLen]; omega) fun g3 c4 w hst => ?_
      have hZ : ((zs.take i).flatMap ienc ++ (Builtin.zeroCells (Value.int .i64 0).cells (n - i + 1)).toList).length = n + 1 := by have h9 := (Own.src hst).1; omega
      have hcg : n + 1 ≤ c4 := by
        obtain ⟨_, _, _, he9, h9, _⟩ := Own.src hst
        cases he9; omega
      rw [show i + (n - i + 1) = n + 1 from by omega] at hst ⊢
      refine RW.soft Wd.a (v := .slice (some ⟨g3, 0, none⟩) (n + 1) c4) (by exact E.assign (AF_ev rfl tp)) ?_
      refine RW.fin (fun τ => τ 0 = .slice (some ⟨g, 0, none⟩) n c ∧ τ 1 = .int .i64 ((i : Nat) : Int) ∧ τ 2 = .slice (some ⟨vb, 0, none⟩) 1 1 ∧ τ 6 = .slice none 0 0 ∧ τ 7 = .int .i64 1 ∧ τ 8 = .int .i64 ((n : Nat) : Int) ∧ τ 9 = .slice (some ⟨g3, 0, none⟩) (n + 1) c4 ∧ τ 16 = .bool false ∧ τ 22 = .bool false ∧ τ 31 = .bool true) ⟨up rfl (up rfl (up rfl (up rfl (up rfl (up rfl (up rfl (up rfl (up rfl (up rfl hs0))))))))), up rfl (up rfl (up rfl (up rfl (up rfl (up rfl (up rfl (up rfl (up rfl (up rfl hs1))))))))), up rfl (up rfl (up rfl (up rfl (up rfl (up rfl (up rfl (up rfl (up rfl (up rfl hs2))))))))), up rfl (up rfl (up rfl (up rfl (up rfl (up rfl (up rfl (up rfl (up rfl (up rfl hs6))))))))), up rfl (up rfl (up rfl (up rfl (up rfl (up rfl (up rfl (up rfl (up rfl (up rfl hs7))))))))), up rfl (up rfl (up rfl (up rfl (up rfl (up rfl (up rfl (up rfl (up rfl (up rfl hs8))))))))), tp, up rfl (up rfl (up rfl (up rfl (up rfl (up rfl (up rfl (up rfl (up rfl (up rfl hs16))))))))), up rfl (up rfl (up rfl (up rfl (up rfl (up rfl (up rfl (up rfl (up rfl (up rfl hs22))))))))), up rfl (up rfl (up rfl (up rfl (up rfl (up rfl (up rfl (up rfl (up rfl (up rfl hs31)))))))))⟩ ?_
      rintro τ ⟨hs0, hs1, hs2, hs6, hs7, hs8, hs9, hs16, hs22, hs31⟩
      refine CW.seq ?_
      refine CW.region ?_
      refine RW.soft Wd.a (v := .slice (some ⟨g3, 0, none⟩) (n + 1) c4) (by exact E.move (AF_ev rfl hs9)) ?_
      refine RW.soft Wd.a (v := .int .i64 ((i : Nat) : Int)) (by exact E.move (AF_ev rfl (up rfl hs1))) ?_
      refine RW.soft Wd.a (v := .slice (some ⟨g3, i, none⟩) ((n + 1) - i) (c4 - i)) (by exact E.slice (i := i) (j := n + 1) Try.underlying58 sz3 (AF_ev rfl (up rfl tp)) (int_eq (a := ((i : Nat) : Int)) (AF_ev rfl tp) (by omega)) rfl (by omega) (by omega) (by rw [if_neg (by omega)]; simp)) ?_
      refine RW.soft Wd.a (v := .slice (some ⟨vb, 0, none⟩) 1 1) (by exact E.move (AF_ev rfl (up rfl (up rfl (up rfl hs2))))) ?_
      have hsrcC : SL.Src w 1 (.slice (some ⟨vb, 0, none⟩) 1 1) 1 [Value.int .i64 id] := ⟨rfl, _, _, rfl, by omega, .inr ⟨_, 0, rfl, hst.cellsIn (.there (.there .here)) rfl⟩⟩
      refine RW.hard Wd.a ?_
      refine H.copyIn (b := g3) (o := i) (k := n + 1) (c := c4) (m := 1) (r := 1) Try.underlying58 sz3 (AF_ev rfl (up rfl tp)) (AF_ev rfl tp) hst .here hsrcC (by omega) (by intro u hu; rw [List.mem_singleton.1 (List.mem_of_mem_take hu)]; rfl) (by simp only [Nat.min_def]; split <;> omega) (by omega) (by omega) fun w hst => ?_
      refine RW.fin (fun τ => τ 0 = .slice (some ⟨g, 0, none⟩) n c ∧ τ 1 = .int .i64 ((i : Nat) : Int) ∧ τ 2 = .slice (some ⟨vb, 0, none⟩) 1 1 ∧ τ 6 = .slice none 0 0 ∧ τ 7 = .int .i64 1 ∧ τ 8 = .int .i64 ((n : Nat) : Int) ∧ τ 9 = .slice (some ⟨g3, 0, none⟩) (n + 1) c4 ∧ τ 16 = .bool false ∧ τ 22 = .bool false ∧ τ 31 = .bool true) ⟨up rfl (up rfl (up rfl (up rfl (up rfl hs0)))), up rfl (up rfl (up rfl (up rfl (up rfl hs1)))), up rfl (up rfl (up rfl (up rfl (up rfl hs2)))), up rfl (up rfl (up rfl (up rfl (up rfl hs6)))), up rfl (up rfl (up rfl (up rfl (up rfl hs7)))), up rfl (up rfl (up rfl (up rfl (up rfl hs8)))), up rfl (up rfl (up rfl (up rfl (up rfl hs9)))), up rfl (up rfl (up rfl (up rfl (up rfl hs16)))), up rfl (up rfl (up rfl (up rfl (up rfl hs22)))), up rfl (up rfl (up rfl (up rfl (up rfl hs31))))⟩ ?_
      rintro τ ⟨hs0, hs1, hs2, hs6, hs7, hs8, hs9, hs16, hs22, hs31⟩
      refine CW.seq ?_
      refine CW.regionD [0, 1, 2, 3, 4, 5, 6, 7] (fun w => True) mixed ?_
      have hst := hst.drew
      generalize w.drew = w at hst ⊢
      have hS : True := trivial
      refine RD.take 0 rfl (by kernel_rfl) Wd.a (v := .slice (some ⟨g3, 0, none⟩) (n + 1) c4) (fun w hS => by exact E.move (AF_ev rfl hs9)) hS ?_
      refine RD.take 1 rfl (by kernel_rfl) Wd.a (v := .int .i64 ((i : Nat) : Int)) (fun w hS => by exact E.move (AF_ev rfl (up rfl hs1))) hS ?_
      refine RD.take 2 rfl (by kernel_rfl) Wd.a (v := .int .i64 1) (fun w hS => by exact E.move (AF_ev rfl (up rfl (up rfl hs7)))) hS ?_
      refine RD.take 3 rfl (by kernel_rfl) Wd.a (v := .int .i64 (((i : Nat) : Int) + 1)) (fun w hS => by exact E.add (k := .i64) (a := ((i : Nat) : Int)) (b := 1) (AF_ev rfl (up rfl tp)) (AF_ev rfl tp) (show IntKind.i64.wrap (((i : Nat) : Int) + 1) = ((i : Nat) : Int) + 1 from (by rw [IntWalk.i64_in _ (by omega)]))) hS ?_
      refine RD.take 4 rfl (by kernel_rfl) Wd.a (v := .slice (some ⟨g3, i + 1, none⟩) ((n + 1) - (i + 1)) (c4 - (i + 1))) (fun w hS => by exact E.slice (i := (i + 1)) (j := n + 1) Try.underlying58 sz3 (AF_ev rfl (up rfl (up rfl (up rfl tp)))) (int_eq (a := ((i : Nat) : Int) + 1) (AF_ev rfl tp) (by omega)) rfl (by omega) (by omega) (by rw [if_neg (by omega)]; simp)) hS ?_
      refine RD.take 5 rfl (by kernel_rfl) Wd.a (v := .slice (some ⟨g, 0, none⟩) n c) (fun w hS => by exact E.move (AF_ev rfl (up rfl (up rfl (up rfl (up rfl (up rfl hs0))))))) hS ?_
      refine RD.take 6 rfl (by kernel_rfl) Wd.a (v := .int .i64 ((i : Nat) : Int)) (fun w hS => by exact E.move (AF_ev rfl (up rfl (up rfl (up rfl (up rfl (up rfl (up rfl hs1)))))))) hS ?_
      refine RD.take 7 rfl (by kernel_rfl) Wd.a (v := .slice (some ⟨g, i, none⟩) (n - i) (c - i)) (fun w hS => by exact E.slice (i := i) (j := n) Try.underlying58 sz3 (AF_ev rfl (up rfl tp)) (int_eq (a := ((i : Nat) : Int)) (AF_ev rfl tp) (by omega)) rfl (by omega) (by omega) (by rw [if_neg (by omega)]; simp)) hS ?_
      refine RD.only 8 rfl (by kernel_rfl) Wd.a ?_
      have hsrcC := (Own.src (hst.take (.there .here))).drop (k := i) (o2 := i) (by omega) (by rw [if_neg (by omega)]; simp)
      rw [Nat.mul_one, ienc_drop] at hsrcC
      refine H.copyIn (b := g3) (o := i + 1) (k := n + 1) (c := c4) (m := n - i) (r := n - i) Try.underlying58 sz3 (AF_ev rfl (up rfl (up rfl (up rfl tp)))) (AF_ev rfl tp) hst .here hsrcC (by omega) (fun u hu => ienc_ones _ u (List.mem_of_mem_take hu)) (by simp only [Nat.min_def]; split <;> omega) (by omega) (by omega) fun w hst => ?_
      rw [List.take_of_length_le (show ((zs.drop i).flatMap ienc).length ≤ n - i by rw [ienc_flen, List.length_drop]; omega)] at hst
      rw [show [Value.int .i64 id].take 1 = [Value.int .i64 id] from rfl, ins_list (by rw [ienc_flen, List.length_take]; omega) hZ (by rw [ienc_flen, List.length_drop]; omega) (by omega)] at hst
      have hS : True := trivial
      refine ⟨fun _ => hS, ?_⟩
      refine RD.fin (by kernel_rfl) (fun τ => τ 0 = .slice (some ⟨g, 0, none⟩) n c ∧ τ 1 = .int .i64 ((i : Nat) : Int) ∧ τ 2 = .slice (some ⟨vb, 0, none⟩) 1 1 ∧ τ 6 = .slice none 0 0 ∧ τ 7 = .int .i64 1 ∧ τ 8 = .int .i64 ((n : Nat) : Int) ∧ τ 9 = .slice (some ⟨g3, 0, none⟩) (n + 1) c4 ∧ τ 16 = .bool false ∧ τ 22 = .bool false ∧ τ 31 = .bool true) ⟨up rfl (up rfl (up rfl (up rfl (up rfl (up rfl (up rfl (up rfl (up rfl hs0)))))))), up rfl (up rfl (up rfl (up rfl (up rfl (up rfl (up rfl (up rfl (up rfl hs1)))))))), up rfl (up rfl (up rfl (up rfl (up rfl (up rfl (up rfl (up rfl (up rfl hs2)))))))), up rfl (up rfl (up rfl (up rfl (up rfl (up rfl (up rfl (up rfl (up rfl hs6)))))))), up rfl (up rfl (up rfl (up rfl (up rfl (up rfl (up rfl (up rfl (up rfl hs7)))))))), up rfl (up rfl (up rfl (up rfl (up rfl (up rfl (up rfl (up rfl (up rfl hs8)))))))), up rfl (up rfl (up rfl (up rfl (up rfl (up rfl (up rfl (up rfl (up rfl hs9)))))))), up rfl (up rfl (up rfl (up rfl (up rfl (up rfl (up rfl (up rfl (up rfl hs16)))))))), up rfl (up rfl (up rfl (up rfl (up rfl (up rfl (up rfl (up rfl (up rfl hs22)))))))), up rfl (up rfl (up rfl (up rfl (up rfl (up rfl (up rfl (up rfl (up rfl hs31))))))))⟩ ?_
      rintro τ ⟨hs0, hs1, hs2, hs6, hs7, hs8, hs9, hs16, hs22, hs31⟩
      refine CW.seq ?_
      refine CW.region ?_
      refine RW.soft Wd.a (v := .slice (some ⟨g3, 0, none⟩) (n + 1) c4) (by exact E.move (AF_ev rfl hs9)) ?_
      refine RW.soft Wd.a (v := .slice (some ⟨g3, 0, none⟩) (n + 1) c4) (by exact E.assign (AF_ev rfl tp)) ?_
      refine RW.fin (fun τ => τ 0 = .slice (some ⟨g, 0, none⟩) n c ∧ τ 1 = .int .i64 ((i : Nat) : Int) ∧ τ 2 = .slice (some ⟨vb, 0, none⟩) 1 1 ∧ τ 6 = .slice (some ⟨g3, 0, none⟩) (n + 1) c4 ∧ τ 7 = .int .i64 1 ∧ τ 8 = .int .i64 ((n : Nat) : Int) ∧ τ 9 = .slice (some ⟨g3, 0, none⟩) (n + 1) c4 ∧ τ 16 = .bool false ∧ τ 22 = .bool false ∧ τ 31 = .bool true) ⟨up rfl (up rfl hs0), up rfl (up rfl hs1), up rfl (up rfl hs2), tp, up rfl (up rfl hs7), up rfl (up rfl hs8), up rfl (up rfl hs9), up rfl (up rfl hs16), up rfl (up rfl hs22), up rfl (up rfl hs31)⟩ ?_
      rintro τ ⟨hs0, hs1, hs2, hs6, hs7, hs8, hs9, hs16, hs22, hs31⟩
      refine CW.ret ?_
      refine Th.r ?_
      refine ret1 (v := .slice (some ⟨g3, 0, none⟩) (n + 1) c4) rfl (by exact (.tmp (AF_ev rfl hs6) .nil)) ?_
      have hst := (hst.take (.there .here)).drop
      have hst := (hst.take (.there .here)).drop
      exact ⟨_, rfl, by rw [put_flat]; exact hst⟩
    · skip
      have hDN_ : ¬ i = n := by have := beq_eq_false_iff_ne.1 hDN; omega
      have hDC_ : n + 1 ≤ c := by have := of_decide_eq_false hDC; omega
      have hin : i ≤ n := hi
      refine CW.region ?_
      refine RW.soft Wd.a (v := .int .i64 ((i : Nat) : Int)) (by exact E.move (AF_ev rfl hs1)) ?_
      refine RW.soft Wd.a (v := .int .i64 ((n : Nat) : Int)) (by exact E.move (AF_ev rfl (up rfl hs8))) ?_
      refine RW.soft Wd.a (v := .bool false) (by exact E.b (a := ((i : Nat) : Int) == ((n : Nat) : Int)) (E.eql (k := .i64) (a := ((i : Nat) : Int)) (b := ((n : Nat) : Int)) (AF_ev rfl (up rfl tp)) (AF_ev rfl tp)) hDN) ?_
      refine RW.fin (fun τ => τ 0 = .slice (some ⟨g, 0, none⟩) n c ∧ τ 1 = .int .i64 ((i : Nat) : Int) ∧ τ 2 = .slice (some ⟨vb, 0, none⟩) 1 1 ∧ τ 6 = .slice none 0 0 ∧ τ 7 = .int .i64 1 ∧ τ 8 = .int .i64 ((n : Nat) : Int) ∧ τ 16 = .bool false ∧ τ 22 = .bool false) ⟨up rfl (up rfl (up rfl hs0)), up rfl (up rfl (up rfl hs1)), up rfl (up rfl (up rfl hs2)), up rfl (up rfl (up rfl hs6)), up rfl (up rfl (up rfl hs7)), up rfl (up rfl (up rfl hs8)), up rfl (up rfl (up rfl hs16)), tp⟩ ?_
      rintro τ ⟨hs0, hs1, hs2, hs6, hs7, hs8, hs16, hs22⟩
      refine CW.condF (AF_ev rfl hs22) ?_
      refine CW.skip ?_
      refine Th.n ?_
      refine CW.seq ?_
      refine CW.seq ?_
      refine CW.region ?_
      refine RW.soft Wd.a (v := .int .i64 ((n : Nat) : Int)) (by exact E.move (AF_ev rfl hs8)) ?_
      refine RW.soft Wd.a (v := .int .i64 1) (by exact E.move (AF_ev rfl (up rfl hs7))) ?_
      refine RW.soft Wd.a (v := .int .i64 (((n : Nat) : Int) + 1)) (by exact E.add (k := .i64) (a := ((n : Nat) : Int)) (b := 1) (AF_ev rfl (up rfl tp)) (AF_ev rfl tp) (show IntKind.i64.wrap (((n : Nat) : Int) + 1) = ((n : Nat) : Int) + 1 from (by rw [IntWalk.i64_in _ (by omega)]))) ?_
      refine RW.soft Wd.a (v := .slice (some ⟨g, 0, none⟩) n c) (by exact E.move (AF_ev rfl (up rfl (up rfl (up rfl hs0))))) ?_
      refine RW.soft Wd.a (v := .int .i64 ((c : Nat) : Int)) (by exact E.capS (p := (some ⟨g, 0, none⟩)) (l := n) (c := c) Try.underlying58 (AF_ev rfl tp)) ?_
      refine RW.soft Wd.a (v := .bool false) (by exact E.b (a := decide ((((n : Nat) : Int) + 1) > ((c : Nat) : Int))) (E.gtr (k := .i64) (a := ((n : Nat) : Int) + 1) (b := ((c : Nat) : Int)) (AF_ev rfl (up rfl (up rfl tp))) (AF_ev rfl tp)) hDC) ?_
      refine RW.fin (fun τ => τ 0 = .slice (some ⟨g, 0, none⟩) n c ∧ τ 1 = .int .i64 ((i : Nat) : Int) ∧ τ 2 = .slice (some ⟨vb, 0, none⟩) 1 1 ∧ τ 6 = .slice none 0 0 ∧ τ 7 = .int .i64 1 ∧ τ 8 = .int .i64 ((n : Nat) : Int) ∧ τ 16 = .bool false ∧ τ 22 = .bool false ∧ τ 31 = .bool false) ⟨up rfl (up rfl (up rfl (up rfl (up rfl (up rfl hs0))))), up rfl (up rfl (up rfl (up rfl (up rfl (up rfl hs1))))), up rfl (up rfl (up rfl (up rfl (up rfl (up rfl hs2))))), up rfl (up rfl (up rfl (up rfl (up rfl (up rfl hs6))))), up rfl (up rfl (up rfl (up rfl (up rfl (up rfl hs7))))), up rfl (up rfl (up rfl (up rfl (up rfl (up rfl hs8))))), up rfl (up rfl (up rfl (up rfl (up rfl (up rfl hs16))))), up rfl (up rfl (up rfl (up rfl (up rfl (up rfl hs22))))), tp⟩ ?_
      rintro τ ⟨hs0, hs1, hs2, hs6, hs7, hs8, hs16, hs22, hs31⟩
      refine CW.condF (AF_ev rfl hs31) ?_
      refine CW.skip ?_
      refine Th.n ?_
      refine CW.seq ?_
      obtain ⟨ys, hyl, hst⟩ := hst.ownGrow (m := 1) (by omega)
      refine CW.region ?_
      refine RW.soft Wd.a (v := .slice (some ⟨g, 0, none⟩) n c) (by exact E.move (AF_ev rfl hs0)) ?_
      refine RW.soft Wd.a (v := .int .i64 ((n : Nat) : Int)) (by exact E.move (AF_ev rfl (up rfl hs8))) ?_
      refine RW.soft Wd.a (v := .int .i64 1) (by exact E.move (AF_ev rfl (up rfl (up rfl hs7)))) ?_
      refine RW.soft Wd.a (v := .int .i64 (((n : Nat) : Int) + 1)) (by exact E.add (k := .i64) (a := ((n : Nat) : Int)) (b := 1) (AF_ev rfl (up rfl tp)) (AF_ev rfl tp) (show IntKind.i64.wrap (((n : Nat) : Int) + 1) = ((n : Nat) : Int) + 1 from (by rw [IntWalk.i64_in _ (by omega)]))) ?_
      refine RW.soft Wd.a (v := .slice (some ⟨g, 0, none⟩) (n + 1) c) (by exact E.slice (i := 0) (j := n + 1) Try.underlying58 sz3 (AF_ev rfl (up rfl (up rfl (up rfl tp)))) rfl (int_eq (a := ((n : Nat) : Int) + 1) (AF_ev rfl tp) (by omega)) (by omega) (by omega) (by simp)) ?_
      refine RW.soft Wd.a (v := .slice (some ⟨g, 0, none⟩) (n + 1) c) (by exact E.assign (AF_ev rfl tp)) ?_
      refine RW.fin (fun τ => τ 0 = .slice (some ⟨g, 0, none⟩) (n + 1) c ∧ τ 1 = .int .i64 ((i : Nat) : Int) ∧ τ 2 = .slice (some ⟨vb, 0, none⟩) 1 1 ∧ τ 6 = .slice none 0 0 ∧ τ 7 = .int .i64 1 ∧ τ 8 = .int .i64 ((n : Nat) : Int) ∧ τ 16 = .bool false ∧ τ 22 = .bool false ∧ τ 31 = .bool false) ⟨tp, up rfl (up rfl (up rfl (up rfl (up rfl (up rfl hs1))))), up rfl (up rfl (up rfl (up rfl (up rfl (up rfl hs2))))), up rfl (up rfl (up rfl (up rfl (up rfl (up rfl hs6))))), up rfl (up rfl (up rfl (up rfl (up rfl (up rfl hs7))))), up rfl (up rfl (up rfl (up rfl (up rfl (up rfl hs8))))), up rfl (up rfl (up rfl (up rfl (up rfl (up rfl hs16))))), up rfl (up rfl (up rfl (up rfl (up rfl (up rfl hs22))))), up rfl (up rfl (up rfl (up rfl (up rfl (up rfl hs31)))))⟩ ?_
      rintro τ ⟨hs0, hs1, hs2, hs6, hs7, hs8, hs16, hs22, hs31⟩
      refine CW.seq ?_
      refine CW.seq ?_
      refine CW.region ?_
      refine RW.soft Wd.a (v := .slice (some ⟨vb, 0, none⟩) 1 1) (by exact E.move (AF_ev rfl hs2)) ?_
      refine RW.soft Wd.a (v := .slice (some ⟨g, 0, none⟩) (n + 1) c) (by exact E.move (AF_ev rfl (up rfl hs0))) ?_
      refine RW.soft Wd.a (v := .int .i64 ((i : Nat) : Int)) (by exact E.move (AF_ev rfl (up rfl (up rfl hs1)))) ?_
      refine RW.soft Wd.a (v := .int .i64 1) (by exact E.move (AF_ev rfl (up rfl (up rfl (up rfl hs7))))) ?_
      refine RW.soft Wd.a (v := .int .i64 (((i : Nat) : Int) + 1)) (by exact E.add (k := .i64) (a := ((i : Nat) : Int)) (b := 1) (AF_ev rfl (up rfl tp)) (AF_ev rfl tp) (show IntKind.i64.wrap (((i : Nat) : Int) + 1) = ((i : Nat) : Int) + 1 from (by rw [IntWalk.i64_in _ (by omega)]))) ?_
      refine RW.soft Wd.a (v := .slice (some ⟨g, i + 1, none⟩) ((n + 1) - (i + 1)) (c - (i + 1))) (by exact E.slice (i := (i + 1)) (j := n + 1) Try.underlying58 sz3 (AF_ev rfl (up rfl (up rfl (up rfl tp)))) (int_eq (a := ((i : Nat) : Int) + 1) (AF_ev rfl tp) (by omega)) rfl (by omega) (by omega) (by rw [if_neg (by omega)]; simp)) ?_
      have hst := hst.take (.there .here)
      refine RW.hard Wd.a ?_
      refine H.extern0 (map2 (AF_ev rfl (up rfl (up rfl (up rfl (up rfl (up rfl tp)))))) (AF_ev rfl tp)) (overlaps_off (tR := 4) fun71 nm71 (by kernel_rfl) (by kernel_rfl) (by kernel_rfl) Try.underlying58 size3 hst (by omega)) ?_
      refine RW.soft Wd.a (v := .bool true) (by exact E.not (b := false) (AF_ev rfl tp)) ?_
      refine RW.fin (fun τ => τ 0 = .slice (some ⟨g, 0, none⟩) (n + 1) c ∧ τ 1 = .int .i64 ((i : Nat) : Int) ∧ τ 2 = .slice (some ⟨vb, 0, none⟩) 1 1 ∧ τ 6 = .slice none 0 0 ∧ τ 7 = .int .i64 1 ∧ τ 8 = .int .i64 ((n : Nat) : Int) ∧ τ 16 = .bool false ∧ τ 22 = .bool false ∧ τ 31 = .bool false ∧ τ 68 = .bool true) ⟨up rfl (up rfl (up rfl (up rfl (up rfl (up rfl (up rfl (up rfl hs0))))))), up rfl (up rfl (up rfl (up rfl (up rfl (up rfl (up rfl (up rfl hs1))))))), up rfl (up rfl (up rfl (up rfl (up rfl (up rfl (up rfl (up rfl hs2))))))), up rfl (up rfl (up rfl (up rfl (up rfl (up rfl (up rfl (up rfl hs6))))))), up rfl (up rfl (up rfl (up rfl (up rfl (up rfl (up rfl (up rfl hs7))))))), up rfl (up rfl (up rfl (up rfl (up rfl (up rfl (up rfl (up rfl hs8))))))), up rfl (up rfl (up rfl (up rfl (up rfl (up rfl (up rfl (up rfl hs16))))))), up rfl (up rfl (up rfl (up rfl (up rfl (up rfl (up rfl (up rfl hs22))))))), up rfl (up rfl (up rfl (up rfl (up rfl (up rfl (up rfl (up rfl hs31))))))), tp⟩ ?_
      rintro τ ⟨hs0, hs1, hs2, hs6, hs7, hs8, hs16, hs22, hs31, hs68⟩
      refine CW.condT (AF_ev rfl hs68) ?_
      refine CW.seq ?_
      refine CW.regionD [0, 1, 2, 3, 4, 5, 6, 7] (fun w => True) mixed ?_
      have hst := hst.drew
      generalize w.drew = w at hst ⊢
      have hS : True := trivial
      refine RD.take 0 rfl (by kernel_rfl) Wd.a (v := .slice (some ⟨g, 0, none⟩) (n + 1) c) (fun w hS => by exact E.move (AF_ev rfl hs0)) hS ?_
      refine RD.take 1 rfl (by kernel_rfl) Wd.a (v := .int .i64 ((i : Nat) : Int)) (fun w hS => by exact E.move (AF_ev rfl (up rfl hs1))) hS ?_
      refine RD.take 2 rfl (by kernel_rfl) Wd.a (v := .int .i64 1) (fun w hS => by exact E.move (AF_ev rfl (up rfl (up rfl hs7)))) hS ?_
      refine RD.take 3 rfl (by kernel_rfl) Wd.a (v := .int .i64 (((i : Nat) : Int) + 1)) (fun w hS => by exact E.add (k := .i64) (a := ((i : Nat) : Int)) (b := 1) (AF_ev rfl (up rfl tp)) (AF_ev rfl tp) (show IntKind.i64.wrap (((i : Nat) : Int) + 1) = ((i : Nat) : Int) + 1 from (by rw [IntWalk.i64_in _ (by omega)]))) hS ?_
      refine RD.take 4 rfl (by kernel_rfl) Wd.a (v := .slice (some ⟨g, i + 1, none⟩) ((n + 1) - (i + 1)) (c - (i + 1))) (fun w hS => by exact E.slice (i := (i + 1)) (j := n + 1) Try.underlying58 sz3 (AF_ev rfl (up rfl (up rfl (up rfl tp)))) (int_eq (a := ((i : Nat) : Int) + 1) (AF_ev rfl tp) (by omega)) rfl (by omega) (by omega) (by rw [if_neg (by omega)]; simp)) hS ?_
      refine RD.take 5 rfl (by kernel_rfl) Wd.a (v := .slice (some ⟨g, 0, none⟩) (n + 1) c) (fun w hS => by exact E.move (AF_ev rfl (up rfl (up rfl (up rfl (up rfl (up rfl hs0))))))) hS ?_
      refine RD.take 6 rfl (by kernel_rfl) Wd.a (v := .int .i64 ((i : Nat) : Int)) (fun w hS => by exact E.move (AF_ev rfl (up rfl (up rfl (up rfl (up rfl (up rfl (up rfl hs1)))))))) hS ?_
      refine RD.take 7 rfl (by kernel_rfl) Wd.a (v := .slice (some ⟨g, i, none⟩) ((n + 1) - i) (c - i)) (fun w hS => by exact E.slice (i := i) (j := n + 1) Try.underlying58 sz3 (AF_ev rfl (up rfl tp)) (int_eq (a := ((i : Nat) : Int)) (AF_ev rfl tp) (by omega)) rfl (by omega) (by omega) (by rw [if_neg (by omega)]; simp)) hS ?_
      refine RD.only 8 rfl (by kernel_rfl) Wd.a ?_
      have hsrcC := (Own.src (hst.take (.there .here))).drop (k := i) (o2 := i) (by omega) (by rw [if_neg (by omega)]; simp)
      rw [Nat.mul_one] at hsrcC
      refine H.copyIn (b := g) (o := i + 1) (k := n + 1) (c := c) (m := n + 1 - i) (r := n - i) Try.underlying58 sz3 (AF_ev rfl (up rfl (up rfl (up rfl tp)))) (AF_ev rfl tp) hst (.there .here) hsrcC (by omega) (by rw [ins_take (n := n) (by rw [ienc_flen]; exact hnz) (by omega)]; exact (fun u hu => ienc_ones zs u (List.mem_of_mem_drop hu))) (by simp only [Nat.min_def]; split <;> omega) (by omega) (by omega) fun w hst => ?_
      have hS : True := trivial
      refine ⟨fun _ => hS, ?_⟩
      refine RD.fin (by kernel_rfl) (fun τ => τ 0 = .slice (some ⟨g, 0, none⟩) (n + 1) c ∧ τ 1 = .int .i64 ((i : Nat) : Int) ∧ τ 2 = .slice (some ⟨vb, 0, none⟩) 1 1 ∧ τ 6 = .slice none 0 0 ∧ τ 7 = .int .i64 1 ∧ τ 8 = .int .i64 ((n : Nat) : Int) ∧ τ 16 = .bool false ∧ τ 22 = .bool false ∧ τ 31 = .bool false ∧ τ 68 = .bool true) ⟨up rfl (up rfl (up rfl (up rfl (up rfl (up rfl (up rfl (up rfl (up rfl hs0)))))))), up rfl (up rfl (up rfl (up rfl (up rfl (up rfl (up rfl (up rfl (up rfl hs1)))))))), up rfl (up rfl (up rfl (up rfl (up rfl (up rfl (up rfl (up rfl (up rfl hs2)))))))), up rfl (up rfl (up rfl (up rfl (up rfl (up rfl (up rfl (up rfl (up rfl hs6)))))))), up rfl (up rfl (up rfl (up rfl (up rfl (up rfl (up rfl (up rfl (up rfl hs7)))))))), up rfl (up rfl (up rfl (up rfl (up rfl (up rfl (up rfl (up rfl (up rfl hs8)))))))), up rfl (up rfl (up rfl (up rfl (up rfl (up rfl (up rfl (up rfl (up rfl hs16)))))))), up rfl (up rfl (up rfl (up rfl (up rfl (up rfl (up rfl (up rfl (up rfl hs22)))))))), up rfl (up rfl (up rfl (up rfl (up rfl (up rfl (up rfl (up rfl (up rfl hs31)))))))), up rfl (up rfl (up rfl (up rfl (up rfl (up rfl (up rfl (up rfl (up rfl hs68))))))))⟩ ?_
      rintro τ ⟨hs0, hs1, hs2, hs6, hs7, hs8, hs16, hs22, hs31, hs68⟩
      refine CW.seq ?_
      refine CW.region ?_
      refine RW.soft Wd.a (v := .slice (some ⟨g, 0, none⟩) (n + 1) c) (by exact E.move (AF_ev rfl hs0)) ?_
      refine RW.soft Wd.a (v := .int .i64 ((i : Nat) : Int)) (by exact E.move (AF_ev rfl (up rfl hs1))) ?_
      refine RW.soft Wd.a (v := .slice (some ⟨g, i, none⟩) ((n + 1) - i) (c - i)) (by exact E.slice (i := i) (j := n + 1) Try.underlying58 sz3 (AF_ev rfl (up rfl tp)) (int_eq (a := ((i : Nat) : Int)) (AF_ev rfl tp) (by omega)) rfl (by omega) (by omega) (by rw [if_neg (by omega)]; simp)) ?_
      refine RW.soft Wd.a (v := .slice (some ⟨vb, 0, none⟩) 1 1) (by exact E.move (AF_ev rfl (up rfl (up rfl (up rfl hs2))))) ?_
      have hsrcC : SL.Src w 1 (.slice (some ⟨vb, 0, none⟩) 1 1) 1 [Value.int .i64 id] := ⟨rfl, _, _, rfl, by omega, .inr ⟨_, 0, rfl, hst.cellsIn (.there .here) rfl⟩⟩
      refine RW.hard Wd.a ?_
      refine H.copyIn (b := g) (o := i) (k := n + 1) (c := c) (m := 1) (r := 1) Try.underlying58 sz3 (AF_ev rfl (up rfl tp)) (AF_ev rfl tp) hst .here hsrcC (by omega) (by intro u hu; rw [List.mem_singleton.1 (List.mem_of_mem_take hu)]; rfl) (by simp only [Nat.min_def]; split <;> omega) (by omega) (by omega) fun w hst => ?_
      rw [show [Value.int .i64 id].take 1 = [Value.int .i64 id] from rfl, ins_list2 (A := (zs.take i).flatMap ienc) (by rw [List.take_append_of_le_length (by rw [ienc_flen]; omega), ienc_take]) (by rw [List.length_append, ienc_flen, hyl]; omega) (by rw [List.length_take, List.length_drop, List.length_append, ienc_flen, hyl]; omega) (by omega), ins_take (n := n) (by rw [ienc_flen]; exact hnz) (by omega), ienc_drop] at hst
      refine RW.fin (fun τ => τ 0 = .slice (some ⟨g, 0, none⟩) (n + 1) c ∧ τ 1 = .int .i64 ((i : Nat) : Int) ∧ τ 2 = .slice (some ⟨vb, 0, none⟩) 1 1 ∧ τ 6 = .slice none 0 0 ∧ τ 7 = .int .i64 1 ∧ τ 8 = .int .i64 ((n : Nat) : Int) ∧ τ 16 = .bool false ∧ τ 22 = .bool false ∧ τ 31 = .bool false ∧ τ 68 = .bool true) ⟨up rfl (up rfl (up rfl (up rfl (up rfl hs0)))), up rfl (up rfl (up rfl (up rfl (up rfl hs1)))), up rfl (up rfl (up rfl (up rfl (up rfl hs2)))), up rfl (up rfl (up rfl (up rfl (up rfl hs6)))), up rfl (up rfl (up rfl (up rfl (up rfl hs7)))), up rfl (up rfl (up rfl (up rfl (up rfl hs8)))), up rfl (up rfl (up rfl (up rfl (up rfl hs16)))), up rfl (up rfl (up rfl (up rfl (up rfl hs22)))), up rfl (up rfl (up rfl (up rfl (up rfl hs31)))), up rfl (up rfl (up rfl (up rfl (up rfl hs68))))⟩ ?_
      rintro τ ⟨hs0, hs1, hs2, hs6, hs7, hs8, hs16, hs22, hs31, hs68⟩
      refine CW.seq ?_
      refine CW.region ?_
      refine RW.soft Wd.a (v := .slice (some ⟨g, 0, none⟩) (n + 1) c) (by exact E.move (AF_ev rfl hs0)) ?_
      refine RW.soft Wd.a (v := .slice (some ⟨g, 0, none⟩) (n + 1) c) (by exact E.assign (AF_ev rfl tp)) ?_
      refine RW.fin (fun τ => τ 0 = .slice (some ⟨g, 0, none⟩) (n + 1) c ∧ τ 1 = .int .i64 ((i : Nat) : Int) ∧ τ 2 = .slice (some ⟨vb, 0, none⟩) 1 1 ∧ τ 6 = .slice (some ⟨g, 0, none⟩) (n + 1) c ∧ τ 7 = .int .i64 1 ∧ τ 8 = .int .i64 ((n : Nat) : Int) ∧ τ 16 = .bool false ∧ τ 22 = .bool false ∧ τ 31 = .bool false ∧ τ 68 = .bool true) ⟨up rfl (up rfl hs0), up rfl (up rfl hs1), up rfl (up rfl hs2), tp, up rfl (up rfl hs7), up rfl (up rfl hs8), up rfl (up rfl hs16), up rfl (up rfl hs22), up rfl (up rfl hs31), up rfl (up rfl hs68)⟩ ?_
      rintro τ ⟨hs0, hs1, hs2, hs6, hs7, hs8, hs16, hs22, hs31, hs68⟩
      refine CW.ret ?_
      refine Th.r ?_
      refine ret1 (v := .slice (some ⟨g, 0, none⟩) (n + 1) c) rfl (by exact (.tmp (AF_ev rfl hs6) .nil)) ?_
      have hst := (hst.take (.there .here)).drop
      exact ⟨_, rfl, by rw [put_flat]; exact hst⟩
end Go.Proofs.Ytjagffnbobnofaa
