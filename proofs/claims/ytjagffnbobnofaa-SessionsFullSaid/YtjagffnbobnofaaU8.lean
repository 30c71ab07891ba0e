/- The functions of the package quorum, walked through operation by operation. -/
import Derived.Test.YtjagffnbobnofaaU7
import Derived.Test.YtjagffnbobnofaaU6
import Derived.Test.YtjagffnbobnofaaQ15
import Derived.Test.YtjagffnbobnofaaQ13
import Derived.Test.YtjagffnbobnofaaQ14
import Derived.Test.YtjagffnbobnofaaQ11
import Derived.Test.YtjagffnbobnofaaQ12
import Derived.Test.YtjagffnbobnofaaQ9
import Derived.Test.YtjagffnbobnofaaQ10
import Derived.Test.YtjagffnbobnofaaQ8
import Derived.Test.YtjagffnbobnofaaSN
import Derived.Test.YtjagffnbobnofaaQ6
import Derived.Test.YtjagffnbobnofaaQ7
import Derived.Test.YtjagffnbobnofaaQ4
import Derived.Test.YtjagffnbobnofaaQ5
import Derived.Test.YtjagffnbobnofaaQ2
import Derived.Test.YtjagffnbobnofaaQ1
import Derived.Test.YtjagffnbobnofaaQ3
import Derived.Test.YtjagffnbobnofaaQ0
import Derived.Test.YtjagffnbobnofaaSM
namespace Go.Proofs.Ytjagffnbobnofaa
open Go.RowKit Go.SL Go.Q18
attribute [local irreducible] Go.SL.RW Go.SL.CW Go.SL.RD Go.SL.Hd Go.SL.St
set_option linter.unusedVariables false
set_option linter.unusedSimpArgs false



theorem q_isort0 {p : Pers} {w : World} {R : List Assn} (X : Option Addr) (c : Nat) (hst : St p w (R)) :
    Calls Try.prog 82 #[.slice X 0 c, .int .i64 0, .int .i64 0] w fun e w => e = .returned (.tuple #[]) ∧ St p w R := by
  refine enter Try.func82 rfl (by simp) (n := 49) rfl fun τ hτ => ?_
  have hs0 : τ 0 = .slice X 0 c := hτ 0 (by simp)
  have hs1 : τ 1 = .int .i64 0 := hτ 1 (by simp)
  have hs2 : τ 2 = .int .i64 0 := hτ 2 (by simp)
  clear hτ
  refine CW.seq ?_
  refine CW.region ?_
  refine RW.soft Wd.a (v := .int .i64 0) (by exact E.move (AF_ev rfl hs1)) ?_
  refine RW.soft Wd.a (v := .int .i64 1) (by exact E.add (k := .i64) (a := 0) (b := 1) (AF_ev rfl tp) rfl rfl) ?_
  refine RW.soft Wd.a (v := .int .i64 1) (by exact E.assign (AF_ev rfl tp)) ?_
  refine RW.fin (fun τ => τ 0 = .slice X 0 c ∧ τ 1 = .int .i64 0 ∧ τ 2 = .int .i64 0 ∧ τ 6 = .int .i64 1) ⟨up rfl (up rfl (up rfl hs0)), up rfl (up rfl (up rfl hs1)), up rfl (up rfl (up rfl hs2)), tp⟩ ?_
  rintro τ ⟨hs0, hs1, hs2, hs6⟩
  refine CW.block ?_
  refine CW.loop (fun (k : Nat) (τ : Fr) (w : World) => ∃ (u_ : Unit), k = 0 ∧ τ 0 = .slice X 0 c ∧ τ 1 = .int .i64 0 ∧ τ 2 = .int .i64 0 ∧ τ 6 = .int .i64 1 ∧ St p w (R)) (0) ⟨(), rfl, hs0, hs1, hs2, hs6, hst⟩ ?_
  clear hst
  rintro k τ w ⟨u_, hk0, hs0, hs1, hs2, hs6, hst⟩
  refine CW.seq ?_
  refine CW.seq ?_
  refine CW.region ?_
  refine RW.soft Wd.a (v := .int .i64 1) (by exact E.move (AF_ev rfl hs6)) ?_
  refine RW.soft Wd.a (v := .int .i64 0) (by exact E.move (AF_ev rfl (up rfl hs2))) ?_
  refine RW.soft Wd.a (v := .bool false) (by exact E.lss (k := .i64) (a := 1) (b := 0) (AF_ev rfl (up rfl tp)) (AF_ev rfl tp)) ?_
  refine RW.fin (fun τ => τ 0 = .slice X 0 c ∧ τ 1 = .int .i64 0 ∧ τ 2 = .int .i64 0 ∧ τ 6 = .int .i64 1 ∧ τ 12 = .bool false) ⟨up rfl (up rfl (up rfl hs0)), up rfl (up rfl (up rfl hs1)), up rfl (up rfl (up rfl hs2)), up rfl (up rfl (up rfl hs6)), tp⟩ ?_
  rintro τ ⟨hs0, hs1, hs2, hs6, hs12⟩
  refine CW.condF (AF_ev rfl hs12) ?_
  refine CW.exit ?_
  refine Th.x ?_
  refine Th.x ?_
  refine Bl.x ?_
  refine retE rfl ?_
  
  exact ⟨rfl, hst⟩

theorem q_pdq0 {p : Pers} {w : World} {R : List Assn} (X : Option Addr) (c : Nat) (r : Int) (hst : St p w (R)) :
    Calls Try.prog 75 #[.slice X 0 c, .int .i64 0, .int .i64 0, .int .i64 r] w fun e w => e = .returned (.tuple #[]) ∧ St p w R := by
  refine enter Try.func75 rfl (by simp) (n := 134) rfl fun τ hτ => ?_
  have hs0 : τ 0 = .slice X 0 c := hτ 0 (by simp)
  have hs1 : τ 1 = .int .i64 0 := hτ 1 (by simp)
  have hs2 : τ 2 = .int .i64 0 := hτ 2 (by simp)
  have hs3 : τ 3 = .int .i64 r := hτ 3 (by simp)
  clear hτ
  refine CW.seq ?_
  refine CW.region ?_
  refine RW.soft Wd.a (v := .bool true) (by exact E.assign rfl) ?_
  refine RW.fin (fun τ => τ 0 = .slice X 0 c ∧ τ 1 = .int .i64 0 ∧ τ 2 = .int .i64 0 ∧ τ 3 = .int .i64 r ∧ τ 8 = .bool true) ⟨up rfl hs0, up rfl hs1, up rfl hs2, up rfl hs3, tp⟩ ?_
  rintro τ ⟨hs0, hs1, hs2, hs3, hs8⟩
  refine CW.seq ?_
  refine CW.region ?_
  refine RW.soft Wd.a (v := .bool true) (by exact E.assign rfl) ?_
  refine RW.fin (fun τ => τ 0 = .slice X 0 c ∧ τ 1 = .int .i64 0 ∧ τ 2 = .int .i64 0 ∧ τ 3 = .int .i64 r ∧ τ 8 = .bool true ∧ τ 9 = .bool true) ⟨up rfl hs0, up rfl hs1, up rfl hs2, up rfl hs3, up rfl hs8, tp⟩ ?_
  rintro τ ⟨hs0, hs1, hs2, hs3, hs8, hs9⟩
  refine CW.block ?_
  refine CW.loop (fun (k : Nat) (τ : Fr) (w : World) => ∃ (u_ : Unit), k = 0 ∧ τ 0 = .slice X 0 c ∧ τ 1 = .int .i64 0 ∧ τ 2 = .int .i64 0 ∧ τ 3 = .int .i64 r ∧ τ 8 = .bool true ∧ τ 9 = .bool true ∧ St p w (R)) (0) ⟨(), rfl, hs0, hs1, hs2, hs3, hs8, hs9, hst⟩ ?_
  clear hst
  rintro k τ w ⟨u_, hk0, hs0, hs1, hs2, hs3, hs8, hs9, hst⟩
  refine CW.block ?_
  refine CW.seq ?_
  refine CW.region ?_
  refine RW.soft Wd.a (v := .int .i64 0) (by exact E.move (AF_ev rfl hs2)) ?_
  refine RW.soft Wd.a (v := .int .i64 0) (by exact E.move (AF_ev rfl (up rfl hs1))) ?_
  refine RW.soft Wd.a (v := .int .i64 0) (by exact E.sub (k := .i64) (a := 0) (b := 0) (AF_ev rfl (up rfl tp)) (AF_ev rfl tp) rfl) ?_
  refine RW.soft Wd.a (v := .int .i64 0) (by exact E.assign (AF_ev rfl tp)) ?_
  refine RW.fin (fun τ => τ 0 = .slice X 0 c ∧ τ 1 = .int .i64 0 ∧ τ 2 = .int .i64 0 ∧ τ 3 = .int .i64 r ∧ τ 8 = .bool true ∧ τ 9 = .bool true ∧ τ 10 = .int .i64 0) ⟨up rfl (up rfl (up rfl (up rfl hs0))), up rfl (up rfl (up rfl (up rfl hs1))), up rfl (up rfl (up rfl (up rfl hs2))), up rfl (up rfl (up rfl (up rfl hs3))), up rfl (up rfl (up rfl (up rfl hs8))), up rfl (up rfl (up rfl (up rfl hs9))), tp⟩ ?_
  rintro τ ⟨hs0, hs1, hs2, hs3, hs8, hs9, hs10⟩
  refine CW.seq ?_
  refine CW.seq ?_
  refine CW.region ?_
  refine RW.soft Wd.a (v := .int .i64 0) (by exact E.move (AF_ev rfl hs10)) ?_
  refine RW.soft Wd.a (v := .bool true) (by exact E.leq (k := .i64) (a := 0) (b := 12) (AF_ev rfl tp) rfl) ?_
  refine RW.fin (fun τ => τ 0 = .slice X 0 c ∧ τ 1 = .int .i64 0 ∧ τ 2 = .int .i64 0 ∧ τ 3 = .int .i64 r ∧ τ 8 = .bool true ∧ τ 9 = .bool true ∧ τ 10 = .int .i64 0 ∧ τ 23 = .bool true) ⟨up rfl (up rfl hs0), up rfl (up rfl hs1), up rfl (up rfl hs2), up rfl (up rfl hs3), up rfl (up rfl hs8), up rfl (up rfl hs9), up rfl (up rfl hs10), tp⟩ ?_
  rintro τ ⟨hs0, hs1, hs2, hs3, hs8, hs9, hs10, hs23⟩
  refine CW.condT (AF_ev rfl hs23) ?_
  refine CW.seq ?_
  refine CW.region ?_
  refine RW.soft Wd.a (v := .slice X 0 c) (by exact E.move (AF_ev rfl hs0)) ?_
  refine RW.soft Wd.a (v := .int .i64 0) (by exact E.move (AF_ev rfl (up rfl hs1))) ?_
  refine RW.soft Wd.a (v := .int .i64 0) (by exact E.move (AF_ev rfl (up rfl (up rfl hs2)))) ?_
  refine RW.hard Wd.a ?_
  refine H.call0 Try.func82 nm82 rfl (map3 (AF_ev rfl (up rfl (up rfl tp))) (AF_ev rfl (up rfl tp)) (AF_ev rfl tp)) (Calls.mono (q_isort0 X c hst) ?_)
  rintro _ w ⟨rfl, hst⟩
  refine ⟨_, rfl, ?_⟩
  show RW _ _ _ _ _ _ _
  refine RW.fin (fun τ => τ 0 = .slice X 0 c ∧ τ 1 = .int .i64 0 ∧ τ 2 = .int .i64 0 ∧ τ 3 = .int .i64 r ∧ τ 8 = .bool true ∧ τ 9 = .bool true ∧ τ 10 = .int .i64 0 ∧ τ 23 = .bool true) ⟨up rfl (up rfl (up rfl (up rfl hs0))), up rfl (up rfl (up rfl (up rfl hs1))), up rfl (up rfl (up rfl (up rfl hs2))), up rfl (up rfl (up rfl (up rfl hs3))), up rfl (up rfl (up rfl (up rfl hs8))), up rfl (up rfl (up rfl (up rfl hs9))), up rfl (up rfl (up rfl (up rfl hs10))), up rfl (up rfl (up rfl (up rfl hs23)))⟩ ?_
  rintro τ ⟨hs0, hs1, hs2, hs3, hs8, hs9, hs10, hs23⟩
  refine CW.ret ?_
  refine Th.r ?_
  refine Bl.r ?_
  refine Th.r ?_
  refine Bl.r ?_
  refine retN (rs := []) (vs := []) rfl (by exact .nil) (by simp) ?_
  
  exact ⟨rfl, hst⟩

theorem q_Sort0 {p : Pers} {w : World} {R : List Assn} (X : Option Addr) (c : Nat) (hst : St p w (R)) :
    Calls Try.prog 59 #[.slice X 0 c] w fun e w => e = .returned (.tuple #[]) ∧ St p w R := by
  refine enter Try.func59 rfl (by simp) (n := 11) rfl fun τ hτ => ?_
  have hs0 : τ 0 = .slice X 0 c := hτ 0 (by simp)
  clear hτ
  refine CW.seq ?_
  refine CW.region ?_
  refine RW.soft Wd.a (v := .slice X 0 c) (by exact E.move (AF_ev rfl hs0)) ?_
  refine RW.soft Wd.a (v := .int .i64 0) (by exact E.lenS (p := X) (l := 0) (c := c) Try.underlying58 (AF_ev rfl tp)) ?_
  refine RW.soft Wd.a (v := .int .i64 0) (by exact E.assign (AF_ev rfl tp)) ?_
  refine RW.fin (fun τ => τ 0 = .slice X 0 c ∧ τ 2 = .int .i64 0) ⟨up rfl (up rfl (up rfl hs0)), tp⟩ ?_
  rintro τ ⟨hs0, hs2⟩
  refine CW.region ?_
  refine RW.soft Wd.a (v := .slice X 0 c) (by exact E.move (AF_ev rfl hs0)) ?_
  refine RW.soft Wd.a (v := .int .i64 0) (by exact E.move (AF_ev rfl (up rfl hs2))) ?_
  refine RW.soft Wd.a (v := .int .i64 0) (by exact E.move (AF_ev rfl (up rfl (up rfl hs2)))) ?_
  refine RW.soft Wd.a (v := .int .u64 0) (by exact E.convInt (a := 0) (by rw [Try.underlying3]; rfl) Try.underlying96 (AF_ev rfl tp) rfl) ?_
  refine RW.hard Wd.a ?_
  refine H.call0 Try.func76 nm76 rfl (map1 (AF_ev rfl tp)) (Calls.mono (q_Len 0 (by omega) hst) ?_)
  rintro _ w ⟨r, rfl, hst⟩
  refine ⟨_, rfl, ?_⟩
  show RW _ _ _ _ _ _ _
  refine RW.hard Wd.a ?_
  refine H.call0 Try.func75 nm75 rfl (map4 (AF_ev rfl (up rfl (up rfl (up rfl (up rfl tp))))) rfl (AF_ev rfl (up rfl (up rfl (up rfl tp)))) (AF_ev rfl tp)) (Calls.mono (q_pdq0 X c r hst) ?_)
  rintro _ w ⟨rfl, hst⟩
  refine ⟨_, rfl, ?_⟩
  show RW _ _ _ _ _ _ _
  refine RW.nil ?_
  refine retE rfl ?_
  
  exact ⟨rfl, hst⟩

theorem ks_Sorted0 {p : Pers} {w : World} {R : List Assn} {b Bm : Nat} {ks : List (Int × Value)} (hl : ks.length ≤ 12) (hk : ∀ q ∈ ks, I64 q.1) (h0 : ks.length = 0) (hst : St p w (pt Bm (.cells #[.map (some b)] 71) :: MapI b ks :: R)) :
    Calls Try.prog 45 #[.func (.func 62) #[] #[.pointer (some ⟨Bm, 0, none⟩)]] w fun e w' => ∃ (v : Value) (L : List Int), e = .returned v ∧ L.Perm (ks.map (·.1)) ∧ L.Pairwise (· ≤ ·) ∧ St p w' (SL.Own 3 1 v ks.length (L.flatMap ienc) :: pt Bm (.cells #[.map (some b)] 71) :: MapI b ks :: R) := by
  refine enter Try.func45 rfl (by simp) (n := 9) rfl fun τ hτ => ?_
  have hs0 : τ 0 = .func (.func 62) #[] #[.pointer (some ⟨Bm, 0, none⟩)] := hτ 0 (by simp)
  clear hτ
  refine CW.seq ?_
  refine CW.region ?_
  refine RW.soft Wd.a (v := .slice none 0 0) (by exact E.assign rfl) ?_
  refine RW.fin (fun τ => τ 0 = .func (.func 62) #[] #[.pointer (some ⟨Bm, 0, none⟩)] ∧ τ 2 = .slice none 0 0) ⟨up rfl hs0, tp⟩ ?_
  rintro τ ⟨hs0, hs2⟩
  refine CW.seq ?_
  refine CW.region ?_
  refine RW.soft Wd.a (v := .func (.func 62) #[] #[.pointer (some ⟨Bm, 0, none⟩)]) (by exact E.move (AF_ev rfl hs0)) ?_
  refine RW.hard Wd.a ?_
  refine H.call0 Try.func61 nm61 rfl (map1 (AF_ev rfl tp)) (Calls.mono (ks_Collect hl hk hst) ?_)
  rintro _ w ⟨vX1, xs, rfl, hPm, hst⟩
  obtain ⟨X1, c2, heX1, hcX1, hmX1, hlX1, hbX1⟩ := hst.shape
  subst heX1
  have hxl : xs.length = ks.length := by rw [hPm.length_eq, List.length_map]
  refine ⟨_, rfl, ?_⟩
  show RW _ _ _ _ _ _ _
  refine RW.soft Wd.a (v := .slice X1 xs.length c2) (by exact E.assign (AF_ev rfl tp)) ?_
  refine RW.fin (fun τ => τ 0 = .func (.func 62) #[] #[.pointer (some ⟨Bm, 0, none⟩)] ∧ τ 2 = .slice none 0 0 ∧ τ 3 = .slice X1 xs.length c2) ⟨up rfl (up rfl (up rfl hs0)), up rfl (up rfl (up rfl hs2)), tp⟩ ?_
  rintro τ ⟨hs0, hs2, hs3⟩
  refine CW.seq ?_
  obtain rfl : xs = [] := List.eq_nil_of_length_eq_zero (by omega)
  refine CW.region ?_
  refine RW.soft Wd.a (v := .slice X1 0 c2) (by exact E.move (AF_ev rfl hs3)) ?_
  refine RW.hard Wd.a ?_
  refine H.call0 Try.func59 nm59 rfl (map1 (AF_ev rfl tp)) (Calls.mono (q_Sort0 X1 c2 hst) ?_)
  rintro _ w ⟨rfl, hst⟩
  refine ⟨_, rfl, ?_⟩
  show RW _ _ _ _ _ _ _
  refine RW.fin (fun τ => τ 0 = .func (.func 62) #[] #[.pointer (some ⟨Bm, 0, none⟩)] ∧ τ 2 = .slice none 0 0 ∧ τ 3 = .slice X1 0 c2) ⟨up rfl (up rfl hs0), up rfl (up rfl hs2), up rfl (up rfl hs3)⟩ ?_
  rintro τ ⟨hs0, hs2, hs3⟩
  refine CW.seq ?_
  refine CW.region ?_
  refine RW.soft Wd.a (v := .slice X1 0 c2) (by exact E.move (AF_ev rfl hs3)) ?_
  refine RW.soft Wd.a (v := .slice X1 0 c2) (by exact E.assign (AF_ev rfl tp)) ?_
  refine RW.fin (fun τ => τ 0 = .func (.func 62) #[] #[.pointer (some ⟨Bm, 0, none⟩)] ∧ τ 2 = .slice X1 0 c2 ∧ τ 3 = .slice X1 0 c2) ⟨up rfl (up rfl hs0), tp, up rfl (up rfl hs3)⟩ ?_
  rintro τ ⟨hs0, hs2, hs3⟩
  refine CW.ret ?_
  refine ret1 (v := .slice X1 0 c2) rfl (by exact (.tmp (AF_ev rfl hs2) .nil)) ?_
  have hst := hst.take (.there (.there .here))
  have hst := hst.take (.there (.there .here))
  have hst := hst.take (.there (.there .here))
  exact ⟨_, [], rfl, hPm, List.Pairwise.nil, by rw [h0]; exact hst⟩

theorem ks_SortedAll {p : Pers} {w : World} {R : List Assn} {b Bm : Nat} {ks : List (Int × Value)} (hl : ks.length ≤ 12) (hk : ∀ q ∈ ks, I64 q.1) (hst : St p w (pt Bm (.cells #[.map (some b)] 71) :: MapI b ks :: R)) : Calls Try.prog 45 #[.func (.func 62) #[] #[.pointer (some ⟨Bm, 0, none⟩)]] w (fun e w' => ∃ (v : Value) (L : List Int), e = .returned v ∧ L.Perm (ks.map (·.1)) ∧ L.Pairwise (· ≤ ·) ∧ St p w' (SL.Own 3 1 v ks.length (L.flatMap ienc) :: pt Bm (.cells #[.map (some b)] 71) :: MapI b ks :: R)) := by
  rcases Nat.eq_zero_or_pos ks.length with h | h
  · exact ks_Sorted0 hl hk h hst
  · exact ks_Sorted hl hk h hst
end Go.Proofs.Ytjagffnbobnofaa
