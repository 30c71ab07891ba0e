/- The calls of the package keyring, walked through operation by operation. -/
import Derived.Test.YtdlcjoonhojpfaaK9
import Derived.Test.YtdlcjoonhojpfaaK8
import Derived.Test.YtdlcjoonhojpfaaK7
import Derived.Test.YtdlcjoonhojpfaaK6
import Derived.Test.YtdlcjoonhojpfaaK5
import Derived.Test.YtdlcjoonhojpfaaK4
import Derived.Test.YtdlcjoonhojpfaaK3
namespace Go.Proofs.Ytdlcjoonhojpfaa
open Go.RowKit Go.SL Go.K13
attribute [local irreducible] Go.SL.RW Go.SL.CW Go.SL.RD Go.SL.Hd Go.SL.St
set_option linter.unusedVariables false
set_option linter.unusedSimpArgs false

theorem nm39 : (Try.f39.name == "runtime.NumGoroutine") = false := by kernel_rfl
theorem nm42 : (Try.f42.name == "runtime.NumGoroutine") = false := by kernel_rfl
theorem nm43 : (Try.f43.name == "runtime.NumGoroutine") = false := by kernel_rfl
theorem nm44 : (Try.f44.name == "runtime.NumGoroutine") = false := by kernel_rfl
theorem nm45 : (Try.f45.name == "runtime.NumGoroutine") = false := by kernel_rfl
theorem nm46 : (Try.f46.name == "runtime.NumGoroutine") = false := by kernel_rfl
theorem nm47 : (Try.f47.name == "runtime.NumGoroutine") = false := by kernel_rfl

theorem kok_nil : KOk [] := ⟨by decide, fun r hr => by cases hr⟩
theorem keysNew {p : Pers} {w : World} {R : List Assn} {e b : Nat} (hst : St p w (pt b (.cells #[.slice none 0 0] e) :: R)) : St p w (KeysV e b [] :: R) :=
  keysMake kok_nil ((rowsClose (ks := []) (rs := []) rfl (hst.ownNil (e := 84) (sz := 2) none)).take (.there .here))

theorem prog_New {p : Pers} {w : World} {R : List Assn}  (hst : St p w (R)) :
    Calls Try.prog 39 #[] w fun e w => ∃ b, e = .returned (.pointer (some ⟨b, 0, none⟩)) ∧ St p w (KeysV 127 b [] :: R) := by
  refine enter Try.func39 rfl (by simp) (n := 3) rfl fun τ hτ => ?_
  clear hτ
  refine CW.seq ?_
  refine CW.region ?_
  refine RW.soft Wd.a (v := .pointer none) (by exact E.assign rfl) ?_
  refine RW.fin (fun τ => τ 0 = .pointer none) tp ?_
  rintro τ hs0
  refine CW.seq ?_
  refine CW.region ?_
  refine RW.soft Wd.a (v := .agg #[.slice none 0 0]) (by exact E.build (vs := #[]) (by simp) (by kernel_rfl)) ?_
  refine RW.hard Wd.a ?_
  refine H.box (v := .agg #[.slice none 0 0]) (AF_ev rfl tp) hst fun b1 w hst => ?_
  refine RW.soft Wd.a (v := .pointer (some ⟨b1, 0, none⟩)) (by exact E.assign (AF_ev rfl tp)) ?_
  refine RW.fin (fun τ => τ 0 = .pointer (some ⟨b1, 0, none⟩)) tp ?_
  rintro τ hs0
  refine CW.ret ?_
  refine ret1 (v := .pointer (some ⟨b1, 0, none⟩)) rfl (by exact (.tmp (AF_ev rfl hs0) .nil)) ?_
  exact ⟨_, rfl, keysNew hst⟩

theorem shown13 {p : Pers} {w : World} {R : List Assn}  (hst : St p w (R)) :
    Calls Try.prog 38 #[] w fun e w => e = .returned (.bool true) ∧ St p w R := by
  refine enter Try.func38 rfl (by simp) (n := 166) rfl fun τ hτ => ?_
  clear hτ
  refine CW.seq ?_
  refine CW.region ?_
  refine RW.soft Wd.a (v := .bool false) (by exact E.assign rfl) ?_
  refine RW.fin (fun τ => τ 0 = .bool false) tp ?_
  rintro τ hs0
  refine CW.seq ?_
  refine CW.region ?_
  refine RW.hard Wd.a ?_
  refine H.call0 Try.func39 nm39 rfl map0 (Calls.mono (prog_New hst) ?_)
  rintro _ w ⟨k1, rfl, hst⟩
  refine ⟨_, rfl, ?_⟩
  show RW _ _ _ _ _ _ _
  refine RW.soft Wd.a (v := .pointer (some ⟨k1, 0, none⟩)) (by exact E.assign (AF_ev rfl tp)) ?_
  refine RW.fin (fun τ => τ 0 = .bool false ∧ τ 1 = .pointer (some ⟨k1, 0, none⟩)) ⟨up rfl (up rfl hs0), tp⟩ ?_
  rintro τ ⟨hs0, hs1⟩
  refine CW.seq ?_
  refine CW.seq ?_
  refine CW.region ?_
  refine RW.soft Wd.a (v := .pointer (some ⟨k1, 0, none⟩)) (by exact E.move (AF_ev rfl hs1)) ?_
  refine RW.soft Wd.a (v := .bool false) (by exact E.eqlP (p := (some ⟨k1, 0, none⟩)) Try.underlying69 (AF_ev rfl tp) rfl) ?_
  refine RW.fin (fun τ => τ 0 = .bool false ∧ τ 1 = .pointer (some ⟨k1, 0, none⟩) ∧ τ 32 = .bool false) ⟨up rfl (up rfl hs0), up rfl (up rfl hs1), tp⟩ ?_
  rintro τ ⟨hs0, hs1, hs32⟩
  refine CW.condF (AF_ev rfl hs32) ?_
  refine CW.skip ?_
  refine Th.n ?_
  refine CW.seq ?_
  refine CW.region ?_
  refine RW.soft Wd.a (v := .agg (bk (kc 1)).toArray) (by exact E.build (vs := #[(0, .int .u8 1)]) (bld1 rfl) (build74 _ _)) ?_
  refine RW.hard Wd.a ?_
  refine H.alloc zr74k hst fun b2 w hst => ?_
  refine RW.hard Wd.a ?_
  refine H.storeWhole (b := b2) (m := 32) (v := .agg (bk (kc 1)).toArray) (news := bk (kc 1)) (AF_ev rfl tp) (AF_ev rfl (up rfl tp)) hst .here rfl (bk_len _) (by rw [List.size_toArray]; exact (bk_len _)) sz74 (bk_one _) fun w hst => ?_
  refine RW.fin (fun τ => τ 0 = .bool false ∧ τ 1 = .pointer (some ⟨k1, 0, none⟩) ∧ τ 2 = .pointer (some ⟨b2, 0, none⟩) ∧ τ 32 = .bool false) ⟨u0 (up rfl (up rfl hs0)), u0 (up rfl (up rfl hs1)), u0 tp, u0 (up rfl (up rfl hs32))⟩ ?_
  rintro τ ⟨hs0, hs1, hs2, hs32⟩
  refine CW.seq ?_
  refine CW.region ?_
  refine RW.soft Wd.a (v := .agg (bk (kc 2)).toArray) (by exact E.build (vs := #[(0, .int .u8 2)]) (bld1 rfl) (build74 _ _)) ?_
  refine RW.hard Wd.a ?_
  refine H.alloc zr74k hst fun b3 w hst => ?_
  refine RW.hard Wd.a ?_
  refine H.storeWhole (b := b3) (m := 32) (v := .agg (bk (kc 2)).toArray) (news := bk (kc 2)) (AF_ev rfl tp) (AF_ev rfl (up rfl tp)) hst .here rfl (bk_len _) (by rw [List.size_toArray]; exact (bk_len _)) sz74 (bk_one _) fun w hst => ?_
  refine RW.fin (fun τ => τ 0 = .bool false ∧ τ 1 = .pointer (some ⟨k1, 0, none⟩) ∧ τ 2 = .pointer (some ⟨b2, 0, none⟩) ∧ τ 3 = .pointer (some ⟨b3, 0, none⟩) ∧ τ 32 = .bool false) ⟨u0 (up rfl (up rfl hs0)), u0 (up rfl (up rfl hs1)), u0 (up rfl (up rfl hs2)), u0 tp, u0 (up rfl (up rfl hs32))⟩ ?_
  rintro τ ⟨hs0, hs1, hs2, hs3, hs32⟩
  refine CW.seq ?_
  refine CW.region ?_
  refine RW.soft Wd.a (v := .pointer (some ⟨k1, 0, none⟩)) (by exact E.move (AF_ev rfl hs1)) ?_
  refine RW.soft Wd.a (v := .agg (bk (kc 1)).toArray) (by exact E.loadN (b := b2) (o := 0) (cs := bk (kc 1)) Try.underlying74 rfl sz74 (AF_ev rfl (up rfl hs2)) (bk_len _) (St.cellsOf hst (.there .here) (fun j v hv => by rw [Nat.zero_add]; exact hv))) ?_
  have hst := hst.take (.there (.there .here))
  refine RW.hard Wd.a ?_
  refine H.call0 Try.func42 nm42 rfl (map2 (AF_ev rfl (up rfl tp)) (AF_ev rfl tp)) (Calls.mono ((show Calls Try.prog 42 #[.pointer (some ⟨k1, 0, none⟩), .agg (bk (kc 1)).toArray] w (fun e w => e = .returned (.tuple #[.int .i64 1, .int .i64 0]) ∧ St p w (KeysV 127 k1 ([(false, [Ver.mk (kc 1) 0 false])]) :: pt b3 (.cells (bk (kc 2)).toArray 74) :: pt b2 (.cells (bk (kc 1)).toArray 74) :: R)) from (by
    have hm : kCreate ([]) (kc 1) = (1, 0, [(false, [Ver.mk (kc 1) 0 false])]) := rfl
    have hq := prog_Create   (kc 1) hst
    rw [hm] at hq; exact hq))) ?_)
  rintro _ w ⟨rfl, hst⟩
  refine ⟨_, rfl, ?_⟩
  show RW _ _ _ _ _ _ _
  refine RW.soft Wd.a (v := .tuple #[.int .i64 1, .int .i64 0]) (by exact E.move (AF_ev rfl tp)) ?_
  refine RW.soft Wd.a (v := .int .i64 1) (by exact E.extract (vs := #[.int .i64 1, .int .i64 0]) (AF_ev rfl tp) rfl) ?_
  refine RW.soft Wd.a (v := .int .i64 0) (by exact E.extract (vs := #[.int .i64 1, .int .i64 0]) (AF_ev rfl (up rfl tp)) rfl) ?_
  refine RW.soft Wd.a (v := .int .i64 1) (by exact E.assign (AF_ev rfl (up rfl tp))) ?_
  refine RW.soft Wd.a (v := .int .i64 0) (by exact E.assign (AF_ev rfl (up rfl tp))) ?_
  refine RW.fin (fun τ => τ 0 = .bool false ∧ τ 1 = .pointer (some ⟨k1, 0, none⟩) ∧ τ 2 = .pointer (some ⟨b2, 0, none⟩) ∧ τ 3 = .pointer (some ⟨b3, 0, none⟩) ∧ τ 4 = .int .i64 1 ∧ τ 5 = .int .i64 0 ∧ τ 32 = .bool false) ⟨up rfl (up rfl (up rfl (up rfl (up rfl (up rfl (up rfl (up rfl hs0))))))), up rfl (up rfl (up rfl (up rfl (up rfl (up rfl (up rfl (up rfl hs1))))))), up rfl (up rfl (up rfl (up rfl (up rfl (up rfl (up rfl (up rfl hs2))))))), up rfl (up rfl (up rfl (up rfl (up rfl (up rfl (up rfl (up rfl hs3))))))), up rfl tp, tp, up rfl (up rfl (up rfl (up rfl (up rfl (up rfl (up rfl (up rfl hs32)))))))⟩ ?_
  rintro τ ⟨hs0, hs1, hs2, hs3, hs4, hs5, hs32⟩
  refine CW.seq ?_
  refine CW.region ?_
  refine RW.soft Wd.a (v := .pointer (some ⟨k1, 0, none⟩)) (by exact E.move (AF_ev rfl hs1)) ?_
  refine RW.hard Wd.a ?_
  refine H.call0 Try.func46 nm46 rfl (map2 (AF_ev rfl tp) rfl) (Calls.mono ((show Calls Try.prog 46 #[.pointer (some ⟨k1, 0, none⟩), .int .i64 1] w (fun e w => e = .returned (.tuple #[.int .i64 1, .int .i64 0, .agg (bk (kc 1)).toArray, .int .i64 0]) ∧ St p w (KeysV 127 k1 ([(false, [Ver.mk (kc 1) 1 false])]) :: pt b3 (.cells (bk (kc 2)).toArray 74) :: pt b2 (.cells (bk (kc 1)).toArray 74) :: R)) from (by
    have hm : kUse ([(false, [Ver.mk (kc 1) 0 false])]) 1 = (1, 0, (kc 1), 0, [(false, [Ver.mk (kc 1) 1 false])]) := rfl
    have hq := prog_Use 1 (by omega)  hst
    rw [hm] at hq; exact hq))) ?_)
  rintro _ w ⟨rfl, hst⟩
  refine ⟨_, rfl, ?_⟩
  show RW _ _ _ _ _ _ _
  refine RW.soft Wd.a (v := .tuple #[.int .i64 1, .int .i64 0, .agg (bk (kc 1)).toArray, .int .i64 0]) (by exact E.move (AF_ev rfl tp)) ?_
  refine RW.soft Wd.a (v := .int .i64 1) (by exact E.extract (vs := #[.int .i64 1, .int .i64 0, .agg (bk (kc 1)).toArray, .int .i64 0]) (AF_ev rfl tp) rfl) ?_
  refine RW.soft Wd.a (v := .int .i64 0) (by exact E.extract (vs := #[.int .i64 1, .int .i64 0, .agg (bk (kc 1)).toArray, .int .i64 0]) (AF_ev rfl (up rfl tp)) rfl) ?_
  refine RW.soft Wd.a (v := .agg (bk (kc 1)).toArray) (by exact E.extract (vs := #[.int .i64 1, .int .i64 0, .agg (bk (kc 1)).toArray, .int .i64 0]) (AF_ev rfl (up rfl (up rfl tp))) rfl) ?_
  refine RW.soft Wd.a (v := .int .i64 0) (by exact E.extract (vs := #[.int .i64 1, .int .i64 0, .agg (bk (kc 1)).toArray, .int .i64 0]) (AF_ev rfl (up rfl (up rfl (up rfl tp)))) rfl) ?_
  refine RW.hard Wd.a ?_
  refine H.alloc zr74k hst fun b4 w hst => ?_
  refine RW.soft Wd.a (v := .int .i64 1) (by exact E.assign (AF_ev rfl (up rfl (up rfl (up rfl (up rfl tp)))))) ?_
  refine RW.soft Wd.a (v := .int .i64 0) (by exact E.assign (AF_ev rfl (up rfl (up rfl (up rfl (up rfl tp)))))) ?_
  refine RW.hard Wd.a ?_
  refine H.storeWhole (b := b4) (m := 32) (v := .agg (bk (kc 1)).toArray) (news := bk (kc 1)) (AF_ev rfl (up rfl (up rfl tp))) (AF_ev rfl (up rfl (up rfl (up rfl (up rfl tp))))) hst .here rfl (bk_len _) (by rw [List.size_toArray]; exact (bk_len _)) sz74 (bk_one _) fun w hst => ?_
  refine RW.soft Wd.a (v := .int .i64 0) (by exact E.assign (AF_ev rfl (u0 (up rfl (up rfl (up rfl tp)))))) ?_
  refine RW.fin (fun τ => τ 0 = .bool false ∧ τ 1 = .pointer (some ⟨k1, 0, none⟩) ∧ τ 2 = .pointer (some ⟨b2, 0, none⟩) ∧ τ 3 = .pointer (some ⟨b3, 0, none⟩) ∧ τ 4 = .int .i64 1 ∧ τ 5 = .int .i64 0 ∧ τ 7 = .int .i64 0 ∧ τ 32 = .bool false) ⟨up rfl (u0 (up rfl (up rfl (up rfl (up rfl (up rfl (up rfl (up rfl (up rfl (up rfl (up rfl hs0))))))))))), up rfl (u0 (up rfl (up rfl (up rfl (up rfl (up rfl (up rfl (up rfl (up rfl (up rfl (up rfl hs1))))))))))), up rfl (u0 (up rfl (up rfl (up rfl (up rfl (up rfl (up rfl (up rfl (up rfl (up rfl (up rfl hs2))))))))))), up rfl (u0 (up rfl (up rfl (up rfl (up rfl (up rfl (up rfl (up rfl (up rfl (up rfl (up rfl hs3))))))))))), up rfl (u0 (up rfl (up rfl (up rfl (up rfl (up rfl (up rfl (up rfl (up rfl (up rfl (up rfl hs4))))))))))), up rfl (u0 (up rfl (up rfl (up rfl (up rfl (up rfl (up rfl (up rfl (up rfl (up rfl (up rfl hs5))))))))))), up rfl (u0 tp), up rfl (u0 (up rfl (up rfl (up rfl (up rfl (up rfl (up rfl (up rfl (up rfl (up rfl (up rfl hs32)))))))))))⟩ ?_
  rintro τ ⟨hs0, hs1, hs2, hs3, hs4, hs5, hs7, hs32⟩
  refine CW.seq ?_
  refine CW.region ?_
  refine RW.soft Wd.a (v := .pointer (some ⟨k1, 0, none⟩)) (by exact E.move (AF_ev rfl hs1)) ?_
  have hst := hst.take (.there .here)
  refine RW.hard Wd.a ?_
  refine H.call0 Try.func46 nm46 rfl (map2 (AF_ev rfl tp) rfl) (Calls.mono ((show Calls Try.prog 46 #[.pointer (some ⟨k1, 0, none⟩), .int .i64 1] w (fun e w => e = .returned (.tuple #[.int .i64 1, .int .i64 1, .agg (bk (kc 1)).toArray, .int .i64 0]) ∧ St p w (KeysV 127 k1 ([(false, [Ver.mk (kc 1) 2 false])]) :: pt b4 (.cells (bk (kc 1)).toArray 74) :: pt b3 (.cells (bk (kc 2)).toArray 74) :: pt b2 (.cells (bk (kc 1)).toArray 74) :: R)) from (by
    have hm : kUse ([(false, [Ver.mk (kc 1) 1 false])]) 1 = (1, 1, (kc 1), 0, [(false, [Ver.mk (kc 1) 2 false])]) := rfl
    have hq := prog_Use 1 (by omega)  hst
    rw [hm] at hq; exact hq))) ?_)
  rintro _ w ⟨rfl, hst⟩
  refine ⟨_, rfl, ?_⟩
  show RW _ _ _ _ _ _ _
  refine RW.soft Wd.a (v := .tuple #[.int .i64 1, .int .i64 1, .agg (bk (kc 1)).toArray, .int .i64 0]) (by exact E.move (AF_ev rfl tp)) ?_
  refine RW.soft Wd.a (v := .int .i64 1) (by exact E.extract (vs := #[.int .i64 1, .int .i64 1, .agg (bk (kc 1)).toArray, .int .i64 0]) (AF_ev rfl tp) rfl) ?_
  refine RW.soft Wd.a (v := .int .i64 1) (by exact E.extract (vs := #[.int .i64 1, .int .i64 1, .agg (bk (kc 1)).toArray, .int .i64 0]) (AF_ev rfl (up rfl tp)) rfl) ?_
  refine RW.soft Wd.a (v := .agg (bk (kc 1)).toArray) (by exact E.extract (vs := #[.int .i64 1, .int .i64 1, .agg (bk (kc 1)).toArray, .int .i64 0]) (AF_ev rfl (up rfl (up rfl tp))) rfl) ?_
  refine RW.soft Wd.a (v := .int .i64 0) (by exact E.extract (vs := #[.int .i64 1, .int .i64 1, .agg (bk (kc 1)).toArray, .int .i64 0]) (AF_ev rfl (up rfl (up rfl (up rfl tp)))) rfl) ?_
  refine RW.hard Wd.a ?_
  refine H.alloc zr74k hst fun b5 w hst => ?_
  refine RW.soft Wd.a (v := .int .i64 1) (by exact E.assign (AF_ev rfl (up rfl (up rfl (up rfl (up rfl tp)))))) ?_
  refine RW.soft Wd.a (v := .int .i64 1) (by exact E.assign (AF_ev rfl (up rfl (up rfl (up rfl (up rfl tp)))))) ?_
  refine RW.hard Wd.a ?_
  refine H.storeWhole (b := b5) (m := 32) (v := .agg (bk (kc 1)).toArray) (news := bk (kc 1)) (AF_ev rfl (up rfl (up rfl tp))) (AF_ev rfl (up rfl (up rfl (up rfl (up rfl tp))))) hst .here rfl (bk_len _) (by rw [List.size_toArray]; exact (bk_len _)) sz74 (bk_one _) fun w hst => ?_
  refine RW.soft Wd.a (v := .int .i64 0) (by exact E.assign (AF_ev rfl (u0 (up rfl (up rfl (up rfl tp)))))) ?_
  refine RW.fin (fun τ => τ 0 = .bool false ∧ τ 1 = .pointer (some ⟨k1, 0, none⟩) ∧ τ 2 = .pointer (some ⟨b2, 0, none⟩) ∧ τ 3 = .pointer (some ⟨b3, 0, none⟩) ∧ τ 4 = .int .i64 1 ∧ τ 5 = .int .i64 0 ∧ τ 7 = .int .i64 0 ∧ τ 10 = .int .i64 1 ∧ τ 11 = .int .i64 1 ∧ τ 12 = .pointer (some ⟨b5, 0, none⟩) ∧ τ 13 = .int .i64 0 ∧ τ 32 = .bool false) ⟨up rfl (u0 (up rfl (up rfl (up rfl (up rfl (up rfl (up rfl (up rfl (up rfl (up rfl (up rfl hs0))))))))))), up rfl (u0 (up rfl (up rfl (up rfl (up rfl (up rfl (up rfl (up rfl (up rfl (up rfl (up rfl hs1))))))))))), up rfl (u0 (up rfl (up rfl (up rfl (up rfl (up rfl (up rfl (up rfl (up rfl (up rfl (up rfl hs2))))))))))), up rfl (u0 (up rfl (up rfl (up rfl (up rfl (up rfl (up rfl (up rfl (up rfl (up rfl (up rfl hs3))))))))))), up rfl (u0 (up rfl (up rfl (up rfl (up rfl (up rfl (up rfl (up rfl (up rfl (up rfl (up rfl hs4))))))))))), up rfl (u0 (up rfl (up rfl (up rfl (up rfl (up rfl (up rfl (up rfl (up rfl (up rfl (up rfl hs5))))))))))), up rfl (u0 (up rfl (up rfl (up rfl (up rfl (up rfl (up rfl (up rfl (up rfl (up rfl (up rfl hs7))))))))))), up rfl (u0 (up rfl tp)), up rfl (u0 tp), up rfl (u0 (up rfl (up rfl tp))), tp, up rfl (u0 (up rfl (up rfl (up rfl (up rfl (up rfl (up rfl (up rfl (up rfl (up rfl (up rfl hs32)))))))))))⟩ ?_
  rintro τ ⟨hs0, hs1, hs2, hs3, hs4, hs5, hs7, hs10, hs11, hs12, hs13, hs32⟩
  refine CW.seq ?_
  refine CW.region ?_
  refine RW.soft Wd.a (v := .pointer (some ⟨k1, 0, none⟩)) (by exact E.move (AF_ev rfl hs1)) ?_
  refine RW.soft Wd.a (v := .agg (bk (kc 2)).toArray) (by exact E.loadN (b := b3) (o := 0) (cs := bk (kc 2)) Try.underlying74 rfl sz74 (AF_ev rfl (up rfl hs3)) (bk_len _) (St.cellsOf hst (.there (.there (.there .here))) (fun j v hv => by rw [Nat.zero_add]; exact hv))) ?_
  have hst := hst.take (.there .here)
  refine RW.hard Wd.a ?_
  refine H.call0 Try.func43 nm43 rfl (map3 (AF_ev rfl (up rfl tp)) rfl (AF_ev rfl tp)) (Calls.mono ((show Calls Try.prog 43 #[.pointer (some ⟨k1, 0, none⟩), .int .i64 1, .agg (bk (kc 2)).toArray] w (fun e w => e = .returned (.tuple #[.int .i64 2, .int .i64 0]) ∧ St p w (KeysV 127 k1 ([(false, [Ver.mk (kc 1) 2 false, Ver.mk (kc 2) 0 false])]) :: pt b5 (.cells (bk (kc 1)).toArray 74) :: pt b4 (.cells (bk (kc 1)).toArray 74) :: pt b3 (.cells (bk (kc 2)).toArray 74) :: pt b2 (.cells (bk (kc 1)).toArray 74) :: R)) from (by
    have hm : kRotate ([(false, [Ver.mk (kc 1) 2 false])]) 1 (kc 2) = (2, 0, [(false, [Ver.mk (kc 1) 2 false, Ver.mk (kc 2) 0 false])]) := rfl
    have hq := prog_Rotate 1 (by omega) (kc 2) hst
    rw [hm] at hq; exact hq))) ?_)
  rintro _ w ⟨rfl, hst⟩
  refine ⟨_, rfl, ?_⟩
  show RW _ _ _ _ _ _ _
  refine RW.soft Wd.a (v := .tuple #[.int .i64 2, .int .i64 0]) (by exact E.move (AF_ev rfl tp)) ?_
  refine RW.soft Wd.a (v := .int .i64 2) (by exact E.extract (vs := #[.int .i64 2, .int .i64 0]) (AF_ev rfl tp) rfl) ?_
  refine RW.soft Wd.a (v := .int .i64 0) (by exact E.extract (vs := #[.int .i64 2, .int .i64 0]) (AF_ev rfl (up rfl tp)) rfl) ?_
  refine RW.soft Wd.a (v := .int .i64 2) (by exact E.assign (AF_ev rfl (up rfl tp))) ?_
  refine RW.soft Wd.a (v := .int .i64 0) (by exact E.assign (AF_ev rfl (up rfl tp))) ?_
  refine RW.fin (fun τ => τ 0 = .bool false ∧ τ 1 = .pointer (some ⟨k1, 0, none⟩) ∧ τ 2 = .pointer (some ⟨b2, 0, none⟩) ∧ τ 3 = .pointer (some ⟨b3, 0, none⟩) ∧ τ 4 = .int .i64 1 ∧ τ 5 = .int .i64 0 ∧ τ 7 = .int .i64 0 ∧ τ 10 = .int .i64 1 ∧ τ 11 = .int .i64 1 ∧ τ 12 = .pointer (some ⟨b5, 0, none⟩) ∧ τ 13 = .int .i64 0 ∧ τ 14 = .int .i64 2 ∧ τ 15 = .int .i64 0 ∧ τ 32 = .bool false) ⟨up rfl (up rfl (up rfl (up rfl (up rfl (up rfl (up rfl (up rfl hs0))))))), up rfl (up rfl (up rfl (up rfl (up rfl (up rfl (up rfl (up rfl hs1))))))), up rfl (up rfl (up rfl (up rfl (up rfl (up rfl (up rfl (up rfl hs2))))))), up rfl (up rfl (up rfl (up rfl (up rfl (up rfl (up rfl (up rfl hs3))))))), up rfl (up rfl (up rfl (up rfl (up rfl (up rfl (up rfl (up rfl hs4))))))), up rfl (up rfl (up rfl (up rfl (up rfl (up rfl (up rfl (up rfl hs5))))))), up rfl (up rfl (up rfl (up rfl (up rfl (up rfl (up rfl (up rfl hs7))))))), up rfl (up rfl (up rfl (up rfl (up rfl (up rfl (up rfl (up rfl hs10))))))), up rfl (up rfl (up rfl (up rfl (up rfl (up rfl (up rfl (up rfl hs11))))))), up rfl (up rfl (up rfl (up rfl (up rfl (up rfl (up rfl (up rfl hs12))))))), up rfl (up rfl (up rfl (up rfl (up rfl (up rfl (up rfl (up rfl hs13))))))), up rfl tp, tp, up rfl (up rfl (up rfl (up rfl (up rfl (up rfl (up rfl (up rfl hs32)))))))⟩ ?_
  rintro τ ⟨hs0, hs1, hs2, hs3, hs4, hs5, hs7, hs10, hs11, hs12, hs13, hs14, hs15, hs32⟩
  refine CW.seq ?_
  refine CW.region ?_
  refine RW.soft Wd.a (v := .pointer (some ⟨k1, 0, none⟩)) (by exact E.move (AF_ev rfl hs1)) ?_
  refine RW.hard Wd.a ?_
  refine H.call0 Try.func46 nm46 rfl (map2 (AF_ev rfl tp) rfl) (Calls.mono ((show Calls Try.prog 46 #[.pointer (some ⟨k1, 0, none⟩), .int .i64 1] w (fun e w => e = .returned (.tuple #[.int .i64 2, .int .i64 0, .agg (bk (kc 2)).toArray, .int .i64 0]) ∧ St p w (KeysV 127 k1 ([(false, [Ver.mk (kc 1) 2 false, Ver.mk (kc 2) 1 false])]) :: pt b5 (.cells (bk (kc 1)).toArray 74) :: pt b4 (.cells (bk (kc 1)).toArray 74) :: pt b3 (.cells (bk (kc 2)).toArray 74) :: pt b2 (.cells (bk (kc 1)).toArray 74) :: R)) from (by
    have hm : kUse ([(false, [Ver.mk (kc 1) 2 false, Ver.mk (kc 2) 0 false])]) 1 = (2, 0, (kc 2), 0, [(false, [Ver.mk (kc 1) 2 false, Ver.mk (kc 2) 1 false])]) := rfl
    have hq := prog_Use 1 (by omega)  hst
    rw [hm] at hq; exact hq))) ?_)
  rintro _ w ⟨rfl, hst⟩
  refine ⟨_, rfl, ?_⟩
  show RW _ _ _ _ _ _ _
  refine RW.soft Wd.a (v := .tuple #[.int .i64 2, .int .i64 0, .agg (bk (kc 2)).toArray, .int .i64 0]) (by exact E.move (AF_ev rfl tp)) ?_
  refine RW.soft Wd.a (v := .int .i64 2) (by exact E.extract (vs := #[.int .i64 2, .int .i64 0, .agg (bk (kc 2)).toArray, .int .i64 0]) (AF_ev rfl tp) rfl) ?_
  refine RW.soft Wd.a (v := .int .i64 0) (by exact E.extract (vs := #[.int .i64 2, .int .i64 0, .agg (bk (kc 2)).toArray, .int .i64 0]) (AF_ev rfl (up rfl tp)) rfl) ?_
  refine RW.soft Wd.a (v := .agg (bk (kc 2)).toArray) (by exact E.extract (vs := #[.int .i64 2, .int .i64 0, .agg (bk (kc 2)).toArray, .int .i64 0]) (AF_ev rfl (up rfl (up rfl tp))) rfl) ?_
  refine RW.soft Wd.a (v := .int .i64 0) (by exact E.extract (vs := #[.int .i64 2, .int .i64 0, .agg (bk (kc 2)).toArray, .int .i64 0]) (AF_ev rfl (up rfl (up rfl (up rfl tp)))) rfl) ?_
  refine RW.hard Wd.a ?_
  refine H.alloc zr74k hst fun b6 w hst => ?_
  refine RW.soft Wd.a (v := .int .i64 2) (by exact E.assign (AF_ev rfl (up rfl (up rfl (up rfl (up rfl tp)))))) ?_
  refine RW.soft Wd.a (v := .int .i64 0) (by exact E.assign (AF_ev rfl (up rfl (up rfl (up rfl (up rfl tp)))))) ?_
  refine RW.hard Wd.a ?_
  refine H.storeWhole (b := b6) (m := 32) (v := .agg (bk (kc 2)).toArray) (news := bk (kc 2)) (AF_ev rfl (up rfl (up rfl tp))) (AF_ev rfl (up rfl (up rfl (up rfl (up rfl tp))))) hst .here rfl (bk_len _) (by rw [List.size_toArray]; exact (bk_len _)) sz74 (bk_one _) fun w hst => ?_
  refine RW.soft Wd.a (v := .int .i64 0) (by exact E.assign (AF_ev rfl (u0 (up rfl (up rfl (up rfl tp)))))) ?_
  refine RW.fin (fun τ => τ 0 = .bool false ∧ τ 1 = .pointer (some ⟨k1, 0, none⟩) ∧ τ 2 = .pointer (some ⟨b2, 0, none⟩) ∧ τ 3 = .pointer (some ⟨b3, 0, none⟩) ∧ τ 4 = .int .i64 1 ∧ τ 5 = .int .i64 0 ∧ τ 7 = .int .i64 0 ∧ τ 10 = .int .i64 1 ∧ τ 11 = .int .i64 1 ∧ τ 12 = .pointer (some ⟨b5, 0, none⟩) ∧ τ 13 = .int .i64 0 ∧ τ 14 = .int .i64 2 ∧ τ 15 = .int .i64 0 ∧ τ 16 = .int .i64 2 ∧ τ 17 = .int .i64 0 ∧ τ 18 = .pointer (some ⟨b6, 0, none⟩) ∧ τ 19 = .int .i64 0 ∧ τ 32 = .bool false) ⟨up rfl (u0 (up rfl (up rfl (up rfl (up rfl (up rfl (up rfl (up rfl (up rfl (up rfl (up rfl hs0))))))))))), up rfl (u0 (up rfl (up rfl (up rfl (up rfl (up rfl (up rfl (up rfl (up rfl (up rfl (up rfl hs1))))))))))), up rfl (u0 (up rfl (up rfl (up rfl (up rfl (up rfl (up rfl (up rfl (up rfl (up rfl (up rfl hs2))))))))))), up rfl (u0 (up rfl (up rfl (up rfl (up rfl (up rfl (up rfl (up rfl (up rfl (up rfl (up rfl hs3))))))))))), up rfl (u0 (up rfl (up rfl (up rfl (up rfl (up rfl (up rfl (up rfl (up rfl (up rfl (up rfl hs4))))))))))), up rfl (u0 (up rfl (up rfl (up rfl (up rfl (up rfl (up rfl (up rfl (up rfl (up rfl (up rfl hs5))))))))))), up rfl (u0 (up rfl (up rfl (up rfl (up rfl (up rfl (up rfl (up rfl (up rfl (up rfl (up rfl hs7))))))))))), up rfl (u0 (up rfl (up rfl (up rfl (up rfl (up rfl (up rfl (up rfl (up rfl (up rfl (up rfl hs10))))))))))), up rfl (u0 (up rfl (up rfl (up rfl (up rfl (up rfl (up rfl (up rfl (up rfl (up rfl (up rfl hs11))))))))))), up rfl (u0 (up rfl (up rfl (up rfl (up rfl (up rfl (up rfl (up rfl (up rfl (up rfl (up rfl hs12))))))))))), up rfl (u0 (up rfl (up rfl (up rfl (up rfl (up rfl (up rfl (up rfl (up rfl (up rfl (up rfl hs13))))))))))), up rfl (u0 (up rfl (up rfl (up rfl (up rfl (up rfl (up rfl (up rfl (up rfl (up rfl (up rfl hs14))))))))))), up rfl (u0 (up rfl (up rfl (up rfl (up rfl (up rfl (up rfl (up rfl (up rfl (up rfl (up rfl hs15))))))))))), up rfl (u0 (up rfl tp)), up rfl (u0 tp), up rfl (u0 (up rfl (up rfl tp))), tp, up rfl (u0 (up rfl (up rfl (up rfl (up rfl (up rfl (up rfl (up rfl (up rfl (up rfl (up rfl hs32)))))))))))⟩ ?_
  rintro τ ⟨hs0, hs1, hs2, hs3, hs4, hs5, hs7, hs10, hs11, hs12, hs13, hs14, hs15, hs16, hs17, hs18, hs19, hs32⟩
  refine CW.seq ?_
  refine CW.region ?_
  refine RW.soft Wd.a (v := .pointer (some ⟨k1, 0, none⟩)) (by exact E.move (AF_ev rfl hs1)) ?_
  have hst := hst.take (.there .here)
  refine RW.hard Wd.a ?_
  refine H.call0 Try.func45 nm45 rfl (map3 (AF_ev rfl tp) rfl rfl) (Calls.mono ((show Calls Try.prog 45 #[.pointer (some ⟨k1, 0, none⟩), .int .i64 1, .int .i64 1] w (fun e w => e = .returned (.int .i64 0) ∧ St p w (KeysV 127 k1 ([(false, [Ver.mk kz 2 true, Ver.mk (kc 2) 1 false])]) :: pt b6 (.cells (bk (kc 2)).toArray 74) :: pt b5 (.cells (bk (kc 1)).toArray 74) :: pt b4 (.cells (bk (kc 1)).toArray 74) :: pt b3 (.cells (bk (kc 2)).toArray 74) :: pt b2 (.cells (bk (kc 1)).toArray 74) :: R)) from (by
    have hm : kDestroy ([(false, [Ver.mk (kc 1) 2 false, Ver.mk (kc 2) 1 false])]) 1 1 = (0, [(false, [Ver.mk kz 2 true, Ver.mk (kc 2) 1 false])]) := rfl
    have hq := prog_Destroy 1 1 (by omega) (by omega)  hst
    rw [hm] at hq; exact hq))) ?_)
  rintro _ w ⟨rfl, hst⟩
  refine ⟨_, rfl, ?_⟩
  show RW _ _ _ _ _ _ _
  refine RW.soft Wd.a (v := .int .i64 0) (by exact E.assign (AF_ev rfl tp)) ?_
  refine RW.fin (fun τ => τ 0 = .bool false ∧ τ 1 = .pointer (some ⟨k1, 0, none⟩) ∧ τ 2 = .pointer (some ⟨b2, 0, none⟩) ∧ τ 3 = .pointer (some ⟨b3, 0, none⟩) ∧ τ 4 = .int .i64 1 ∧ τ 5 = .int .i64 0 ∧ τ 7 = .int .i64 0 ∧ τ 10 = .int .i64 1 ∧ τ 11 = .int .i64 1 ∧ τ 12 = .pointer (some ⟨b5, 0, none⟩) ∧ τ 13 = .int .i64 0 ∧ τ 14 = .int .i64 2 ∧ τ 15 = .int .i64 0 ∧ τ 16 = .int .i64 2 ∧ τ 17 = .int .i64 0 ∧ τ 18 = .pointer (some ⟨b6, 0, none⟩) ∧ τ 19 = .int .i64 0 ∧ τ 20 = .int .i64 0 ∧ τ 32 = .bool false) ⟨up rfl (up rfl (up rfl hs0)), up rfl (up rfl (up rfl hs1)), up rfl (up rfl (up rfl hs2)), up rfl (up rfl (up rfl hs3)), up rfl (up rfl (up rfl hs4)), up rfl (up rfl (up rfl hs5)), up rfl (up rfl (up rfl hs7)), up rfl (up rfl (up rfl hs10)), up rfl (up rfl (up rfl hs11)), up rfl (up rfl (up rfl hs12)), up rfl (up rfl (up rfl hs13)), up rfl (up rfl (up rfl hs14)), up rfl (up rfl (up rfl hs15)), up rfl (up rfl (up rfl hs16)), up rfl (up rfl (up rfl hs17)), up rfl (up rfl (up rfl hs18)), up rfl (up rfl (up rfl hs19)), tp, up rfl (up rfl (up rfl hs32))⟩ ?_
  rintro τ ⟨hs0, hs1, hs2, hs3, hs4, hs5, hs7, hs10, hs11, hs12, hs13, hs14, hs15, hs16, hs17, hs18, hs19, hs20, hs32⟩
  refine CW.seq ?_
  refine CW.region ?_
  refine RW.soft Wd.a (v := .pointer (some ⟨k1, 0, none⟩)) (by exact E.move (AF_ev rfl hs1)) ?_
  refine RW.hard Wd.a ?_
  refine H.call0 Try.func47 nm47 rfl (map3 (AF_ev rfl tp) rfl rfl) (Calls.mono ((show Calls Try.prog 47 #[.pointer (some ⟨k1, 0, none⟩), .int .i64 1, .int .i64 1] w (fun e w => e = .returned (.tuple #[.agg (bk kz).toArray, .int .i64 132]) ∧ St p w (KeysV 127 k1 ([(false, [Ver.mk kz 2 true, Ver.mk (kc 2) 1 false])]) :: pt b6 (.cells (bk (kc 2)).toArray 74) :: pt b5 (.cells (bk (kc 1)).toArray 74) :: pt b4 (.cells (bk (kc 1)).toArray 74) :: pt b3 (.cells (bk (kc 2)).toArray 74) :: pt b2 (.cells (bk (kc 1)).toArray 74) :: R)) from (by
    have hm : kMat ([(false, [Ver.mk kz 2 true, Ver.mk (kc 2) 1 false])]) 1 1 = (kz, 132) := rfl
    have hq := prog_Material 1 1 (by omega) (by omega)  hst
    rw [hm] at hq; exact hq))) ?_)
  rintro _ w ⟨rfl, hst⟩
  refine ⟨_, rfl, ?_⟩
  show RW _ _ _ _ _ _ _
  refine RW.soft Wd.a (v := .tuple #[.agg (bk kz).toArray, .int .i64 132]) (by exact E.move (AF_ev rfl tp)) ?_
  refine RW.soft Wd.a (v := .agg (bk kz).toArray) (by exact E.extract (vs := #[.agg (bk kz).toArray, .int .i64 132]) (AF_ev rfl tp) rfl) ?_
  refine RW.soft Wd.a (v := .int .i64 132) (by exact E.extract (vs := #[.agg (bk kz).toArray, .int .i64 132]) (AF_ev rfl (up rfl tp)) rfl) ?_
  refine RW.hard Wd.a ?_
  refine H.alloc zr74k hst fun b7 w hst => ?_
  refine RW.hard Wd.a ?_
  refine H.storeWhole (b := b7) (m := 32) (v := .agg (bk kz).toArray) (news := bk kz) (AF_ev rfl tp) (AF_ev rfl (up rfl (up rfl tp))) hst .here rfl (bk_len _) (by rw [List.size_toArray]; exact (bk_len _)) sz74 (bk_one _) fun w hst => ?_
  refine RW.soft Wd.a (v := .int .i64 132) (by exact E.assign (AF_ev rfl (u0 (up rfl tp)))) ?_
  refine RW.fin (fun τ => τ 0 = .bool false ∧ τ 1 = .pointer (some ⟨k1, 0, none⟩) ∧ τ 2 = .pointer (some ⟨b2, 0, none⟩) ∧ τ 3 = .pointer (some ⟨b3, 0, none⟩) ∧ τ 4 = .int .i64 1 ∧ τ 5 = .int .i64 0 ∧ τ 7 = .int .i64 0 ∧ τ 10 = .int .i64 1 ∧ τ 11 = .int .i64 1 ∧ τ 12 = .pointer (some ⟨b5, 0, none⟩) ∧ τ 13 = .int .i64 0 ∧ τ 14 = .int .i64 2 ∧ τ 15 = .int .i64 0 ∧ τ 16 = .int .i64 2 ∧ τ 17 = .int .i64 0 ∧ τ 18 = .pointer (some ⟨b6, 0, none⟩) ∧ τ 19 = .int .i64 0 ∧ τ 20 = .int .i64 0 ∧ τ 22 = .int .i64 132 ∧ τ 32 = .bool false) ⟨up rfl (u0 (up rfl (up rfl (up rfl (up rfl (up rfl (up rfl hs0))))))), up rfl (u0 (up rfl (up rfl (up rfl (up rfl (up rfl (up rfl hs1))))))), up rfl (u0 (up rfl (up rfl (up rfl (up rfl (up rfl (up rfl hs2))))))), up rfl (u0 (up rfl (up rfl (up rfl (up rfl (up rfl (up rfl hs3))))))), up rfl (u0 (up rfl (up rfl (up rfl (up rfl (up rfl (up rfl hs4))))))), up rfl (u0 (up rfl (up rfl (up rfl (up rfl (up rfl (up rfl hs5))))))), up rfl (u0 (up rfl (up rfl (up rfl (up rfl (up rfl (up rfl hs7))))))), up rfl (u0 (up rfl (up rfl (up rfl (up rfl (up rfl (up rfl hs10))))))), up rfl (u0 (up rfl (up rfl (up rfl (up rfl (up rfl (up rfl hs11))))))), up rfl (u0 (up rfl (up rfl (up rfl (up rfl (up rfl (up rfl hs12))))))), up rfl (u0 (up rfl (up rfl (up rfl (up rfl (up rfl (up rfl hs13))))))), up rfl (u0 (up rfl (up rfl (up rfl (up rfl (up rfl (up rfl hs14))))))), up rfl (u0 (up rfl (up rfl (up rfl (up rfl (up rfl (up rfl hs15))))))), up rfl (u0 (up rfl (up rfl (up rfl (up rfl (up rfl (up rfl hs16))))))), up rfl (u0 (up rfl (up rfl (up rfl (up rfl (up rfl (up rfl hs17))))))), up rfl (u0 (up rfl (up rfl (up rfl (up rfl (up rfl (up rfl hs18))))))), up rfl (u0 (up rfl (up rfl (up rfl (up rfl (up rfl (up rfl hs19))))))), up rfl (u0 (up rfl (up rfl (up rfl (up rfl (up rfl (up rfl hs20))))))), tp, up rfl (u0 (up rfl (up rfl (up rfl (up rfl (up rfl (up rfl hs32)))))))⟩ ?_
  rintro τ ⟨hs0, hs1, hs2, hs3, hs4, hs5, hs7, hs10, hs11, hs12, hs13, hs14, hs15, hs16, hs17, hs18, hs19, hs20, hs22, hs32⟩
  refine CW.seq ?_
  refine CW.region ?_
  refine RW.soft Wd.a (v := .pointer (some ⟨k1, 0, none⟩)) (by exact E.move (AF_ev rfl hs1)) ?_
  have hst := hst.take (.there .here)
  refine RW.hard Wd.a ?_
  refine H.call0 Try.func47 nm47 rfl (map3 (AF_ev rfl tp) rfl rfl) (Calls.mono ((show Calls Try.prog 47 #[.pointer (some ⟨k1, 0, none⟩), .int .i64 1, .int .i64 2] w (fun e w => e = .returned (.tuple #[.agg (bk (kc 2)).toArray, .int .i64 0]) ∧ St p w (KeysV 127 k1 ([(false, [Ver.mk kz 2 true, Ver.mk (kc 2) 1 false])]) :: pt b7 (.cells (bk kz).toArray 74) :: pt b6 (.cells (bk (kc 2)).toArray 74) :: pt b5 (.cells (bk (kc 1)).toArray 74) :: pt b4 (.cells (bk (kc 1)).toArray 74) :: pt b3 (.cells (bk (kc 2)).toArray 74) :: pt b2 (.cells (bk (kc 1)).toArray 74) :: R)) from (by
    have hm : kMat ([(false, [Ver.mk kz 2 true, Ver.mk (kc 2) 1 false])]) 1 2 = ((kc 2), 0) := rfl
    have hq := prog_Material 1 2 (by omega) (by omega)  hst
    rw [hm] at hq; exact hq))) ?_)
  rintro _ w ⟨rfl, hst⟩
  refine ⟨_, rfl, ?_⟩
  show RW _ _ _ _ _ _ _
  refine RW.soft Wd.a (v := .tuple #[.agg (bk (kc 2)).toArray, .int .i64 0]) (by exact E.move (AF_ev rfl tp)) ?_
  refine RW.soft Wd.a (v := .agg (bk (kc 2)).toArray) (by exact E.extract (vs := #[.agg (bk (kc 2)).toArray, .int .i64 0]) (AF_ev rfl tp) rfl) ?_
  refine RW.soft Wd.a (v := .int .i64 0) (by exact E.extract (vs := #[.agg (bk (kc 2)).toArray, .int .i64 0]) (AF_ev rfl (up rfl tp)) rfl) ?_
  refine RW.hard Wd.a ?_
  refine H.alloc zr74k hst fun b8 w hst => ?_
  refine RW.hard Wd.a ?_
  refine H.storeWhole (b := b8) (m := 32) (v := .agg (bk (kc 2)).toArray) (news := bk (kc 2)) (AF_ev rfl tp) (AF_ev rfl (up rfl (up rfl tp))) hst .here rfl (bk_len _) (by rw [List.size_toArray]; exact (bk_len _)) sz74 (bk_one _) fun w hst => ?_
  refine RW.soft Wd.a (v := .int .i64 0) (by exact E.assign (AF_ev rfl (u0 (up rfl tp)))) ?_
  refine RW.fin (fun τ => τ 0 = .bool false ∧ τ 1 = .pointer (some ⟨k1, 0, none⟩) ∧ τ 2 = .pointer (some ⟨b2, 0, none⟩) ∧ τ 3 = .pointer (some ⟨b3, 0, none⟩) ∧ τ 4 = .int .i64 1 ∧ τ 5 = .int .i64 0 ∧ τ 7 = .int .i64 0 ∧ τ 10 = .int .i64 1 ∧ τ 11 = .int .i64 1 ∧ τ 12 = .pointer (some ⟨b5, 0, none⟩) ∧ τ 13 = .int .i64 0 ∧ τ 14 = .int .i64 2 ∧ τ 15 = .int .i64 0 ∧ τ 16 = .int .i64 2 ∧ τ 17 = .int .i64 0 ∧ τ 18 = .pointer (some ⟨b6, 0, none⟩) ∧ τ 19 = .int .i64 0 ∧ τ 20 = .int .i64 0 ∧ τ 22 = .int .i64 132 ∧ τ 23 = .pointer (some ⟨b8, 0, none⟩) ∧ τ 24 = .int .i64 0 ∧ τ 32 = .bool false) ⟨up rfl (u0 (up rfl (up rfl (up rfl (up rfl (up rfl (up rfl hs0))))))), up rfl (u0 (up rfl (up rfl (up rfl (up rfl (up rfl (up rfl hs1))))))), up rfl (u0 (up rfl (up rfl (up rfl (up rfl (up rfl (up rfl hs2))))))), up rfl (u0 (up rfl (up rfl (up rfl (up rfl (up rfl (up rfl hs3))))))), up rfl (u0 (up rfl (up rfl (up rfl (up rfl (up rfl (up rfl hs4))))))), up rfl (u0 (up rfl (up rfl (up rfl (up rfl (up rfl (up rfl hs5))))))), up rfl (u0 (up rfl (up rfl (up rfl (up rfl (up rfl (up rfl hs7))))))), up rfl (u0 (up rfl (up rfl (up rfl (up rfl (up rfl (up rfl hs10))))))), up rfl (u0 (up rfl (up rfl (up rfl (up rfl (up rfl (up rfl hs11))))))), up rfl (u0 (up rfl (up rfl (up rfl (up rfl (up rfl (up rfl hs12))))))), up rfl (u0 (up rfl (up rfl (up rfl (up rfl (up rfl (up rfl hs13))))))), up rfl (u0 (up rfl (up rfl (up rfl (up rfl (up rfl (up rfl hs14))))))), up rfl (u0 (up rfl (up rfl (up rfl (up rfl (up rfl (up rfl hs15))))))), up rfl (u0 (up rfl (up rfl (up rfl (up rfl (up rfl (up rfl hs16))))))), up rfl (u0 (up rfl (up rfl (up rfl (up rfl (up rfl (up rfl hs17))))))), up rfl (u0 (up rfl (up rfl (up rfl (up rfl (up rfl (up rfl hs18))))))), up rfl (u0 (up rfl (up rfl (up rfl (up rfl (up rfl (up rfl hs19))))))), up rfl (u0 (up rfl (up rfl (up rfl (up rfl (up rfl (up rfl hs20))))))), up rfl (u0 (up rfl (up rfl (up rfl (up rfl (up rfl (up rfl hs22))))))), up rfl (u0 tp), tp, up rfl (u0 (up rfl (up rfl (up rfl (up rfl (up rfl (up rfl hs32)))))))⟩ ?_
  rintro τ ⟨hs0, hs1, hs2, hs3, hs4, hs5, hs7, hs10, hs11, hs12, hs13, hs14, hs15, hs16, hs17, hs18, hs19, hs20, hs22, hs23, hs24, hs32⟩
  refine CW.seq ?_
  refine CW.region ?_
  refine RW.soft Wd.a (v := .pointer (some ⟨k1, 0, none⟩)) (by exact E.move (AF_ev rfl hs1)) ?_
  have hst := hst.take (.there .here)
  refine RW.hard Wd.a ?_
  refine H.call0 Try.func44 nm44 rfl (map3 (AF_ev rfl tp) rfl rfl) (Calls.mono ((show Calls Try.prog 44 #[.pointer (some ⟨k1, 0, none⟩), .int .i64 1, .bool false] w (fun e w => e = .returned (.int .i64 0) ∧ St p w (KeysV 127 k1 ([(true, [Ver.mk kz 2 true, Ver.mk (kc 2) 1 false])]) :: pt b8 (.cells (bk (kc 2)).toArray 74) :: pt b7 (.cells (bk kz).toArray 74) :: pt b6 (.cells (bk (kc 2)).toArray 74) :: pt b5 (.cells (bk (kc 1)).toArray 74) :: pt b4 (.cells (bk (kc 1)).toArray 74) :: pt b3 (.cells (bk (kc 2)).toArray 74) :: pt b2 (.cells (bk (kc 1)).toArray 74) :: R)) from (by
    have hm : kSwitch ([(false, [Ver.mk kz 2 true, Ver.mk (kc 2) 1 false])]) 1 false = (0, [(true, [Ver.mk kz 2 true, Ver.mk (kc 2) 1 false])]) := rfl
    have hq := prog_Switch 1 (by omega) false hst
    rw [hm] at hq; exact hq))) ?_)
  rintro _ w ⟨rfl, hst⟩
  refine ⟨_, rfl, ?_⟩
  show RW _ _ _ _ _ _ _
  refine RW.soft Wd.a (v := .int .i64 0) (by exact E.assign (AF_ev rfl tp)) ?_
  refine RW.fin (fun τ => τ 0 = .bool false ∧ τ 1 = .pointer (some ⟨k1, 0, none⟩) ∧ τ 2 = .pointer (some ⟨b2, 0, none⟩) ∧ τ 3 = .pointer (some ⟨b3, 0, none⟩) ∧ τ 4 = .int .i64 1 ∧ τ 5 = .int .i64 0 ∧ τ 7 = .int .i64 0 ∧ τ 10 = .int .i64 1 ∧ τ 11 = .int .i64 1 ∧ τ 12 = .pointer (some ⟨b5, 0, none⟩) ∧ τ 13 = .int .i64 0 ∧ τ 14 = .int .i64 2 ∧ τ 15 = .int .i64 0 ∧ τ 16 = .int .i64 2 ∧ τ 17 = .int .i64 0 ∧ τ 18 = .pointer (some ⟨b6, 0, none⟩) ∧ τ 19 = .int .i64 0 ∧ τ 20 = .int .i64 0 ∧ τ 22 = .int .i64 132 ∧ τ 23 = .pointer (some ⟨b8, 0, none⟩) ∧ τ 24 = .int .i64 0 ∧ τ 25 = .int .i64 0 ∧ τ 32 = .bool false) ⟨up rfl (up rfl (up rfl hs0)), up rfl (up rfl (up rfl hs1)), up rfl (up rfl (up rfl hs2)), up rfl (up rfl (up rfl hs3)), up rfl (up rfl (up rfl hs4)), up rfl (up rfl (up rfl hs5)), up rfl (up rfl (up rfl hs7)), up rfl (up rfl (up rfl hs10)), up rfl (up rfl (up rfl hs11)), up rfl (up rfl (up rfl hs12)), up rfl (up rfl (up rfl hs13)), up rfl (up rfl (up rfl hs14)), up rfl (up rfl (up rfl hs15)), up rfl (up rfl (up rfl hs16)), up rfl (up rfl (up rfl hs17)), up rfl (up rfl (up rfl hs18)), up rfl (up rfl (up rfl hs19)), up rfl (up rfl (up rfl hs20)), up rfl (up rfl (up rfl hs22)), up rfl (up rfl (up rfl hs23)), up rfl (up rfl (up rfl hs24)), tp, up rfl (up rfl (up rfl hs32))⟩ ?_
  rintro τ ⟨hs0, hs1, hs2, hs3, hs4, hs5, hs7, hs10, hs11, hs12, hs13, hs14, hs15, hs16, hs17, hs18, hs19, hs20, hs22, hs23, hs24, hs25, hs32⟩
  refine CW.seq ?_
  refine CW.region ?_
  refine RW.soft Wd.a (v := .pointer (some ⟨k1, 0, none⟩)) (by exact E.move (AF_ev rfl hs1)) ?_
  refine RW.hard Wd.a ?_
  refine H.call0 Try.func46 nm46 rfl (map2 (AF_ev rfl tp) rfl) (Calls.mono ((show Calls Try.prog 46 #[.pointer (some ⟨k1, 0, none⟩), .int .i64 1] w (fun e w => e = .returned (.tuple #[.int .i64 0, .int .i64 0, .agg (bk kz).toArray, .int .i64 131]) ∧ St p w (KeysV 127 k1 ([(true, [Ver.mk kz 2 true, Ver.mk (kc 2) 1 false])]) :: pt b8 (.cells (bk (kc 2)).toArray 74) :: pt b7 (.cells (bk kz).toArray 74) :: pt b6 (.cells (bk (kc 2)).toArray 74) :: pt b5 (.cells (bk (kc 1)).toArray 74) :: pt b4 (.cells (bk (kc 1)).toArray 74) :: pt b3 (.cells (bk (kc 2)).toArray 74) :: pt b2 (.cells (bk (kc 1)).toArray 74) :: R)) from (by
    have hm : kUse ([(true, [Ver.mk kz 2 true, Ver.mk (kc 2) 1 false])]) 1 = (0, 0, kz, 131, [(true, [Ver.mk kz 2 true, Ver.mk (kc 2) 1 false])]) := rfl
    have hq := prog_Use 1 (by omega)  hst
    rw [hm] at hq; exact hq))) ?_)
  rintro _ w ⟨rfl, hst⟩
  refine ⟨_, rfl, ?_⟩
  show RW _ _ _ _ _ _ _
  refine RW.soft Wd.a (v := .tuple #[.int .i64 0, .int .i64 0, .agg (bk kz).toArray, .int .i64 131]) (by exact E.move (AF_ev rfl tp)) ?_
  refine RW.soft Wd.a (v := .int .i64 0) (by exact E.extract (vs := #[.int .i64 0, .int .i64 0, .agg (bk kz).toArray, .int .i64 131]) (AF_ev rfl tp) rfl) ?_
  refine RW.soft Wd.a (v := .int .i64 0) (by exact E.extract (vs := #[.int .i64 0, .int .i64 0, .agg (bk kz).toArray, .int .i64 131]) (AF_ev rfl (up rfl tp)) rfl) ?_
  refine RW.soft Wd.a (v := .agg (bk kz).toArray) (by exact E.extract (vs := #[.int .i64 0, .int .i64 0, .agg (bk kz).toArray, .int .i64 131]) (AF_ev rfl (up rfl (up rfl tp))) rfl) ?_
  refine RW.soft Wd.a (v := .int .i64 131) (by exact E.extract (vs := #[.int .i64 0, .int .i64 0, .agg (bk kz).toArray, .int .i64 131]) (AF_ev rfl (up rfl (up rfl (up rfl tp)))) rfl) ?_
  refine RW.hard Wd.a ?_
  refine H.alloc zr74k hst fun b9 w hst => ?_
  refine RW.soft Wd.a (v := .int .i64 0) (by exact E.assign (AF_ev rfl (up rfl (up rfl (up rfl (up rfl tp)))))) ?_
  refine RW.soft Wd.a (v := .int .i64 0) (by exact E.assign (AF_ev rfl (up rfl (up rfl (up rfl (up rfl tp)))))) ?_
  refine RW.hard Wd.a ?_
  refine H.storeWhole (b := b9) (m := 32) (v := .agg (bk kz).toArray) (news := bk kz) (AF_ev rfl (up rfl (up rfl tp))) (AF_ev rfl (up rfl (up rfl (up rfl (up rfl tp))))) hst .here rfl (bk_len _) (by rw [List.size_toArray]; exact (bk_len _)) sz74 (bk_one _) fun w hst => ?_
  refine RW.soft Wd.a (v := .int .i64 131) (by exact E.assign (AF_ev rfl (u0 (up rfl (up rfl (up rfl tp)))))) ?_
  refine RW.fin (fun τ => τ 0 = .bool false ∧ τ 1 = .pointer (some ⟨k1, 0, none⟩) ∧ τ 2 = .pointer (some ⟨b2, 0, none⟩) ∧ τ 3 = .pointer (some ⟨b3, 0, none⟩) ∧ τ 4 = .int .i64 1 ∧ τ 5 = .int .i64 0 ∧ τ 7 = .int .i64 0 ∧ τ 10 = .int .i64 1 ∧ τ 11 = .int .i64 1 ∧ τ 12 = .pointer (some ⟨b5, 0, none⟩) ∧ τ 13 = .int .i64 0 ∧ τ 14 = .int .i64 2 ∧ τ 15 = .int .i64 0 ∧ τ 16 = .int .i64 2 ∧ τ 17 = .int .i64 0 ∧ τ 18 = .pointer (some ⟨b6, 0, none⟩) ∧ τ 19 = .int .i64 0 ∧ τ 20 = .int .i64 0 ∧ τ 22 = .int .i64 132 ∧ τ 23 = .pointer (some ⟨b8, 0, none⟩) ∧ τ 24 = .int .i64 0 ∧ τ 25 = .int .i64 0 ∧ τ 29 = .int .i64 131 ∧ τ 32 = .bool false) ⟨up rfl (u0 (up rfl (up rfl (up rfl (up rfl (up rfl (up rfl (up rfl (up rfl (up rfl (up rfl hs0))))))))))), up rfl (u0 (up rfl (up rfl (up rfl (up rfl (up rfl (up rfl (up rfl (up rfl (up rfl (up rfl hs1))))))))))), up rfl (u0 (up rfl (up rfl (up rfl (up rfl (up rfl (up rfl (up rfl (up rfl (up rfl (up rfl hs2))))))))))), up rfl (u0 (up rfl (up rfl (up rfl (up rfl (up rfl (up rfl (up rfl (up rfl (up rfl (up rfl hs3))))))))))), up rfl (u0 (up rfl (up rfl (up rfl (up rfl (up rfl (up rfl (up rfl (up rfl (up rfl (up rfl hs4))))))))))), up rfl (u0 (up rfl (up rfl (up rfl (up rfl (up rfl (up rfl (up rfl (up rfl (up rfl (up rfl hs5))))))))))), up rfl (u0 (up rfl (up rfl (up rfl (up rfl (up rfl (up rfl (up rfl (up rfl (up rfl (up rfl hs7))))))))))), up rfl (u0 (up rfl (up rfl (up rfl (up rfl (up rfl (up rfl (up rfl (up rfl (up rfl (up rfl hs10))))))))))), up rfl (u0 (up rfl (up rfl (up rfl (up rfl (up rfl (up rfl (up rfl (up rfl (up rfl (up rfl hs11))))))))))), up rfl (u0 (up rfl (up rfl (up rfl (up rfl (up rfl (up rfl (up rfl (up rfl (up rfl (up rfl hs12))))))))))), up rfl (u0 (up rfl (up rfl (up rfl (up rfl (up rfl (up rfl (up rfl (up rfl (up rfl (up rfl hs13))))))))))), up rfl (u0 (up rfl (up rfl (up rfl (up rfl (up rfl (up rfl (up rfl (up rfl (up rfl (up rfl hs14))))))))))), up rfl (u0 (up rfl (up rfl (up rfl (up rfl (up rfl (up rfl (up rfl (up rfl (up rfl (up rfl hs15))))))))))), up rfl (u0 (up rfl (up rfl (up rfl (up rfl (up rfl (up rfl (up rfl (up rfl (up rfl (up rfl hs16))))))))))), up rfl (u0 (up rfl (up rfl (up rfl (up rfl (up rfl (up rfl (up rfl (up rfl (up rfl (up rfl hs17))))))))))), up rfl (u0 (up rfl (up rfl (up rfl (up rfl (up rfl (up rfl (up rfl (up rfl (up rfl (up rfl hs18))))))))))), up rfl (u0 (up rfl (up rfl (up rfl (up rfl (up rfl (up rfl (up rfl (up rfl (up rfl (up rfl hs19))))))))))), up rfl (u0 (up rfl (up rfl (up rfl (up rfl (up rfl (up rfl (up rfl (up rfl (up rfl (up rfl hs20))))))))))), up rfl (u0 (up rfl (up rfl (up rfl (up rfl (up rfl (up rfl (up rfl (up rfl (up rfl (up rfl hs22))))))))))), up rfl (u0 (up rfl (up rfl (up rfl (up rfl (up rfl (up rfl (up rfl (up rfl (up rfl (up rfl hs23))))))))))), up rfl (u0 (up rfl (up rfl (up rfl (up rfl (up rfl (up rfl (up rfl (up rfl (up rfl (up rfl hs24))))))))))), up rfl (u0 (up rfl (up rfl (up rfl (up rfl (up rfl (up rfl (up rfl (up rfl (up rfl (up rfl hs25))))))))))), tp, up rfl (u0 (up rfl (up rfl (up rfl (up rfl (up rfl (up rfl (up rfl (up rfl (up rfl (up rfl hs32)))))))))))⟩ ?_
  rintro τ ⟨hs0, hs1, hs2, hs3, hs4, hs5, hs7, hs10, hs11, hs12, hs13, hs14, hs15, hs16, hs17, hs18, hs19, hs20, hs22, hs23, hs24, hs25, hs29, hs32⟩
  refine CW.seq ?_
  refine CW.region ?_
  refine RW.soft Wd.a (v := .int .i64 1) (by exact E.move (AF_ev rfl hs4)) ?_
  refine RW.soft Wd.a (v := .bool true) (by exact E.eql (k := .i64) (a := 1) (b := 1) (AF_ev rfl tp) rfl) ?_
  refine RW.soft Wd.a (v := .bool true) (by exact E.move (AF_ev rfl tp)) ?_
  refine RW.soft (by exact Wd.yes (x := 91) rfl (AF_ev rfl tp)) (v := .int .i64 0) (by exact E.move (AF_ev rfl (up rfl (up rfl (up rfl hs5))))) ?_
  refine RW.soft (by exact Wd.yes (x := 91) rfl (AF_ev rfl (up rfl tp))) (v := .bool true) (by exact E.eql (k := .i64) (a := 0) (b := 0) (AF_ev rfl tp) rfl) ?_
  refine RW.soft Wd.a (v := .bool true) (by exact E.pickT (AF_ev rfl (up rfl (up rfl tp))) (AF_ev rfl tp)) ?_
  refine RW.soft Wd.a (v := .bool true) (by exact E.move (AF_ev rfl tp)) ?_
  refine RW.soft (by exact Wd.yes (x := 95) rfl (AF_ev rfl tp)) (v := .int .i64 0) (by exact E.move (AF_ev rfl (up rfl (up rfl (up rfl (up rfl (up rfl (up rfl (up rfl hs7))))))))) ?_
  refine RW.soft (by exact Wd.yes (x := 95) rfl (AF_ev rfl (up rfl tp))) (v := .bool true) (by exact E.eql (k := .i64) (a := 0) (b := 0) (AF_ev rfl tp) rfl) ?_
  refine RW.soft Wd.a (v := .bool true) (by exact E.pickT (AF_ev rfl (up rfl (up rfl tp))) (AF_ev rfl tp)) ?_
  refine RW.soft Wd.a (v := .bool true) (by exact E.move (AF_ev rfl tp)) ?_
  refine RW.soft (by exact Wd.yes (x := 99) rfl (AF_ev rfl tp)) (v := .int .i64 1) (by exact E.move (AF_ev rfl (up rfl (up rfl (up rfl (up rfl (up rfl (up rfl (up rfl (up rfl (up rfl (up rfl (up rfl hs10))))))))))))) ?_
  refine RW.soft (by exact Wd.yes (x := 99) rfl (AF_ev rfl (up rfl tp))) (v := .bool true) (by exact E.eql (k := .i64) (a := 1) (b := 1) (AF_ev rfl tp) rfl) ?_
  refine RW.soft Wd.a (v := .bool true) (by exact E.pickT (AF_ev rfl (up rfl (up rfl tp))) (AF_ev rfl tp)) ?_
  refine RW.soft Wd.a (v := .bool true) (by exact E.move (AF_ev rfl tp)) ?_
  refine RW.soft (by exact Wd.yes (x := 103) rfl (AF_ev rfl tp)) (v := .int .i64 1) (by exact E.move (AF_ev rfl (up rfl (up rfl (up rfl (up rfl (up rfl (up rfl (up rfl (up rfl (up rfl (up rfl (up rfl (up rfl (up rfl (up rfl (up rfl hs11))))))))))))))))) ?_
  refine RW.soft (by exact Wd.yes (x := 103) rfl (AF_ev rfl (up rfl tp))) (v := .bool true) (by exact E.eql (k := .i64) (a := 1) (b := 1) (AF_ev rfl tp) rfl) ?_
  refine RW.soft Wd.a (v := .bool true) (by exact E.pickT (AF_ev rfl (up rfl (up rfl tp))) (AF_ev rfl tp)) ?_
  refine RW.soft Wd.a (v := .bool true) (by exact E.move (AF_ev rfl tp)) ?_
  refine RW.soft (by exact Wd.yes (x := 107) rfl (AF_ev rfl tp)) (v := .agg (bk (kc 1)).toArray) (by exact E.loadN (b := b5) (o := 0) (cs := bk (kc 1)) Try.underlying74 rfl sz74 (AF_ev rfl (up rfl (up rfl (up rfl (up rfl (up rfl (up rfl (up rfl (up rfl (up rfl (up rfl (up rfl (up rfl (up rfl (up rfl (up rfl (up rfl (up rfl (up rfl (up rfl hs12)))))))))))))))))))) (bk_len _) (St.cellsOf hst (.there (.there (.there (.there (.there .here))))) (fun j v hv => by rw [Nat.zero_add]; exact hv))) ?_
  refine RW.soft (by exact Wd.yes (x := 107) rfl (AF_ev rfl (up rfl tp))) (v := .agg (bk (kc 1)).toArray) (by exact E.loadN (b := b2) (o := 0) (cs := bk (kc 1)) Try.underlying74 rfl sz74 (AF_ev rfl (up rfl (up rfl (up rfl (up rfl (up rfl (up rfl (up rfl (up rfl (up rfl (up rfl (up rfl (up rfl (up rfl (up rfl (up rfl (up rfl (up rfl (up rfl (up rfl (up rfl hs2))))))))))))))))))))) (bk_len _) (St.cellsOf hst (.there (.there (.there (.there (.there (.there (.there (.there .here)))))))) (fun j v hv => by rw [Nat.zero_add]; exact hv))) ?_
  refine RW.soft (by exact Wd.yes (x := 107) rfl (AF_ev rfl (up rfl (up rfl tp)))) (v := .bool true) (by exact E.b (a := decide ((kc 1) = (kc 1))) (E.eql74 (a := (kc 1)) (b := (kc 1)) (AF_ev rfl (up rfl tp)) (AF_ev rfl tp)) (by simp)) ?_
  refine RW.soft Wd.a (v := .bool true) (by exact E.pickT (AF_ev rfl (up rfl (up rfl (up rfl tp)))) (AF_ev rfl tp)) ?_
  refine RW.soft Wd.a (v := .bool true) (by exact E.move (AF_ev rfl tp)) ?_
  refine RW.soft (by exact Wd.yes (x := 112) rfl (AF_ev rfl tp)) (v := .int .i64 0) (by exact E.move (AF_ev rfl (up rfl (up rfl (up rfl (up rfl (up rfl (up rfl (up rfl (up rfl (up rfl (up rfl (up rfl (up rfl (up rfl (up rfl (up rfl (up rfl (up rfl (up rfl (up rfl (up rfl (up rfl (up rfl (up rfl (up rfl hs13)))))))))))))))))))))))))) ?_
  refine RW.soft (by exact Wd.yes (x := 112) rfl (AF_ev rfl (up rfl tp))) (v := .bool true) (by exact E.eql (k := .i64) (a := 0) (b := 0) (AF_ev rfl tp) rfl) ?_
  refine RW.soft Wd.a (v := .bool true) (by exact E.pickT (AF_ev rfl (up rfl (up rfl tp))) (AF_ev rfl tp)) ?_
  refine RW.soft Wd.a (v := .bool true) (by exact E.move (AF_ev rfl tp)) ?_
  refine RW.soft (by exact Wd.yes (x := 116) rfl (AF_ev rfl tp)) (v := .int .i64 2) (by exact E.move (AF_ev rfl (up rfl (up rfl (up rfl (up rfl (up rfl (up rfl (up rfl (up rfl (up rfl (up rfl (up rfl (up rfl (up rfl (up rfl (up rfl (up rfl (up rfl (up rfl (up rfl (up rfl (up rfl (up rfl (up rfl (up rfl (up rfl (up rfl (up rfl (up rfl hs14)))))))))))))))))))))))))))))) ?_
  refine RW.soft (by exact Wd.yes (x := 116) rfl (AF_ev rfl (up rfl tp))) (v := .bool true) (by exact E.eql (k := .i64) (a := 2) (b := 2) (AF_ev rfl tp) rfl) ?_
  refine RW.soft Wd.a (v := .bool true) (by exact E.pickT (AF_ev rfl (up rfl (up rfl tp))) (AF_ev rfl tp)) ?_
  refine RW.soft Wd.a (v := .bool true) (by exact E.move (AF_ev rfl tp)) ?_
  refine RW.soft (by exact Wd.yes (x := 120) rfl (AF_ev rfl tp)) (v := .int .i64 0) (by exact E.move (AF_ev rfl (up rfl (up rfl (up rfl (up rfl (up rfl (up rfl (up rfl (up rfl (up rfl (up rfl (up rfl (up rfl (up rfl (up rfl (up rfl (up rfl (up rfl (up rfl (up rfl (up rfl (up rfl (up rfl (up rfl (up rfl (up rfl (up rfl (up rfl (up rfl (up rfl (up rfl (up rfl (up rfl hs15)))))))))))))))))))))))))))))))))) ?_
  refine RW.soft (by exact Wd.yes (x := 120) rfl (AF_ev rfl (up rfl tp))) (v := .bool true) (by exact E.eql (k := .i64) (a := 0) (b := 0) (AF_ev rfl tp) rfl) ?_
  refine RW.soft Wd.a (v := .bool true) (by exact E.pickT (AF_ev rfl (up rfl (up rfl tp))) (AF_ev rfl tp)) ?_
  refine RW.soft Wd.a (v := .bool true) (by exact E.move (AF_ev rfl tp)) ?_
  refine RW.soft (by exact Wd.yes (x := 124) rfl (AF_ev rfl tp)) (v := .int .i64 2) (by exact E.move (AF_ev rfl (up rfl (up rfl (up rfl (up rfl (up rfl (up rfl (up rfl (up rfl (up rfl (up rfl (up rfl (up rfl (up rfl (up rfl (up rfl (up rfl (up rfl (up rfl (up rfl (up rfl (up rfl (up rfl (up rfl (up rfl (up rfl (up rfl (up rfl (up rfl (up rfl (up rfl (up rfl (up rfl (up rfl (up rfl (up rfl (up rfl hs16)))))))))))))))))))))))))))))))))))))) ?_
  refine RW.soft (by exact Wd.yes (x := 124) rfl (AF_ev rfl (up rfl tp))) (v := .bool true) (by exact E.eql (k := .i64) (a := 2) (b := 2) (AF_ev rfl tp) rfl) ?_
  refine RW.soft Wd.a (v := .bool true) (by exact E.pickT (AF_ev rfl (up rfl (up rfl tp))) (AF_ev rfl tp)) ?_
  refine RW.soft Wd.a (v := .bool true) (by exact E.move (AF_ev rfl tp)) ?_
  refine RW.soft (by exact Wd.yes (x := 128) rfl (AF_ev rfl tp)) (v := .int .i64 0) (by exact E.move (AF_ev rfl (up rfl (up rfl (up rfl (up rfl (up rfl (up rfl (up rfl (up rfl (up rfl (up rfl (up rfl (up rfl (up rfl (up rfl (up rfl (up rfl (up rfl (up rfl (up rfl (up rfl (up rfl (up rfl (up rfl (up rfl (up rfl (up rfl (up rfl (up rfl (up rfl (up rfl (up rfl (up rfl (up rfl (up rfl (up rfl (up rfl (up rfl (up rfl (up rfl (up rfl hs17)))))))))))))))))))))))))))))))))))))))))) ?_
  refine RW.soft (by exact Wd.yes (x := 128) rfl (AF_ev rfl (up rfl tp))) (v := .bool true) (by exact E.eql (k := .i64) (a := 0) (b := 0) (AF_ev rfl tp) rfl) ?_
  refine RW.soft Wd.a (v := .bool true) (by exact E.pickT (AF_ev rfl (up rfl (up rfl tp))) (AF_ev rfl tp)) ?_
  refine RW.soft Wd.a (v := .bool true) (by exact E.move (AF_ev rfl tp)) ?_
  refine RW.soft (by exact Wd.yes (x := 132) rfl (AF_ev rfl tp)) (v := .agg (bk (kc 2)).toArray) (by exact E.loadN (b := b6) (o := 0) (cs := bk (kc 2)) Try.underlying74 rfl sz74 (AF_ev rfl (up rfl (up rfl (up rfl (up rfl (up rfl (up rfl (up rfl (up rfl (up rfl (up rfl (up rfl (up rfl (up rfl (up rfl (up rfl (up rfl (up rfl (up rfl (up rfl (up rfl (up rfl (up rfl (up rfl (up rfl (up rfl (up rfl (up rfl (up rfl (up rfl (up rfl (up rfl (up rfl (up rfl (up rfl (up rfl (up rfl (up rfl (up rfl (up rfl (up rfl (up rfl (up rfl (up rfl (up rfl hs18))))))))))))))))))))))))))))))))))))))))))))) (bk_len _) (St.cellsOf hst (.there (.there (.there (.there .here)))) (fun j v hv => by rw [Nat.zero_add]; exact hv))) ?_
  refine RW.soft (by exact Wd.yes (x := 132) rfl (AF_ev rfl (up rfl tp))) (v := .agg (bk (kc 2)).toArray) (by exact E.loadN (b := b3) (o := 0) (cs := bk (kc 2)) Try.underlying74 rfl sz74 (AF_ev rfl (up rfl (up rfl (up rfl (up rfl (up rfl (up rfl (up rfl (up rfl (up rfl (up rfl (up rfl (up rfl (up rfl (up rfl (up rfl (up rfl (up rfl (up rfl (up rfl (up rfl (up rfl (up rfl (up rfl (up rfl (up rfl (up rfl (up rfl (up rfl (up rfl (up rfl (up rfl (up rfl (up rfl (up rfl (up rfl (up rfl (up rfl (up rfl (up rfl (up rfl (up rfl (up rfl (up rfl (up rfl (up rfl hs3)))))))))))))))))))))))))))))))))))))))))))))) (bk_len _) (St.cellsOf hst (.there (.there (.there (.there (.there (.there (.there .here))))))) (fun j v hv => by rw [Nat.zero_add]; exact hv))) ?_
  refine RW.soft (by exact Wd.yes (x := 132) rfl (AF_ev rfl (up rfl (up rfl tp)))) (v := .bool true) (by exact E.b (a := decide ((kc 2) = (kc 2))) (E.eql74 (a := (kc 2)) (b := (kc 2)) (AF_ev rfl (up rfl tp)) (AF_ev rfl tp)) (by simp)) ?_
  refine RW.soft Wd.a (v := .bool true) (by exact E.pickT (AF_ev rfl (up rfl (up rfl (up rfl tp)))) (AF_ev rfl tp)) ?_
  refine RW.soft Wd.a (v := .bool true) (by exact E.move (AF_ev rfl tp)) ?_
  refine RW.soft (by exact Wd.yes (x := 137) rfl (AF_ev rfl tp)) (v := .int .i64 0) (by exact E.move (AF_ev rfl (up rfl (up rfl (up rfl (up rfl (up rfl (up rfl (up rfl (up rfl (up rfl (up rfl (up rfl (up rfl (up rfl (up rfl (up rfl (up rfl (up rfl (up rfl (up rfl (up rfl (up rfl (up rfl (up rfl (up rfl (up rfl (up rfl (up rfl (up rfl (up rfl (up rfl (up rfl (up rfl (up rfl (up rfl (up rfl (up rfl (up rfl (up rfl (up rfl (up rfl (up rfl (up rfl (up rfl (up rfl (up rfl (up rfl (up rfl (up rfl (up rfl hs19))))))))))))))))))))))))))))))))))))))))))))))))))) ?_
  refine RW.soft (by exact Wd.yes (x := 137) rfl (AF_ev rfl (up rfl tp))) (v := .bool true) (by exact E.eql (k := .i64) (a := 0) (b := 0) (AF_ev rfl tp) rfl) ?_
  refine RW.soft Wd.a (v := .bool true) (by exact E.pickT (AF_ev rfl (up rfl (up rfl tp))) (AF_ev rfl tp)) ?_
  refine RW.soft Wd.a (v := .bool true) (by exact E.move (AF_ev rfl tp)) ?_
  refine RW.soft (by exact Wd.yes (x := 141) rfl (AF_ev rfl tp)) (v := .int .i64 0) (by exact E.move (AF_ev rfl (up rfl (up rfl (up rfl (up rfl (up rfl (up rfl (up rfl (up rfl (up rfl (up rfl (up rfl (up rfl (up rfl (up rfl (up rfl (up rfl (up rfl (up rfl (up rfl (up rfl (up rfl (up rfl (up rfl (up rfl (up rfl (up rfl (up rfl (up rfl (up rfl (up rfl (up rfl (up rfl (up rfl (up rfl (up rfl (up rfl (up rfl (up rfl (up rfl (up rfl (up rfl (up rfl (up rfl (up rfl (up rfl (up rfl (up rfl (up rfl (up rfl (up rfl (up rfl (up rfl (up rfl hs20))))))))))))))))))))))))))))))))))))))))))))))))))))))) ?_
  refine RW.soft (by exact Wd.yes (x := 141) rfl (AF_ev rfl (up rfl tp))) (v := .bool true) (by exact E.eql (k := .i64) (a := 0) (b := 0) (AF_ev rfl tp) rfl) ?_
  refine RW.soft Wd.a (v := .bool true) (by exact E.pickT (AF_ev rfl (up rfl (up rfl tp))) (AF_ev rfl tp)) ?_
  refine RW.soft Wd.a (v := .bool true) (by exact E.move (AF_ev rfl tp)) ?_
  refine RW.soft (by exact Wd.yes (x := 145) rfl (AF_ev rfl tp)) (v := .int .i64 132) (by exact E.move (AF_ev rfl (up rfl (up rfl (up rfl (up rfl (up rfl (up rfl (up rfl (up rfl (up rfl (up rfl (up rfl (up rfl (up rfl (up rfl (up rfl (up rfl (up rfl (up rfl (up rfl (up rfl (up rfl (up rfl (up rfl (up rfl (up rfl (up rfl (up rfl (up rfl (up rfl (up rfl (up rfl (up rfl (up rfl (up rfl (up rfl (up rfl (up rfl (up rfl (up rfl (up rfl (up rfl (up rfl (up rfl (up rfl (up rfl (up rfl (up rfl (up rfl (up rfl (up rfl (up rfl (up rfl (up rfl (up rfl (up rfl (up rfl (up rfl hs22))))))))))))))))))))))))))))))))))))))))))))))))))))))))))) ?_
  refine RW.soft (by exact Wd.yes (x := 145) rfl (AF_ev rfl (up rfl tp))) (v := .bool true) (by exact E.eql (k := .i64) (a := 132) (b := 132) (AF_ev rfl tp) rfl) ?_
  refine RW.soft Wd.a (v := .bool true) (by exact E.pickT (AF_ev rfl (up rfl (up rfl tp))) (AF_ev rfl tp)) ?_
  refine RW.soft Wd.a (v := .bool true) (by exact E.move (AF_ev rfl tp)) ?_
  refine RW.soft (by exact Wd.yes (x := 149) rfl (AF_ev rfl tp)) (v := .agg (bk (kc 2)).toArray) (by exact E.loadN (b := b8) (o := 0) (cs := bk (kc 2)) Try.underlying74 rfl sz74 (AF_ev rfl (up rfl (up rfl (up rfl (up rfl (up rfl (up rfl (up rfl (up rfl (up rfl (up rfl (up rfl (up rfl (up rfl (up rfl (up rfl (up rfl (up rfl (up rfl (up rfl (up rfl (up rfl (up rfl (up rfl (up rfl (up rfl (up rfl (up rfl (up rfl (up rfl (up rfl (up rfl (up rfl (up rfl (up rfl (up rfl (up rfl (up rfl (up rfl (up rfl (up rfl (up rfl (up rfl (up rfl (up rfl (up rfl (up rfl (up rfl (up rfl (up rfl (up rfl (up rfl (up rfl (up rfl (up rfl (up rfl (up rfl (up rfl (up rfl (up rfl (up rfl (up rfl hs23)))))))))))))))))))))))))))))))))))))))))))))))))))))))))))))) (bk_len _) (St.cellsOf hst (.there (.there .here)) (fun j v hv => by rw [Nat.zero_add]; exact hv))) ?_
  refine RW.soft (by exact Wd.yes (x := 149) rfl (AF_ev rfl (up rfl tp))) (v := .agg (bk (kc 2)).toArray) (by exact E.loadN (b := b3) (o := 0) (cs := bk (kc 2)) Try.underlying74 rfl sz74 (AF_ev rfl (up rfl (up rfl (up rfl (up rfl (up rfl (up rfl (up rfl (up rfl (up rfl (up rfl (up rfl (up rfl (up rfl (up rfl (up rfl (up rfl (up rfl (up rfl (up rfl (up rfl (up rfl (up rfl (up rfl (up rfl (up rfl (up rfl (up rfl (up rfl (up rfl (up rfl (up rfl (up rfl (up rfl (up rfl (up rfl (up rfl (up rfl (up rfl (up rfl (up rfl (up rfl (up rfl (up rfl (up rfl (up rfl (up rfl (up rfl (up rfl (up rfl (up rfl (up rfl (up rfl (up rfl (up rfl (up rfl (up rfl (up rfl (up rfl (up rfl (up rfl (up rfl (up rfl hs3))))))))))))))))))))))))))))))))))))))))))))))))))))))))))))))) (bk_len _) (St.cellsOf hst (.there (.there (.there (.there (.there (.there (.there .here))))))) (fun j v hv => by rw [Nat.zero_add]; exact hv))) ?_
  refine RW.soft (by exact Wd.yes (x := 149) rfl (AF_ev rfl (up rfl (up rfl tp)))) (v := .bool true) (by exact E.b (a := decide ((kc 2) = (kc 2))) (E.eql74 (a := (kc 2)) (b := (kc 2)) (AF_ev rfl (up rfl tp)) (AF_ev rfl tp)) (by simp)) ?_
  refine RW.soft Wd.a (v := .bool true) (by exact E.pickT (AF_ev rfl (up rfl (up rfl (up rfl tp)))) (AF_ev rfl tp)) ?_
  refine RW.soft Wd.a (v := .bool true) (by exact E.move (AF_ev rfl tp)) ?_
  refine RW.soft (by exact Wd.yes (x := 154) rfl (AF_ev rfl tp)) (v := .int .i64 0) (by exact E.move (AF_ev rfl (up rfl (up rfl (up rfl (up rfl (up rfl (up rfl (up rfl (up rfl (up rfl (up rfl (up rfl (up rfl (up rfl (up rfl (up rfl (up rfl (up rfl (up rfl (up rfl (up rfl (up rfl (up rfl (up rfl (up rfl (up rfl (up rfl (up rfl (up rfl (up rfl (up rfl (up rfl (up rfl (up rfl (up rfl (up rfl (up rfl (up rfl (up rfl (up rfl (up rfl (up rfl (up rfl (up rfl (up rfl (up rfl (up rfl (up rfl (up rfl (up rfl (up rfl (up rfl (up rfl (up rfl (up rfl (up rfl (up rfl (up rfl (up rfl (up rfl (up rfl (up rfl (up rfl (up rfl (up rfl (up rfl (up rfl hs24)))))))))))))))))))))))))))))))))))))))))))))))))))))))))))))))))))) ?_
  refine RW.soft (by exact Wd.yes (x := 154) rfl (AF_ev rfl (up rfl tp))) (v := .bool true) (by exact E.eql (k := .i64) (a := 0) (b := 0) (AF_ev rfl tp) rfl) ?_
  refine RW.soft Wd.a (v := .bool true) (by exact E.pickT (AF_ev rfl (up rfl (up rfl tp))) (AF_ev rfl tp)) ?_
  refine RW.soft Wd.a (v := .bool true) (by exact E.move (AF_ev rfl tp)) ?_
  refine RW.soft (by exact Wd.yes (x := 158) rfl (AF_ev rfl tp)) (v := .int .i64 0) (by exact E.move (AF_ev rfl (up rfl (up rfl (up rfl (up rfl (up rfl (up rfl (up rfl (up rfl (up rfl (up rfl (up rfl (up rfl (up rfl (up rfl (up rfl (up rfl (up rfl (up rfl (up rfl (up rfl (up rfl (up rfl (up rfl (up rfl (up rfl (up rfl (up rfl (up rfl (up rfl (up rfl (up rfl (up rfl (up rfl (up rfl (up rfl (up rfl (up rfl (up rfl (up rfl (up rfl (up rfl (up rfl (up rfl (up rfl (up rfl (up rfl (up rfl (up rfl (up rfl (up rfl (up rfl (up rfl (up rfl (up rfl (up rfl (up rfl (up rfl (up rfl (up rfl (up rfl (up rfl (up rfl (up rfl (up rfl (up rfl (up rfl (up rfl (up rfl (up rfl (up rfl hs25)))))))))))))))))))))))))))))))))))))))))))))))))))))))))))))))))))))))) ?_
  refine RW.soft (by exact Wd.yes (x := 158) rfl (AF_ev rfl (up rfl tp))) (v := .bool true) (by exact E.eql (k := .i64) (a := 0) (b := 0) (AF_ev rfl tp) rfl) ?_
  refine RW.soft Wd.a (v := .bool true) (by exact E.pickT (AF_ev rfl (up rfl (up rfl tp))) (AF_ev rfl tp)) ?_
  refine RW.soft Wd.a (v := .bool true) (by exact E.move (AF_ev rfl tp)) ?_
  refine RW.soft (by exact Wd.yes (x := 162) rfl (AF_ev rfl tp)) (v := .int .i64 131) (by exact E.move (AF_ev rfl (up rfl (up rfl (up rfl (up rfl (up rfl (up rfl (up rfl (up rfl (up rfl (up rfl (up rfl (up rfl (up rfl (up rfl (up rfl (up rfl (up rfl (up rfl (up rfl (up rfl (up rfl (up rfl (up rfl (up rfl (up rfl (up rfl (up rfl (up rfl (up rfl (up rfl (up rfl (up rfl (up rfl (up rfl (up rfl (up rfl (up rfl (up rfl (up rfl (up rfl (up rfl (up rfl (up rfl (up rfl (up rfl (up rfl (up rfl (up rfl (up rfl (up rfl (up rfl (up rfl (up rfl (up rfl (up rfl (up rfl (up rfl (up rfl (up rfl (up rfl (up rfl (up rfl (up rfl (up rfl (up rfl (up rfl (up rfl (up rfl (up rfl (up rfl (up rfl (up rfl (up rfl (up rfl hs29)))))))))))))))))))))))))))))))))))))))))))))))))))))))))))))))))))))))))))) ?_
  refine RW.soft (by exact Wd.yes (x := 162) rfl (AF_ev rfl (up rfl tp))) (v := .bool true) (by exact E.eql (k := .i64) (a := 131) (b := 131) (AF_ev rfl tp) rfl) ?_
  refine RW.soft Wd.a (v := .bool true) (by exact E.pickT (AF_ev rfl (up rfl (up rfl tp))) (AF_ev rfl tp)) ?_
  refine RW.soft Wd.a (v := .bool true) (by exact E.assign (AF_ev rfl tp)) ?_
  refine RW.fin (fun τ => τ 0 = .bool true ∧ τ 1 = .pointer (some ⟨k1, 0, none⟩) ∧ τ 2 = .pointer (some ⟨b2, 0, none⟩) ∧ τ 3 = .pointer (some ⟨b3, 0, none⟩) ∧ τ 4 = .int .i64 1 ∧ τ 5 = .int .i64 0 ∧ τ 7 = .int .i64 0 ∧ τ 10 = .int .i64 1 ∧ τ 11 = .int .i64 1 ∧ τ 12 = .pointer (some ⟨b5, 0, none⟩) ∧ τ 13 = .int .i64 0 ∧ τ 14 = .int .i64 2 ∧ τ 15 = .int .i64 0 ∧ τ 16 = .int .i64 2 ∧ τ 17 = .int .i64 0 ∧ τ 18 = .pointer (some ⟨b6, 0, none⟩) ∧ τ 19 = .int .i64 0 ∧ τ 20 = .int .i64 0 ∧ τ 22 = .int .i64 132 ∧ τ 23 = .pointer (some ⟨b8, 0, none⟩) ∧ τ 24 = .int .i64 0 ∧ τ 25 = .int .i64 0 ∧ τ 29 = .int .i64 131 ∧ τ 32 = .bool false) ⟨tp, up rfl (up rfl (up rfl (up rfl (up rfl (up rfl (up rfl (up rfl (up rfl (up rfl (up rfl (up rfl (up rfl (up rfl (up rfl (up rfl (up rfl (up rfl (up rfl (up rfl (up rfl (up rfl (up rfl (up rfl (up rfl (up rfl (up rfl (up rfl (up rfl (up rfl (up rfl (up rfl (up rfl (up rfl (up rfl (up rfl (up rfl (up rfl (up rfl (up rfl (up rfl (up rfl (up rfl (up rfl (up rfl (up rfl (up rfl (up rfl (up rfl (up rfl (up rfl (up rfl (up rfl (up rfl (up rfl (up rfl (up rfl (up rfl (up rfl (up rfl (up rfl (up rfl (up rfl (up rfl (up rfl (up rfl (up rfl (up rfl (up rfl (up rfl (up rfl (up rfl (up rfl (up rfl (up rfl (up rfl (up rfl (up rfl hs1))))))))))))))))))))))))))))))))))))))))))))))))))))))))))))))))))))))))))))), up rfl (up rfl (up rfl (up rfl (up rfl (up rfl (up rfl (up rfl (up rfl (up rfl (up rfl (up rfl (up rfl (up rfl (up rfl (up rfl (up rfl (up rfl (up rfl (up rfl (up rfl (up rfl (up rfl (up rfl (up rfl (up rfl (up rfl (up rfl (up rfl (up rfl (up rfl (up rfl (up rfl (up rfl (up rfl (up rfl (up rfl (up rfl (up rfl (up rfl (up rfl (up rfl (up rfl (up rfl (up rfl (up rfl (up rfl (up rfl (up rfl (up rfl (up rfl (up rfl (up rfl (up rfl (up rfl (up rfl (up rfl (up rfl (up rfl (up rfl (up rfl (up rfl (up rfl (up rfl (up rfl (up rfl (up rfl (up rfl (up rfl (up rfl (up rfl (up rfl (up rfl (up rfl (up rfl (up rfl (up rfl (up rfl hs2))))))))))))))))))))))))))))))))))))))))))))))))))))))))))))))))))))))))))))), up rfl (up rfl (up rfl (up rfl (up rfl (up rfl (up rfl (up rfl (up rfl (up rfl (up rfl (up rfl (up rfl (up rfl (up rfl (up rfl (up rfl (up rfl (up rfl (up rfl (up rfl (up rfl (up rfl (up rfl (up rfl (up rfl (up rfl (up rfl (up rfl (up rfl (up rfl (up rfl (up rfl (up rfl (up rfl (up rfl (up rfl (up rfl (up rfl (up rfl (up rfl (up rfl (up rfl (up rfl (up rfl (up rfl (up rfl (up rfl (up rfl (up rfl (up rfl (up rfl (up rfl (up rfl (up rfl (up rfl (up rfl (up rfl (up rfl (up rfl (up rfl (up rfl (up rfl (up rfl (up rfl (up rfl (up rfl (up rfl (up rfl (up rfl (up rfl (up rfl (up rfl (up rfl (up rfl (up rfl (up rfl (up rfl hs3))))))))))))))))))))))))))))))))))))))))))))))))))))))))))))))))))))))))))))), up rfl (up rfl (up rfl (up rfl (up rfl (up rfl (up rfl (up rfl (up rfl (up rfl (up rfl (up rfl (up rfl (up rfl (up rfl (up rfl (up rfl (up rfl (up rfl (up rfl (up rfl (up rfl (up rfl (up rfl (up rfl (up rfl (up rfl (up rfl (up rfl (up rfl (up rfl (up rfl (up rfl (up rfl (up rfl (up rfl (up rfl (up rfl (up rfl (up rfl (up rfl (up rfl (up rfl (up rfl (up rfl (up rfl (up rfl (up rfl (up rfl (up rfl (up rfl (up rfl (up rfl (up rfl (up rfl (up rfl (up rfl (up rfl (up rfl (up rfl (up rfl (up rfl (up rfl (up rfl (up rfl (up rfl (up rfl (up rfl (up rfl (up rfl (up rfl (up rfl (up rfl (up rfl (up rfl (up rfl (up rfl (up rfl hs4))))))))))))))))))))))))))))))))))))))))))))))))))))))))))))))))))))))))))))), up rfl (up rfl (up rfl (up rfl (up rfl (up rfl (up rfl (up rfl (up rfl (up rfl (up rfl (up rfl (up rfl (up rfl (up rfl (up rfl (up rfl (up rfl (up rfl (up rfl (up rfl (up rfl (up rfl (up rfl (up rfl (up rfl (up rfl (up rfl (up rfl (up rfl (up rfl (up rfl (up rfl (up rfl (up rfl (up rfl (up rfl (up rfl (up rfl (up rfl (up rfl (up rfl (up rfl (up rfl (up rfl (up rfl (up rfl (up rfl (up rfl (up rfl (up rfl (up rfl (up rfl (up rfl (up rfl (up rfl (up rfl (up rfl (up rfl (up rfl (up rfl (up rfl (up rfl (up rfl (up rfl (up rfl (up rfl (up rfl (up rfl (up rfl (up rfl (up rfl (up rfl (up rfl (up rfl (up rfl (up rfl (up rfl hs5))))))))))))))))))))))))))))))))))))))))))))))))))))))))))))))))))))))))))))), up rfl (up rfl (up rfl (up rfl (up rfl (up rfl (up rfl (up rfl (up rfl (up rfl (up rfl (up rfl (up rfl (up rfl (up rfl (up rfl (up rfl (up rfl (up rfl (up rfl (up rfl (up rfl (up rfl (up rfl (up rfl (up rfl (up rfl (up rfl (up rfl (up rfl (up rfl (up rfl (up rfl (up rfl (up rfl (up rfl (up rfl (up rfl (up rfl (up rfl (up rfl (up rfl (up rfl (up rfl (up rfl (up rfl (up rfl (up rfl (up rfl (up rfl (up rfl (up rfl (up rfl (up rfl (up rfl (up rfl (up rfl (up rfl (up rfl (up rfl (up rfl (up rfl (up rfl (up rfl (up rfl (up rfl (up rfl (up rfl (up rfl (up rfl (up rfl (up rfl (up rfl (up rfl (up rfl (up rfl (up rfl (up rfl hs7))))))))))))))))))))))))))))))))))))))))))))))))))))))))))))))))))))))))))))), up rfl (up rfl (up rfl (up rfl (up rfl (up rfl (up rfl (up rfl (up rfl (up rfl (up rfl (up rfl (up rfl (up rfl (up rfl (up rfl (up rfl (up rfl (up rfl (up rfl (up rfl (up rfl (up rfl (up rfl (up rfl (up rfl (up rfl (up rfl (up rfl (up rfl (up rfl (up rfl (up rfl (up rfl (up rfl (up rfl (up rfl (up rfl (up rfl (up rfl (up rfl (up rfl (up rfl (up rfl (up rfl (up rfl (up rfl (up rfl (up rfl (up rfl (up rfl (up rfl (up rfl (up rfl (up rfl (up rfl (up rfl (up rfl (up rfl (up rfl (up rfl (up rfl (up rfl (up rfl (up rfl (up rfl (up rfl (up rfl (up rfl (up rfl (up rfl (up rfl (up rfl (up rfl (up rfl (up rfl (up rfl (up rfl hs10))))))))))))))))))))))))))))))))))))))))))))))))))))))))))))))))))))))))))))), up rfl (up rfl (up rfl (up rfl (up rfl (up rfl (up rfl (up rfl (up rfl (up rfl (up rfl (up rfl (up rfl (up rfl (up rfl (up rfl (up rfl (up rfl (up rfl (up rfl (up rfl (up rfl (up rfl (up rfl (up rfl (up rfl (up rfl (up rfl (up rfl (up rfl (up rfl (up rfl (up rfl (up rfl (up rfl (up rfl (up rfl (up rfl (up rfl (up rfl (up rfl (up rfl (up rfl (up rfl (up rfl (up rfl (up rfl (up rfl (up rfl (up rfl (up rfl (up rfl (up rfl (up rfl (up rfl (up rfl (up rfl (up rfl (up rfl (up rfl (up rfl (up rfl (up rfl (up rfl (up rfl (up rfl (up rfl (up rfl (up rfl (up rfl (up rfl (up rfl (up rfl (up rfl (up rfl (up rfl (up rfl (up rfl hs11))))))))))))))))))))))))))))))))))))))))))))))))))))))))))))))))))))))))))))), up rfl (up rfl (up rfl (up rfl (up rfl (up rfl (up rfl (up rfl (up rfl (up rfl (up rfl (up rfl (up rfl (up rfl (up rfl (up rfl (up rfl (up rfl (up rfl (up rfl (up rfl (up rfl (up rfl (up rfl (up rfl (up rfl (up rfl (up rfl (up rfl (up rfl (up rfl (up rfl (up rfl (up rfl (up rfl (up rfl (up rfl (up rfl (up rfl (up rfl (up rfl (up rfl (up rfl (up rfl (up rfl (up rfl (up rfl (up rfl (up rfl (up rfl (up rfl (up rfl (up rfl (up rfl (up rfl (up rfl (up rfl (up rfl (up rfl (up rfl (up rfl (up rfl (up rfl (up rfl (up rfl (up rfl (up rfl (up rfl (up rfl (up rfl (up rfl (up rfl (up rfl (up rfl (up rfl (up rfl (up rfl (up rfl hs12))))))))))))))))))))))))))))))))))))))))))))))))))))))))))))))))))))))))))))), up rfl (up rfl (up rfl (up rfl (up rfl (up rfl (up rfl (up rfl (up rfl (up rfl (up rfl (up rfl (up rfl (up rfl (up rfl (up rfl (up rfl (up rfl (up rfl (up rfl (up rfl (up rfl (up rfl (up rfl (up rfl (up rfl (up rfl (up rfl (up rfl (up rfl (up rfl (up rfl (up rfl (up rfl (up rfl (up rfl (up rfl (up rfl (up rfl (up rfl (up rfl (up rfl (up rfl (up rfl (up rfl (up rfl (up rfl (up rfl (up rfl (up rfl (up rfl (up rfl (up rfl (up rfl (up rfl (up rfl (up rfl (up rfl (up rfl (up rfl (up rfl (up rfl (up rfl (up rfl (up rfl (up rfl (up rfl (up rfl (up rfl (up rfl (up rfl (up rfl (up rfl (up rfl (up rfl (up rfl (up rfl (up rfl hs13))))))))))))))))))))))))))))))))))))))))))))))))))))))))))))))))))))))))))))), up rfl (up rfl (up rfl (up rfl (up rfl (up rfl (up rfl (up rfl (up rfl (up rfl (up rfl (up rfl (up rfl (up rfl (up rfl (up rfl (up rfl (up rfl (up rfl (up rfl (up rfl (up rfl (up rfl (up rfl (up rfl (up rfl (up rfl (up rfl (up rfl (up rfl (up rfl (up rfl (up rfl (up rfl (up rfl (up rfl (up rfl (up rfl (up rfl (up rfl (up rfl (up rfl (up rfl (up rfl (up rfl (up rfl (up rfl (up rfl (up rfl (up rfl (up rfl (up rfl (up rfl (up rfl (up rfl (up rfl (up rfl (up rfl (up rfl (up rfl (up rfl (up rfl (up rfl (up rfl (up rfl (up rfl (up rfl (up rfl (up rfl (up rfl (up rfl (up rfl (up rfl (up rfl (up rfl (up rfl (up rfl (up rfl hs14))))))))))))))))))))))))))))))))))))))))))))))))))))))))))))))))))))))))))))), up rfl (up rfl (up rfl (up rfl (up rfl (up rfl (up rfl (up rfl (up rfl (up rfl (up rfl (up rfl (up rfl (up rfl (up rfl (up rfl (up rfl (up rfl (up rfl (up rfl (up rfl (up rfl (up rfl (up rfl (up rfl (up rfl (up rfl (up rfl (up rfl (up rfl (up rfl (up rfl (up rfl (up rfl (up rfl (up rfl (up rfl (up rfl (up rfl (up rfl (up rfl (up rfl (up rfl (up rfl (up rfl (up rfl (up rfl (up rfl (up rfl (up rfl (up rfl (up rfl (up rfl (up rfl (up rfl (up rfl (up rfl (up rfl (up rfl (up rfl (up rfl (up rfl (up rfl (up rfl (up rfl (up rfl (up rfl (up rfl (up rfl (up rfl (up rfl (up rfl (up rfl (up rfl (up rfl (up rfl (up rfl (up rfl hs15))))))))))))))))))))))))))))))))))))))))))))))))))))))))))))))))))))))))))))), up rfl (up rfl (up rfl (up rfl (up rfl (up rfl (up rfl (up rfl (up rfl (up rfl (up rfl (up rfl (up rfl (up rfl (up rfl (up rfl (up rfl (up rfl (up rfl (up rfl (up rfl (up rfl (up rfl (up rfl (up rfl (up rfl (up rfl (up rfl (up rfl (up rfl (up rfl (up rfl (up rfl (up rfl (up rfl (up rfl (up rfl (up rfl (up rfl (up rfl (up rfl (up rfl (up rfl (up rfl (up rfl (up rfl (up rfl (up rfl (up rfl (up rfl (up rfl (up rfl (up rfl (up rfl (up rfl (up rfl (up rfl (up rfl (up rfl (up rfl (up rfl (up rfl (up rfl (up rfl (up rfl (up rfl (up rfl (up rfl (up rfl (up rfl (up rfl (up rfl (up rfl (up rfl (up rfl (up rfl (up rfl (up rfl hs16))))))))))))))))))))))))))))))))))))))))))))))))))))))))))))))))))))))))))))), up rfl (up rfl (up rfl (up rfl (up rfl (up rfl (up rfl (up rfl (up rfl (up rfl (up rfl (up rfl (up rfl (up rfl (up rfl (up rfl (up rfl (up rfl (up rfl (up rfl (up rfl (up rfl (up rfl (up rfl (up rfl (up rfl (up rfl (up rfl (up rfl (up rfl (up rfl (up rfl (up rfl (up rfl (up rfl (up rfl (up rfl (up rfl (up rfl (up rfl (up rfl (up rfl (up rfl (up rfl (up rfl (up rfl (up rfl (up rfl (up rfl (up rfl (up rfl (up rfl (up rfl (up rfl (up rfl (up rfl (up rfl (up rfl (up rfl (up rfl (up rfl (up rfl (up rfl (up rfl (up rfl (up rfl (up rfl (up rfl (up rfl (up rfl (up rfl (up rfl (up rfl (up rfl (up rfl (up rfl (up rfl (up rfl hs17))))))))))))))))))))))))))))))))))))))))))))))))))))))))))))))))))))))))))))), up rfl (up rfl (up rfl (up rfl (up rfl (up rfl (up rfl (up rfl (up rfl (up rfl (up rfl (up rfl (up rfl (up rfl (up rfl (up rfl (up rfl (up rfl (up rfl (up rfl (up rfl (up rfl (up rfl (up rfl (up rfl (up rfl (up rfl (up rfl (up rfl (up rfl (up rfl (up rfl (up rfl (up rfl (up rfl (up rfl (up rfl (up rfl (up rfl (up rfl (up rfl (up rfl (up rfl (up rfl (up rfl (up rfl (up rfl (up rfl (up rfl (up rfl (up rfl (up rfl (up rfl (up rfl (up rfl (up rfl (up rfl (up rfl (up rfl (up rfl (up rfl (up rfl (up rfl (up rfl (up rfl (up rfl (up rfl (up rfl (up rfl (up rfl (up rfl (up rfl (up rfl (up rfl (up rfl (up rfl (up rfl (up rfl hs18))))))))))))))))))))))))))))))))))))))))))))))))))))))))))))))))))))))))))))), up rfl (up rfl (up rfl (up rfl (up rfl (up rfl (up rfl (up rfl (up rfl (up rfl (up rfl (up rfl (up rfl (up rfl (up rfl (up rfl (up rfl (up rfl (up rfl (up rfl (up rfl (up rfl (up rfl (up rfl (up rfl (up rfl (up rfl (up rfl (up rfl (up rfl (up rfl (up rfl (up rfl (up rfl (up rfl (up rfl (up rfl (up rfl (up rfl (up rfl (up rfl (up rfl (up rfl (up rfl (up rfl (up rfl (up rfl (up rfl (up rfl (up rfl (up rfl (up rfl (up rfl (up rfl (up rfl (up rfl (up rfl (up rfl (up rfl (up rfl (up rfl (up rfl (up rfl (up rfl (up rfl (up rfl (up rfl (up rfl (up rfl (up rfl (up rfl (up rfl (up rfl (up rfl (up rfl (up rfl (up rfl (up rfl hs19))))))))))))))))))))))))))))))))))))))))))))))))))))))))))))))))))))))))))))), up rfl (up rfl (up rfl (up rfl (up rfl (up rfl (up rfl (up rfl (up rfl (up rfl (up rfl (up rfl (up rfl (up rfl (up rfl (up rfl (up rfl (up rfl (up rfl (up rfl (up rfl (up rfl (up rfl (up rfl (up rfl (up rfl (up rfl (up rfl (up rfl (up rfl (up rfl (up rfl (up rfl (up rfl (up rfl (up rfl (up rfl (up rfl (up rfl (up rfl (up rfl (up rfl (up rfl (up rfl (up rfl (up rfl (up rfl (up rfl (up rfl (up rfl (up rfl (up rfl (up rfl (up rfl (up rfl (up rfl (up rfl (up rfl (up rfl (up rfl (up rfl (up rfl (up rfl (up rfl (up rfl (up rfl (up rfl (up rfl (up rfl (up rfl (up rfl (up rfl (up rfl (up rfl (up rfl (up rfl (up rfl (up rfl hs20))))))))))))))))))))))))))))))))))))))))))))))))))))))))))))))))))))))))))))), up rfl (up rfl (up rfl (up rfl (up rfl (up rfl (up rfl (up rfl (up rfl (up rfl (up rfl (up rfl (up rfl (up rfl (up rfl (up rfl (up rfl (up rfl (up rfl (up rfl (up rfl (up rfl (up rfl (up rfl (up rfl (up rfl (up rfl (up rfl (up rfl (up rfl (up rfl (up rfl (up rfl (up rfl (up rfl (up rfl (up rfl (up rfl (up rfl (up rfl (up rfl (up rfl (up rfl (up rfl (up rfl (up rfl (up rfl (up rfl (up rfl (up rfl (up rfl (up rfl (up rfl (up rfl (up rfl (up rfl (up rfl (up rfl (up rfl (up rfl (up rfl (up rfl (up rfl (up rfl (up rfl (up rfl (up rfl (up rfl (up rfl (up rfl (up rfl (up rfl (up rfl (up rfl (up rfl (up rfl (up rfl (up rfl hs22))))))))))))))))))))))))))))))))))))))))))))))))))))))))))))))))))))))))))))), up rfl (up rfl (up rfl (up rfl (up rfl (up rfl (up rfl (up rfl (up rfl (up rfl (up rfl (up rfl (up rfl (up rfl (up rfl (up rfl (up rfl (up rfl (up rfl (up rfl (up rfl (up rfl (up rfl (up rfl (up rfl (up rfl (up rfl (up rfl (up rfl (up rfl (up rfl (up rfl (up rfl (up rfl (up rfl (up rfl (up rfl (up rfl (up rfl (up rfl (up rfl (up rfl (up rfl (up rfl (up rfl (up rfl (up rfl (up rfl (up rfl (up rfl (up rfl (up rfl (up rfl (up rfl (up rfl (up rfl (up rfl (up rfl (up rfl (up rfl (up rfl (up rfl (up rfl (up rfl (up rfl (up rfl (up rfl (up rfl (up rfl (up rfl (up rfl (up rfl (up rfl (up rfl (up rfl (up rfl (up rfl (up rfl hs23))))))))))))))))))))))))))))))))))))))))))))))))))))))))))))))))))))))))))))), up rfl (up rfl (up rfl (up rfl (up rfl (up rfl (up rfl (up rfl (up rfl (up rfl (up rfl (up rfl (up rfl (up rfl (up rfl (up rfl (up rfl (up rfl (up rfl (up rfl (up rfl (up rfl (up rfl (up rfl (up rfl (up rfl (up rfl (up rfl (up rfl (up rfl (up rfl (up rfl (up rfl (up rfl (up rfl (up rfl (up rfl (up rfl (up rfl (up rfl (up rfl (up rfl (up rfl (up rfl (up rfl (up rfl (up rfl (up rfl (up rfl (up rfl (up rfl (up rfl (up rfl (up rfl (up rfl (up rfl (up rfl (up rfl (up rfl (up rfl (up rfl (up rfl (up rfl (up rfl (up rfl (up rfl (up rfl (up rfl (up rfl (up rfl (up rfl (up rfl (up rfl (up rfl (up rfl (up rfl (up rfl (up rfl hs24))))))))))))))))))))))))))))))))))))))))))))))))))))))))))))))))))))))))))))), up rfl (up rfl (up rfl (up rfl (up rfl (up rfl (up rfl (up rfl (up rfl (up rfl (up rfl (up rfl (up rfl (up rfl (up rfl (up rfl (up rfl (up rfl (up rfl (up rfl (up rfl (up rfl (up rfl (up rfl (up rfl (up rfl (up rfl (up rfl (up rfl (up rfl (up rfl (up rfl (up rfl (up rfl (up rfl (up rfl (up rfl (up rfl (up rfl (up rfl (up rfl (up rfl (up rfl (up rfl (up rfl (up rfl (up rfl (up rfl (up rfl (up rfl (up rfl (up rfl (up rfl (up rfl (up rfl (up rfl (up rfl (up rfl (up rfl (up rfl (up rfl (up rfl (up rfl (up rfl (up rfl (up rfl (up rfl (up rfl (up rfl (up rfl (up rfl (up rfl (up rfl (up rfl (up rfl (up rfl (up rfl (up rfl hs25))))))))))))))))))))))))))))))))))))))))))))))))))))))))))))))))))))))))))))), up rfl (up rfl (up rfl (up rfl (up rfl (up rfl (up rfl (up rfl (up rfl (up rfl (up rfl (up rfl (up rfl (up rfl (up rfl (up rfl (up rfl (up rfl (up rfl (up rfl (up rfl (up rfl (up rfl (up rfl (up rfl (up rfl (up rfl (up rfl (up rfl (up rfl (up rfl (up rfl (up rfl (up rfl (up rfl (up rfl (up rfl (up rfl (up rfl (up rfl (up rfl (up rfl (up rfl (up rfl (up rfl (up rfl (up rfl (up rfl (up rfl (up rfl (up rfl (up rfl (up rfl (up rfl (up rfl (up rfl (up rfl (up rfl (up rfl (up rfl (up rfl (up rfl (up rfl (up rfl (up rfl (up rfl (up rfl (up rfl (up rfl (up rfl (up rfl (up rfl (up rfl (up rfl (up rfl (up rfl (up rfl (up rfl hs29))))))))))))))))))))))))))))))))))))))))))))))))))))))))))))))))))))))))))))), up rfl (up rfl (up rfl (up rfl (up rfl (up rfl (up rfl (up rfl (up rfl (up rfl (up rfl (up rfl (up rfl (up rfl (up rfl (up rfl (up rfl (up rfl (up rfl (up rfl (up rfl (up rfl (up rfl (up rfl (up rfl (up rfl (up rfl (up rfl (up rfl (up rfl (up rfl (up rfl (up rfl (up rfl (up rfl (up rfl (up rfl (up rfl (up rfl (up rfl (up rfl (up rfl (up rfl (up rfl (up rfl (up rfl (up rfl (up rfl (up rfl (up rfl (up rfl (up rfl (up rfl (up rfl (up rfl (up rfl (up rfl (up rfl (up rfl (up rfl (up rfl (up rfl (up rfl (up rfl (up rfl (up rfl (up rfl (up rfl (up rfl (up rfl (up rfl (up rfl (up rfl (up rfl (up rfl (up rfl (up rfl (up rfl hs32)))))))))))))))))))))))))))))))))))))))))))))))))))))))))))))))))))))))))))))⟩ ?_
  rintro τ ⟨hs0, hs1, hs2, hs3, hs4, hs5, hs7, hs10, hs11, hs12, hs13, hs14, hs15, hs16, hs17, hs18, hs19, hs20, hs22, hs23, hs24, hs25, hs29, hs32⟩
  refine CW.ret ?_
  refine ret1 (v := .bool true) rfl (by exact (.tmp (AF_ev rfl hs0) .nil)) ?_
  have hst := (hst.take .here).drop
  have hst := (hst.take .here).drop
  have hst := (hst.take .here).drop
  have hst := (hst.take .here).drop
  have hst := (hst.take .here).drop
  have hst := (hst.take .here).drop
  have hst := (hst.take .here).drop
  have hst := (hst.take .here).drop
  have hst := (hst.take .here).drop
  exact ⟨rfl, hst⟩
end Go.Proofs.Ytdlcjoonhojpfaa
