/- The calls of the package keyring, walked through operation by operation. -/
import Derived.Test.YtdlcjoonhojpfaaK14
import Derived.Test.YtdlcjoonhojpfaaK13
import Derived.Test.YtdlcjoonhojpfaaK12
import Derived.Test.YtdlcjoonhojpfaaK11
import Derived.Test.YtdlcjoonhojpfaaK10
import Derived.Test.YtdlcjoonhojpfaaK9
import Derived.Test.YtdlcjoonhojpfaaK8
import Derived.Test.YtdlcjoonhojpfaaK7
import Derived.Test.YtdlcjoonhojpfaaK6
import Derived.Test.YtdlcjoonhojpfaaK5
import Derived.Test.YtdlcjoonhojpfaaK4
import Derived.Test.YtdlcjoonhojpfaaK3
namespace Go.Proofs.Ytdlcjoonhojpfaa
open Go.RowKit Go.SL Go.K13
attribute [local irreducible] Go.SL.RW Go.SL.CW Go.SL.RD Go.SL.Hd Go.SL.St
set_option linter.unusedVariables false
set_option linter.unusedSimpArgs false

theorem nm38 : (Try.f38.name == "runtime.NumGoroutine") = false := by kernel_rfl
theorem nm40 : (Try.f40.name == "runtime.NumGoroutine") = false := by kernel_rfl
theorem nm48 : (Try.f48.name == "runtime.NumGoroutine") = false := by kernel_rfl
theorem nm49 : (Try.f49.name == "runtime.NumGoroutine") = false := by kernel_rfl
theorem nm50 : (Try.f50.name == "runtime.NumGoroutine") = false := by kernel_rfl
theorem sz76 : (Try.prog.info? 76).map (·.size) = some 35 := by kernel_rfl

theorem plays_walk {p : Pers} {w : World} {R : List Assn} {X : Option Addr} {c : Nat} {l : List OpM} (hlm : l.length ≤ 9223372036854775807) (hO : Las p 35 (.slice X l.length c) l.length (l.flatMap OpM.enc)) (hK : ∀ o ∈ l, o.Ok) (hst : St p w (R)) :
    Calls Try.prog 12 #[.slice X l.length c] w fun e w => e = .returned (.bool true) ∧ St p w R := by
  refine enter Try.func12 rfl (by simp) (n := 112) rfl fun τ hτ => ?_
  have hs0 : τ 0 = .slice X l.length c := hτ 0 (by simp)
  clear hτ
  refine CW.seq ?_
  refine CW.region ?_
  refine RW.soft Wd.a (v := .bool false) (by exact E.assign rfl) ?_
  refine RW.fin (fun τ => τ 0 = .slice X l.length c ∧ τ 2 = .bool false) ⟨up rfl hs0, tp⟩ ?_
  rintro τ ⟨hs0, hs2⟩
  refine CW.seq ?_
  refine CW.region ?_
  refine RW.hard Wd.a ?_
  refine H.call0 Try.func38 nm38 rfl map0 (Calls.mono (shown13 hst) ?_)
  rintro _ w ⟨rfl, hst⟩
  refine ⟨_, rfl, ?_⟩
  show RW _ _ _ _ _ _ _
  refine RW.soft Wd.a (v := .bool true) (by exact E.assign (AF_ev rfl tp)) ?_
  refine RW.fin (fun τ => τ 0 = .slice X l.length c ∧ τ 2 = .bool false ∧ τ 3 = .bool true) ⟨up rfl (up rfl hs0), up rfl (up rfl hs2), tp⟩ ?_
  rintro τ ⟨hs0, hs2, hs3⟩
  refine CW.seq ?_
  refine CW.region ?_
  refine RW.hard Wd.a ?_
  refine H.call0 Try.func39 nm39 rfl map0 (Calls.mono (prog_New hst) ?_)
  rintro _ w ⟨k1, rfl, hst⟩
  refine ⟨_, rfl, ?_⟩
  show RW _ _ _ _ _ _ _
  refine RW.soft Wd.a (v := .pointer (some ⟨k1, 0, none⟩)) (by exact E.assign (AF_ev rfl tp)) ?_
  refine RW.fin (fun τ => τ 0 = .slice X l.length c ∧ τ 2 = .bool false ∧ τ 3 = .bool true ∧ τ 4 = .pointer (some ⟨k1, 0, none⟩)) ⟨up rfl (up rfl hs0), up rfl (up rfl hs2), up rfl (up rfl hs3), tp⟩ ?_
  rintro τ ⟨hs0, hs2, hs3, hs4⟩
  refine CW.seq ?_
  refine CW.region ?_
  refine RW.soft Wd.a (v := .agg #[.slice none 0 0]) (by exact E.build (vs := #[]) (by simp) (by kernel_rfl)) ?_
  refine RW.hard Wd.a ?_
  refine H.box (v := .agg #[.slice none 0 0]) (AF_ev rfl tp) hst fun b2 w hst => ?_
  refine RW.soft Wd.a (v := .pointer (some ⟨b2, 0, none⟩)) (by exact E.assign (AF_ev rfl tp)) ?_
  refine RW.fin (fun τ => τ 0 = .slice X l.length c ∧ τ 2 = .bool false ∧ τ 3 = .bool true ∧ τ 4 = .pointer (some ⟨k1, 0, none⟩) ∧ τ 5 = .pointer (some ⟨b2, 0, none⟩)) ⟨up rfl (up rfl (up rfl hs0)), up rfl (up rfl (up rfl hs2)), up rfl (up rfl (up rfl hs3)), up rfl (up rfl (up rfl hs4)), tp⟩ ?_
  rintro τ ⟨hs0, hs2, hs3, hs4, hs5⟩
  refine CW.seq ?_
  refine CW.seq ?_
  have hst := keysNew hst
  refine CW.region ?_
  refine RW.soft Wd.a (v := .bool true) (by exact E.move (AF_ev rfl hs3)) ?_
  refine RW.soft Wd.a (v := .bool false) (by exact E.not (b := true) (AF_ev rfl tp)) ?_
  refine RW.soft Wd.a (v := .bool false) (by exact E.move (AF_ev rfl tp)) ?_
  refine RW.soft (by exact Wd.yes (x := 19) rfl (AF_ev rfl tp)) (v := .pointer (some ⟨k1, 0, none⟩)) (by exact E.move (AF_ev rfl (up rfl (up rfl (up rfl hs4))))) ?_
  refine RW.soft (by exact Wd.yes (x := 19) rfl (AF_ev rfl (up rfl tp))) (v := .bool false) (by exact E.eqlP (p := (some ⟨k1, 0, none⟩)) Try.underlying69 (AF_ev rfl tp) rfl) ?_
  refine RW.soft Wd.a (v := .bool false) (by exact E.pickF (AF_ev rfl (up rfl (up rfl tp))) (AF_ev rfl tp)) ?_
  refine RW.fin (fun τ => τ 0 = .slice X l.length c ∧ τ 2 = .bool false ∧ τ 3 = .bool true ∧ τ 4 = .pointer (some ⟨k1, 0, none⟩) ∧ τ 5 = .pointer (some ⟨b2, 0, none⟩) ∧ τ 22 = .bool false) ⟨up rfl (up rfl (up rfl (up rfl (up rfl (up rfl hs0))))), up rfl (up rfl (up rfl (up rfl (up rfl (up rfl hs2))))), up rfl (up rfl (up rfl (up rfl (up rfl (up rfl hs3))))), up rfl (up rfl (up rfl (up rfl (up rfl (up rfl hs4))))), up rfl (up rfl (up rfl (up rfl (up rfl (up rfl hs5))))), tp⟩ ?_
  rintro τ ⟨hs0, hs2, hs3, hs4, hs5, hs22⟩
  refine CW.condF (AF_ev rfl hs22) ?_
  refine CW.skip ?_
  refine Th.n ?_
  refine CW.seq ?_
  refine CW.seq ?_
  refine CW.region ?_
  refine RW.soft Wd.a (v := .int .i64 0) (by exact E.assign rfl) ?_
  refine RW.fin (fun τ => τ 0 = .slice X l.length c ∧ τ 2 = .bool false ∧ τ 3 = .bool true ∧ τ 4 = .pointer (some ⟨k1, 0, none⟩) ∧ τ 5 = .pointer (some ⟨b2, 0, none⟩) ∧ τ 6 = .int .i64 0 ∧ τ 22 = .bool false) ⟨up rfl hs0, up rfl hs2, up rfl hs3, up rfl hs4, up rfl hs5, tp, up rfl hs22⟩ ?_
  rintro τ ⟨hs0, hs2, hs3, hs4, hs5, hs6, hs22⟩
  refine CW.block ?_
  have hst := hst.take (.there .here)
  refine CW.loop (fun (k : Nat) (τ : Fr) (w : World) => ∃ (i kb : Nat) (ks : RK), i ≤ l.length ∧ k = l.length - i ∧ τ 0 = .slice X l.length c ∧ τ 4 = .pointer (some ⟨kb, 0, none⟩) ∧ τ 5 = .pointer (some ⟨b2, 0, none⟩) ∧ τ 6 = .int .i64 ((i : Nat) : Int) ∧ St p w (KeysV 127 kb ks :: KeysV 96 b2 ks :: R)) (l.length - 0) ⟨0, k1, [], by omega, rfl, hs0, hs4, hs5, (int_eq (a := 0) hs6 (by omega)), hst⟩ ?_
  clear hst
  rintro k τ w ⟨i, kb, ks, hi, hki, hs0, hs4, hs5, hs6, hst⟩
  refine CW.seq ?_
  refine CW.seq ?_
  refine CW.cut (fun τ => τ 0 = .slice X l.length c ∧ τ 4 = .pointer (some ⟨kb, 0, none⟩) ∧ τ 5 = .pointer (some ⟨b2, 0, none⟩) ∧ τ 6 = .int .i64 ((i : Nat) : Int) ∧ τ 30 = .bool ((decide (((i : Nat) : Int) < ((l.length : Nat) : Int))) && (decide (((i : Nat) : Int) < 150)))) ?_ ?_
  · refine CW.region ?_
    refine RW.soft Wd.a (v := .int .i64 ((i : Nat) : Int)) (by exact E.move (AF_ev rfl hs6)) ?_
    refine RW.soft Wd.a (v := .slice X l.length c) (by exact E.move (AF_ev rfl (up rfl hs0))) ?_
    refine RW.soft Wd.a (v := .int .i64 ((l.length : Nat) : Int)) (by exact E.lenS (p := X) (l := l.length) (c := c) Try.underlying68 (AF_ev rfl tp)) ?_
    refine RW.soft Wd.a (v := .bool (decide (((i : Nat) : Int) < ((l.length : Nat) : Int)))) (by exact E.lss (k := .i64) (a := ((i : Nat) : Int)) (b := ((l.length : Nat) : Int)) (AF_ev rfl (up rfl (up rfl tp))) (AF_ev rfl tp)) ?_
    refine RW.soft Wd.a (v := .bool (decide (((i : Nat) : Int) < ((l.length : Nat) : Int)))) (by exact E.move (AF_ev rfl tp)) ?_
    refine Or.elim (Bool.eq_false_or_eq_true (decide (((i : Nat) : Int) < ((l.length : Nat) : Int)))) (fun hg3 => ?_) (fun hg3 => ?_)
    · have hg3_ := hg3
      try simp only [decide_eq_true_eq, decide_eq_false_iff_not, Bool.and_eq_true, Bool.or_eq_true, Bool.and_eq_false_iff, Bool.or_eq_false_iff, Bool.not_eq_true', Bool.not_eq_false', beq_iff_eq, beq_eq_false_iff_ne, bne_iff_ne, bne_eq_false_iff_eq, ne_eq, Int.not_lt, Int.not_le, gt_iff_lt, ge_iff_le] at hg3_
      refine RW.soft (by exact Wd.yes (x := 27) rfl (AF_ev rfl (Eq.trans tp (congrArg Value.bool hg3)))) (v := .int .i64 ((i : Nat) : Int)) (by exact E.move (AF_ev rfl (up rfl (up rfl (up rfl (up rfl (up rfl hs6))))))) ?_
      refine RW.soft (by exact Wd.yes (x := 27) rfl (AF_ev rfl (up rfl (Eq.trans tp (congrArg Value.bool hg3))))) (v := .bool (decide (((i : Nat) : Int) < 150))) (by exact E.lss (k := .i64) (a := ((i : Nat) : Int)) (b := 150) (AF_ev rfl tp) rfl) ?_
      refine RW.soft Wd.a (v := .bool (decide (((i : Nat) : Int) < 150))) (by exact E.pickT (AF_ev rfl (up rfl (up rfl (Eq.trans tp (congrArg Value.bool hg3))))) (AF_ev rfl tp)) ?_
      refine RW.nil ⟨rfl, rfl, up rfl (up rfl (up rfl (up rfl (up rfl (up rfl (up rfl (up rfl hs0))))))), up rfl (up rfl (up rfl (up rfl (up rfl (up rfl (up rfl (up rfl hs4))))))), up rfl (up rfl (up rfl (up rfl (up rfl (up rfl (up rfl (up rfl hs5))))))), up rfl (up rfl (up rfl (up rfl (up rfl (up rfl (up rfl (up rfl hs6))))))), (bool_eq (a := decide (((i : Nat) : Int) < 150)) tp (by simp only [hg3, Bool.true_and, Bool.false_and, Bool.true_or, Bool.false_or]))⟩
    · have hg3_ := hg3
      try simp only [decide_eq_true_eq, decide_eq_false_iff_not, Bool.and_eq_true, Bool.or_eq_true, Bool.and_eq_false_iff, Bool.or_eq_false_iff, Bool.not_eq_true', Bool.not_eq_false', beq_iff_eq, beq_eq_false_iff_ne, bne_iff_ne, bne_eq_false_iff_eq, ne_eq, Int.not_lt, Int.not_le, gt_iff_lt, ge_iff_le] at hg3_
      refine RW.pass (by exact Wd.no (x := 27) (b := false) rfl (AF_ev rfl (Eq.trans tp (congrArg Value.bool hg3))) rfl) ?_
      refine RW.pass (by exact Wd.no (x := 27) (b := false) rfl (AF_ev rfl (up rfl (Eq.trans tp (congrArg Value.bool hg3)))) rfl) ?_
      refine RW.soft Wd.a (v := .bool false) (by exact E.pickF (AF_ev rfl (up rfl (up rfl (Eq.trans tp (congrArg Value.bool hg3))))) rfl) ?_
      refine RW.nil ⟨rfl, rfl, up rfl (up rfl (up rfl (up rfl (up rfl (up rfl (up rfl (up rfl hs0))))))), up rfl (up rfl (up rfl (up rfl (up rfl (up rfl (up rfl (up rfl hs4))))))), up rfl (up rfl (up rfl (up rfl (up rfl (up rfl (up rfl (up rfl hs5))))))), up rfl (up rfl (up rfl (up rfl (up rfl (up rfl (up rfl (up rfl hs6))))))), (bool_eq (a := false) tp (by simp only [hg3, Bool.true_and, Bool.false_and, Bool.true_or, Bool.false_or]))⟩
  rintro τ ⟨hs0, hs4, hs5, hs6, hs30⟩
  refine CW.cond (AF_ev rfl hs30) (fun hc4 => ?_) (fun hc4 => ?_)
  · have hc4_ := hc4
    try simp only [decide_eq_true_eq, decide_eq_false_iff_not, Bool.and_eq_true, Bool.or_eq_true, Bool.and_eq_false_iff, Bool.or_eq_false_iff, Bool.not_eq_true', Bool.not_eq_false', beq_iff_eq, beq_eq_false_iff_ne, bne_iff_ne, bne_eq_false_iff_eq, ne_eq, Int.not_lt, Int.not_le, gt_iff_lt, ge_iff_le] at hc4_
    refine CW.skip ?_
    refine Th.n ?_
    refine CW.seq ?_
    refine CW.block ?_
    refine CW.seq ?_
    refine CW.seq ?_
    have hil : i < l.length := by omega
    obtain ⟨bl, ol, rfl, hcl⟩ := hO.place (by omega)
    obtain ⟨o, hol⟩ : ∃ z, l[i]? = some z := ⟨l[i], List.getElem?_eq_getElem hil⟩
    have ho : o.Ok := hK o (List.mem_of_getElem? hol)
    refine CW.region ?_
    refine RW.soft Wd.a (v := .slice (some ⟨bl, ol, none⟩) l.length c) (by exact E.move (AF_ev rfl hs0)) ?_
    refine RW.soft Wd.a (v := .int .i64 ((i : Nat) : Int)) (by exact E.move (AF_ev rfl (up rfl hs6))) ?_
    refine RW.soft Wd.a (v := .pointer (some ⟨bl, ol + i * 35, none⟩)) (by exact E.indexAddr (b := bl) (o := ol) (l := l.length) (c := c) (i := ((i : Nat) : Int)) Try.underlying68 sz76 (AF_ev rfl (up rfl tp)) (AF_ev rfl tp) (by omega) (by omega) (by simp)) ?_
    refine RW.soft Wd.a (v := .pointer (some ⟨bl, ol + i * 35, none⟩)) (by exact E.fieldAddr (b := bl) (o := ol + i * 35) (f := { name := "Kind", type := 3, offset := 0, embedded := false, tag := "", pkgPath := "", byteOffset := 0 }) (AF_ev rfl tp) Try.underlying76 rfl sz3 rfl) ?_
    refine RW.soft Wd.a (v := .int .i64 o.kd) (by exact E.load (a := ⟨bl, ol + i * 35, none⟩) Try.underlying3 rfl (AF_ev rfl tp) (by exact hcl hst _ _ (flat_get (j := 0) OpM.enc_len hol (rfl)))) ?_
    refine RW.hard Wd.a ?_
    refine H.call0 Try.func41 nm41 rfl (map2 (AF_ev rfl tp) rfl) (Calls.mono (kind13 o.kd 8 ho.1 (by omega) hst) ?_)
    rintro _ w ⟨rfl, hst⟩
    refine ⟨_, rfl, ?_⟩
    show RW _ _ _ _ _ _ _
    refine RW.soft Wd.a (v := .bool ((kindF o.kd 8) == 7)) (by exact E.eql (k := .i64) (a := kindF o.kd 8) (b := 7) (AF_ev rfl tp) rfl) ?_
    refine RW.fin (fun τ => τ 0 = .slice (some ⟨bl, ol, none⟩) l.length c ∧ τ 4 = .pointer (some ⟨kb, 0, none⟩) ∧ τ 5 = .pointer (some ⟨b2, 0, none⟩) ∧ τ 6 = .int .i64 ((i : Nat) : Int) ∧ τ 30 = .bool true ∧ τ 39 = .bool ((kindF o.kd 8) == 7)) ⟨up rfl (up rfl (up rfl (up rfl (up rfl (up rfl (up rfl hs0)))))), up rfl (up rfl (up rfl (up rfl (up rfl (up rfl (up rfl hs4)))))), up rfl (up rfl (up rfl (up rfl (up rfl (up rfl (up rfl hs5)))))), up rfl (up rfl (up rfl (up rfl (up rfl (up rfl (up rfl hs6)))))), up rfl (up rfl (up rfl (up rfl (up rfl (up rfl (up rfl (Eq.trans hs30 (congrArg Value.bool hc4)))))))), tp⟩ ?_
    rintro τ ⟨hs0, hs4, hs5, hs6, hs30, hs39⟩
    refine CW.cond (AF_ev rfl hs39) (fun hc5 => ?_) (fun hc5 => ?_)
    · have hc5_ := hc5
      try simp only [decide_eq_true_eq, decide_eq_false_iff_not, Bool.and_eq_true, Bool.or_eq_true, Bool.and_eq_false_iff, Bool.or_eq_false_iff, Bool.not_eq_true', Bool.not_eq_false', beq_iff_eq, beq_eq_false_iff_ne, bne_iff_ne, bne_eq_false_iff_eq, ne_eq, Int.not_lt, Int.not_le, gt_iff_lt, ge_iff_le] at hc5_
      refine CW.seq ?_
      refine CW.region ?_
      refine RW.soft Wd.a (v := .pointer (some ⟨kb, 0, none⟩)) (by exact E.move (AF_ev rfl hs4)) ?_
      refine RW.soft Wd.a (v := .pointer (some ⟨kb, 0, none⟩)) (by exact E.assign (AF_ev rfl tp)) ?_
      refine RW.fin (fun τ => τ 0 = .slice (some ⟨bl, ol, none⟩) l.length c ∧ τ 4 = .pointer (some ⟨kb, 0, none⟩) ∧ τ 5 = .pointer (some ⟨b2, 0, none⟩) ∧ τ 6 = .int .i64 ((i : Nat) : Int) ∧ τ 7 = .pointer (some ⟨kb, 0, none⟩) ∧ τ 30 = .bool true ∧ τ 39 = .bool true) ⟨up rfl (up rfl hs0), up rfl (up rfl hs4), up rfl (up rfl hs5), up rfl (up rfl hs6), tp, up rfl (up rfl hs30), up rfl (up rfl (Eq.trans hs39 (congrArg Value.bool hc5)))⟩ ?_
      rintro τ ⟨hs0, hs4, hs5, hs6, hs7, hs30, hs39⟩
      refine CW.seq ?_
      refine CW.region ?_
      refine RW.soft Wd.a (v := .pointer (some ⟨kb, 0, none⟩)) (by exact E.move (AF_ev rfl hs4)) ?_
      refine RW.hard Wd.a ?_
      refine H.call0 Try.func49 nm49 rfl (map1 (AF_ev rfl tp)) (Calls.mono (prog_Clone hst) ?_)
      rintro _ w ⟨kb6, rfl, hst⟩
      refine ⟨_, rfl, ?_⟩
      show RW _ _ _ _ _ _ _
      refine RW.soft Wd.a (v := .pointer (some ⟨kb6, 0, none⟩)) (by exact E.assign (AF_ev rfl tp)) ?_
      refine RW.fin (fun τ => τ 0 = .slice (some ⟨bl, ol, none⟩) l.length c ∧ τ 4 = .pointer (some ⟨kb6, 0, none⟩) ∧ τ 5 = .pointer (some ⟨b2, 0, none⟩) ∧ τ 6 = .int .i64 ((i : Nat) : Int) ∧ τ 7 = .pointer (some ⟨kb, 0, none⟩) ∧ τ 30 = .bool true ∧ τ 39 = .bool true) ⟨up rfl (up rfl (up rfl hs0)), tp, up rfl (up rfl (up rfl hs5)), up rfl (up rfl (up rfl hs6)), up rfl (up rfl (up rfl hs7)), up rfl (up rfl (up rfl hs30)), up rfl (up rfl (up rfl hs39))⟩ ?_
      rintro τ ⟨hs0, hs4, hs5, hs6, hs7, hs30, hs39⟩
      refine CW.seq ?_
      refine CW.seq ?_
      refine CW.region ?_
      refine RW.soft Wd.a (v := .pointer (some ⟨kb6, 0, none⟩)) (by exact E.move (AF_ev rfl hs4)) ?_
      refine RW.soft Wd.a (v := .bool false) (by exact E.eqlP (p := (some ⟨kb6, 0, none⟩)) Try.underlying69 (AF_ev rfl tp) rfl) ?_
      refine RW.fin (fun τ => τ 0 = .slice (some ⟨bl, ol, none⟩) l.length c ∧ τ 4 = .pointer (some ⟨kb6, 0, none⟩) ∧ τ 5 = .pointer (some ⟨b2, 0, none⟩) ∧ τ 6 = .int .i64 ((i : Nat) : Int) ∧ τ 7 = .pointer (some ⟨kb, 0, none⟩) ∧ τ 30 = .bool true ∧ τ 39 = .bool true ∧ τ 44 = .bool false) ⟨up rfl (up rfl hs0), up rfl (up rfl hs4), up rfl (up rfl hs5), up rfl (up rfl hs6), up rfl (up rfl hs7), up rfl (up rfl hs30), up rfl (up rfl hs39), tp⟩ ?_
      rintro τ ⟨hs0, hs4, hs5, hs6, hs7, hs30, hs39, hs44⟩
      refine CW.condF (AF_ev rfl hs44) ?_
      refine CW.skip ?_
      refine Th.n ?_
      refine CW.seq ?_
      refine CW.region ?_
      refine RW.soft Wd.a (v := .pointer (some ⟨kb, 0, none⟩)) (by exact E.move (AF_ev rfl hs7)) ?_
      refine RW.soft Wd.a (v := .agg (bk (kc 9)).toArray) (by exact E.build (vs := #[(0, .int .u8 9)]) (bld1 rfl) (build74 _ _)) ?_
      have hst := hst.take (.there .here)
      refine RW.hard Wd.a ?_
      refine H.call0 Try.func42 nm42 rfl (map2 (AF_ev rfl (up rfl tp)) (AF_ev rfl tp)) (Calls.mono (prog_Create   (kc 9) hst) ?_)
      rintro _ w ⟨rfl, hst⟩
      refine ⟨_, rfl, ?_⟩
      show RW _ _ _ _ _ _ _
      refine RW.fin (fun τ => τ 0 = .slice (some ⟨bl, ol, none⟩) l.length c ∧ τ 4 = .pointer (some ⟨kb6, 0, none⟩) ∧ τ 5 = .pointer (some ⟨b2, 0, none⟩) ∧ τ 6 = .int .i64 ((i : Nat) : Int) ∧ τ 7 = .pointer (some ⟨kb, 0, none⟩) ∧ τ 30 = .bool true ∧ τ 39 = .bool true ∧ τ 44 = .bool false) ⟨up rfl (up rfl (up rfl hs0)), up rfl (up rfl (up rfl hs4)), up rfl (up rfl (up rfl hs5)), up rfl (up rfl (up rfl hs6)), up rfl (up rfl (up rfl hs7)), up rfl (up rfl (up rfl hs30)), up rfl (up rfl (up rfl hs39)), up rfl (up rfl (up rfl hs44))⟩ ?_
      rintro τ ⟨hs0, hs4, hs5, hs6, hs7, hs30, hs39, hs44⟩
      refine CW.seq ?_
      refine CW.region ?_
      refine RW.soft Wd.a (v := .pointer (some ⟨kb, 0, none⟩)) (by exact E.move (AF_ev rfl hs7)) ?_
      refine RW.soft Wd.a (v := .agg (bk (kc 9)).toArray) (by exact E.build (vs := #[(0, .int .u8 9)]) (bld1 rfl) (build74 _ _)) ?_
      refine RW.hard Wd.a ?_
      refine H.call0 Try.func43 nm43 rfl (map3 (AF_ev rfl (up rfl tp)) rfl (AF_ev rfl tp)) (Calls.mono (prog_Rotate 1 (by omega) (kc 9) hst) ?_)
      rintro _ w ⟨rfl, hst⟩
      refine ⟨_, rfl, ?_⟩
      show RW _ _ _ _ _ _ _
      refine RW.fin (fun τ => τ 0 = .slice (some ⟨bl, ol, none⟩) l.length c ∧ τ 4 = .pointer (some ⟨kb6, 0, none⟩) ∧ τ 5 = .pointer (some ⟨b2, 0, none⟩) ∧ τ 6 = .int .i64 ((i : Nat) : Int) ∧ τ 7 = .pointer (some ⟨kb, 0, none⟩) ∧ τ 30 = .bool true ∧ τ 39 = .bool true ∧ τ 44 = .bool false) ⟨up rfl (up rfl (up rfl hs0)), up rfl (up rfl (up rfl hs4)), up rfl (up rfl (up rfl hs5)), up rfl (up rfl (up rfl hs6)), up rfl (up rfl (up rfl hs7)), up rfl (up rfl (up rfl hs30)), up rfl (up rfl (up rfl hs39)), up rfl (up rfl (up rfl hs44))⟩ ?_
      rintro τ ⟨hs0, hs4, hs5, hs6, hs7, hs30, hs39, hs44⟩
      refine CW.seq ?_
      refine CW.region ?_
      refine RW.soft Wd.a (v := .pointer (some ⟨kb, 0, none⟩)) (by exact E.move (AF_ev rfl hs7)) ?_
      refine RW.hard Wd.a ?_
      refine H.call0 Try.func46 nm46 rfl (map2 (AF_ev rfl tp) rfl) (Calls.mono (prog_Use 1 (by omega)  hst) ?_)
      rintro _ w ⟨rfl, hst⟩
      refine ⟨_, rfl, ?_⟩
      show RW _ _ _ _ _ _ _
      refine RW.fin (fun τ => τ 0 = .slice (some ⟨bl, ol, none⟩) l.length c ∧ τ 4 = .pointer (some ⟨kb6, 0, none⟩) ∧ τ 5 = .pointer (some ⟨b2, 0, none⟩) ∧ τ 6 = .int .i64 ((i : Nat) : Int) ∧ τ 7 = .pointer (some ⟨kb, 0, none⟩) ∧ τ 30 = .bool true ∧ τ 39 = .bool true ∧ τ 44 = .bool false) ⟨up rfl (up rfl hs0), up rfl (up rfl hs4), up rfl (up rfl hs5), up rfl (up rfl hs6), up rfl (up rfl hs7), up rfl (up rfl hs30), up rfl (up rfl hs39), up rfl (up rfl hs44)⟩ ?_
      rintro τ ⟨hs0, hs4, hs5, hs6, hs7, hs30, hs39, hs44⟩
      refine CW.seq ?_
      refine CW.region ?_
      refine RW.soft Wd.a (v := .pointer (some ⟨kb, 0, none⟩)) (by exact E.move (AF_ev rfl hs7)) ?_
      refine RW.hard Wd.a ?_
      refine H.call0 Try.func45 nm45 rfl (map3 (AF_ev rfl tp) rfl rfl) (Calls.mono (prog_Destroy 1 1 (by omega) (by omega)  hst) ?_)
      rintro _ w ⟨rfl, hst⟩
      refine ⟨_, rfl, ?_⟩
      show RW _ _ _ _ _ _ _
      refine RW.fin (fun τ => τ 0 = .slice (some ⟨bl, ol, none⟩) l.length c ∧ τ 4 = .pointer (some ⟨kb6, 0, none⟩) ∧ τ 5 = .pointer (some ⟨b2, 0, none⟩) ∧ τ 6 = .int .i64 ((i : Nat) : Int) ∧ τ 7 = .pointer (some ⟨kb, 0, none⟩) ∧ τ 30 = .bool true ∧ τ 39 = .bool true ∧ τ 44 = .bool false) ⟨up rfl (up rfl hs0), up rfl (up rfl hs4), up rfl (up rfl hs5), up rfl (up rfl hs6), up rfl (up rfl hs7), up rfl (up rfl hs30), up rfl (up rfl hs39), up rfl (up rfl hs44)⟩ ?_
      rintro τ ⟨hs0, hs4, hs5, hs6, hs7, hs30, hs39, hs44⟩
      refine CW.region ?_
      refine RW.soft Wd.a (v := .pointer (some ⟨kb, 0, none⟩)) (by exact E.move (AF_ev rfl hs7)) ?_
      refine RW.hard Wd.a ?_
      refine H.call0 Try.func44 nm44 rfl (map3 (AF_ev rfl tp) rfl rfl) (Calls.mono (prog_Switch 1 (by omega) false hst) ?_)
      rintro _ w ⟨rfl, hst⟩
      refine ⟨_, rfl, ?_⟩
      show RW _ _ _ _ _ _ _
      refine RW.fin (fun τ => τ 0 = .slice (some ⟨bl, ol, none⟩) l.length c ∧ τ 4 = .pointer (some ⟨kb6, 0, none⟩) ∧ τ 5 = .pointer (some ⟨b2, 0, none⟩) ∧ τ 6 = .int .i64 ((i : Nat) : Int) ∧ τ 7 = .pointer (some ⟨kb, 0, none⟩) ∧ τ 30 = .bool true ∧ τ 39 = .bool true ∧ τ 44 = .bool false) ⟨up rfl (up rfl hs0), up rfl (up rfl hs4), up rfl (up rfl hs5), up rfl (up rfl hs6), up rfl (up rfl hs7), up rfl (up rfl hs30), up rfl (up rfl hs39), up rfl (up rfl hs44)⟩ ?_
      rintro τ ⟨hs0, hs4, hs5, hs6, hs7, hs30, hs39, hs44⟩
      refine CW.seq ?_
      refine CW.region ?_
      refine RW.soft Wd.a (v := .pointer (some ⟨kb6, 0, none⟩)) (by exact E.move (AF_ev rfl hs4)) ?_
      refine RW.soft Wd.a (v := .pointer (some ⟨b2, 0, none⟩)) (by exact E.move (AF_ev rfl (up rfl hs5))) ?_
      refine RW.soft Wd.a (v := .slice (some ⟨bl, ol, none⟩) l.length c) (by exact E.move (AF_ev rfl (up rfl (up rfl hs0)))) ?_
      refine RW.soft Wd.a (v := .int .i64 ((i : Nat) : Int)) (by exact E.move (AF_ev rfl (up rfl (up rfl (up rfl hs6))))) ?_
      refine RW.soft Wd.a (v := .pointer (some ⟨bl, ol + i * 35, none⟩)) (by exact E.indexAddr (b := bl) (o := ol) (l := l.length) (c := c) (i := ((i : Nat) : Int)) Try.underlying68 sz76 (AF_ev rfl (up rfl tp)) (AF_ev rfl tp) (by omega) (by omega) (by simp)) ?_
      refine RW.soft Wd.a (v := .agg (OpM.enc o).toArray) (by exact E.loadN (b := bl) (o := ol + i * 35) (cs := OpM.enc o) Try.underlying76 rfl sz76 (AF_ev rfl tp) (OpM.enc_len _) (fun j v hv => by rw [Nat.add_assoc]; exact hcl hst _ _ (flat_get OpM.enc_len hol (hv)))) ?_
      have hst := hst.take (.there (.there .here))
      have hst := hst.take (.there (.there .here))
      refine RW.hard Wd.a ?_
      refine H.call0 Try.func50 nm50 rfl (map3 (AF_ev rfl (up rfl (up rfl (up rfl (up rfl (up rfl tp)))))) (AF_ev rfl (up rfl (up rfl (up rfl (up rfl tp))))) (AF_ev rfl tp)) (Calls.mono (does13 o ho hst) ?_)
      rintro _ w ⟨rfl, hst⟩
      refine ⟨_, rfl, ?_⟩
      show RW _ _ _ _ _ _ _
      refine RW.soft Wd.a (v := .bool true) (by exact E.assign (AF_ev rfl tp)) ?_
      refine RW.fin (fun τ => τ 0 = .slice (some ⟨bl, ol, none⟩) l.length c ∧ τ 4 = .pointer (some ⟨kb6, 0, none⟩) ∧ τ 5 = .pointer (some ⟨b2, 0, none⟩) ∧ τ 6 = .int .i64 ((i : Nat) : Int) ∧ τ 7 = .pointer (some ⟨kb, 0, none⟩) ∧ τ 8 = .bool true ∧ τ 30 = .bool true ∧ τ 39 = .bool true ∧ τ 44 = .bool false) ⟨up rfl (up rfl (up rfl (up rfl (up rfl (up rfl (up rfl (up rfl hs0))))))), up rfl (up rfl (up rfl (up rfl (up rfl (up rfl (up rfl (up rfl hs4))))))), up rfl (up rfl (up rfl (up rfl (up rfl (up rfl (up rfl (up rfl hs5))))))), up rfl (up rfl (up rfl (up rfl (up rfl (up rfl (up rfl (up rfl hs6))))))), up rfl (up rfl (up rfl (up rfl (up rfl (up rfl (up rfl (up rfl hs7))))))), tp, up rfl (up rfl (up rfl (up rfl (up rfl (up rfl (up rfl (up rfl hs30))))))), up rfl (up rfl (up rfl (up rfl (up rfl (up rfl (up rfl (up rfl hs39))))))), up rfl (up rfl (up rfl (up rfl (up rfl (up rfl (up rfl (up rfl hs44)))))))⟩ ?_
      rintro τ ⟨hs0, hs4, hs5, hs6, hs7, hs8, hs30, hs39, hs44⟩
      refine CW.seq ?_
      refine CW.region ?_
      refine RW.soft Wd.a (v := .pointer (some ⟨kb6, 0, none⟩)) (by exact E.move (AF_ev rfl hs4)) ?_
      refine RW.hard Wd.a ?_
      refine H.call0 Try.func40 nm40 rfl (map1 (AF_ev rfl tp)) (Calls.mono (prog_Rings hst) ?_)
      rintro _ w ⟨vX7, rfl, hst⟩
      obtain ⟨X7, c8, rfl, hcX7⟩ := rowsShape hst
      refine ⟨_, rfl, ?_⟩
      show RW _ _ _ _ _ _ _
      refine RW.soft Wd.a (v := .slice X7 ((opStep ks o).length) c8) (by exact E.assign (AF_ev rfl tp)) ?_
      refine RW.fin (fun τ => τ 0 = .slice (some ⟨bl, ol, none⟩) l.length c ∧ τ 4 = .pointer (some ⟨kb6, 0, none⟩) ∧ τ 5 = .pointer (some ⟨b2, 0, none⟩) ∧ τ 6 = .int .i64 ((i : Nat) : Int) ∧ τ 7 = .pointer (some ⟨kb, 0, none⟩) ∧ τ 8 = .bool true ∧ τ 9 = .slice X7 ((opStep ks o).length) c8 ∧ τ 30 = .bool true ∧ τ 39 = .bool true ∧ τ 44 = .bool false) ⟨up rfl (up rfl (up rfl hs0)), up rfl (up rfl (up rfl hs4)), up rfl (up rfl (up rfl hs5)), up rfl (up rfl (up rfl hs6)), up rfl (up rfl (up rfl hs7)), up rfl (up rfl (up rfl hs8)), tp, up rfl (up rfl (up rfl hs30)), up rfl (up rfl (up rfl hs39)), up rfl (up rfl (up rfl hs44))⟩ ?_
      rintro τ ⟨hs0, hs4, hs5, hs6, hs7, hs8, hs9, hs30, hs39, hs44⟩
      refine CW.seq ?_
      have hst := hst.take (.there (.there .here))
      obtain ⟨hkoy, Xy, cy, hcy, hmy, hXy, hst⟩ := keysApart hst
      have hn8y := hkoy.1
      refine CW.region ?_
      refine RW.soft Wd.a (v := .slice X7 ((opStep ks o).length) c8) (by exact E.move (AF_ev rfl hs9)) ?_
      refine RW.soft Wd.a (v := .pointer (some ⟨b2, 0, none⟩)) (by exact E.move (AF_ev rfl (up rfl hs5))) ?_
      refine RW.soft Wd.a (v := .pointer (some ⟨b2, 0, none⟩)) (by exact E.nilCheck (a := ⟨b2, 0, none⟩) (AF_ev rfl tp)) ?_
      refine RW.soft Wd.a (v := .pointer (some ⟨b2, 0, none⟩)) (by exact E.fieldAddr (b := b2) (o := 0) (f := { name := "L", type := 71, offset := 0, embedded := false, tag := "", pkgPath := "", byteOffset := 0 }) (AF_ev rfl tp) Try.underlying96 rfl sz71 rfl) ?_
      refine RW.soft Wd.a (v := .slice Xy ((opStep ks o).length) cy) (by exact E.load (a := ⟨b2, 0, none⟩) Try.underlying71 rfl (AF_ev rfl tp) (hst.cell .here rfl)) ?_
      have hst := hst.take (.there .here)
      have hst := hst.take (.there (.there .here))
      refine RW.hard Wd.a ?_
      refine H.call0 Try.func48 nm48 rfl (map2 (AF_ev rfl (up rfl (up rfl (up rfl (up rfl tp))))) (AF_ev rfl tp)) (Calls.mono (ref_SameV (small_ok hkoy) hst) ?_)
      rintro _ w ⟨rfl, hst⟩
      refine ⟨_, rfl, ?_⟩
      show RW _ _ _ _ _ _ _
      refine RW.soft Wd.a (v := .bool true) (by exact E.assign (AF_ev rfl tp)) ?_
      refine RW.fin (fun τ => τ 0 = .slice (some ⟨bl, ol, none⟩) l.length c ∧ τ 4 = .pointer (some ⟨kb6, 0, none⟩) ∧ τ 5 = .pointer (some ⟨b2, 0, none⟩) ∧ τ 6 = .int .i64 ((i : Nat) : Int) ∧ τ 7 = .pointer (some ⟨kb, 0, none⟩) ∧ τ 8 = .bool true ∧ τ 9 = .slice X7 ((opStep ks o).length) c8 ∧ τ 10 = .bool true ∧ τ 30 = .bool true ∧ τ 39 = .bool true ∧ τ 44 = .bool false) ⟨up rfl (up rfl (up rfl (up rfl (up rfl (up rfl (up rfl hs0)))))), up rfl (up rfl (up rfl (up rfl (up rfl (up rfl (up rfl hs4)))))), up rfl (up rfl (up rfl (up rfl (up rfl (up rfl (up rfl hs5)))))), up rfl (up rfl (up rfl (up rfl (up rfl (up rfl (up rfl hs6)))))), up rfl (up rfl (up rfl (up rfl (up rfl (up rfl (up rfl hs7)))))), up rfl (up rfl (up rfl (up rfl (up rfl (up rfl (up rfl hs8)))))), up rfl (up rfl (up rfl (up rfl (up rfl (up rfl (up rfl hs9)))))), tp, up rfl (up rfl (up rfl (up rfl (up rfl (up rfl (up rfl hs30)))))), up rfl (up rfl (up rfl (up rfl (up rfl (up rfl (up rfl hs39)))))), up rfl (up rfl (up rfl (up rfl (up rfl (up rfl (up rfl hs44))))))⟩ ?_
      rintro τ ⟨hs0, hs4, hs5, hs6, hs7, hs8, hs9, hs10, hs30, hs39, hs44⟩
      refine CW.seq ?_
      refine CW.seq ?_
      have hst := hst.take (.there .here)
      have hst := hst.take (.there (.there .here))
      have hst := keysMake hkoy hst
      refine CW.region ?_
      refine RW.soft Wd.a (v := .bool true) (by exact E.move (AF_ev rfl hs8)) ?_
      refine RW.soft Wd.a (v := .bool false) (by exact E.not (b := true) (AF_ev rfl tp)) ?_
      refine RW.soft Wd.a (v := .bool false) (by exact E.move (AF_ev rfl tp)) ?_
      refine RW.soft (by exact Wd.yes (x := 74) rfl (AF_ev rfl tp)) (v := .bool true) (by exact E.move (AF_ev rfl (up rfl (up rfl (up rfl hs10))))) ?_
      refine RW.soft (by exact Wd.yes (x := 74) rfl (AF_ev rfl (up rfl tp))) (v := .bool false) (by exact E.not (b := true) (AF_ev rfl tp)) ?_
      refine RW.soft Wd.a (v := .bool false) (by exact E.pickF (AF_ev rfl (up rfl (up rfl tp))) (AF_ev rfl tp)) ?_
      refine RW.fin (fun τ => τ 0 = .slice (some ⟨bl, ol, none⟩) l.length c ∧ τ 4 = .pointer (some ⟨kb6, 0, none⟩) ∧ τ 5 = .pointer (some ⟨b2, 0, none⟩) ∧ τ 6 = .int .i64 ((i : Nat) : Int) ∧ τ 7 = .pointer (some ⟨kb, 0, none⟩) ∧ τ 8 = .bool true ∧ τ 9 = .slice X7 ((opStep ks o).length) c8 ∧ τ 10 = .bool true ∧ τ 30 = .bool true ∧ τ 39 = .bool true ∧ τ 44 = .bool false ∧ τ 77 = .bool false) ⟨up rfl (up rfl (up rfl (up rfl (up rfl (up rfl hs0))))), up rfl (up rfl (up rfl (up rfl (up rfl (up rfl hs4))))), up rfl (up rfl (up rfl (up rfl (up rfl (up rfl hs5))))), up rfl (up rfl (up rfl (up rfl (up rfl (up rfl hs6))))), up rfl (up rfl (up rfl (up rfl (up rfl (up rfl hs7))))), up rfl (up rfl (up rfl (up rfl (up rfl (up rfl hs8))))), up rfl (up rfl (up rfl (up rfl (up rfl (up rfl hs9))))), up rfl (up rfl (up rfl (up rfl (up rfl (up rfl hs10))))), up rfl (up rfl (up rfl (up rfl (up rfl (up rfl hs30))))), up rfl (up rfl (up rfl (up rfl (up rfl (up rfl hs39))))), up rfl (up rfl (up rfl (up rfl (up rfl (up rfl hs44))))), tp⟩ ?_
      rintro τ ⟨hs0, hs4, hs5, hs6, hs7, hs8, hs9, hs10, hs30, hs39, hs44, hs77⟩
      refine CW.condF (AF_ev rfl hs77) ?_
      refine CW.skip ?_
      refine Th.n ?_
      refine CW.seq ?_
      refine CW.region ?_
      refine RW.soft Wd.a (v := .int .i64 0) (by exact E.assign rfl) ?_
      refine RW.fin (fun τ => τ 0 = .slice (some ⟨bl, ol, none⟩) l.length c ∧ τ 4 = .pointer (some ⟨kb6, 0, none⟩) ∧ τ 5 = .pointer (some ⟨b2, 0, none⟩) ∧ τ 6 = .int .i64 ((i : Nat) : Int) ∧ τ 7 = .pointer (some ⟨kb, 0, none⟩) ∧ τ 8 = .bool true ∧ τ 9 = .slice X7 ((opStep ks o).length) c8 ∧ τ 10 = .bool true ∧ τ 11 = .int .i64 0 ∧ τ 30 = .bool true ∧ τ 39 = .bool true ∧ τ 44 = .bool false ∧ τ 77 = .bool false) ⟨up rfl hs0, up rfl hs4, up rfl hs5, up rfl hs6, up rfl hs7, up rfl hs8, up rfl hs9, up rfl hs10, tp, up rfl hs30, up rfl hs39, up rfl hs44, up rfl hs77⟩ ?_
      rintro τ ⟨hs0, hs4, hs5, hs6, hs7, hs8, hs9, hs10, hs11, hs30, hs39, hs44, hs77⟩
      refine CW.block ?_
      have hst := hst.take (.there (.there .here))
      have hst := hst.take (.there (.there .here))
      have hst := (hst.take (.there (.there (.there .here)))).drop
      refine CW.loop (fun (k : Nat) (τ : Fr) (w : World) => ∃ (n : Nat) (kr : RK), n ≤ (opStep ks o).length ∧ kr.length = (opStep ks o).length ∧ (∀ r ∈ kr, r.2.length ≤ 8) ∧ k = (opStep ks o).length - n ∧ τ 0 = .slice (some ⟨bl, ol, none⟩) l.length c ∧ τ 4 = .pointer (some ⟨kb6, 0, none⟩) ∧ τ 5 = .pointer (some ⟨b2, 0, none⟩) ∧ τ 6 = .int .i64 ((i : Nat) : Int) ∧ τ 9 = .slice X7 ((opStep ks o).length) c8 ∧ τ 11 = .int .i64 ((n : Nat) : Int) ∧ St p w (RowsV (.slice X7 ((opStep ks o).length) c8) kr :: KeysV 127 kb6 (opStep ks o) :: KeysV 96 b2 (opStep ks o) :: R)) ((opStep ks o).length - 0) ⟨0, (opStep ks o), by omega, rfl, (small_ok hkoy).2, rfl, hs0, hs4, hs5, hs6, hs9, (int_eq (a := 0) hs11 (by omega)), hst⟩ ?_
      clear hst
      rintro k τ w ⟨n, kr, hn, hkrl, hsm, hkn, hs0, hs4, hs5, hs6, hs9, hs11, hst⟩
      refine CW.seq ?_
      refine CW.seq ?_
      refine CW.region ?_
      refine RW.soft Wd.a (v := .int .i64 ((n : Nat) : Int)) (by exact E.move (AF_ev rfl hs11)) ?_
      refine RW.soft Wd.a (v := .slice X7 ((opStep ks o).length) c8) (by exact E.move (AF_ev rfl (up rfl hs9))) ?_
      refine RW.soft Wd.a (v := .int .i64 (((opStep ks o).length : Nat) : Int)) (by exact E.lenS (p := X7) (l := (opStep ks o).length) (c := c8) Try.underlying71 (AF_ev rfl tp)) ?_
      refine RW.soft Wd.a (v := .bool (decide (((n : Nat) : Int) < (((opStep ks o).length : Nat) : Int)))) (by exact E.lss (k := .i64) (a := ((n : Nat) : Int)) (b := (((opStep ks o).length : Nat) : Int)) (AF_ev rfl (up rfl (up rfl tp))) (AF_ev rfl tp)) ?_
      refine RW.fin (fun τ => τ 0 = .slice (some ⟨bl, ol, none⟩) l.length c ∧ τ 4 = .pointer (some ⟨kb6, 0, none⟩) ∧ τ 5 = .pointer (some ⟨b2, 0, none⟩) ∧ τ 6 = .int .i64 ((i : Nat) : Int) ∧ τ 9 = .slice X7 ((opStep ks o).length) c8 ∧ τ 11 = .int .i64 ((n : Nat) : Int) ∧ τ 81 = .bool (decide (((n : Nat) : Int) < (((opStep ks o).length : Nat) : Int)))) ⟨up rfl (up rfl (up rfl (up rfl hs0))), up rfl (up rfl (up rfl (up rfl hs4))), up rfl (up rfl (up rfl (up rfl hs5))), up rfl (up rfl (up rfl (up rfl hs6))), up rfl (up rfl (up rfl (up rfl hs9))), up rfl (up rfl (up rfl (up rfl hs11))), tp⟩ ?_
      rintro τ ⟨hs0, hs4, hs5, hs6, hs9, hs11, hs81⟩
      refine CW.cond (AF_ev rfl hs81) (fun hc9 => ?_) (fun hc9 => ?_)
      · have hc9_ := hc9
        try simp only [decide_eq_true_eq, decide_eq_false_iff_not, Bool.and_eq_true, Bool.or_eq_true, Bool.and_eq_false_iff, Bool.or_eq_false_iff, Bool.not_eq_true', Bool.not_eq_false', beq_iff_eq, beq_eq_false_iff_ne, bne_iff_ne, bne_eq_false_iff_eq, ne_eq, Int.not_lt, Int.not_le, gt_iff_lt, ge_iff_le] at hc9_
        refine CW.skip ?_
        refine Th.n ?_
        refine CW.seq ?_
        refine CW.block ?_
        refine CW.seq ?_
        have hnl : n < kr.length := by omega
        obtain ⟨⟨o1, vs⟩, hkn1⟩ : ∃ z, kr[n]? = some z := ⟨kr[n], List.getElem?_eq_getElem hnl⟩
        have hv8 : vs.length ≤ 8 := hsm _ (List.mem_of_getElem? hkn1)
        obtain ⟨rs, g, Y, d, F, rfl, hcr, hmr, hY, hr, hst, turn⟩ := ringOpenF hkrl hst hkn1
        refine CW.region ?_
        refine RW.soft Wd.a (v := .slice (some ⟨g, 0, none⟩) ((opStep ks o).length) c8) (by exact E.move (AF_ev rfl hs9)) ?_
        refine RW.soft Wd.a (v := .int .i64 ((n : Nat) : Int)) (by exact E.move (AF_ev rfl (up rfl hs11))) ?_
        refine RW.soft Wd.a (v := .slice (some ⟨g, 0, none⟩) ((opStep ks o).length) c8) (by exact E.move (AF_ev rfl (up rfl (up rfl hs9)))) ?_
        refine RW.soft Wd.a (v := .int .i64 ((n : Nat) : Int)) (by exact E.move (AF_ev rfl (up rfl (up rfl (up rfl hs11))))) ?_
        refine RW.soft Wd.a (v := .pointer (some ⟨g, n * 2, none⟩)) (by exact E.indexAddr (b := g) (o := 0) (l := (opStep ks o).length) (c := c8) (i := ((n : Nat) : Int)) Try.underlying71 sz84 (AF_ev rfl (up rfl tp)) (AF_ev rfl tp) (by omega) (by omega) (by simp)) ?_
        refine RW.soft Wd.a (v := .pointer (some ⟨g, n * 2, none⟩)) (by exact E.fieldAddr (b := g) (o := n * 2) (f := { name := "Off", type := 4, offset := 0, embedded := false, tag := "", pkgPath := "", byteOffset := 0 }) (AF_ev rfl tp) Try.underlying84 rfl sz4 rfl) ?_
        refine RW.soft Wd.a (v := .bool o1) (by exact E.load (a := ⟨g, n * 2, none⟩) Try.underlying4 rfl (AF_ev rfl tp) (hst.ocell .here (flat_get (j := 0) RingM.enc_len hr (rfl)))) ?_
        refine RW.soft Wd.a (v := .bool (!o1)) (by exact E.not (b := o1) (AF_ev rfl tp)) ?_
        refine RW.soft Wd.a (v := .pointer (some ⟨g, n * 2, none⟩)) (by exact E.indexAddr (b := g) (o := 0) (l := (opStep ks o).length) (c := c8) (i := ((n : Nat) : Int)) Try.underlying71 sz84 (AF_ev rfl (up rfl (up rfl (up rfl (up rfl (up rfl (up rfl (up rfl tp)))))))) (AF_ev rfl (up rfl (up rfl (up rfl (up rfl (up rfl (up rfl tp))))))) (by omega) (by omega) (by simp)) ?_
        refine RW.soft Wd.a (v := .pointer (some ⟨g, n * 2, none⟩)) (by exact E.fieldAddr (b := g) (o := n * 2) (f := { name := "Off", type := 4, offset := 0, embedded := false, tag := "", pkgPath := "", byteOffset := 0 }) (AF_ev rfl tp) Try.underlying84 rfl sz4 rfl) ?_
        refine RW.hard Wd.a ?_
        refine H.storeInn (f := RingM.enc) (i := n) (d := 0) (m := 1) (v := .bool (!o1)) (news := [.bool (!o1)]) (a' := (RingM.mk (!o1) Y d vs)) RingM.enc_len (AF_ev rfl tp) (AF_ev rfl (up rfl (up rfl tp))) hst .here hr (by omega) rfl rfl rfl sz4 (by omega) (rfl) (by simp [Value.oneCell']) fun w hst => ?_
        refine RW.fin (fun τ => τ 0 = .slice (some ⟨bl, ol, none⟩) l.length c ∧ τ 4 = .pointer (some ⟨kb6, 0, none⟩) ∧ τ 5 = .pointer (some ⟨b2, 0, none⟩) ∧ τ 6 = .int .i64 ((i : Nat) : Int) ∧ τ 9 = .slice (some ⟨g, 0, none⟩) ((opStep ks o).length) c8 ∧ τ 11 = .int .i64 ((n : Nat) : Int) ∧ τ 81 = .bool true) ⟨u0 (up rfl (up rfl (up rfl (up rfl (up rfl (up rfl (up rfl (up rfl (up rfl (up rfl hs0)))))))))), u0 (up rfl (up rfl (up rfl (up rfl (up rfl (up rfl (up rfl (up rfl (up rfl (up rfl hs4)))))))))), u0 (up rfl (up rfl (up rfl (up rfl (up rfl (up rfl (up rfl (up rfl (up rfl (up rfl hs5)))))))))), u0 (up rfl (up rfl (up rfl (up rfl (up rfl (up rfl (up rfl (up rfl (up rfl (up rfl hs6)))))))))), u0 (up rfl (up rfl (up rfl (up rfl (up rfl (up rfl (up rfl (up rfl (up rfl (up rfl hs9)))))))))), u0 (up rfl (up rfl (up rfl (up rfl (up rfl (up rfl (up rfl (up rfl (up rfl (up rfl hs11)))))))))), u0 (up rfl (up rfl (up rfl (up rfl (up rfl (up rfl (up rfl (up rfl (up rfl (up rfl (Eq.trans hs81 (congrArg Value.bool hc9))))))))))))⟩ ?_
        rintro τ ⟨hs0, hs4, hs5, hs6, hs9, hs11, hs81⟩
        refine CW.seq ?_
        refine CW.region ?_
        refine RW.soft Wd.a (v := .int .i64 0) (by exact E.assign rfl) ?_
        refine RW.fin (fun τ => τ 0 = .slice (some ⟨bl, ol, none⟩) l.length c ∧ τ 4 = .pointer (some ⟨kb6, 0, none⟩) ∧ τ 5 = .pointer (some ⟨b2, 0, none⟩) ∧ τ 6 = .int .i64 ((i : Nat) : Int) ∧ τ 9 = .slice (some ⟨g, 0, none⟩) ((opStep ks o).length) c8 ∧ τ 11 = .int .i64 ((n : Nat) : Int) ∧ τ 12 = .int .i64 0 ∧ τ 81 = .bool true) ⟨up rfl hs0, up rfl hs4, up rfl hs5, up rfl hs6, up rfl hs9, up rfl hs11, tp, up rfl hs81⟩ ?_
        rintro τ ⟨hs0, hs4, hs5, hs6, hs9, hs11, hs12, hs81⟩
        refine CW.block ?_
        have hst := hst.take (.there .here)
        have hst := hst.take (.there .here)
        refine CW.loop (fun (k : Nat) (τ : Fr) (w : World) => ∃ (q : Nat) (vz : List Ver), q ≤ vs.length ∧ vz.length = vs.length ∧ k = vs.length - q ∧ τ 0 = .slice (some ⟨bl, ol, none⟩) l.length c ∧ τ 4 = .pointer (some ⟨kb6, 0, none⟩) ∧ τ 5 = .pointer (some ⟨b2, 0, none⟩) ∧ τ 6 = .int .i64 ((i : Nat) : Int) ∧ τ 9 = .slice (some ⟨g, 0, none⟩) ((opStep ks o).length) c8 ∧ τ 11 = .int .i64 ((n : Nat) : Int) ∧ τ 12 = .int .i64 ((q : Nat) : Int) ∧ St p w (Own 84 2 (.slice (some ⟨g, 0, none⟩) ((opStep ks o).length) c8) ((opStep ks o).length) ((rs.set n (RingM.mk (!o1) Y d vs)).flatMap RingM.enc) :: Own 86 34 (.slice Y vs.length d) vs.length (vz.flatMap Ver.enc) :: F)) (vs.length - 0) ⟨0, vs, by omega, rfl, rfl, hs0, hs4, hs5, hs6, hs9, hs11, (int_eq (a := 0) hs12 (by omega)), hst⟩ ?_
        clear hst
        rintro k τ w ⟨q, vz, hq, hvsl, hkq, hs0, hs4, hs5, hs6, hs9, hs11, hs12, hst⟩
        refine CW.seq ?_
        refine CW.seq ?_
        refine CW.region ?_
        refine RW.soft Wd.a (v := .int .i64 ((q : Nat) : Int)) (by exact E.move (AF_ev rfl hs12)) ?_
        refine RW.soft Wd.a (v := .slice (some ⟨g, 0, none⟩) ((opStep ks o).length) c8) (by exact E.move (AF_ev rfl (up rfl hs9))) ?_
        refine RW.soft Wd.a (v := .int .i64 ((n : Nat) : Int)) (by exact E.move (AF_ev rfl (up rfl (up rfl hs11)))) ?_
        refine RW.soft Wd.a (v := .pointer (some ⟨g, n * 2, none⟩)) (by exact E.indexAddr (b := g) (o := 0) (l := (opStep ks o).length) (c := c8) (i := ((n : Nat) : Int)) Try.underlying71 sz84 (AF_ev rfl (up rfl tp)) (AF_ev rfl tp) (by omega) (by omega) (by simp)) ?_
        refine RW.soft Wd.a (v := .pointer (some ⟨g, n * 2 + 1, none⟩)) (by exact E.fieldAddr (b := g) (o := n * 2) (f := { name := "L", type := 82, offset := 1, embedded := false, tag := "", pkgPath := "", byteOffset := 8 }) (AF_ev rfl tp) Try.underlying84 rfl sz82 rfl) ?_
        refine RW.soft Wd.a (v := .slice Y vs.length d) (by exact E.load (a := ⟨g, n * 2 + 1, none⟩) Try.underlying82 rfl (AF_ev rfl tp) (hst.ocell .here (flat_get (j := 1) RingM.enc_len (set_at hr) (rfl)))) ?_
        refine RW.soft Wd.a (v := .int .i64 ((vs.length : Nat) : Int)) (by exact E.lenS (p := Y) (l := vs.length) (c := d) Try.underlying82 (AF_ev rfl tp)) ?_
        refine RW.soft Wd.a (v := .bool (decide (((q : Nat) : Int) < ((vs.length : Nat) : Int)))) (by exact E.lss (k := .i64) (a := ((q : Nat) : Int)) (b := ((vs.length : Nat) : Int)) (AF_ev rfl (up rfl (up rfl (up rfl (up rfl (up rfl (up rfl tp))))))) (AF_ev rfl tp)) ?_
        refine RW.fin (fun τ => τ 0 = .slice (some ⟨bl, ol, none⟩) l.length c ∧ τ 4 = .pointer (some ⟨kb6, 0, none⟩) ∧ τ 5 = .pointer (some ⟨b2, 0, none⟩) ∧ τ 6 = .int .i64 ((i : Nat) : Int) ∧ τ 9 = .slice (some ⟨g, 0, none⟩) ((opStep ks o).length) c8 ∧ τ 11 = .int .i64 ((n : Nat) : Int) ∧ τ 12 = .int .i64 ((q : Nat) : Int) ∧ τ 101 = .bool (decide (((q : Nat) : Int) < ((vs.length : Nat) : Int)))) ⟨up rfl (up rfl (up rfl (up rfl (up rfl (up rfl (up rfl (up rfl hs0))))))), up rfl (up rfl (up rfl (up rfl (up rfl (up rfl (up rfl (up rfl hs4))))))), up rfl (up rfl (up rfl (up rfl (up rfl (up rfl (up rfl (up rfl hs5))))))), up rfl (up rfl (up rfl (up rfl (up rfl (up rfl (up rfl (up rfl hs6))))))), up rfl (up rfl (up rfl (up rfl (up rfl (up rfl (up rfl (up rfl hs9))))))), up rfl (up rfl (up rfl (up rfl (up rfl (up rfl (up rfl (up rfl hs11))))))), up rfl (up rfl (up rfl (up rfl (up rfl (up rfl (up rfl (up rfl hs12))))))), tp⟩ ?_
        rintro τ ⟨hs0, hs4, hs5, hs6, hs9, hs11, hs12, hs101⟩
        refine CW.cond (AF_ev rfl hs101) (fun hc10 => ?_) (fun hc10 => ?_)
        · have hc10_ := hc10
          try simp only [decide_eq_true_eq, decide_eq_false_iff_not, Bool.and_eq_true, Bool.or_eq_true, Bool.and_eq_false_iff, Bool.or_eq_false_iff, Bool.not_eq_true', Bool.not_eq_false', beq_iff_eq, beq_eq_false_iff_ne, bne_iff_ne, bne_eq_false_iff_eq, ne_eq, Int.not_lt, Int.not_le, gt_iff_lt, ge_iff_le] at hc10_
          refine CW.skip ?_
          refine Th.n ?_
          refine CW.seq ?_
          refine CW.block ?_
          obtain ⟨gr, rfl⟩ := hY (by omega)
          obtain ⟨x, hx⟩ : ∃ z, vz[q]? = some z := ⟨vz[q]'(by omega), List.getElem?_eq_getElem (by omega)⟩
          refine CW.region ?_
          refine RW.soft Wd.a (v := .slice (some ⟨g, 0, none⟩) ((opStep ks o).length) c8) (by exact E.move (AF_ev rfl hs9)) ?_
          refine RW.soft Wd.a (v := .int .i64 ((n : Nat) : Int)) (by exact E.move (AF_ev rfl (up rfl hs11))) ?_
          refine RW.soft Wd.a (v := .pointer (some ⟨g, n * 2, none⟩)) (by exact E.indexAddr (b := g) (o := 0) (l := (opStep ks o).length) (c := c8) (i := ((n : Nat) : Int)) Try.underlying71 sz84 (AF_ev rfl (up rfl tp)) (AF_ev rfl tp) (by omega) (by omega) (by simp)) ?_
          refine RW.soft Wd.a (v := .pointer (some ⟨g, n * 2 + 1, none⟩)) (by exact E.fieldAddr (b := g) (o := n * 2) (f := { name := "L", type := 82, offset := 1, embedded := false, tag := "", pkgPath := "", byteOffset := 8 }) (AF_ev rfl tp) Try.underlying84 rfl sz82 rfl) ?_
          refine RW.soft Wd.a (v := .slice (some ⟨gr, 0, none⟩) vs.length d) (by exact E.load (a := ⟨g, n * 2 + 1, none⟩) Try.underlying82 rfl (AF_ev rfl tp) (hst.ocell .here (flat_get (j := 1) RingM.enc_len (set_at hr) (rfl)))) ?_
          refine RW.soft Wd.a (v := .int .i64 ((q : Nat) : Int)) (by exact E.move (AF_ev rfl (up rfl (up rfl (up rfl (up rfl (up rfl hs12))))))) ?_
          refine RW.soft Wd.a (v := .agg (Ver.enc (Ver.mk kz 77 false)).toArray) (by exact E.build (vs := #[(1, .int .i64 77)]) (bld1 rfl) (build86u _ _)) ?_
          refine RW.soft Wd.a (v := .pointer (some ⟨gr, q * 34, none⟩)) (by exact E.indexAddr (b := gr) (o := 0) (l := vs.length) (c := d) (i := ((q : Nat) : Int)) Try.underlying82 sz86 (AF_ev rfl (up rfl (up rfl tp))) (AF_ev rfl (up rfl tp)) (by omega) (by omega) (by simp)) ?_
          refine RW.hard Wd.a ?_
          refine H.storeInn (f := Ver.enc) (i := q) (d := 0) (m := 34) (v := .agg (Ver.enc (Ver.mk kz 77 false)).toArray) (news := Ver.enc (Ver.mk kz 77 false)) (a' := (Ver.mk kz 77 false)) Ver.enc_len (AF_ev rfl tp) (AF_ev rfl (up rfl tp)) hst (.there .here) hx (by omega) rfl rfl (Ver.enc_len _) sz86 (by omega) (Ver.set_all x _) (Ver.one _) fun w hst => ?_
          refine RW.nil ?_
          refine Bl.n ?_
          refine Th.n ?_
          refine CW.region ?_
          refine RW.soft Wd.a (v := .int .i64 ((q : Nat) : Int)) (by exact E.move (AF_ev rfl (u0 (up rfl (up rfl (up rfl (up rfl (up rfl (up rfl (up rfl (up rfl hs12))))))))))) ?_
          refine RW.soft Wd.a (v := .int .i64 (((q : Nat) : Int) + 1)) (by exact E.add (k := .i64) (a := ((q : Nat) : Int)) (b := 1) (AF_ev rfl tp) rfl (show IntKind.i64.wrap (((q : Nat) : Int) + 1) = ((q : Nat) : Int) + 1 from (by rw [IntWalk.i64_in _ (by omega)]))) ?_
          refine RW.soft Wd.a (v := .int .i64 (((q : Nat) : Int) + 1)) (by exact E.assign (AF_ev rfl tp)) ?_
          refine RW.nil ?_
          refine Th.n ?_
          have hst := hst.take (.there .here)
          exact ⟨vs.length - (q + 1), by omega, q + 1, (vz.set q (Ver.mk kz 77 false)), (by omega), (by rw [List.length_set]; exact hvsl), rfl, up rfl (up rfl (up rfl (u0 (up rfl (up rfl (up rfl (up rfl (up rfl (up rfl (up rfl (up rfl hs0))))))))))), up rfl (up rfl (up rfl (u0 (up rfl (up rfl (up rfl (up rfl (up rfl (up rfl (up rfl (up rfl hs4))))))))))), up rfl (up rfl (up rfl (u0 (up rfl (up rfl (up rfl (up rfl (up rfl (up rfl (up rfl (up rfl hs5))))))))))), up rfl (up rfl (up rfl (u0 (up rfl (up rfl (up rfl (up rfl (up rfl (up rfl (up rfl (up rfl hs6))))))))))), up rfl (up rfl (up rfl (u0 (up rfl (up rfl (up rfl (up rfl (up rfl (up rfl (up rfl (up rfl hs9))))))))))), up rfl (up rfl (up rfl (u0 (up rfl (up rfl (up rfl (up rfl (up rfl (up rfl (up rfl (up rfl hs11))))))))))), (int_eq (a := ((q : Nat) : Int) + 1) tp (by omega)), hst⟩
        · have hc10_ := hc10
          try simp only [decide_eq_true_eq, decide_eq_false_iff_not, Bool.and_eq_true, Bool.or_eq_true, Bool.and_eq_false_iff, Bool.or_eq_false_iff, Bool.not_eq_true', Bool.not_eq_false', beq_iff_eq, beq_eq_false_iff_ne, bne_iff_ne, bne_eq_false_iff_eq, ne_eq, Int.not_lt, Int.not_le, gt_iff_lt, ge_iff_le] at hc10_
          refine CW.exit ?_
          refine Th.x ?_
          refine Th.x ?_
          refine Bl.x ?_
          refine Bl.n ?_
          refine Th.n ?_
          have hst := hst.take (.there .here)
          have hst := hst.take (.there .here)
          have hst := turn hvsl hst
          have hsm2 : ∀ r ∈ kr.set n (!o1, vz), r.2.length ≤ 8 := fun r hr2 => by
            rcases List.mem_or_eq_of_mem_set hr2 with h1 | rfl
            · exact hsm r h1
            · show vz.length ≤ 8; omega
          refine CW.region ?_
          refine RW.soft Wd.a (v := .int .i64 ((n : Nat) : Int)) (by exact E.move (AF_ev rfl hs11)) ?_
          refine RW.soft Wd.a (v := .int .i64 (((n : Nat) : Int) + 1)) (by exact E.add (k := .i64) (a := ((n : Nat) : Int)) (b := 1) (AF_ev rfl tp) rfl (show IntKind.i64.wrap (((n : Nat) : Int) + 1) = ((n : Nat) : Int) + 1 from (by rw [IntWalk.i64_in _ (by omega)]))) ?_
          refine RW.soft Wd.a (v := .int .i64 (((n : Nat) : Int) + 1)) (by exact E.assign (AF_ev rfl tp)) ?_
          refine RW.nil ?_
          refine Th.n ?_
          have hst := hst.take (.there (.there .here))
          have hst := hst.take (.there (.there .here))
          have hst := hst.take (.there (.there .here))
          exact ⟨(opStep ks o).length - (n + 1), by omega, n + 1, (kr.set n (!o1, vz)), (by omega), (by rw [List.length_set]; exact hkrl), hsm2, rfl, up rfl (up rfl (up rfl hs0)), up rfl (up rfl (up rfl hs4)), up rfl (up rfl (up rfl hs5)), up rfl (up rfl (up rfl hs6)), up rfl (up rfl (up rfl hs9)), (int_eq (a := ((n : Nat) : Int) + 1) tp (by omega)), hst⟩
      · have hc9_ := hc9
        try simp only [decide_eq_true_eq, decide_eq_false_iff_not, Bool.and_eq_true, Bool.or_eq_true, Bool.and_eq_false_iff, Bool.or_eq_false_iff, Bool.not_eq_true', Bool.not_eq_false', beq_iff_eq, beq_eq_false_iff_ne, bne_iff_ne, bne_eq_false_iff_eq, ne_eq, Int.not_lt, Int.not_le, gt_iff_lt, ge_iff_le] at hc9_
        refine CW.exit ?_
        refine Th.x ?_
        refine Th.x ?_
        refine Bl.x ?_
        refine Bl.n ?_
        refine Th.n ?_
        refine CW.region ?_
        refine RW.soft Wd.a (v := .int .i64 ((i : Nat) : Int)) (by exact E.move (AF_ev rfl hs6)) ?_
        refine RW.soft Wd.a (v := .int .i64 (((i : Nat) : Int) + 1)) (by exact E.add (k := .i64) (a := ((i : Nat) : Int)) (b := 1) (AF_ev rfl tp) rfl (show IntKind.i64.wrap (((i : Nat) : Int) + 1) = ((i : Nat) : Int) + 1 from (by rw [IntWalk.i64_in _ (by omega)]))) ?_
        refine RW.soft Wd.a (v := .int .i64 (((i : Nat) : Int) + 1)) (by exact E.assign (AF_ev rfl tp)) ?_
        refine RW.nil ?_
        refine Th.n ?_
        have hst := hst.take (.there (.there .here))
        have hst := hst.take (.there (.there .here))
        have hst := (hst.take (.there (.there .here))).drop
        exact ⟨l.length - (i + 1), by omega, i + 1, kb6, (opStep ks o), (by omega), rfl, up rfl (up rfl (up rfl hs0)), up rfl (up rfl (up rfl hs4)), up rfl (up rfl (up rfl hs5)), (int_eq (a := ((i : Nat) : Int) + 1) tp (by omega)), hst⟩
    · have hc5_ := hc5
      try simp only [decide_eq_true_eq, decide_eq_false_iff_not, Bool.and_eq_true, Bool.or_eq_true, Bool.and_eq_false_iff, Bool.or_eq_false_iff, Bool.not_eq_true', Bool.not_eq_false', beq_iff_eq, beq_eq_false_iff_ne, bne_iff_ne, bne_eq_false_iff_eq, ne_eq, Int.not_lt, Int.not_le, gt_iff_lt, ge_iff_le] at hc5_
      refine CW.skip ?_
      refine Th.n ?_
      refine CW.seq ?_
      refine CW.region ?_
      refine RW.soft Wd.a (v := .pointer (some ⟨kb, 0, none⟩)) (by exact E.move (AF_ev rfl hs4)) ?_
      refine RW.soft Wd.a (v := .pointer (some ⟨b2, 0, none⟩)) (by exact E.move (AF_ev rfl (up rfl hs5))) ?_
      refine RW.soft Wd.a (v := .slice (some ⟨bl, ol, none⟩) l.length c) (by exact E.move (AF_ev rfl (up rfl (up rfl hs0)))) ?_
      refine RW.soft Wd.a (v := .int .i64 ((i : Nat) : Int)) (by exact E.move (AF_ev rfl (up rfl (up rfl (up rfl hs6))))) ?_
      refine RW.soft Wd.a (v := .pointer (some ⟨bl, ol + i * 35, none⟩)) (by exact E.indexAddr (b := bl) (o := ol) (l := l.length) (c := c) (i := ((i : Nat) : Int)) Try.underlying68 sz76 (AF_ev rfl (up rfl tp)) (AF_ev rfl tp) (by omega) (by omega) (by simp)) ?_
      refine RW.soft Wd.a (v := .agg (OpM.enc o).toArray) (by exact E.loadN (b := bl) (o := ol + i * 35) (cs := OpM.enc o) Try.underlying76 rfl sz76 (AF_ev rfl tp) (OpM.enc_len _) (fun j v hv => by rw [Nat.add_assoc]; exact hcl hst _ _ (flat_get OpM.enc_len hol (hv)))) ?_
      have hst := hst.take (.there .here)
      have hst := hst.take (.there .here)
      refine RW.hard Wd.a ?_
      refine H.call0 Try.func50 nm50 rfl (map3 (AF_ev rfl (up rfl (up rfl (up rfl (up rfl (up rfl tp)))))) (AF_ev rfl (up rfl (up rfl (up rfl (up rfl tp))))) (AF_ev rfl tp)) (Calls.mono (does13 o ho hst) ?_)
      rintro _ w ⟨rfl, hst⟩
      refine ⟨_, rfl, ?_⟩
      show RW _ _ _ _ _ _ _
      refine RW.soft Wd.a (v := .bool true) (by exact E.assign (AF_ev rfl tp)) ?_
      refine RW.fin (fun τ => τ 0 = .slice (some ⟨bl, ol, none⟩) l.length c ∧ τ 4 = .pointer (some ⟨kb, 0, none⟩) ∧ τ 5 = .pointer (some ⟨b2, 0, none⟩) ∧ τ 6 = .int .i64 ((i : Nat) : Int) ∧ τ 8 = .bool true ∧ τ 30 = .bool true ∧ τ 39 = .bool false) ⟨up rfl (up rfl (up rfl (up rfl (up rfl (up rfl (up rfl (up rfl hs0))))))), up rfl (up rfl (up rfl (up rfl (up rfl (up rfl (up rfl (up rfl hs4))))))), up rfl (up rfl (up rfl (up rfl (up rfl (up rfl (up rfl (up rfl hs5))))))), up rfl (up rfl (up rfl (up rfl (up rfl (up rfl (up rfl (up rfl hs6))))))), tp, up rfl (up rfl (up rfl (up rfl (up rfl (up rfl (up rfl (up rfl hs30))))))), up rfl (up rfl (up rfl (up rfl (up rfl (up rfl (up rfl (up rfl (Eq.trans hs39 (congrArg Value.bool hc5)))))))))⟩ ?_
      rintro τ ⟨hs0, hs4, hs5, hs6, hs8, hs30, hs39⟩
      refine CW.seq ?_
      refine CW.region ?_
      refine RW.soft Wd.a (v := .pointer (some ⟨kb, 0, none⟩)) (by exact E.move (AF_ev rfl hs4)) ?_
      refine RW.hard Wd.a ?_
      refine H.call0 Try.func40 nm40 rfl (map1 (AF_ev rfl tp)) (Calls.mono (prog_Rings hst) ?_)
      rintro _ w ⟨vX11, rfl, hst⟩
      obtain ⟨X11, c12, rfl, hcX11⟩ := rowsShape hst
      refine ⟨_, rfl, ?_⟩
      show RW _ _ _ _ _ _ _
      refine RW.soft Wd.a (v := .slice X11 ((opStep ks o).length) c12) (by exact E.assign (AF_ev rfl tp)) ?_
      refine RW.fin (fun τ => τ 0 = .slice (some ⟨bl, ol, none⟩) l.length c ∧ τ 4 = .pointer (some ⟨kb, 0, none⟩) ∧ τ 5 = .pointer (some ⟨b2, 0, none⟩) ∧ τ 6 = .int .i64 ((i : Nat) : Int) ∧ τ 8 = .bool true ∧ τ 9 = .slice X11 ((opStep ks o).length) c12 ∧ τ 30 = .bool true ∧ τ 39 = .bool false) ⟨up rfl (up rfl (up rfl hs0)), up rfl (up rfl (up rfl hs4)), up rfl (up rfl (up rfl hs5)), up rfl (up rfl (up rfl hs6)), up rfl (up rfl (up rfl hs8)), tp, up rfl (up rfl (up rfl hs30)), up rfl (up rfl (up rfl hs39))⟩ ?_
      rintro τ ⟨hs0, hs4, hs5, hs6, hs8, hs9, hs30, hs39⟩
      refine CW.seq ?_
      have hst := hst.take (.there (.there .here))
      obtain ⟨hkoy, Xy, cy, hcy, hmy, hXy, hst⟩ := keysApart hst
      have hn8y := hkoy.1
      refine CW.region ?_
      refine RW.soft Wd.a (v := .slice X11 ((opStep ks o).length) c12) (by exact E.move (AF_ev rfl hs9)) ?_
      refine RW.soft Wd.a (v := .pointer (some ⟨b2, 0, none⟩)) (by exact E.move (AF_ev rfl (up rfl hs5))) ?_
      refine RW.soft Wd.a (v := .pointer (some ⟨b2, 0, none⟩)) (by exact E.nilCheck (a := ⟨b2, 0, none⟩) (AF_ev rfl tp)) ?_
      refine RW.soft Wd.a (v := .pointer (some ⟨b2, 0, none⟩)) (by exact E.fieldAddr (b := b2) (o := 0) (f := { name := "L", type := 71, offset := 0, embedded := false, tag := "", pkgPath := "", byteOffset := 0 }) (AF_ev rfl tp) Try.underlying96 rfl sz71 rfl) ?_
      refine RW.soft Wd.a (v := .slice Xy ((opStep ks o).length) cy) (by exact E.load (a := ⟨b2, 0, none⟩) Try.underlying71 rfl (AF_ev rfl tp) (hst.cell .here rfl)) ?_
      have hst := hst.take (.there .here)
      have hst := hst.take (.there (.there .here))
      refine RW.hard Wd.a ?_
      refine H.call0 Try.func48 nm48 rfl (map2 (AF_ev rfl (up rfl (up rfl (up rfl (up rfl tp))))) (AF_ev rfl tp)) (Calls.mono (ref_SameV (small_ok hkoy) hst) ?_)
      rintro _ w ⟨rfl, hst⟩
      refine ⟨_, rfl, ?_⟩
      show RW _ _ _ _ _ _ _
      refine RW.soft Wd.a (v := .bool true) (by exact E.assign (AF_ev rfl tp)) ?_
      refine RW.fin (fun τ => τ 0 = .slice (some ⟨bl, ol, none⟩) l.length c ∧ τ 4 = .pointer (some ⟨kb, 0, none⟩) ∧ τ 5 = .pointer (some ⟨b2, 0, none⟩) ∧ τ 6 = .int .i64 ((i : Nat) : Int) ∧ τ 8 = .bool true ∧ τ 9 = .slice X11 ((opStep ks o).length) c12 ∧ τ 10 = .bool true ∧ τ 30 = .bool true ∧ τ 39 = .bool false) ⟨up rfl (up rfl (up rfl (up rfl (up rfl (up rfl (up rfl hs0)))))), up rfl (up rfl (up rfl (up rfl (up rfl (up rfl (up rfl hs4)))))), up rfl (up rfl (up rfl (up rfl (up rfl (up rfl (up rfl hs5)))))), up rfl (up rfl (up rfl (up rfl (up rfl (up rfl (up rfl hs6)))))), up rfl (up rfl (up rfl (up rfl (up rfl (up rfl (up rfl hs8)))))), up rfl (up rfl (up rfl (up rfl (up rfl (up rfl (up rfl hs9)))))), tp, up rfl (up rfl (up rfl (up rfl (up rfl (up rfl (up rfl hs30)))))), up rfl (up rfl (up rfl (up rfl (up rfl (up rfl (up rfl hs39))))))⟩ ?_
      rintro τ ⟨hs0, hs4, hs5, hs6, hs8, hs9, hs10, hs30, hs39⟩
      refine CW.seq ?_
      refine CW.seq ?_
      have hst := hst.take (.there .here)
      have hst := hst.take (.there (.there .here))
      have hst := keysMake hkoy hst
      refine CW.region ?_
      refine RW.soft Wd.a (v := .bool true) (by exact E.move (AF_ev rfl hs8)) ?_
      refine RW.soft Wd.a (v := .bool false) (by exact E.not (b := true) (AF_ev rfl tp)) ?_
      refine RW.soft Wd.a (v := .bool false) (by exact E.move (AF_ev rfl tp)) ?_
      refine RW.soft (by exact Wd.yes (x := 74) rfl (AF_ev rfl tp)) (v := .bool true) (by exact E.move (AF_ev rfl (up rfl (up rfl (up rfl hs10))))) ?_
      refine RW.soft (by exact Wd.yes (x := 74) rfl (AF_ev rfl (up rfl tp))) (v := .bool false) (by exact E.not (b := true) (AF_ev rfl tp)) ?_
      refine RW.soft Wd.a (v := .bool false) (by exact E.pickF (AF_ev rfl (up rfl (up rfl tp))) (AF_ev rfl tp)) ?_
      refine RW.fin (fun τ => τ 0 = .slice (some ⟨bl, ol, none⟩) l.length c ∧ τ 4 = .pointer (some ⟨kb, 0, none⟩) ∧ τ 5 = .pointer (some ⟨b2, 0, none⟩) ∧ τ 6 = .int .i64 ((i : Nat) : Int) ∧ τ 8 = .bool true ∧ τ 9 = .slice X11 ((opStep ks o).length) c12 ∧ τ 10 = .bool true ∧ τ 30 = .bool true ∧ τ 39 = .bool false ∧ τ 77 = .bool false) ⟨up rfl (up rfl (up rfl (up rfl (up rfl (up rfl hs0))))), up rfl (up rfl (up rfl (up rfl (up rfl (up rfl hs4))))), up rfl (up rfl (up rfl (up rfl (up rfl (up rfl hs5))))), up rfl (up rfl (up rfl (up rfl (up rfl (up rfl hs6))))), up rfl (up rfl (up rfl (up rfl (up rfl (up rfl hs8))))), up rfl (up rfl (up rfl (up rfl (up rfl (up rfl hs9))))), up rfl (up rfl (up rfl (up rfl (up rfl (up rfl hs10))))), up rfl (up rfl (up rfl (up rfl (up rfl (up rfl hs30))))), up rfl (up rfl (up rfl (up rfl (up rfl (up rfl hs39))))), tp⟩ ?_
      rintro τ ⟨hs0, hs4, hs5, hs6, hs8, hs9, hs10, hs30, hs39, hs77⟩
      refine CW.condF (AF_ev rfl hs77) ?_
      refine CW.skip ?_
      refine Th.n ?_
      refine CW.seq ?_
      refine CW.region ?_
      refine RW.soft Wd.a (v := .int .i64 0) (by exact E.assign rfl) ?_
      refine RW.fin (fun τ => τ 0 = .slice (some ⟨bl, ol, none⟩) l.length c ∧ τ 4 = .pointer (some ⟨kb, 0, none⟩) ∧ τ 5 = .pointer (some ⟨b2, 0, none⟩) ∧ τ 6 = .int .i64 ((i : Nat) : Int) ∧ τ 8 = .bool true ∧ τ 9 = .slice X11 ((opStep ks o).length) c12 ∧ τ 10 = .bool true ∧ τ 11 = .int .i64 0 ∧ τ 30 = .bool true ∧ τ 39 = .bool false ∧ τ 77 = .bool false) ⟨up rfl hs0, up rfl hs4, up rfl hs5, up rfl hs6, up rfl hs8, up rfl hs9, up rfl hs10, tp, up rfl hs30, up rfl hs39, up rfl hs77⟩ ?_
      rintro τ ⟨hs0, hs4, hs5, hs6, hs8, hs9, hs10, hs11, hs30, hs39, hs77⟩
      refine CW.block ?_
      have hst := hst.take (.there (.there .here))
      have hst := hst.take (.there (.there .here))
      refine CW.loop (fun (k : Nat) (τ : Fr) (w : World) => ∃ (n : Nat) (kr : RK), n ≤ (opStep ks o).length ∧ kr.length = (opStep ks o).length ∧ (∀ r ∈ kr, r.2.length ≤ 8) ∧ k = (opStep ks o).length - n ∧ τ 0 = .slice (some ⟨bl, ol, none⟩) l.length c ∧ τ 4 = .pointer (some ⟨kb, 0, none⟩) ∧ τ 5 = .pointer (some ⟨b2, 0, none⟩) ∧ τ 6 = .int .i64 ((i : Nat) : Int) ∧ τ 9 = .slice X11 ((opStep ks o).length) c12 ∧ τ 11 = .int .i64 ((n : Nat) : Int) ∧ St p w (RowsV (.slice X11 ((opStep ks o).length) c12) kr :: KeysV 127 kb (opStep ks o) :: KeysV 96 b2 (opStep ks o) :: R)) ((opStep ks o).length - 0) ⟨0, (opStep ks o), by omega, rfl, (small_ok hkoy).2, rfl, hs0, hs4, hs5, hs6, hs9, (int_eq (a := 0) hs11 (by omega)), hst⟩ ?_
      clear hst
      rintro k τ w ⟨n, kr, hn, hkrl, hsm, hkn, hs0, hs4, hs5, hs6, hs9, hs11, hst⟩
      refine CW.seq ?_
      refine CW.seq ?_
      refine CW.region ?_
      refine RW.soft Wd.a (v := .int .i64 ((n : Nat) : Int)) (by exact E.move (AF_ev rfl hs11)) ?_
      refine RW.soft Wd.a (v := .slice X11 ((opStep ks o).length) c12) (by exact E.move (AF_ev rfl (up rfl hs9))) ?_
      refine RW.soft Wd.a (v := .int .i64 (((opStep ks o).length : Nat) : Int)) (by exact E.lenS (p := X11) (l := (opStep ks o).length) (c := c12) Try.underlying71 (AF_ev rfl tp)) ?_
      refine RW.soft Wd.a (v := .bool (decide (((n : Nat) : Int) < (((opStep ks o).length : Nat) : Int)))) (by exact E.lss (k := .i64) (a := ((n : Nat) : Int)) (b := (((opStep ks o).length : Nat) : Int)) (AF_ev rfl (up rfl (up rfl tp))) (AF_ev rfl tp)) ?_
      refine RW.fin (fun τ => τ 0 = .slice (some ⟨bl, ol, none⟩) l.length c ∧ τ 4 = .pointer (some ⟨kb, 0, none⟩) ∧ τ 5 = .pointer (some ⟨b2, 0, none⟩) ∧ τ 6 = .int .i64 ((i : Nat) : Int) ∧ τ 9 = .slice X11 ((opStep ks o).length) c12 ∧ τ 11 = .int .i64 ((n : Nat) : Int) ∧ τ 81 = .bool (decide (((n : Nat) : Int) < (((opStep ks o).length : Nat) : Int)))) ⟨up rfl (up rfl (up rfl (up rfl hs0))), up rfl (up rfl (up rfl (up rfl hs4))), up rfl (up rfl (up rfl (up rfl hs5))), up rfl (up rfl (up rfl (up rfl hs6))), up rfl (up rfl (up rfl (up rfl hs9))), up rfl (up rfl (up rfl (up rfl hs11))), tp⟩ ?_
      rintro τ ⟨hs0, hs4, hs5, hs6, hs9, hs11, hs81⟩
      refine CW.cond (AF_ev rfl hs81) (fun hc13 => ?_) (fun hc13 => ?_)
      · have hc13_ := hc13
        try simp only [decide_eq_true_eq, decide_eq_false_iff_not, Bool.and_eq_true, Bool.or_eq_true, Bool.and_eq_false_iff, Bool.or_eq_false_iff, Bool.not_eq_true', Bool.not_eq_false', beq_iff_eq, beq_eq_false_iff_ne, bne_iff_ne, bne_eq_false_iff_eq, ne_eq, Int.not_lt, Int.not_le, gt_iff_lt, ge_iff_le] at hc13_
        refine CW.skip ?_
        refine Th.n ?_
        refine CW.seq ?_
        refine CW.block ?_
        refine CW.seq ?_
        have hnl : n < kr.length := by omega
        obtain ⟨⟨o1, vs⟩, hkn1⟩ : ∃ z, kr[n]? = some z := ⟨kr[n], List.getElem?_eq_getElem hnl⟩
        have hv8 : vs.length ≤ 8 := hsm _ (List.mem_of_getElem? hkn1)
        obtain ⟨rs, g, Y, d, F, rfl, hcr, hmr, hY, hr, hst, turn⟩ := ringOpenF hkrl hst hkn1
        refine CW.region ?_
        refine RW.soft Wd.a (v := .slice (some ⟨g, 0, none⟩) ((opStep ks o).length) c12) (by exact E.move (AF_ev rfl hs9)) ?_
        refine RW.soft Wd.a (v := .int .i64 ((n : Nat) : Int)) (by exact E.move (AF_ev rfl (up rfl hs11))) ?_
        refine RW.soft Wd.a (v := .slice (some ⟨g, 0, none⟩) ((opStep ks o).length) c12) (by exact E.move (AF_ev rfl (up rfl (up rfl hs9)))) ?_
        refine RW.soft Wd.a (v := .int .i64 ((n : Nat) : Int)) (by exact E.move (AF_ev rfl (up rfl (up rfl (up rfl hs11))))) ?_
        refine RW.soft Wd.a (v := .pointer (some ⟨g, n * 2, none⟩)) (by exact E.indexAddr (b := g) (o := 0) (l := (opStep ks o).length) (c := c12) (i := ((n : Nat) : Int)) Try.underlying71 sz84 (AF_ev rfl (up rfl tp)) (AF_ev rfl tp) (by omega) (by omega) (by simp)) ?_
        refine RW.soft Wd.a (v := .pointer (some ⟨g, n * 2, none⟩)) (by exact E.fieldAddr (b := g) (o := n * 2) (f := { name := "Off", type := 4, offset := 0, embedded := false, tag := "", pkgPath := "", byteOffset := 0 }) (AF_ev rfl tp) Try.underlying84 rfl sz4 rfl) ?_
        refine RW.soft Wd.a (v := .bool o1) (by exact E.load (a := ⟨g, n * 2, none⟩) Try.underlying4 rfl (AF_ev rfl tp) (hst.ocell .here (flat_get (j := 0) RingM.enc_len hr (rfl)))) ?_
        refine RW.soft Wd.a (v := .bool (!o1)) (by exact E.not (b := o1) (AF_ev rfl tp)) ?_
        refine RW.soft Wd.a (v := .pointer (some ⟨g, n * 2, none⟩)) (by exact E.indexAddr (b := g) (o := 0) (l := (opStep ks o).length) (c := c12) (i := ((n : Nat) : Int)) Try.underlying71 sz84 (AF_ev rfl (up rfl (up rfl (up rfl (up rfl (up rfl (up rfl (up rfl tp)))))))) (AF_ev rfl (up rfl (up rfl (up rfl (up rfl (up rfl (up rfl tp))))))) (by omega) (by omega) (by simp)) ?_
        refine RW.soft Wd.a (v := .pointer (some ⟨g, n * 2, none⟩)) (by exact E.fieldAddr (b := g) (o := n * 2) (f := { name := "Off", type := 4, offset := 0, embedded := false, tag := "", pkgPath := "", byteOffset := 0 }) (AF_ev rfl tp) Try.underlying84 rfl sz4 rfl) ?_
        refine RW.hard Wd.a ?_
        refine H.storeInn (f := RingM.enc) (i := n) (d := 0) (m := 1) (v := .bool (!o1)) (news := [.bool (!o1)]) (a' := (RingM.mk (!o1) Y d vs)) RingM.enc_len (AF_ev rfl tp) (AF_ev rfl (up rfl (up rfl tp))) hst .here hr (by omega) rfl rfl rfl sz4 (by omega) (rfl) (by simp [Value.oneCell']) fun w hst => ?_
        refine RW.fin (fun τ => τ 0 = .slice (some ⟨bl, ol, none⟩) l.length c ∧ τ 4 = .pointer (some ⟨kb, 0, none⟩) ∧ τ 5 = .pointer (some ⟨b2, 0, none⟩) ∧ τ 6 = .int .i64 ((i : Nat) : Int) ∧ τ 9 = .slice (some ⟨g, 0, none⟩) ((opStep ks o).length) c12 ∧ τ 11 = .int .i64 ((n : Nat) : Int) ∧ τ 81 = .bool true) ⟨u0 (up rfl (up rfl (up rfl (up rfl (up rfl (up rfl (up rfl (up rfl (up rfl (up rfl hs0)))))))))), u0 (up rfl (up rfl (up rfl (up rfl (up rfl (up rfl (up rfl (up rfl (up rfl (up rfl hs4)))))))))), u0 (up rfl (up rfl (up rfl (up rfl (up rfl (up rfl (up rfl (up rfl (up rfl (up rfl hs5)))))))))), u0 (up rfl (up rfl (up rfl (up rfl (up rfl (up rfl (up rfl (up rfl (up rfl (up rfl hs6)))))))))), u0 (up rfl (up rfl (up rfl (up rfl (up rfl (up rfl (up rfl (up rfl (up rfl (up rfl hs9)))))))))), u0 (up rfl (up rfl (up rfl (up rfl (up rfl (up rfl (up rfl (up rfl (up rfl (up rfl hs11)))))))))), u0 (up rfl (up rfl (up rfl (up rfl (up rfl (up rfl (up rfl (up rfl (up rfl (up rfl (Eq.trans hs81 (congrArg Value.bool hc13))))))))))))⟩ ?_
        rintro τ ⟨hs0, hs4, hs5, hs6, hs9, hs11, hs81⟩
        refine CW.seq ?_
        refine CW.region ?_
        refine RW.soft Wd.a (v := .int .i64 0) (by exact E.assign rfl) ?_
        refine RW.fin (fun τ => τ 0 = .slice (some ⟨bl, ol, none⟩) l.length c ∧ τ 4 = .pointer (some ⟨kb, 0, none⟩) ∧ τ 5 = .pointer (some ⟨b2, 0, none⟩) ∧ τ 6 = .int .i64 ((i : Nat) : Int) ∧ τ 9 = .slice (some ⟨g, 0, none⟩) ((opStep ks o).length) c12 ∧ τ 11 = .int .i64 ((n : Nat) : Int) ∧ τ 12 = .int .i64 0 ∧ τ 81 = .bool true) ⟨up rfl hs0, up rfl hs4, up rfl hs5, up rfl hs6, up rfl hs9, up rfl hs11, tp, up rfl hs81⟩ ?_
        rintro τ ⟨hs0, hs4, hs5, hs6, hs9, hs11, hs12, hs81⟩
        refine CW.block ?_
        have hst := hst.take (.there .here)
        have hst := hst.take (.there .here)
        refine CW.loop (fun (k : Nat) (τ : Fr) (w : World) => ∃ (q : Nat) (vz : List Ver), q ≤ vs.length ∧ vz.length = vs.length ∧ k = vs.length - q ∧ τ 0 = .slice (some ⟨bl, ol, none⟩) l.length c ∧ τ 4 = .pointer (some ⟨kb, 0, none⟩) ∧ τ 5 = .pointer (some ⟨b2, 0, none⟩) ∧ τ 6 = .int .i64 ((i : Nat) : Int) ∧ τ 9 = .slice (some ⟨g, 0, none⟩) ((opStep ks o).length) c12 ∧ τ 11 = .int .i64 ((n : Nat) : Int) ∧ τ 12 = .int .i64 ((q : Nat) : Int) ∧ St p w (Own 84 2 (.slice (some ⟨g, 0, none⟩) ((opStep ks o).length) c12) ((opStep ks o).length) ((rs.set n (RingM.mk (!o1) Y d vs)).flatMap RingM.enc) :: Own 86 34 (.slice Y vs.length d) vs.length (vz.flatMap Ver.enc) :: F)) (vs.length - 0) ⟨0, vs, by omega, rfl, rfl, hs0, hs4, hs5, hs6, hs9, hs11, (int_eq (a := 0) hs12 (by omega)), hst⟩ ?_
        clear hst
        rintro k τ w ⟨q, vz, hq, hvsl, hkq, hs0, hs4, hs5, hs6, hs9, hs11, hs12, hst⟩
        refine CW.seq ?_
        refine CW.seq ?_
        refine CW.region ?_
        refine RW.soft Wd.a (v := .int .i64 ((q : Nat) : Int)) (by exact E.move (AF_ev rfl hs12)) ?_
        refine RW.soft Wd.a (v := .slice (some ⟨g, 0, none⟩) ((opStep ks o).length) c12) (by exact E.move (AF_ev rfl (up rfl hs9))) ?_
        refine RW.soft Wd.a (v := .int .i64 ((n : Nat) : Int)) (by exact E.move (AF_ev rfl (up rfl (up rfl hs11)))) ?_
        refine RW.soft Wd.a (v := .pointer (some ⟨g, n * 2, none⟩)) (by exact E.indexAddr (b := g) (o := 0) (l := (opStep ks o).length) (c := c12) (i := ((n : Nat) : Int)) Try.underlying71 sz84 (AF_ev rfl (up rfl tp)) (AF_ev rfl tp) (by omega) (by omega) (by simp)) ?_
        refine RW.soft Wd.a (v := .pointer (some ⟨g, n * 2 + 1, none⟩)) (by exact E.fieldAddr (b := g) (o := n * 2) (f := { name := "L", type := 82, offset := 1, embedded := false, tag := "", pkgPath := "", byteOffset := 8 }) (AF_ev rfl tp) Try.underlying84 rfl sz82 rfl) ?_
        refine RW.soft Wd.a (v := .slice Y vs.length d) (by exact E.load (a := ⟨g, n * 2 + 1, none⟩) Try.underlying82 rfl (AF_ev rfl tp) (hst.ocell .here (flat_get (j := 1) RingM.enc_len (set_at hr) (rfl)))) ?_
        refine RW.soft Wd.a (v := .int .i64 ((vs.length : Nat) : Int)) (by exact E.lenS (p := Y) (l := vs.length) (c := d) Try.underlying82 (AF_ev rfl tp)) ?_
        refine RW.soft Wd.a (v := .bool (decide (((q : Nat) : Int) < ((vs.length : Nat) : Int)))) (by exact E.lss (k := .i64) (a := ((q : Nat) : Int)) (b := ((vs.length : Nat) : Int)) (AF_ev rfl (up rfl (up rfl (up rfl (up rfl (up rfl (up rfl tp))))))) (AF_ev rfl tp)) ?_
        refine RW.fin (fun τ => τ 0 = .slice (some ⟨bl, ol, none⟩) l.length c ∧ τ 4 = .pointer (some ⟨kb, 0, none⟩) ∧ τ 5 = .pointer (some ⟨b2, 0, none⟩) ∧ τ 6 = .int .i64 ((i : Nat) : Int) ∧ τ 9 = .slice (some ⟨g, 0, none⟩) ((opStep ks o).length) c12 ∧ τ 11 = .int .i64 ((n : Nat) : Int) ∧ τ 12 = .int .i64 ((q : Nat) : Int) ∧ τ 101 = .bool (decide (((q : Nat) : Int) < ((vs.length : Nat) : Int)))) ⟨up rfl (up rfl (up rfl (up rfl (up rfl (up rfl (up rfl (up rfl hs0))))))), up rfl (up rfl (up rfl (up rfl (up rfl (up rfl (up rfl (up rfl hs4))))))), up rfl (up rfl (up rfl (up rfl (up rfl (up rfl (up rfl (up rfl hs5))))))), up rfl (up rfl (up rfl (up rfl (up rfl (up rfl (up rfl (up rfl hs6))))))), up rfl (up rfl (up rfl (up rfl (up rfl (up rfl (up rfl (up rfl hs9))))))), up rfl (up rfl (up rfl (up rfl (up rfl (up rfl (up rfl (up rfl hs11))))))), up rfl (up rfl (up rfl (up rfl (up rfl (up rfl (up rfl (up rfl hs12))))))), tp⟩ ?_
        rintro τ ⟨hs0, hs4, hs5, hs6, hs9, hs11, hs12, hs101⟩
        refine CW.cond (AF_ev rfl hs101) (fun hc14 => ?_) (fun hc14 => ?_)
        · have hc14_ := hc14
          try simp only [decide_eq_true_eq, decide_eq_false_iff_not, Bool.and_eq_true, Bool.or_eq_true, Bool.and_eq_false_iff, Bool.or_eq_false_iff, Bool.not_eq_true', Bool.not_eq_false', beq_iff_eq, beq_eq_false_iff_ne, bne_iff_ne, bne_eq_false_iff_eq, ne_eq, Int.not_lt, Int.not_le, gt_iff_lt, ge_iff_le] at hc14_
          refine CW.skip ?_
          refine Th.n ?_
          refine CW.seq ?_
          refine CW.block ?_
          obtain ⟨gr, rfl⟩ := hY (by omega)
          obtain ⟨x, hx⟩ : ∃ z, vz[q]? = some z := ⟨vz[q]'(by omega), List.getElem?_eq_getElem (by omega)⟩
          refine CW.region ?_
          refine RW.soft Wd.a (v := .slice (some ⟨g, 0, none⟩) ((opStep ks o).length) c12) (by exact E.move (AF_ev rfl hs9)) ?_
          refine RW.soft Wd.a (v := .int .i64 ((n : Nat) : Int)) (by exact E.move (AF_ev rfl (up rfl hs11))) ?_
          refine RW.soft Wd.a (v := .pointer (some ⟨g, n * 2, none⟩)) (by exact E.indexAddr (b := g) (o := 0) (l := (opStep ks o).length) (c := c12) (i := ((n : Nat) : Int)) Try.underlying71 sz84 (AF_ev rfl (up rfl tp)) (AF_ev rfl tp) (by omega) (by omega) (by simp)) ?_
          refine RW.soft Wd.a (v := .pointer (some ⟨g, n * 2 + 1, none⟩)) (by exact E.fieldAddr (b := g) (o := n * 2) (f := { name := "L", type := 82, offset := 1, embedded := false, tag := "", pkgPath := "", byteOffset := 8 }) (AF_ev rfl tp) Try.underlying84 rfl sz82 rfl) ?_
          refine RW.soft Wd.a (v := .slice (some ⟨gr, 0, none⟩) vs.length d) (by exact E.load (a := ⟨g, n * 2 + 1, none⟩) Try.underlying82 rfl (AF_ev rfl tp) (hst.ocell .here (flat_get (j := 1) RingM.enc_len (set_at hr) (rfl)))) ?_
          refine RW.soft Wd.a (v := .int .i64 ((q : Nat) : Int)) (by exact E.move (AF_ev rfl (up rfl (up rfl (up rfl (up rfl (up rfl hs12))))))) ?_
          refine RW.soft Wd.a (v := .agg (Ver.enc (Ver.mk kz 77 false)).toArray) (by exact E.build (vs := #[(1, .int .i64 77)]) (bld1 rfl) (build86u _ _)) ?_
          refine RW.soft Wd.a (v := .pointer (some ⟨gr, q * 34, none⟩)) (by exact E.indexAddr (b := gr) (o := 0) (l := vs.length) (c := d) (i := ((q : Nat) : Int)) Try.underlying82 sz86 (AF_ev rfl (up rfl (up rfl tp))) (AF_ev rfl (up rfl tp)) (by omega) (by omega) (by simp)) ?_
          refine RW.hard Wd.a ?_
          refine H.storeInn (f := Ver.enc) (i := q) (d := 0) (m := 34) (v := .agg (Ver.enc (Ver.mk kz 77 false)).toArray) (news := Ver.enc (Ver.mk kz 77 false)) (a' := (Ver.mk kz 77 false)) Ver.enc_len (AF_ev rfl tp) (AF_ev rfl (up rfl tp)) hst (.there .here) hx (by omega) rfl rfl (Ver.enc_len _) sz86 (by omega) (Ver.set_all x _) (Ver.one _) fun w hst => ?_
          refine RW.nil ?_
          refine Bl.n ?_
          refine Th.n ?_
          refine CW.region ?_
          refine RW.soft Wd.a (v := .int .i64 ((q : Nat) : Int)) (by exact E.move (AF_ev rfl (u0 (up rfl (up rfl (up rfl (up rfl (up rfl (up rfl (up rfl (up rfl hs12))))))))))) ?_
          refine RW.soft Wd.a (v := .int .i64 (((q : Nat) : Int) + 1)) (by exact E.add (k := .i64) (a := ((q : Nat) : Int)) (b := 1) (AF_ev rfl tp) rfl (show IntKind.i64.wrap (((q : Nat) : Int) + 1) = ((q : Nat) : Int) + 1 from (by rw [IntWalk.i64_in _ (by omega)]))) ?_
          refine RW.soft Wd.a (v := .int .i64 (((q : Nat) : Int) + 1)) (by exact E.assign (AF_ev rfl tp)) ?_
          refine RW.nil ?_
          refine Th.n ?_
          have hst := hst.take (.there .here)
          exact ⟨vs.length - (q + 1), by omega, q + 1, (vz.set q (Ver.mk kz 77 false)), (by omega), (by rw [List.length_set]; exact hvsl), rfl, up rfl (up rfl (up rfl (u0 (up rfl (up rfl (up rfl (up rfl (up rfl (up rfl (up rfl (up rfl hs0))))))))))), up rfl (up rfl (up rfl (u0 (up rfl (up rfl (up rfl (up rfl (up rfl (up rfl (up rfl (up rfl hs4))))))))))), up rfl (up rfl (up rfl (u0 (up rfl (up rfl (up rfl (up rfl (up rfl (up rfl (up rfl (up rfl hs5))))))))))), up rfl (up rfl (up rfl (u0 (up rfl (up rfl (up rfl (up rfl (up rfl (up rfl (up rfl (up rfl hs6))))))))))), up rfl (up rfl (up rfl (u0 (up rfl (up rfl (up rfl (up rfl (up rfl (up rfl (up rfl (up rfl hs9))))))))))), up rfl (up rfl (up rfl (u0 (up rfl (up rfl (up rfl (up rfl (up rfl (up rfl (up rfl (up rfl hs11))))))))))), (int_eq (a := ((q : Nat) : Int) + 1) tp (by omega)), hst⟩
        · have hc14_ := hc14
          try simp only [decide_eq_true_eq, decide_eq_false_iff_not, Bool.and_eq_true, Bool.or_eq_true, Bool.and_eq_false_iff, Bool.or_eq_false_iff, Bool.not_eq_true', Bool.not_eq_false', beq_iff_eq, beq_eq_false_iff_ne, bne_iff_ne, bne_eq_false_iff_eq, ne_eq, Int.not_lt, Int.not_le, gt_iff_lt, ge_iff_le] at hc14_
          refine CW.exit ?_
          refine Th.x ?_
          refine Th.x ?_
          refine Bl.x ?_
          refine Bl.n ?_
          refine Th.n ?_
          have hst := hst.take (.there .here)
          have hst := hst.take (.there .here)
          have hst := turn hvsl hst
          have hsm2 : ∀ r ∈ kr.set n (!o1, vz), r.2.length ≤ 8 := fun r hr2 => by
            rcases List.mem_or_eq_of_mem_set hr2 with h1 | rfl
            · exact hsm r h1
            · show vz.length ≤ 8; omega
          refine CW.region ?_
          refine RW.soft Wd.a (v := .int .i64 ((n : Nat) : Int)) (by exact E.move (AF_ev rfl hs11)) ?_
          refine RW.soft Wd.a (v := .int .i64 (((n : Nat) : Int) + 1)) (by exact E.add (k := .i64) (a := ((n : Nat) : Int)) (b := 1) (AF_ev rfl tp) rfl (show IntKind.i64.wrap (((n : Nat) : Int) + 1) = ((n : Nat) : Int) + 1 from (by rw [IntWalk.i64_in _ (by omega)]))) ?_
          refine RW.soft Wd.a (v := .int .i64 (((n : Nat) : Int) + 1)) (by exact E.assign (AF_ev rfl tp)) ?_
          refine RW.nil ?_
          refine Th.n ?_
          have hst := hst.take (.there (.there .here))
          have hst := hst.take (.there (.there .here))
          have hst := hst.take (.there (.there .here))
          exact ⟨(opStep ks o).length - (n + 1), by omega, n + 1, (kr.set n (!o1, vz)), (by omega), (by rw [List.length_set]; exact hkrl), hsm2, rfl, up rfl (up rfl (up rfl hs0)), up rfl (up rfl (up rfl hs4)), up rfl (up rfl (up rfl hs5)), up rfl (up rfl (up rfl hs6)), up rfl (up rfl (up rfl hs9)), (int_eq (a := ((n : Nat) : Int) + 1) tp (by omega)), hst⟩
      · have hc13_ := hc13
        try simp only [decide_eq_true_eq, decide_eq_false_iff_not, Bool.and_eq_true, Bool.or_eq_true, Bool.and_eq_false_iff, Bool.or_eq_false_iff, Bool.not_eq_true', Bool.not_eq_false', beq_iff_eq, beq_eq_false_iff_ne, bne_iff_ne, bne_eq_false_iff_eq, ne_eq, Int.not_lt, Int.not_le, gt_iff_lt, ge_iff_le] at hc13_
        refine CW.exit ?_
        refine Th.x ?_
        refine Th.x ?_
        refine Bl.x ?_
        refine Bl.n ?_
        refine Th.n ?_
        refine CW.region ?_
        refine RW.soft Wd.a (v := .int .i64 ((i : Nat) : Int)) (by exact E.move (AF_ev rfl hs6)) ?_
        refine RW.soft Wd.a (v := .int .i64 (((i : Nat) : Int) + 1)) (by exact E.add (k := .i64) (a := ((i : Nat) : Int)) (b := 1) (AF_ev rfl tp) rfl (show IntKind.i64.wrap (((i : Nat) : Int) + 1) = ((i : Nat) : Int) + 1 from (by rw [IntWalk.i64_in _ (by omega)]))) ?_
        refine RW.soft Wd.a (v := .int .i64 (((i : Nat) : Int) + 1)) (by exact E.assign (AF_ev rfl tp)) ?_
        refine RW.nil ?_
        refine Th.n ?_
        have hst := hst.take (.there (.there .here))
        have hst := hst.take (.there (.there .here))
        have hst := (hst.take (.there (.there .here))).drop
        exact ⟨l.length - (i + 1), by omega, i + 1, kb, (opStep ks o), (by omega), rfl, up rfl (up rfl (up rfl hs0)), up rfl (up rfl (up rfl hs4)), up rfl (up rfl (up rfl hs5)), (int_eq (a := ((i : Nat) : Int) + 1) tp (by omega)), hst⟩
  · have hc4_ := hc4
    try simp only [decide_eq_true_eq, decide_eq_false_iff_not, Bool.and_eq_true, Bool.or_eq_true, Bool.and_eq_false_iff, Bool.or_eq_false_iff, Bool.not_eq_true', Bool.not_eq_false', beq_iff_eq, beq_eq_false_iff_ne, bne_iff_ne, bne_eq_false_iff_eq, ne_eq, Int.not_lt, Int.not_le, gt_iff_lt, ge_iff_le] at hc4_
    refine CW.exit ?_
    refine Th.x ?_
    refine Th.x ?_
    refine Bl.x ?_
    refine Th.n ?_
    refine CW.seq ?_
    refine CW.region ?_
    refine RW.soft Wd.a (v := .bool true) (by exact E.assign rfl) ?_
    refine RW.fin (fun τ => τ 0 = .slice X l.length c ∧ τ 2 = .bool true ∧ τ 4 = .pointer (some ⟨kb, 0, none⟩) ∧ τ 5 = .pointer (some ⟨b2, 0, none⟩) ∧ τ 6 = .int .i64 ((i : Nat) : Int) ∧ τ 30 = .bool false) ⟨up rfl hs0, tp, up rfl hs4, up rfl hs5, up rfl hs6, up rfl (Eq.trans hs30 (congrArg Value.bool hc4))⟩ ?_
    rintro τ ⟨hs0, hs2, hs4, hs5, hs6, hs30⟩
    refine CW.ret ?_
    refine ret1 (v := .bool true) rfl (by exact (.tmp (AF_ev rfl hs2) .nil)) ?_
    have hst := (hst.take .here).drop
    have hst := (hst.take .here).drop
    exact ⟨rfl, hst⟩
end Go.Proofs.Ytdlcjoonhojpfaa
