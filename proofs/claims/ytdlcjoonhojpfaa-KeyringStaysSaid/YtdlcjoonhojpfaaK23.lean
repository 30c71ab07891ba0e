/- The calls of the package keyring, walked through operation by operation. -/
import Derived.Test.YtdlcjoonhojpfaaK14
import Derived.Test.YtdlcjoonhojpfaaK13
import Derived.Test.YtdlcjoonhojpfaaK12
import Derived.Test.YtdlcjoonhojpfaaK11
import Derived.Test.YtdlcjoonhojpfaaK10
import Derived.Test.YtdlcjoonhojpfaaK9
import Derived.Test.YtdlcjoonhojpfaaK8
import Derived.Test.YtdlcjoonhojpfaaK7
import Derived.Test.YtdlcjoonhojpfaaK6
import Derived.Test.YtdlcjoonhojpfaaK5
import Derived.Test.YtdlcjoonhojpfaaK4
import Derived.Test.YtdlcjoonhojpfaaK3
import Derived.Test.YtdlcjoonhojpfaaK22
namespace Go.Proofs.Ytdlcjoonhojpfaa
open Go.RowKit Go.SL Go.K13
attribute [local irreducible] Go.SL.RW Go.SL.CW Go.SL.RD Go.SL.Hd Go.SL.St
set_option linter.unusedVariables false
set_option linter.unusedSimpArgs false

theorem nm38 : (Try.f38.name == "runtime.NumGoroutine") = false := by kernel_rfl
theorem nm40 : (Try.f40.name == "runtime.NumGoroutine") = false := by kernel_rfl
theorem sz76 : (Try.prog.info? 76).map (·.size) = some 35 := by kernel_rfl

theorem zr76k : (Try.prog.info? 76).bind (·.zero) = some (.agg (OpM.enc (OpM.mk 0 0 0 kz)).toArray) := by kernel_rfl

theorem stays_walk {p : Pers} {w : World} {R : List Assn} {X : Option Addr} {c : Nat} {l : List OpM} (hlm : l.length ≤ 9223372036854775807) (hO : Las p 35 (.slice X l.length c) l.length (l.flatMap OpM.enc)) (hK : ∀ o ∈ l, o.Ok) (hst : St p w (R)) :
    Calls Try.prog 9 #[.slice X l.length c] w fun e w => e = .returned (.bool true) ∧ St p w R := by
  refine enter Try.func9 rfl (by simp) (n := 253) rfl fun τ hτ => ?_
  have hs0 : τ 0 = .slice X l.length c := hτ 0 (by simp)
  clear hτ
  refine CW.seq ?_
  refine CW.region ?_
  refine RW.soft Wd.a (v := .bool false) (by exact E.assign rfl) ?_
  refine RW.fin (fun τ => τ 0 = .slice X l.length c ∧ τ 2 = .bool false) ⟨up rfl hs0, tp⟩ ?_
  rintro τ ⟨hs0, hs2⟩
  refine CW.seq ?_
  refine CW.region ?_
  refine RW.hard Wd.a ?_
  refine H.call0 Try.func38 nm38 rfl map0 (Calls.mono (shown13 hst) ?_)
  rintro _ w ⟨rfl, hst⟩
  refine ⟨_, rfl, ?_⟩
  show RW _ _ _ _ _ _ _
  refine RW.soft Wd.a (v := .bool true) (by exact E.assign (AF_ev rfl tp)) ?_
  refine RW.fin (fun τ => τ 0 = .slice X l.length c ∧ τ 2 = .bool false ∧ τ 3 = .bool true) ⟨up rfl (up rfl hs0), up rfl (up rfl hs2), tp⟩ ?_
  rintro τ ⟨hs0, hs2, hs3⟩
  refine CW.seq ?_
  refine CW.region ?_
  refine RW.hard Wd.a ?_
  refine H.call0 Try.func39 nm39 rfl map0 (Calls.mono (prog_New hst) ?_)
  rintro _ w ⟨k1, rfl, hst⟩
  refine ⟨_, rfl, ?_⟩
  show RW _ _ _ _ _ _ _
  refine RW.soft Wd.a (v := .pointer (some ⟨k1, 0, none⟩)) (by exact E.assign (AF_ev rfl tp)) ?_
  refine RW.fin (fun τ => τ 0 = .slice X l.length c ∧ τ 2 = .bool false ∧ τ 3 = .bool true ∧ τ 4 = .pointer (some ⟨k1, 0, none⟩)) ⟨up rfl (up rfl hs0), up rfl (up rfl hs2), up rfl (up rfl hs3), tp⟩ ?_
  rintro τ ⟨hs0, hs2, hs3, hs4⟩
  refine CW.seq ?_
  refine CW.seq ?_
  refine CW.region ?_
  refine RW.soft Wd.a (v := .bool true) (by exact E.move (AF_ev rfl hs3)) ?_
  refine RW.soft Wd.a (v := .bool false) (by exact E.not (b := true) (AF_ev rfl tp)) ?_
  refine RW.soft Wd.a (v := .bool false) (by exact E.move (AF_ev rfl tp)) ?_
  refine RW.soft (by exact Wd.yes (x := 21) rfl (AF_ev rfl tp)) (v := .pointer (some ⟨k1, 0, none⟩)) (by exact E.move (AF_ev rfl (up rfl (up rfl (up rfl hs4))))) ?_
  refine RW.soft (by exact Wd.yes (x := 21) rfl (AF_ev rfl (up rfl tp))) (v := .bool false) (by exact E.eqlP (p := (some ⟨k1, 0, none⟩)) Try.underlying69 (AF_ev rfl tp) rfl) ?_
  refine RW.soft Wd.a (v := .bool false) (by exact E.pickF (AF_ev rfl (up rfl (up rfl tp))) (AF_ev rfl tp)) ?_
  refine RW.fin (fun τ => τ 0 = .slice X l.length c ∧ τ 2 = .bool false ∧ τ 3 = .bool true ∧ τ 4 = .pointer (some ⟨k1, 0, none⟩) ∧ τ 24 = .bool false) ⟨up rfl (up rfl (up rfl (up rfl (up rfl (up rfl hs0))))), up rfl (up rfl (up rfl (up rfl (up rfl (up rfl hs2))))), up rfl (up rfl (up rfl (up rfl (up rfl (up rfl hs3))))), up rfl (up rfl (up rfl (up rfl (up rfl (up rfl hs4))))), tp⟩ ?_
  rintro τ ⟨hs0, hs2, hs3, hs4, hs24⟩
  refine CW.condF (AF_ev rfl hs24) ?_
  refine CW.skip ?_
  refine Th.n ?_
  refine CW.seq ?_
  refine CW.region ?_
  refine RW.soft Wd.a (v := .pointer (some ⟨k1, 0, none⟩)) (by exact E.move (AF_ev rfl hs4)) ?_
  refine RW.hard Wd.a ?_
  refine H.call0 Try.func40 nm40 rfl (map1 (AF_ev rfl tp)) (Calls.mono (prog_Rings hst) ?_)
  rintro _ w ⟨vX2, rfl, hst⟩
  obtain ⟨X2, c3, rfl, hcX2⟩ := rowsShape hst
  refine ⟨_, rfl, ?_⟩
  show RW _ _ _ _ _ _ _
  refine RW.soft Wd.a (v := .slice X2 ([].length) c3) (by exact E.assign (AF_ev rfl tp)) ?_
  refine RW.fin (fun τ => τ 0 = .slice X l.length c ∧ τ 2 = .bool false ∧ τ 3 = .bool true ∧ τ 4 = .pointer (some ⟨k1, 0, none⟩) ∧ τ 5 = .slice X2 ([].length) c3 ∧ τ 24 = .bool false) ⟨up rfl (up rfl (up rfl hs0)), up rfl (up rfl (up rfl hs2)), up rfl (up rfl (up rfl hs3)), up rfl (up rfl (up rfl hs4)), tp, up rfl (up rfl (up rfl hs24))⟩ ?_
  rintro τ ⟨hs0, hs2, hs3, hs4, hs5, hs24⟩
  refine CW.seq ?_
  refine CW.seq ?_
  refine CW.region ?_
  refine RW.soft Wd.a (v := .int .i64 0) (by exact E.assign rfl) ?_
  refine RW.fin (fun τ => τ 0 = .slice X l.length c ∧ τ 2 = .bool false ∧ τ 3 = .bool true ∧ τ 4 = .pointer (some ⟨k1, 0, none⟩) ∧ τ 5 = .slice X2 ([].length) c3 ∧ τ 6 = .int .i64 0 ∧ τ 24 = .bool false) ⟨up rfl hs0, up rfl hs2, up rfl hs3, up rfl hs4, up rfl hs5, tp, up rfl hs24⟩ ?_
  rintro τ ⟨hs0, hs2, hs3, hs4, hs5, hs6, hs24⟩
  refine CW.block ?_
  have hst := hst.take (.there .here)
  refine CW.loop (fun (k : Nat) (τ : Fr) (w : World) => ∃ (i : Nat) (ks : RK) (Xs : Option Addr) (cs : Nat), i ≤ l.length ∧ k = l.length - i ∧ τ 0 = .slice X l.length c ∧ τ 4 = .pointer (some ⟨k1, 0, none⟩) ∧ τ 5 = .slice Xs ks.length cs ∧ τ 6 = .int .i64 ((i : Nat) : Int) ∧ St p w (KeysV 127 k1 ks :: RowsV (.slice Xs ks.length cs) ks :: R)) (l.length - 0) ⟨0, [], X2, c3, by omega, rfl, hs0, hs4, hs5, (int_eq (a := 0) hs6 (by omega)), hst⟩ ?_
  clear hst
  rintro k τ w ⟨i, ks, Xs, cs, hi, hki, hs0, hs4, hs5, hs6, hst⟩
  refine CW.seq ?_
  refine CW.seq ?_
  refine CW.cut (fun τ => τ 0 = .slice X l.length c ∧ τ 4 = .pointer (some ⟨k1, 0, none⟩) ∧ τ 5 = .slice Xs ks.length cs ∧ τ 6 = .int .i64 ((i : Nat) : Int) ∧ τ 34 = .bool ((decide (((i : Nat) : Int) < ((l.length : Nat) : Int))) && (decide (((i : Nat) : Int) < 150)))) ?_ ?_
  · refine CW.region ?_
    refine RW.soft Wd.a (v := .int .i64 ((i : Nat) : Int)) (by exact E.move (AF_ev rfl hs6)) ?_
    refine RW.soft Wd.a (v := .slice X l.length c) (by exact E.move (AF_ev rfl (up rfl hs0))) ?_
    refine RW.soft Wd.a (v := .int .i64 ((l.length : Nat) : Int)) (by exact E.lenS (p := X) (l := l.length) (c := c) Try.underlying68 (AF_ev rfl tp)) ?_
    refine RW.soft Wd.a (v := .bool (decide (((i : Nat) : Int) < ((l.length : Nat) : Int)))) (by exact E.lss (k := .i64) (a := ((i : Nat) : Int)) (b := ((l.length : Nat) : Int)) (AF_ev rfl (up rfl (up rfl tp))) (AF_ev rfl tp)) ?_
    refine RW.soft Wd.a (v := .bool (decide (((i : Nat) : Int) < ((l.length : Nat) : Int)))) (by exact E.move (AF_ev rfl tp)) ?_
    refine Or.elim (Bool.eq_false_or_eq_true (decide (((i : Nat) : Int) < ((l.length : Nat) : Int)))) (fun hg4 => ?_) (fun hg4 => ?_)
    · have hg4_ := hg4
      try simp only [decide_eq_true_eq, decide_eq_false_iff_not, Bool.and_eq_true, Bool.or_eq_true, Bool.and_eq_false_iff, Bool.or_eq_false_iff, Bool.not_eq_true', Bool.not_eq_false', beq_iff_eq, beq_eq_false_iff_ne, bne_iff_ne, bne_eq_false_iff_eq, ne_eq, Int.not_lt, Int.not_le, gt_iff_lt, ge_iff_le] at hg4_
      refine RW.soft (by exact Wd.yes (x := 31) rfl (AF_ev rfl (Eq.trans tp (congrArg Value.bool hg4)))) (v := .int .i64 ((i : Nat) : Int)) (by exact E.move (AF_ev rfl (up rfl (up rfl (up rfl (up rfl (up rfl hs6))))))) ?_
      refine RW.soft (by exact Wd.yes (x := 31) rfl (AF_ev rfl (up rfl (Eq.trans tp (congrArg Value.bool hg4))))) (v := .bool (decide (((i : Nat) : Int) < 150))) (by exact E.lss (k := .i64) (a := ((i : Nat) : Int)) (b := 150) (AF_ev rfl tp) rfl) ?_
      refine RW.soft Wd.a (v := .bool (decide (((i : Nat) : Int) < 150))) (by exact E.pickT (AF_ev rfl (up rfl (up rfl (Eq.trans tp (congrArg Value.bool hg4))))) (AF_ev rfl tp)) ?_
      refine RW.nil ⟨rfl, rfl, up rfl (up rfl (up rfl (up rfl (up rfl (up rfl (up rfl (up rfl hs0))))))), up rfl (up rfl (up rfl (up rfl (up rfl (up rfl (up rfl (up rfl hs4))))))), up rfl (up rfl (up rfl (up rfl (up rfl (up rfl (up rfl (up rfl hs5))))))), up rfl (up rfl (up rfl (up rfl (up rfl (up rfl (up rfl (up rfl hs6))))))), (bool_eq (a := decide (((i : Nat) : Int) < 150)) tp (by simp only [hg4, Bool.true_and, Bool.false_and, Bool.true_or, Bool.false_or]))⟩
    · have hg4_ := hg4
      try simp only [decide_eq_true_eq, decide_eq_false_iff_not, Bool.and_eq_true, Bool.or_eq_true, Bool.and_eq_false_iff, Bool.or_eq_false_iff, Bool.not_eq_true', Bool.not_eq_false', beq_iff_eq, beq_eq_false_iff_ne, bne_iff_ne, bne_eq_false_iff_eq, ne_eq, Int.not_lt, Int.not_le, gt_iff_lt, ge_iff_le] at hg4_
      refine RW.pass (by exact Wd.no (x := 31) (b := false) rfl (AF_ev rfl (Eq.trans tp (congrArg Value.bool hg4))) rfl) ?_
      refine RW.pass (by exact Wd.no (x := 31) (b := false) rfl (AF_ev rfl (up rfl (Eq.trans tp (congrArg Value.bool hg4)))) rfl) ?_
      refine RW.soft Wd.a (v := .bool false) (by exact E.pickF (AF_ev rfl (up rfl (up rfl (Eq.trans tp (congrArg Value.bool hg4))))) rfl) ?_
      refine RW.nil ⟨rfl, rfl, up rfl (up rfl (up rfl (up rfl (up rfl (up rfl (up rfl (up rfl hs0))))))), up rfl (up rfl (up rfl (up rfl (up rfl (up rfl (up rfl (up rfl hs4))))))), up rfl (up rfl (up rfl (up rfl (up rfl (up rfl (up rfl (up rfl hs5))))))), up rfl (up rfl (up rfl (up rfl (up rfl (up rfl (up rfl (up rfl hs6))))))), (bool_eq (a := false) tp (by simp only [hg4, Bool.true_and, Bool.false_and, Bool.true_or, Bool.false_or]))⟩
  rintro τ ⟨hs0, hs4, hs5, hs6, hs34⟩
  refine CW.cond (AF_ev rfl hs34) (fun hc5 => ?_) (fun hc5 => ?_)
  · have hc5_ := hc5
    try simp only [decide_eq_true_eq, decide_eq_false_iff_not, Bool.and_eq_true, Bool.or_eq_true, Bool.and_eq_false_iff, Bool.or_eq_false_iff, Bool.not_eq_true', Bool.not_eq_false', beq_iff_eq, beq_eq_false_iff_ne, bne_iff_ne, bne_eq_false_iff_eq, ne_eq, Int.not_lt, Int.not_le, gt_iff_lt, ge_iff_le] at hc5_
    refine CW.skip ?_
    refine Th.n ?_
    refine CW.seq ?_
    refine CW.block ?_
    refine CW.seq ?_
    have hil : i < l.length := by omega
    obtain ⟨bl, ol, rfl, hcl⟩ := hO.place (by omega)
    obtain ⟨o, hol⟩ : ∃ z, l[i]? = some z := ⟨l[i], List.getElem?_eq_getElem hil⟩
    have ho : o.Ok := hK o (List.mem_of_getElem? hol)
    have hko := (keysApart (hst.take .here)).1
    have hn8 := hko.1
    refine CW.region ?_
    refine RW.soft Wd.a (v := .slice (some ⟨bl, ol, none⟩) l.length c) (by exact E.move (AF_ev rfl hs0)) ?_
    refine RW.soft Wd.a (v := .int .i64 ((i : Nat) : Int)) (by exact E.move (AF_ev rfl (up rfl hs6))) ?_
    refine RW.soft Wd.a (v := .pointer (some ⟨bl, ol + i * 35, none⟩)) (by exact E.indexAddr (b := bl) (o := ol) (l := l.length) (c := c) (i := ((i : Nat) : Int)) Try.underlying68 sz76 (AF_ev rfl (up rfl tp)) (AF_ev rfl tp) (by omega) (by omega) (by simp)) ?_
    refine RW.soft Wd.a (v := .agg (OpM.enc o).toArray) (by exact E.loadN (b := bl) (o := ol + i * 35) (cs := OpM.enc o) Try.underlying76 rfl sz76 (AF_ev rfl tp) (OpM.enc_len _) (fun j v hv => by rw [Nat.add_assoc]; exact hcl hst _ _ (flat_get OpM.enc_len hol (hv)))) ?_
    refine RW.hard Wd.a ?_
    refine H.alloc zr76k hst fun b6 w hst => ?_
    refine RW.hard Wd.a ?_
    refine H.storeWhole (b := b6) (m := 35) (v := .agg (OpM.enc o).toArray) (news := OpM.enc o) (AF_ev rfl tp) (AF_ev rfl (up rfl tp)) hst .here rfl (OpM.enc_len _) (by rw [List.size_toArray]; exact (OpM.enc_len _)) sz76 (OpM.one _) fun w hst => ?_
    refine RW.fin (fun τ => τ 0 = .slice (some ⟨bl, ol, none⟩) l.length c ∧ τ 4 = .pointer (some ⟨k1, 0, none⟩) ∧ τ 5 = .slice Xs ks.length cs ∧ τ 6 = .int .i64 ((i : Nat) : Int) ∧ τ 7 = .pointer (some ⟨b6, 0, none⟩) ∧ τ 34 = .bool true) ⟨u0 (up rfl (up rfl (up rfl (up rfl (up rfl hs0))))), u0 (up rfl (up rfl (up rfl (up rfl (up rfl hs4))))), u0 (up rfl (up rfl (up rfl (up rfl (up rfl hs5))))), u0 (up rfl (up rfl (up rfl (up rfl (up rfl hs6))))), u0 tp, u0 (up rfl (up rfl (up rfl (up rfl (up rfl (Eq.trans hs34 (congrArg Value.bool hc5)))))))⟩ ?_
    rintro τ ⟨hs0, hs4, hs5, hs6, hs7, hs34⟩
    refine CW.seq ?_
    refine CW.seq ?_
    refine CW.region ?_
    refine RW.soft Wd.a (v := .pointer (some ⟨b6, 0, none⟩)) (by exact E.fieldAddr (b := b6) (o := 0) (f := { name := "Kind", type := 3, offset := 0, embedded := false, tag := "", pkgPath := "", byteOffset := 0 }) (AF_ev rfl hs7) Try.underlying76 rfl sz3 rfl) ?_
    refine RW.soft Wd.a (v := .int .i64 o.kd) (by exact E.load (a := ⟨b6, 0, none⟩) Try.underlying3 rfl (AF_ev rfl tp) (hst.cell .here (by rw [List.getElem?_toArray]; exact rfl))) ?_
    refine RW.hard Wd.a ?_
    refine H.call0 Try.func41 nm41 rfl (map2 (AF_ev rfl tp) rfl) (Calls.mono (kind13 o.kd 6 ho.1 (by omega) hst) ?_)
    rintro _ w ⟨rfl, hst⟩
    refine ⟨_, rfl, ?_⟩
    show RW _ _ _ _ _ _ _
    refine RW.fin (fun τ => τ 0 = .slice (some ⟨bl, ol, none⟩) l.length c ∧ τ 4 = .pointer (some ⟨k1, 0, none⟩) ∧ τ 5 = .slice Xs ks.length cs ∧ τ 6 = .int .i64 ((i : Nat) : Int) ∧ τ 7 = .pointer (some ⟨b6, 0, none⟩) ∧ τ 34 = .bool true ∧ τ 43 = .int .i64 (kindF o.kd 6)) ⟨up rfl (up rfl (up rfl hs0)), up rfl (up rfl (up rfl hs4)), up rfl (up rfl (up rfl hs5)), up rfl (up rfl (up rfl hs6)), up rfl (up rfl (up rfl hs7)), up rfl (up rfl (up rfl hs34)), tp⟩ ?_
    rintro τ ⟨hs0, hs4, hs5, hs6, hs7, hs34, hs43⟩
    refine CW.cutW (fun τ w => ∃ (ks2 : RK) (Xt : Option Addr), StayK ks ks2 ∧ τ 0 = .slice (some ⟨bl, ol, none⟩) l.length c ∧ τ 4 = .pointer (some ⟨k1, 0, none⟩) ∧ τ 5 = .slice Xt ks.length cs ∧ τ 6 = .int .i64 ((i : Nat) : Int) ∧ St p w (KeysV 127 k1 ks2 :: RowsV (.slice Xt ks.length cs) ks :: R)) ?_ ?_
    · refine CW.block ?_
      refine CW.seq ?_
      refine CW.region ?_
      refine RW.soft Wd.a (v := .bool ((kindF o.kd 6) == 0)) (by exact E.eql (k := .i64) (a := kindF o.kd 6) (b := 0) (AF_ev rfl hs43) rfl) ?_
      refine RW.soft Wd.a (v := .bool ((kindF o.kd 6) == 0)) (by exact E.assign (AF_ev rfl tp)) ?_
      refine RW.fin (fun τ => τ 0 = .slice (some ⟨bl, ol, none⟩) l.length c ∧ τ 4 = .pointer (some ⟨k1, 0, none⟩) ∧ τ 5 = .slice Xs ks.length cs ∧ τ 6 = .int .i64 ((i : Nat) : Int) ∧ τ 7 = .pointer (some ⟨b6, 0, none⟩) ∧ τ 34 = .bool true ∧ τ 43 = .int .i64 (kindF o.kd 6) ∧ τ 115 = .bool ((kindF o.kd 6) == 0)) ⟨up rfl (up rfl hs0), up rfl (up rfl hs4), up rfl (up rfl hs5), up rfl (up rfl hs6), up rfl (up rfl hs7), up rfl (up rfl hs34), up rfl (up rfl hs43), tp⟩ ?_
      rintro τ ⟨hs0, hs4, hs5, hs6, hs7, hs34, hs43, hs115⟩
      refine CW.cond (AF_ev rfl hs115) (fun hc7 => ?_) (fun hc7 => ?_)
      · have hc7_ := hc7
        try simp only [decide_eq_true_eq, decide_eq_false_iff_not, Bool.and_eq_true, Bool.or_eq_true, Bool.and_eq_false_iff, Bool.or_eq_false_iff, Bool.not_eq_true', Bool.not_eq_false', beq_iff_eq, beq_eq_false_iff_ne, bne_iff_ne, bne_eq_false_iff_eq, ne_eq, Int.not_lt, Int.not_le, gt_iff_lt, ge_iff_le] at hc7_
        refine CW.region ?_
        refine RW.soft Wd.a (v := .pointer (some ⟨k1, 0, none⟩)) (by exact E.move (AF_ev rfl hs4)) ?_
        refine RW.soft Wd.a (v := .pointer (some ⟨b6, 3, none⟩)) (by exact E.fieldAddr (b := b6) (o := 0) (f := { name := "M", type := 74, offset := 3, embedded := false, tag := "", pkgPath := "", byteOffset := 24 }) (AF_ev rfl (up rfl hs7)) Try.underlying76 rfl sz74 rfl) ?_
        refine RW.soft Wd.a (v := .agg (bk o.m).toArray) (by exact E.loadN (b := b6) (o := 3) (cs := bk o.m) Try.underlying74 rfl sz74 (AF_ev rfl tp) (bk_len _) (St.cellsOf hst .here (fun j v hv => OpM.at_m _ hv))) ?_
        have hst := hst.take (.there .here)
        refine RW.hard Wd.a ?_
        refine H.call0 Try.func42 nm42 rfl (map2 (AF_ev rfl (up rfl (up rfl tp))) (AF_ev rfl tp)) (Calls.mono (prog_Create   o.m hst) ?_)
        rintro _ w ⟨rfl, hst⟩
        have hstay : StayK ks (kCreate ks o.m).2.2 := stay_create hko _
        generalize (kCreate ks o.m).2.2 = ks2 at hst hstay
        refine ⟨_, rfl, ?_⟩
        show RW _ _ _ _ _ _ _
        refine RW.nil ?_
        refine Bl.n ?_
        have hst := hst.take (.there (.there .here))
        have hst := hst.take (.there .here)
        have hst := (hst.take (.there (.there .here))).drop
        exact ⟨rfl, ks2, Xs, hstay, up rfl (up rfl (up rfl (up rfl hs0))), up rfl (up rfl (up rfl (up rfl hs4))), up rfl (up rfl (up rfl (up rfl hs5))), up rfl (up rfl (up rfl (up rfl hs6))), hst⟩
      · have hc7_ := hc7
        try simp only [decide_eq_true_eq, decide_eq_false_iff_not, Bool.and_eq_true, Bool.or_eq_true, Bool.and_eq_false_iff, Bool.or_eq_false_iff, Bool.not_eq_true', Bool.not_eq_false', beq_iff_eq, beq_eq_false_iff_ne, bne_iff_ne, bne_eq_false_iff_eq, ne_eq, Int.not_lt, Int.not_le, gt_iff_lt, ge_iff_le] at hc7_
        refine CW.seq ?_
        refine CW.region ?_
        refine RW.soft Wd.a (v := .bool ((kindF o.kd 6) == 1)) (by exact E.eql (k := .i64) (a := kindF o.kd 6) (b := 1) (AF_ev rfl hs43) rfl) ?_
        refine RW.soft Wd.a (v := .bool ((kindF o.kd 6) == 1)) (by exact E.assign (AF_ev rfl tp)) ?_
        refine RW.fin (fun τ => τ 0 = .slice (some ⟨bl, ol, none⟩) l.length c ∧ τ 4 = .pointer (some ⟨k1, 0, none⟩) ∧ τ 5 = .slice Xs ks.length cs ∧ τ 6 = .int .i64 ((i : Nat) : Int) ∧ τ 7 = .pointer (some ⟨b6, 0, none⟩) ∧ τ 34 = .bool true ∧ τ 43 = .int .i64 (kindF o.kd 6) ∧ τ 115 = .bool false ∧ τ 121 = .bool ((kindF o.kd 6) == 1)) ⟨up rfl (up rfl hs0), up rfl (up rfl hs4), up rfl (up rfl hs5), up rfl (up rfl hs6), up rfl (up rfl hs7), up rfl (up rfl hs34), up rfl (up rfl hs43), up rfl (up rfl (Eq.trans hs115 (congrArg Value.bool hc7))), tp⟩ ?_
        rintro τ ⟨hs0, hs4, hs5, hs6, hs7, hs34, hs43, hs115, hs121⟩
        refine CW.cond (AF_ev rfl hs121) (fun hc8 => ?_) (fun hc8 => ?_)
        · have hc8_ := hc8
          try simp only [decide_eq_true_eq, decide_eq_false_iff_not, Bool.and_eq_true, Bool.or_eq_true, Bool.and_eq_false_iff, Bool.or_eq_false_iff, Bool.not_eq_true', Bool.not_eq_false', beq_iff_eq, beq_eq_false_iff_ne, bne_iff_ne, bne_eq_false_iff_eq, ne_eq, Int.not_lt, Int.not_le, gt_iff_lt, ge_iff_le] at hc8_
          refine CW.region ?_
          refine RW.soft Wd.a (v := .pointer (some ⟨k1, 0, none⟩)) (by exact E.move (AF_ev rfl hs4)) ?_
          refine RW.soft Wd.a (v := .pointer (some ⟨b6, 1, none⟩)) (by exact E.fieldAddr (b := b6) (o := 0) (f := { name := "Id", type := 3, offset := 1, embedded := false, tag := "", pkgPath := "", byteOffset := 8 }) (AF_ev rfl (up rfl hs7)) Try.underlying76 rfl sz3 rfl) ?_
          refine RW.soft Wd.a (v := .int .i64 o.id) (by exact E.load (a := ⟨b6, 1, none⟩) Try.underlying3 rfl (AF_ev rfl tp) (hst.cell .here (by rw [List.getElem?_toArray]; exact rfl))) ?_
          refine RW.soft Wd.a (v := .pointer (some ⟨b6, 3, none⟩)) (by exact E.fieldAddr (b := b6) (o := 0) (f := { name := "M", type := 74, offset := 3, embedded := false, tag := "", pkgPath := "", byteOffset := 24 }) (AF_ev rfl (up rfl (up rfl (up rfl hs7)))) Try.underlying76 rfl sz74 rfl) ?_
          refine RW.soft Wd.a (v := .agg (bk o.m).toArray) (by exact E.loadN (b := b6) (o := 3) (cs := bk o.m) Try.underlying74 rfl sz74 (AF_ev rfl tp) (bk_len _) (St.cellsOf hst .here (fun j v hv => OpM.at_m _ hv))) ?_
          have hst := hst.take (.there .here)
          refine RW.hard Wd.a ?_
          refine H.call0 Try.func43 nm43 rfl (map3 (AF_ev rfl (up rfl (up rfl (up rfl (up rfl tp))))) (AF_ev rfl (up rfl (up rfl tp))) (AF_ev rfl tp)) (Calls.mono (prog_Rotate o.id ho.2.1 o.m hst) ?_)
          rintro _ w ⟨rfl, hst⟩
          have hstay : StayK ks (kRotate ks o.id o.m).2.2 := stay_rotate hko _ _
          generalize (kRotate ks o.id o.m).2.2 = ks2 at hst hstay
          refine ⟨_, rfl, ?_⟩
          show RW _ _ _ _ _ _ _
          refine RW.nil ?_
          refine Bl.n ?_
          have hst := hst.take (.there (.there .here))
          have hst := hst.take (.there .here)
          have hst := (hst.take (.there (.there .here))).drop
          exact ⟨rfl, ks2, Xs, hstay, up rfl (up rfl (up rfl (up rfl (up rfl (up rfl hs0))))), up rfl (up rfl (up rfl (up rfl (up rfl (up rfl hs4))))), up rfl (up rfl (up rfl (up rfl (up rfl (up rfl hs5))))), up rfl (up rfl (up rfl (up rfl (up rfl (up rfl hs6))))), hst⟩
        · have hc8_ := hc8
          try simp only [decide_eq_true_eq, decide_eq_false_iff_not, Bool.and_eq_true, Bool.or_eq_true, Bool.and_eq_false_iff, Bool.or_eq_false_iff, Bool.not_eq_true', Bool.not_eq_false', beq_iff_eq, beq_eq_false_iff_ne, bne_iff_ne, bne_eq_false_iff_eq, ne_eq, Int.not_lt, Int.not_le, gt_iff_lt, ge_iff_le] at hc8_
          refine CW.seq ?_
          refine CW.region ?_
          refine RW.soft Wd.a (v := .bool ((kindF o.kd 6) == 2)) (by exact E.eql (k := .i64) (a := kindF o.kd 6) (b := 2) (AF_ev rfl hs43) rfl) ?_
          refine RW.soft Wd.a (v := .bool ((kindF o.kd 6) == 2)) (by exact E.assign (AF_ev rfl tp)) ?_
          refine RW.fin (fun τ => τ 0 = .slice (some ⟨bl, ol, none⟩) l.length c ∧ τ 4 = .pointer (some ⟨k1, 0, none⟩) ∧ τ 5 = .slice Xs ks.length cs ∧ τ 6 = .int .i64 ((i : Nat) : Int) ∧ τ 7 = .pointer (some ⟨b6, 0, none⟩) ∧ τ 34 = .bool true ∧ τ 43 = .int .i64 (kindF o.kd 6) ∧ τ 115 = .bool false ∧ τ 121 = .bool false ∧ τ 129 = .bool ((kindF o.kd 6) == 2)) ⟨up rfl (up rfl hs0), up rfl (up rfl hs4), up rfl (up rfl hs5), up rfl (up rfl hs6), up rfl (up rfl hs7), up rfl (up rfl hs34), up rfl (up rfl hs43), up rfl (up rfl hs115), up rfl (up rfl (Eq.trans hs121 (congrArg Value.bool hc8))), tp⟩ ?_
          rintro τ ⟨hs0, hs4, hs5, hs6, hs7, hs34, hs43, hs115, hs121, hs129⟩
          refine CW.cond (AF_ev rfl hs129) (fun hc9 => ?_) (fun hc9 => ?_)
          · have hc9_ := hc9
            try simp only [decide_eq_true_eq, decide_eq_false_iff_not, Bool.and_eq_true, Bool.or_eq_true, Bool.and_eq_false_iff, Bool.or_eq_false_iff, Bool.not_eq_true', Bool.not_eq_false', beq_iff_eq, beq_eq_false_iff_ne, bne_iff_ne, bne_eq_false_iff_eq, ne_eq, Int.not_lt, Int.not_le, gt_iff_lt, ge_iff_le] at hc9_
            refine CW.region ?_
            refine RW.soft Wd.a (v := .pointer (some ⟨k1, 0, none⟩)) (by exact E.move (AF_ev rfl hs4)) ?_
            refine RW.soft Wd.a (v := .pointer (some ⟨b6, 1, none⟩)) (by exact E.fieldAddr (b := b6) (o := 0) (f := { name := "Id", type := 3, offset := 1, embedded := false, tag := "", pkgPath := "", byteOffset := 8 }) (AF_ev rfl (up rfl hs7)) Try.underlying76 rfl sz3 rfl) ?_
            refine RW.soft Wd.a (v := .int .i64 o.id) (by exact E.load (a := ⟨b6, 1, none⟩) Try.underlying3 rfl (AF_ev rfl tp) (hst.cell .here (by rw [List.getElem?_toArray]; exact rfl))) ?_
            refine RW.soft Wd.a (v := .pointer (some ⟨b6, 2, none⟩)) (by exact E.fieldAddr (b := b6) (o := 0) (f := { name := "N", type := 3, offset := 2, embedded := false, tag := "", pkgPath := "", byteOffset := 16 }) (AF_ev rfl (up rfl (up rfl (up rfl hs7)))) Try.underlying76 rfl sz3 rfl) ?_
            refine RW.soft Wd.a (v := .int .i64 o.n) (by exact E.load (a := ⟨b6, 2, none⟩) Try.underlying3 rfl (AF_ev rfl tp) (hst.cell .here (by rw [List.getElem?_toArray]; exact rfl))) ?_
            refine RW.soft Wd.a (v := .int .i64 (Int.tmod o.n 2)) (by exact E.rem (k := .i64) (a := o.n) (b := 2) (AF_ev rfl tp) rfl (by omega) rfl) ?_
            refine RW.soft Wd.a (v := .bool ((Int.tmod o.n 2) == 0)) (by exact E.eql (k := .i64) (a := Int.tmod o.n 2) (b := 0) (AF_ev rfl tp) rfl) ?_
            have hst := hst.take (.there .here)
            refine RW.hard Wd.a ?_
            refine H.call0 Try.func44 nm44 rfl (map3 (AF_ev rfl (up rfl (up rfl (up rfl (up rfl (up rfl (up rfl tp))))))) (AF_ev rfl (up rfl (up rfl (up rfl (up rfl tp))))) (AF_ev rfl tp)) (Calls.mono (prog_Switch o.id ho.2.1 ((Int.tmod o.n 2) == 0) hst) ?_)
            rintro _ w ⟨rfl, hst⟩
            have hstay : StayK ks (kSwitch ks o.id ((Int.tmod o.n 2) == 0)).2 := stay_switch hko _ _
            generalize (kSwitch ks o.id ((Int.tmod o.n 2) == 0)).2 = ks2 at hst hstay
            refine ⟨_, rfl, ?_⟩
            show RW _ _ _ _ _ _ _
            refine RW.nil ?_
            refine Bl.n ?_
            have hst := hst.take (.there (.there .here))
            have hst := hst.take (.there .here)
            have hst := (hst.take (.there (.there .here))).drop
            exact ⟨rfl, ks2, Xs, hstay, up rfl (up rfl (up rfl (up rfl (up rfl (up rfl (up rfl (up rfl hs0))))))), up rfl (up rfl (up rfl (up rfl (up rfl (up rfl (up rfl (up rfl hs4))))))), up rfl (up rfl (up rfl (up rfl (up rfl (up rfl (up rfl (up rfl hs5))))))), up rfl (up rfl (up rfl (up rfl (up rfl (up rfl (up rfl (up rfl hs6))))))), hst⟩
          · have hc9_ := hc9
            try simp only [decide_eq_true_eq, decide_eq_false_iff_not, Bool.and_eq_true, Bool.or_eq_true, Bool.and_eq_false_iff, Bool.or_eq_false_iff, Bool.not_eq_true', Bool.not_eq_false', beq_iff_eq, beq_eq_false_iff_ne, bne_iff_ne, bne_eq_false_iff_eq, ne_eq, Int.not_lt, Int.not_le, gt_iff_lt, ge_iff_le] at hc9_
            refine CW.seq ?_
            refine CW.region ?_
            refine RW.soft Wd.a (v := .bool ((kindF o.kd 6) == 3)) (by exact E.eql (k := .i64) (a := kindF o.kd 6) (b := 3) (AF_ev rfl hs43) rfl) ?_
            refine RW.soft Wd.a (v := .bool ((kindF o.kd 6) == 3)) (by exact E.assign (AF_ev rfl tp)) ?_
            refine RW.fin (fun τ => τ 0 = .slice (some ⟨bl, ol, none⟩) l.length c ∧ τ 4 = .pointer (some ⟨k1, 0, none⟩) ∧ τ 5 = .slice Xs ks.length cs ∧ τ 6 = .int .i64 ((i : Nat) : Int) ∧ τ 7 = .pointer (some ⟨b6, 0, none⟩) ∧ τ 34 = .bool true ∧ τ 43 = .int .i64 (kindF o.kd 6) ∧ τ 115 = .bool false ∧ τ 121 = .bool false ∧ τ 129 = .bool false ∧ τ 139 = .bool ((kindF o.kd 6) == 3)) ⟨up rfl (up rfl hs0), up rfl (up rfl hs4), up rfl (up rfl hs5), up rfl (up rfl hs6), up rfl (up rfl hs7), up rfl (up rfl hs34), up rfl (up rfl hs43), up rfl (up rfl hs115), up rfl (up rfl hs121), up rfl (up rfl (Eq.trans hs129 (congrArg Value.bool hc9))), tp⟩ ?_
            rintro τ ⟨hs0, hs4, hs5, hs6, hs7, hs34, hs43, hs115, hs121, hs129, hs139⟩
            refine CW.cond (AF_ev rfl hs139) (fun hc10 => ?_) (fun hc10 => ?_)
            · have hc10_ := hc10
              try simp only [decide_eq_true_eq, decide_eq_false_iff_not, Bool.and_eq_true, Bool.or_eq_true, Bool.and_eq_false_iff, Bool.or_eq_false_iff, Bool.not_eq_true', Bool.not_eq_false', beq_iff_eq, beq_eq_false_iff_ne, bne_iff_ne, bne_eq_false_iff_eq, ne_eq, Int.not_lt, Int.not_le, gt_iff_lt, ge_iff_le] at hc10_
              refine CW.region ?_
              refine RW.soft Wd.a (v := .pointer (some ⟨k1, 0, none⟩)) (by exact E.move (AF_ev rfl hs4)) ?_
              refine RW.soft Wd.a (v := .pointer (some ⟨b6, 1, none⟩)) (by exact E.fieldAddr (b := b6) (o := 0) (f := { name := "Id", type := 3, offset := 1, embedded := false, tag := "", pkgPath := "", byteOffset := 8 }) (AF_ev rfl (up rfl hs7)) Try.underlying76 rfl sz3 rfl) ?_
              refine RW.soft Wd.a (v := .int .i64 o.id) (by exact E.load (a := ⟨b6, 1, none⟩) Try.underlying3 rfl (AF_ev rfl tp) (hst.cell .here (by rw [List.getElem?_toArray]; exact rfl))) ?_
              refine RW.soft Wd.a (v := .pointer (some ⟨b6, 2, none⟩)) (by exact E.fieldAddr (b := b6) (o := 0) (f := { name := "N", type := 3, offset := 2, embedded := false, tag := "", pkgPath := "", byteOffset := 16 }) (AF_ev rfl (up rfl (up rfl (up rfl hs7)))) Try.underlying76 rfl sz3 rfl) ?_
              refine RW.soft Wd.a (v := .int .i64 o.n) (by exact E.load (a := ⟨b6, 2, none⟩) Try.underlying3 rfl (AF_ev rfl tp) (hst.cell .here (by rw [List.getElem?_toArray]; exact rfl))) ?_
              have hst := hst.take (.there .here)
              refine RW.hard Wd.a ?_
              refine H.call0 Try.func45 nm45 rfl (map3 (AF_ev rfl (up rfl (up rfl (up rfl (up rfl tp))))) (AF_ev rfl (up rfl (up rfl tp))) (AF_ev rfl tp)) (Calls.mono (prog_Destroy o.id o.n ho.2.1 ho.2.2  hst) ?_)
              rintro _ w ⟨rfl, hst⟩
              have hstay : StayK ks (kDestroy ks o.id o.n).2 := stay_destroy hko _ _
              generalize (kDestroy ks o.id o.n).2 = ks2 at hst hstay
              refine ⟨_, rfl, ?_⟩
              show RW _ _ _ _ _ _ _
              refine RW.nil ?_
              refine Bl.n ?_
              have hst := hst.take (.there (.there .here))
              have hst := hst.take (.there .here)
              have hst := (hst.take (.there (.there .here))).drop
              exact ⟨rfl, ks2, Xs, hstay, up rfl (up rfl (up rfl (up rfl (up rfl (up rfl hs0))))), up rfl (up rfl (up rfl (up rfl (up rfl (up rfl hs4))))), up rfl (up rfl (up rfl (up rfl (up rfl (up rfl hs5))))), up rfl (up rfl (up rfl (up rfl (up rfl (up rfl hs6))))), hst⟩
            · have hc10_ := hc10
              try simp only [decide_eq_true_eq, decide_eq_false_iff_not, Bool.and_eq_true, Bool.or_eq_true, Bool.and_eq_false_iff, Bool.or_eq_false_iff, Bool.not_eq_true', Bool.not_eq_false', beq_iff_eq, beq_eq_false_iff_ne, bne_iff_ne, bne_eq_false_iff_eq, ne_eq, Int.not_lt, Int.not_le, gt_iff_lt, ge_iff_le] at hc10_
              refine CW.seq ?_
              refine Or.elim (Bool.eq_false_or_eq_true (((kUse ks o.id).2.2.2.1) == 0)) (fun hqu => ?_) (fun hqu => ?_)
              · skip
                obtain ⟨vs, x, hrg, hxl, hxg, hxu, huse⟩ := use_ok hqu
                obtain ⟨hid1, hid2, hri⟩ := ring_some hrg
                have hv1 := (hko.row hri).1
                have hv4 := (hko.row hri).2.1
                have hlast : (((vs.length : Nat) : Int) - 1).toNat = vs.length - 1 := by omega
                have hxi : vs[(((vs.length : Nat) : Int) - 1).toNat]? = some x := by rw [hlast]; exact hxl
                refine CW.region ?_
                refine RW.soft Wd.a (v := .pointer (some ⟨k1, 0, none⟩)) (by exact E.move (AF_ev rfl hs4)) ?_
                refine RW.soft Wd.a (v := .pointer (some ⟨b6, 1, none⟩)) (by exact E.fieldAddr (b := b6) (o := 0) (f := { name := "Id", type := 3, offset := 1, embedded := false, tag := "", pkgPath := "", byteOffset := 8 }) (AF_ev rfl (up rfl hs7)) Try.underlying76 rfl sz3 rfl) ?_
                refine RW.soft Wd.a (v := .int .i64 o.id) (by exact E.load (a := ⟨b6, 1, none⟩) Try.underlying3 rfl (AF_ev rfl tp) (hst.cell .here (by rw [List.getElem?_toArray]; exact rfl))) ?_
                have hst := hst.take (.there .here)
                refine RW.hard Wd.a ?_
                refine H.call0 Try.func46 nm46 rfl (map2 (AF_ev rfl (up rfl (up rfl tp))) (AF_ev rfl tp)) (Calls.mono ((show Calls Try.prog 46 #[.pointer (some ⟨k1, 0, none⟩), .int .i64 o.id] w (fun e w => e = .returned (.tuple #[.int .i64 ((vs.length : Nat) : Int), .int .i64 x.uses, .agg (bk x.mat).toArray, .int .i64 0]) ∧ St p w (KeysV 127 k1 (ks.set (o.id - 1).toNat (false, vs.set (vs.length - 1) ⟨x.mat, x.uses + 1, x.gone⟩)) :: pt b6 (.cells (OpM.enc o).toArray 76) :: RowsV (.slice Xs ks.length cs) ks :: R)) from (by
                  have hq := prog_Use o.id ho.2.1  hst
                  rw [huse] at hq; exact hq))) ?_)
                rintro _ w ⟨rfl, hst⟩
                rw [show (ks.set (o.id - 1).toNat (false, vs.set (vs.length - 1) ⟨x.mat, x.uses + 1, x.gone⟩)) = (kUse ks o.id).2.2.2.2 from by rw [huse]] at hst
                have hstay : StayK ks (kUse ks o.id).2.2.2.2 := stay_use hko _
                generalize (kUse ks o.id).2.2.2.2 = ks2 at hst hstay
                refine ⟨_, rfl, ?_⟩
                show RW _ _ _ _ _ _ _
                refine RW.soft Wd.a (v := .tuple #[.int .i64 ((vs.length : Nat) : Int), .int .i64 x.uses, .agg (bk x.mat).toArray, .int .i64 0]) (by exact E.move (AF_ev rfl tp)) ?_
                refine RW.soft Wd.a (v := .int .i64 ((vs.length : Nat) : Int)) (by exact E.extract (vs := #[.int .i64 ((vs.length : Nat) : Int), .int .i64 x.uses, .agg (bk x.mat).toArray, .int .i64 0]) (AF_ev rfl tp) rfl) ?_
                refine RW.soft Wd.a (v := .int .i64 x.uses) (by exact E.extract (vs := #[.int .i64 ((vs.length : Nat) : Int), .int .i64 x.uses, .agg (bk x.mat).toArray, .int .i64 0]) (AF_ev rfl (up rfl tp)) rfl) ?_
                refine RW.soft Wd.a (v := .agg (bk x.mat).toArray) (by exact E.extract (vs := #[.int .i64 ((vs.length : Nat) : Int), .int .i64 x.uses, .agg (bk x.mat).toArray, .int .i64 0]) (AF_ev rfl (up rfl (up rfl tp))) rfl) ?_
                refine RW.soft Wd.a (v := .int .i64 0) (by exact E.extract (vs := #[.int .i64 ((vs.length : Nat) : Int), .int .i64 x.uses, .agg (bk x.mat).toArray, .int .i64 0]) (AF_ev rfl (up rfl (up rfl (up rfl tp)))) rfl) ?_
                refine RW.hard Wd.a ?_
                refine H.alloc zr74k hst fun b11 w hst => ?_
                refine RW.soft Wd.a (v := .int .i64 ((vs.length : Nat) : Int)) (by exact E.assign (AF_ev rfl (up rfl (up rfl (up rfl (up rfl tp)))))) ?_
                refine RW.soft Wd.a (v := .int .i64 x.uses) (by exact E.assign (AF_ev rfl (up rfl (up rfl (up rfl (up rfl tp)))))) ?_
                refine RW.hard Wd.a ?_
                refine H.storeWhole (b := b11) (m := 32) (v := .agg (bk x.mat).toArray) (news := bk x.mat) (AF_ev rfl (up rfl (up rfl tp))) (AF_ev rfl (up rfl (up rfl (up rfl (up rfl tp))))) hst .here rfl (bk_len _) (by rw [List.size_toArray]; exact (bk_len _)) sz74 (bk_one _) fun w hst => ?_
                refine RW.soft Wd.a (v := .int .i64 0) (by exact E.assign (AF_ev rfl (u0 (up rfl (up rfl (up rfl tp)))))) ?_
                refine RW.fin (fun τ => τ 0 = .slice (some ⟨bl, ol, none⟩) l.length c ∧ τ 4 = .pointer (some ⟨k1, 0, none⟩) ∧ τ 5 = .slice Xs ks.length cs ∧ τ 6 = .int .i64 ((i : Nat) : Int) ∧ τ 7 = .pointer (some ⟨b6, 0, none⟩) ∧ τ 8 = .int .i64 ((vs.length : Nat) : Int) ∧ τ 9 = .int .i64 x.uses ∧ τ 10 = .pointer (some ⟨b11, 0, none⟩) ∧ τ 11 = .int .i64 0 ∧ τ 34 = .bool true ∧ τ 43 = .int .i64 (kindF o.kd 6) ∧ τ 115 = .bool false ∧ τ 121 = .bool false ∧ τ 129 = .bool false ∧ τ 139 = .bool false) ⟨up rfl (u0 (up rfl (up rfl (up rfl (up rfl (up rfl (up rfl (up rfl (up rfl (up rfl (up rfl (up rfl (up rfl hs0))))))))))))), up rfl (u0 (up rfl (up rfl (up rfl (up rfl (up rfl (up rfl (up rfl (up rfl (up rfl (up rfl (up rfl (up rfl hs4))))))))))))), up rfl (u0 (up rfl (up rfl (up rfl (up rfl (up rfl (up rfl (up rfl (up rfl (up rfl (up rfl (up rfl (up rfl hs5))))))))))))), up rfl (u0 (up rfl (up rfl (up rfl (up rfl (up rfl (up rfl (up rfl (up rfl (up rfl (up rfl (up rfl (up rfl hs6))))))))))))), up rfl (u0 (up rfl (up rfl (up rfl (up rfl (up rfl (up rfl (up rfl (up rfl (up rfl (up rfl (up rfl (up rfl hs7))))))))))))), up rfl (u0 (up rfl tp)), up rfl (u0 tp), up rfl (u0 (up rfl (up rfl tp))), tp, up rfl (u0 (up rfl (up rfl (up rfl (up rfl (up rfl (up rfl (up rfl (up rfl (up rfl (up rfl (up rfl (up rfl hs34))))))))))))), up rfl (u0 (up rfl (up rfl (up rfl (up rfl (up rfl (up rfl (up rfl (up rfl (up rfl (up rfl (up rfl (up rfl hs43))))))))))))), up rfl (u0 (up rfl (up rfl (up rfl (up rfl (up rfl (up rfl (up rfl (up rfl (up rfl (up rfl (up rfl (up rfl hs115))))))))))))), up rfl (u0 (up rfl (up rfl (up rfl (up rfl (up rfl (up rfl (up rfl (up rfl (up rfl (up rfl (up rfl (up rfl hs121))))))))))))), up rfl (u0 (up rfl (up rfl (up rfl (up rfl (up rfl (up rfl (up rfl (up rfl (up rfl (up rfl (up rfl (up rfl hs129))))))))))))), up rfl (u0 (up rfl (up rfl (up rfl (up rfl (up rfl (up rfl (up rfl (up rfl (up rfl (up rfl (up rfl (up rfl (Eq.trans hs139 (congrArg Value.bool hc10)))))))))))))))⟩ ?_
                rintro τ ⟨hs0, hs4, hs5, hs6, hs7, hs8, hs9, hs10, hs11, hs34, hs43, hs115, hs121, hs129, hs139⟩
                refine CW.seq ?_
                have hst := hst.take (.there (.there (.there .here)))
                obtain ⟨ra, hva, hst⟩ := rowsR hst
                have hl_ra : ra.length = ks.length := by rw [← hva, List.length_map]
                obtain ⟨ba, oa, hX_ra, hca⟩ := (show Tells13 p (RowsR (.slice Xs ks.length cs) ra) (.slice Xs ra.length cs) ra from by rw [hl_ra]; exact rowsR_tells).place (hst.take .here) (by omega)
                subst hX_ra
                obtain ⟨Y, d, hra⟩ := row_of hva hri
                obtain ⟨b1, o1, rfl, hcx1⟩ := (rowsR_tells (p := p)).rowPlace hra (hst.take .here) (by omega)
                refine CW.regionD [0, 1, 2, 3, 4, 5, 6, 7, 8, 9, 10, 11, 12, 13, 14, 15, 16, 17, 18, 19, 20, 21, 22, 23, 24, 25, 26, 27, 28, 29, 30, 31, 32, 33, 34, 35, 36, 37, 38, 39, 40, 41, 42, 43, 44, 45, 46, 47, 48, 49, 50, 51, 52, 53, 54, 55, 56, 57, 58, 59, 60, 61] (fun w => w.cell? ⟨b6, 1, none⟩ = some (.int .i64 o.id) ∧ w.cell? ⟨ba, oa + (o.id - 1).toNat * 2 + 1, none⟩ = some (.slice (some ⟨b1, o1, none⟩) vs.length d) ∧ w.cell? ⟨b1, o1 + (((vs.length : Nat) : Int) - 1).toNat * 34 + 32, none⟩ = some (.int .i64 x.uses) ∧ (∀ j_ v_, (bk x.mat : List Value)[j_]? = some v_ → w.cell? ⟨b11, 0 + j_, none⟩ = some v_) ∧ (∀ j_ v_, (bk x.mat : List Value)[j_]? = some v_ → w.cell? ⟨b1, o1 + (((vs.length : Nat) : Int) - 1).toNat * 34 + j_, none⟩ = some v_)) mixed ?_
                have hst := hst.drew
                generalize w.drew = w at hst ⊢
                have hS : w.cell? ⟨b6, 1, none⟩ = some (.int .i64 o.id) ∧ w.cell? ⟨ba, oa + (o.id - 1).toNat * 2 + 1, none⟩ = some (.slice (some ⟨b1, o1, none⟩) vs.length d) ∧ w.cell? ⟨b1, o1 + (((vs.length : Nat) : Int) - 1).toNat * 34 + 32, none⟩ = some (.int .i64 x.uses) ∧ (∀ j_ v_, (bk x.mat : List Value)[j_]? = some v_ → w.cell? ⟨b11, 0 + j_, none⟩ = some v_) ∧ (∀ j_ v_, (bk x.mat : List Value)[j_]? = some v_ → w.cell? ⟨b1, o1 + (((vs.length : Nat) : Int) - 1).toNat * 34 + j_, none⟩ = some v_) := ⟨(hst.cell (.there (.there (.there .here))) (by rw [List.getElem?_toArray]; exact rfl)), (by rw [Nat.add_assoc]; exact hca (hst.take .here) _ _ (flat_get (j := 1) RingM.enc_len hra (rfl))), (by rw [Nat.add_assoc]; exact hcx1 (hst.take .here) _ _ (flat_get (j := 32) Ver.enc_len hxi (Ver.at_uses _))), (St.cellsOf hst (.there .here) (fun j v hv => by rw [Nat.zero_add]; exact hv)), (fun j v hv => by rw [Nat.add_assoc]; exact hcx1 (hst.take .here) _ _ (flat_get Ver.enc_len hxi (Ver.at_mat _ hv)))⟩
                refine RD.take 0 rfl (by kernel_rfl) Wd.a (v := .int .i64 0) (fun w hS => by exact E.move (AF_ev rfl hs11)) hS ?_
                refine RD.take 1 rfl (by kernel_rfl) Wd.a (v := .bool true) (fun w hS => by exact E.eql (k := .i64) (a := 0) (b := 0) (AF_ev rfl tp) rfl) hS ?_
                refine RD.take 2 rfl (by kernel_rfl) Wd.a (v := .bool true) (fun w hS => by exact E.move (AF_ev rfl tp)) hS ?_
                refine RD.take 3 rfl (by kernel_rfl) (by exact Wd.yes (x := 55) rfl (AF_ev rfl tp)) (v := .pointer (some ⟨b6, 1, none⟩)) (fun w hS => by exact E.fieldAddr (b := b6) (o := 0) (f := { name := "Id", type := 3, offset := 1, embedded := false, tag := "", pkgPath := "", byteOffset := 8 }) (AF_ev rfl (up rfl (up rfl (up rfl hs7)))) Try.underlying76 rfl sz3 rfl) hS ?_
                refine RD.take 4 rfl (by kernel_rfl) (by exact Wd.yes (x := 55) rfl (AF_ev rfl (up rfl tp))) (v := .int .i64 o.id) (fun w hS => by exact E.load (a := ⟨b6, 1, none⟩) Try.underlying3 rfl (AF_ev rfl tp) hS.1) hS ?_
                refine RD.take 5 rfl (by kernel_rfl) (by exact Wd.yes (x := 55) rfl (AF_ev rfl (up rfl (up rfl tp)))) (v := .bool false) (fun w hS => by exact E.b (a := decide (o.id < 1)) (E.lss (k := .i64) (a := o.id) (b := 1) (AF_ev rfl tp) rfl) (decide_eq_false (by omega))) hS ?_
                refine RD.take 6 rfl (by kernel_rfl) (by exact Wd.yes (x := 55) rfl (AF_ev rfl (up rfl (up rfl (up rfl tp))))) (v := .bool false) (fun w hS => by exact E.move (AF_ev rfl tp)) hS ?_
                refine RD.take 7 rfl (by kernel_rfl) (by exact Wd.yes (x := 59) rfl (AF_ev rfl tp)) (v := .pointer (some ⟨b6, 1, none⟩)) (fun w hS => by exact E.fieldAddr (b := b6) (o := 0) (f := { name := "Id", type := 3, offset := 1, embedded := false, tag := "", pkgPath := "", byteOffset := 8 }) (AF_ev rfl (up rfl (up rfl (up rfl (up rfl (up rfl (up rfl (up rfl hs7)))))))) Try.underlying76 rfl sz3 rfl) hS ?_
                refine RD.take 8 rfl (by kernel_rfl) (by exact Wd.yes (x := 59) rfl (AF_ev rfl (up rfl tp))) (v := .int .i64 o.id) (fun w hS => by exact E.load (a := ⟨b6, 1, none⟩) Try.underlying3 rfl (AF_ev rfl tp) hS.1) hS ?_
                refine RD.take 9 rfl (by kernel_rfl) (by exact Wd.yes (x := 59) rfl (AF_ev rfl (up rfl (up rfl tp)))) (v := .slice (some ⟨ba, oa, none⟩) ks.length cs) (fun w hS => by exact E.move (AF_ev rfl (up rfl (up rfl (up rfl (up rfl (up rfl (up rfl (up rfl (up rfl (up rfl hs5))))))))))) hS ?_
                refine RD.take 10 rfl (by kernel_rfl) (by exact Wd.yes (x := 59) rfl (AF_ev rfl (up rfl (up rfl (up rfl tp))))) (v := .int .i64 ((ks.length : Nat) : Int)) (fun w hS => by exact E.lenS (p := (some ⟨ba, oa, none⟩)) (l := ks.length) (c := cs) Try.underlying71 (AF_ev rfl tp)) hS ?_
                refine RD.take 11 rfl (by kernel_rfl) (by exact Wd.yes (x := 59) rfl (AF_ev rfl (up rfl (up rfl (up rfl (up rfl tp)))))) (v := .bool false) (fun w hS => by exact E.b (a := decide (o.id > ((ks.length : Nat) : Int))) (E.gtr (k := .i64) (a := o.id) (b := ((ks.length : Nat) : Int)) (AF_ev rfl (up rfl (up rfl tp))) (AF_ev rfl tp)) (decide_eq_false (by omega))) hS ?_
                refine RD.take 12 rfl (by kernel_rfl) (by exact Wd.yes (x := 55) rfl (AF_ev rfl (up rfl (up rfl (up rfl (up rfl (up rfl (up rfl (up rfl (up rfl (up rfl tp))))))))))) (v := .bool false) (fun w hS => by exact E.pickF (AF_ev rfl (up rfl (up rfl (up rfl (up rfl (up rfl tp)))))) (AF_ev rfl tp)) hS ?_
                refine RD.take 13 rfl (by kernel_rfl) (by exact Wd.yes (x := 55) rfl (AF_ev rfl (up rfl (up rfl (up rfl (up rfl (up rfl (up rfl (up rfl (up rfl (up rfl (up rfl tp)))))))))))) (v := .bool false) (fun w hS => by exact E.move (AF_ev rfl tp)) hS ?_
                refine RD.take 14 rfl (by kernel_rfl) (by exact Wd.yes (x := 66) rfl (AF_ev rfl tp)) (v := .int .i64 ((vs.length : Nat) : Int)) (fun w hS => by exact E.move (AF_ev rfl (up rfl (up rfl (up rfl (up rfl (up rfl (up rfl (up rfl (up rfl (up rfl (up rfl (up rfl (up rfl (up rfl (up rfl hs8)))))))))))))))) hS ?_
                refine RD.take 15 rfl (by kernel_rfl) (by exact Wd.yes (x := 66) rfl (AF_ev rfl (up rfl tp))) (v := .slice (some ⟨ba, oa, none⟩) ks.length cs) (fun w hS => by exact E.move (AF_ev rfl (up rfl (up rfl (up rfl (up rfl (up rfl (up rfl (up rfl (up rfl (up rfl (up rfl (up rfl (up rfl (up rfl (up rfl (up rfl hs5))))))))))))))))) hS ?_
                refine RD.take 16 rfl (by kernel_rfl) (by exact Wd.yes (x := 66) rfl (AF_ev rfl (up rfl (up rfl tp)))) (v := .pointer (some ⟨b6, 1, none⟩)) (fun w hS => by exact E.fieldAddr (b := b6) (o := 0) (f := { name := "Id", type := 3, offset := 1, embedded := false, tag := "", pkgPath := "", byteOffset := 8 }) (AF_ev rfl (up rfl (up rfl (up rfl (up rfl (up rfl (up rfl (up rfl (up rfl (up rfl (up rfl (up rfl (up rfl (up rfl (up rfl (up rfl (up rfl hs7))))))))))))))))) Try.underlying76 rfl sz3 rfl) hS ?_
                refine RD.take 17 rfl (by kernel_rfl) (by exact Wd.yes (x := 66) rfl (AF_ev rfl (up rfl (up rfl (up rfl tp))))) (v := .int .i64 o.id) (fun w hS => by exact E.load (a := ⟨b6, 1, none⟩) Try.underlying3 rfl (AF_ev rfl tp) hS.1) hS ?_
                refine RD.take 18 rfl (by kernel_rfl) (by exact Wd.yes (x := 66) rfl (AF_ev rfl (up rfl (up rfl (up rfl (up rfl tp)))))) (v := .int .i64 (o.id - 1)) (fun w hS => by exact E.sub (k := .i64) (a := o.id) (b := 1) (AF_ev rfl tp) rfl (show IntKind.i64.wrap (o.id - 1) = o.id - 1 from (by rw [IntWalk.i64_in _ (by omega)]))) hS ?_
                refine RD.take 19 rfl (by kernel_rfl) (by exact Wd.yes (x := 66) rfl (AF_ev rfl (up rfl (up rfl (up rfl (up rfl (up rfl tp))))))) (v := .pointer (some ⟨ba, oa + (o.id - 1).toNat * 2, none⟩)) (fun w hS => by exact E.indexAddr (b := ba) (o := oa) (l := ks.length) (c := cs) (i := o.id - 1) Try.underlying71 sz84 (AF_ev rfl (up rfl (up rfl (up rfl tp)))) (AF_ev rfl tp) (by omega) (by omega) rfl) hS ?_
                refine RD.take 20 rfl (by kernel_rfl) (by exact Wd.yes (x := 66) rfl (AF_ev rfl (up rfl (up rfl (up rfl (up rfl (up rfl (up rfl tp)))))))) (v := .pointer (some ⟨ba, oa + (o.id - 1).toNat * 2 + 1, none⟩)) (fun w hS => by exact E.fieldAddr (b := ba) (o := oa + (o.id - 1).toNat * 2) (f := { name := "L", type := 82, offset := 1, embedded := false, tag := "", pkgPath := "", byteOffset := 8 }) (AF_ev rfl tp) Try.underlying84 rfl sz82 rfl) hS ?_
                refine RD.take 21 rfl (by kernel_rfl) (by exact Wd.yes (x := 66) rfl (AF_ev rfl (up rfl (up rfl (up rfl (up rfl (up rfl (up rfl (up rfl tp))))))))) (v := .slice (some ⟨b1, o1, none⟩) vs.length d) (fun w hS => by exact E.load (a := ⟨ba, oa + (o.id - 1).toNat * 2 + 1, none⟩) Try.underlying82 rfl (AF_ev rfl tp) hS.2.1) hS ?_
                refine RD.take 22 rfl (by kernel_rfl) (by exact Wd.yes (x := 66) rfl (AF_ev rfl (up rfl (up rfl (up rfl (up rfl (up rfl (up rfl (up rfl (up rfl tp)))))))))) (v := .int .i64 ((vs.length : Nat) : Int)) (fun w hS => by exact E.lenS (p := (some ⟨b1, o1, none⟩)) (l := vs.length) (c := d) Try.underlying82 (AF_ev rfl tp)) hS ?_
                refine RD.take 23 rfl (by kernel_rfl) (by exact Wd.yes (x := 66) rfl (AF_ev rfl (up rfl (up rfl (up rfl (up rfl (up rfl (up rfl (up rfl (up rfl (up rfl tp))))))))))) (v := .bool false) (fun w hS => by exact E.b (a := ((vs.length : Nat) : Int) != ((vs.length : Nat) : Int)) (E.neq (k := .i64) (a := ((vs.length : Nat) : Int)) (b := ((vs.length : Nat) : Int)) (AF_ev rfl (up rfl (up rfl (up rfl (up rfl (up rfl (up rfl (up rfl (up rfl tp))))))))) (AF_ev rfl tp)) (by simp)) hS ?_
                refine RD.take 24 rfl (by kernel_rfl) (by exact Wd.yes (x := 55) rfl (AF_ev rfl (up rfl (up rfl (up rfl (up rfl (up rfl (up rfl (up rfl (up rfl (up rfl (up rfl (up rfl (up rfl (up rfl (up rfl (up rfl (up rfl (up rfl (up rfl (up rfl (up rfl (up rfl tp))))))))))))))))))))))) (v := .bool false) (fun w hS => by exact E.pickF (AF_ev rfl (up rfl (up rfl (up rfl (up rfl (up rfl (up rfl (up rfl (up rfl (up rfl (up rfl tp))))))))))) (AF_ev rfl tp)) hS ?_
                refine RD.take 25 rfl (by kernel_rfl) (by exact Wd.yes (x := 55) rfl (AF_ev rfl (up rfl (up rfl (up rfl (up rfl (up rfl (up rfl (up rfl (up rfl (up rfl (up rfl (up rfl (up rfl (up rfl (up rfl (up rfl (up rfl (up rfl (up rfl (up rfl (up rfl (up rfl (up rfl tp)))))))))))))))))))))))) (v := .bool false) (fun w hS => by exact E.move (AF_ev rfl tp)) hS ?_
                refine RD.take 26 rfl (by kernel_rfl) (by exact Wd.yes (x := 78) rfl (AF_ev rfl tp)) (v := .int .i64 x.uses) (fun w hS => by exact E.move (AF_ev rfl (up rfl (up rfl (up rfl (up rfl (up rfl (up rfl (up rfl (up rfl (up rfl (up rfl (up rfl (up rfl (up rfl (up rfl (up rfl (up rfl (up rfl (up rfl (up rfl (up rfl (up rfl (up rfl (up rfl (up rfl (up rfl (up rfl hs9)))))))))))))))))))))))))))) hS ?_
                refine RD.take 27 rfl (by kernel_rfl) (by exact Wd.yes (x := 78) rfl (AF_ev rfl (up rfl tp))) (v := .slice (some ⟨ba, oa, none⟩) ks.length cs) (fun w hS => by exact E.move (AF_ev rfl (up rfl (up rfl (up rfl (up rfl (up rfl (up rfl (up rfl (up rfl (up rfl (up rfl (up rfl (up rfl (up rfl (up rfl (up rfl (up rfl (up rfl (up rfl (up rfl (up rfl (up rfl (up rfl (up rfl (up rfl (up rfl (up rfl (up rfl hs5))))))))))))))))))))))))))))) hS ?_
                refine RD.take 28 rfl (by kernel_rfl) (by exact Wd.yes (x := 78) rfl (AF_ev rfl (up rfl (up rfl tp)))) (v := .pointer (some ⟨b6, 1, none⟩)) (fun w hS => by exact E.fieldAddr (b := b6) (o := 0) (f := { name := "Id", type := 3, offset := 1, embedded := false, tag := "", pkgPath := "", byteOffset := 8 }) (AF_ev rfl (up rfl (up rfl (up rfl (up rfl (up rfl (up rfl (up rfl (up rfl (up rfl (up rfl (up rfl (up rfl (up rfl (up rfl (up rfl (up rfl (up rfl (up rfl (up rfl (up rfl (up rfl (up rfl (up rfl (up rfl (up rfl (up rfl (up rfl (up rfl hs7))))))))))))))))))))))))))))) Try.underlying76 rfl sz3 rfl) hS ?_
                refine RD.take 29 rfl (by kernel_rfl) (by exact Wd.yes (x := 78) rfl (AF_ev rfl (up rfl (up rfl (up rfl tp))))) (v := .int .i64 o.id) (fun w hS => by exact E.load (a := ⟨b6, 1, none⟩) Try.underlying3 rfl (AF_ev rfl tp) hS.1) hS ?_
                refine RD.take 30 rfl (by kernel_rfl) (by exact Wd.yes (x := 78) rfl (AF_ev rfl (up rfl (up rfl (up rfl (up rfl tp)))))) (v := .int .i64 (o.id - 1)) (fun w hS => by exact E.sub (k := .i64) (a := o.id) (b := 1) (AF_ev rfl tp) rfl (show IntKind.i64.wrap (o.id - 1) = o.id - 1 from (by rw [IntWalk.i64_in _ (by omega)]))) hS ?_
                refine RD.take 31 rfl (by kernel_rfl) (by exact Wd.yes (x := 78) rfl (AF_ev rfl (up rfl (up rfl (up rfl (up rfl (up rfl tp))))))) (v := .pointer (some ⟨ba, oa + (o.id - 1).toNat * 2, none⟩)) (fun w hS => by exact E.indexAddr (b := ba) (o := oa) (l := ks.length) (c := cs) (i := o.id - 1) Try.underlying71 sz84 (AF_ev rfl (up rfl (up rfl (up rfl tp)))) (AF_ev rfl tp) (by omega) (by omega) rfl) hS ?_
                refine RD.take 32 rfl (by kernel_rfl) (by exact Wd.yes (x := 78) rfl (AF_ev rfl (up rfl (up rfl (up rfl (up rfl (up rfl (up rfl tp)))))))) (v := .pointer (some ⟨ba, oa + (o.id - 1).toNat * 2 + 1, none⟩)) (fun w hS => by exact E.fieldAddr (b := ba) (o := oa + (o.id - 1).toNat * 2) (f := { name := "L", type := 82, offset := 1, embedded := false, tag := "", pkgPath := "", byteOffset := 8 }) (AF_ev rfl tp) Try.underlying84 rfl sz82 rfl) hS ?_
                refine RD.take 33 rfl (by kernel_rfl) (by exact Wd.yes (x := 78) rfl (AF_ev rfl (up rfl (up rfl (up rfl (up rfl (up rfl (up rfl (up rfl tp))))))))) (v := .slice (some ⟨b1, o1, none⟩) vs.length d) (fun w hS => by exact E.load (a := ⟨ba, oa + (o.id - 1).toNat * 2 + 1, none⟩) Try.underlying82 rfl (AF_ev rfl tp) hS.2.1) hS ?_
                refine RD.take 34 rfl (by kernel_rfl) (by exact Wd.yes (x := 78) rfl (AF_ev rfl (up rfl (up rfl (up rfl (up rfl (up rfl (up rfl (up rfl (up rfl tp)))))))))) (v := .int .i64 ((vs.length : Nat) : Int)) (fun w hS => by exact E.move (AF_ev rfl (up rfl (up rfl (up rfl (up rfl (up rfl (up rfl (up rfl (up rfl (up rfl (up rfl (up rfl (up rfl (up rfl (up rfl (up rfl (up rfl (up rfl (up rfl (up rfl (up rfl (up rfl (up rfl (up rfl (up rfl (up rfl (up rfl (up rfl (up rfl (up rfl (up rfl (up rfl (up rfl (up rfl (up rfl hs8)))))))))))))))))))))))))))))))))))) hS ?_
                refine RD.take 35 rfl (by kernel_rfl) (by exact Wd.yes (x := 78) rfl (AF_ev rfl (up rfl (up rfl (up rfl (up rfl (up rfl (up rfl (up rfl (up rfl (up rfl tp))))))))))) (v := .int .i64 (((vs.length : Nat) : Int) - 1)) (fun w hS => by exact E.sub (k := .i64) (a := ((vs.length : Nat) : Int)) (b := 1) (AF_ev rfl tp) rfl (show IntKind.i64.wrap (((vs.length : Nat) : Int) - 1) = ((vs.length : Nat) : Int) - 1 from (by rw [IntWalk.i64_in _ (by omega)]))) hS ?_
                refine RD.take 36 rfl (by kernel_rfl) (by exact Wd.yes (x := 78) rfl (AF_ev rfl (up rfl (up rfl (up rfl (up rfl (up rfl (up rfl (up rfl (up rfl (up rfl (up rfl tp)))))))))))) (v := .pointer (some ⟨b1, o1 + (((vs.length : Nat) : Int) - 1).toNat * 34, none⟩)) (fun w hS => by exact E.indexAddr (b := b1) (o := o1) (l := vs.length) (c := d) (i := ((vs.length : Nat) : Int) - 1) Try.underlying82 sz86 (AF_ev rfl (up rfl (up rfl tp))) (AF_ev rfl tp) (by omega) (by omega) rfl) hS ?_
                refine RD.take 37 rfl (by kernel_rfl) (by exact Wd.yes (x := 78) rfl (AF_ev rfl (up rfl (up rfl (up rfl (up rfl (up rfl (up rfl (up rfl (up rfl (up rfl (up rfl (up rfl tp))))))))))))) (v := .pointer (some ⟨b1, o1 + (((vs.length : Nat) : Int) - 1).toNat * 34 + 32, none⟩)) (fun w hS => by exact E.fieldAddr (b := b1) (o := o1 + (((vs.length : Nat) : Int) - 1).toNat * 34) (f := { name := "Uses", type := 3, offset := 32, embedded := false, tag := "", pkgPath := "", byteOffset := 32 }) (AF_ev rfl tp) Try.underlying86 rfl sz3 rfl) hS ?_
                refine RD.take 38 rfl (by kernel_rfl) (by exact Wd.yes (x := 78) rfl (AF_ev rfl (up rfl (up rfl (up rfl (up rfl (up rfl (up rfl (up rfl (up rfl (up rfl (up rfl (up rfl (up rfl tp)))))))))))))) (v := .int .i64 x.uses) (fun w hS => by exact E.load (a := ⟨b1, o1 + (((vs.length : Nat) : Int) - 1).toNat * 34 + 32, none⟩) Try.underlying3 rfl (AF_ev rfl tp) hS.2.2.1) hS ?_
                refine RD.take 39 rfl (by kernel_rfl) (by exact Wd.yes (x := 78) rfl (AF_ev rfl (up rfl (up rfl (up rfl (up rfl (up rfl (up rfl (up rfl (up rfl (up rfl (up rfl (up rfl (up rfl (up rfl tp))))))))))))))) (v := .bool false) (fun w hS => by exact E.b (a := x.uses != x.uses) (E.neq (k := .i64) (a := x.uses) (b := x.uses) (AF_ev rfl (up rfl (up rfl (up rfl (up rfl (up rfl (up rfl (up rfl (up rfl (up rfl (up rfl (up rfl (up rfl tp))))))))))))) (AF_ev rfl tp)) (by simp)) hS ?_
                refine RD.take 40 rfl (by kernel_rfl) (by exact Wd.yes (x := 55) rfl (AF_ev rfl (up rfl (up rfl (up rfl (up rfl (up rfl (up rfl (up rfl (up rfl (up rfl (up rfl (up rfl (up rfl (up rfl (up rfl (up rfl (up rfl (up rfl (up rfl (up rfl (up rfl (up rfl (up rfl (up rfl (up rfl (up rfl (up rfl (up rfl (up rfl (up rfl (up rfl (up rfl (up rfl (up rfl (up rfl (up rfl (up rfl (up rfl tp))))))))))))))))))))))))))))))))))))))) (v := .bool false) (fun w hS => by exact E.pickF (AF_ev rfl (up rfl (up rfl (up rfl (up rfl (up rfl (up rfl (up rfl (up rfl (up rfl (up rfl (up rfl (up rfl (up rfl (up rfl tp))))))))))))))) (AF_ev rfl tp)) hS ?_
                refine RD.take 41 rfl (by kernel_rfl) (by exact Wd.yes (x := 55) rfl (AF_ev rfl (up rfl (up rfl (up rfl (up rfl (up rfl (up rfl (up rfl (up rfl (up rfl (up rfl (up rfl (up rfl (up rfl (up rfl (up rfl (up rfl (up rfl (up rfl (up rfl (up rfl (up rfl (up rfl (up rfl (up rfl (up rfl (up rfl (up rfl (up rfl (up rfl (up rfl (up rfl (up rfl (up rfl (up rfl (up rfl (up rfl (up rfl (up rfl tp)))))))))))))))))))))))))))))))))))))))) (v := .bool false) (fun w hS => by exact E.move (AF_ev rfl tp)) hS ?_
                refine RD.take 42 rfl (by kernel_rfl) (by exact Wd.yes (x := 94) rfl (AF_ev rfl tp)) (v := .agg (bk x.mat).toArray) (fun w hS => by exact E.loadN (b := b11) (o := 0) (cs := bk x.mat) Try.underlying74 rfl sz74 (AF_ev rfl (up rfl (up rfl (up rfl (up rfl (up rfl (up rfl (up rfl (up rfl (up rfl (up rfl (up rfl (up rfl (up rfl (up rfl (up rfl (up rfl (up rfl (up rfl (up rfl (up rfl (up rfl (up rfl (up rfl (up rfl (up rfl (up rfl (up rfl (up rfl (up rfl (up rfl (up rfl (up rfl (up rfl (up rfl (up rfl (up rfl (up rfl (up rfl (up rfl (up rfl (up rfl (up rfl hs10))))))))))))))))))))))))))))))))))))))))))) (bk_len _) hS.2.2.2.1) hS ?_
                refine RD.take 43 rfl (by kernel_rfl) (by exact Wd.yes (x := 94) rfl (AF_ev rfl (up rfl tp))) (v := .slice (some ⟨ba, oa, none⟩) ks.length cs) (fun w hS => by exact E.move (AF_ev rfl (up rfl (up rfl (up rfl (up rfl (up rfl (up rfl (up rfl (up rfl (up rfl (up rfl (up rfl (up rfl (up rfl (up rfl (up rfl (up rfl (up rfl (up rfl (up rfl (up rfl (up rfl (up rfl (up rfl (up rfl (up rfl (up rfl (up rfl (up rfl (up rfl (up rfl (up rfl (up rfl (up rfl (up rfl (up rfl (up rfl (up rfl (up rfl (up rfl (up rfl (up rfl (up rfl (up rfl hs5))))))))))))))))))))))))))))))))))))))))))))) hS ?_
                refine RD.take 44 rfl (by kernel_rfl) (by exact Wd.yes (x := 94) rfl (AF_ev rfl (up rfl (up rfl tp)))) (v := .pointer (some ⟨b6, 1, none⟩)) (fun w hS => by exact E.fieldAddr (b := b6) (o := 0) (f := { name := "Id", type := 3, offset := 1, embedded := false, tag := "", pkgPath := "", byteOffset := 8 }) (AF_ev rfl (up rfl (up rfl (up rfl (up rfl (up rfl (up rfl (up rfl (up rfl (up rfl (up rfl (up rfl (up rfl (up rfl (up rfl (up rfl (up rfl (up rfl (up rfl (up rfl (up rfl (up rfl (up rfl (up rfl (up rfl (up rfl (up rfl (up rfl (up rfl (up rfl (up rfl (up rfl (up rfl (up rfl (up rfl (up rfl (up rfl (up rfl (up rfl (up rfl (up rfl (up rfl (up rfl (up rfl (up rfl hs7))))))))))))))))))))))))))))))))))))))))))))) Try.underlying76 rfl sz3 rfl) hS ?_
                refine RD.take 45 rfl (by kernel_rfl) (by exact Wd.yes (x := 94) rfl (AF_ev rfl (up rfl (up rfl (up rfl tp))))) (v := .int .i64 o.id) (fun w hS => by exact E.load (a := ⟨b6, 1, none⟩) Try.underlying3 rfl (AF_ev rfl tp) hS.1) hS ?_
                refine RD.take 46 rfl (by kernel_rfl) (by exact Wd.yes (x := 94) rfl (AF_ev rfl (up rfl (up rfl (up rfl (up rfl tp)))))) (v := .int .i64 (o.id - 1)) (fun w hS => by exact E.sub (k := .i64) (a := o.id) (b := 1) (AF_ev rfl tp) rfl (show IntKind.i64.wrap (o.id - 1) = o.id - 1 from (by rw [IntWalk.i64_in _ (by omega)]))) hS ?_
                refine RD.take 47 rfl (by kernel_rfl) (by exact Wd.yes (x := 94) rfl (AF_ev rfl (up rfl (up rfl (up rfl (up rfl (up rfl tp))))))) (v := .pointer (some ⟨ba, oa + (o.id - 1).toNat * 2, none⟩)) (fun w hS => by exact E.indexAddr (b := ba) (o := oa) (l := ks.length) (c := cs) (i := o.id - 1) Try.underlying71 sz84 (AF_ev rfl (up rfl (up rfl (up rfl tp)))) (AF_ev rfl tp) (by omega) (by omega) rfl) hS ?_
                refine RD.take 48 rfl (by kernel_rfl) (by exact Wd.yes (x := 94) rfl (AF_ev rfl (up rfl (up rfl (up rfl (up rfl (up rfl (up rfl tp)))))))) (v := .pointer (some ⟨ba, oa + (o.id - 1).toNat * 2 + 1, none⟩)) (fun w hS => by exact E.fieldAddr (b := ba) (o := oa + (o.id - 1).toNat * 2) (f := { name := "L", type := 82, offset := 1, embedded := false, tag := "", pkgPath := "", byteOffset := 8 }) (AF_ev rfl tp) Try.underlying84 rfl sz82 rfl) hS ?_
                refine RD.take 49 rfl (by kernel_rfl) (by exact Wd.yes (x := 94) rfl (AF_ev rfl (up rfl (up rfl (up rfl (up rfl (up rfl (up rfl (up rfl tp))))))))) (v := .slice (some ⟨b1, o1, none⟩) vs.length d) (fun w hS => by exact E.load (a := ⟨ba, oa + (o.id - 1).toNat * 2 + 1, none⟩) Try.underlying82 rfl (AF_ev rfl tp) hS.2.1) hS ?_
                refine RD.take 50 rfl (by kernel_rfl) (by exact Wd.yes (x := 94) rfl (AF_ev rfl (up rfl (up rfl (up rfl (up rfl (up rfl (up rfl (up rfl (up rfl tp)))))))))) (v := .int .i64 ((vs.length : Nat) : Int)) (fun w hS => by exact E.move (AF_ev rfl (up rfl (up rfl (up rfl (up rfl (up rfl (up rfl (up rfl (up rfl (up rfl (up rfl (up rfl (up rfl (up rfl (up rfl (up rfl (up rfl (up rfl (up rfl (up rfl (up rfl (up rfl (up rfl (up rfl (up rfl (up rfl (up rfl (up rfl (up rfl (up rfl (up rfl (up rfl (up rfl (up rfl (up rfl (up rfl (up rfl (up rfl (up rfl (up rfl (up rfl (up rfl (up rfl (up rfl (up rfl (up rfl (up rfl (up rfl (up rfl (up rfl (up rfl hs8)))))))))))))))))))))))))))))))))))))))))))))))))))) hS ?_
                refine RD.take 51 rfl (by kernel_rfl) (by exact Wd.yes (x := 94) rfl (AF_ev rfl (up rfl (up rfl (up rfl (up rfl (up rfl (up rfl (up rfl (up rfl (up rfl tp))))))))))) (v := .int .i64 (((vs.length : Nat) : Int) - 1)) (fun w hS => by exact E.sub (k := .i64) (a := ((vs.length : Nat) : Int)) (b := 1) (AF_ev rfl tp) rfl (show IntKind.i64.wrap (((vs.length : Nat) : Int) - 1) = ((vs.length : Nat) : Int) - 1 from (by rw [IntWalk.i64_in _ (by omega)]))) hS ?_
                refine RD.take 52 rfl (by kernel_rfl) (by exact Wd.yes (x := 94) rfl (AF_ev rfl (up rfl (up rfl (up rfl (up rfl (up rfl (up rfl (up rfl (up rfl (up rfl (up rfl tp)))))))))))) (v := .pointer (some ⟨b1, o1 + (((vs.length : Nat) : Int) - 1).toNat * 34, none⟩)) (fun w hS => by exact E.indexAddr (b := b1) (o := o1) (l := vs.length) (c := d) (i := ((vs.length : Nat) : Int) - 1) Try.underlying82 sz86 (AF_ev rfl (up rfl (up rfl tp))) (AF_ev rfl tp) (by omega) (by omega) rfl) hS ?_
                refine RD.take 53 rfl (by kernel_rfl) (by exact Wd.yes (x := 94) rfl (AF_ev rfl (up rfl (up rfl (up rfl (up rfl (up rfl (up rfl (up rfl (up rfl (up rfl (up rfl (up rfl tp))))))))))))) (v := .pointer (some ⟨b1, o1 + (((vs.length : Nat) : Int) - 1).toNat * 34, none⟩)) (fun w hS => by exact E.fieldAddr (b := b1) (o := o1 + (((vs.length : Nat) : Int) - 1).toNat * 34) (f := { name := "Material", type := 74, offset := 0, embedded := false, tag := "", pkgPath := "", byteOffset := 0 }) (AF_ev rfl tp) Try.underlying86 rfl sz74 rfl) hS ?_
                refine RD.take 54 rfl (by kernel_rfl) (by exact Wd.yes (x := 94) rfl (AF_ev rfl (up rfl (up rfl (up rfl (up rfl (up rfl (up rfl (up rfl (up rfl (up rfl (up rfl (up rfl (up rfl tp)))))))))))))) (v := .agg (bk x.mat).toArray) (fun w hS => by exact E.loadN (b := b1) (o := o1 + (((vs.length : Nat) : Int) - 1).toNat * 34) (cs := bk x.mat) Try.underlying74 rfl sz74 (AF_ev rfl tp) (bk_len _) hS.2.2.2.2) hS ?_
                refine RD.take 55 rfl (by kernel_rfl) (by exact Wd.yes (x := 94) rfl (AF_ev rfl (up rfl (up rfl (up rfl (up rfl (up rfl (up rfl (up rfl (up rfl (up rfl (up rfl (up rfl (up rfl (up rfl tp))))))))))))))) (v := .bool false) (fun w hS => by exact E.b (a := !decide (x.mat = x.mat)) (E.neq74 (a := x.mat) (b := x.mat) (AF_ev rfl (up rfl (up rfl (up rfl (up rfl (up rfl (up rfl (up rfl (up rfl (up rfl (up rfl (up rfl (up rfl tp))))))))))))) (AF_ev rfl tp)) (by simp)) hS ?_
                refine RD.take 56 rfl (by kernel_rfl) (by exact Wd.yes (x := 55) rfl (AF_ev rfl (up rfl (up rfl (up rfl (up rfl (up rfl (up rfl (up rfl (up rfl (up rfl (up rfl (up rfl (up rfl (up rfl (up rfl (up rfl (up rfl (up rfl (up rfl (up rfl (up rfl (up rfl (up rfl (up rfl (up rfl (up rfl (up rfl (up rfl (up rfl (up rfl (up rfl (up rfl (up rfl (up rfl (up rfl (up rfl (up rfl (up rfl (up rfl (up rfl (up rfl (up rfl (up rfl (up rfl (up rfl (up rfl (up rfl (up rfl (up rfl (up rfl (up rfl (up rfl (up rfl (up rfl tp))))))))))))))))))))))))))))))))))))))))))))))))))))))) (v := .bool false) (fun w hS => by exact E.pickF (AF_ev rfl (up rfl (up rfl (up rfl (up rfl (up rfl (up rfl (up rfl (up rfl (up rfl (up rfl (up rfl (up rfl (up rfl (up rfl tp))))))))))))))) (AF_ev rfl tp)) hS ?_
                refine RD.take 57 rfl (by kernel_rfl) (by exact Wd.yes (x := 55) rfl (AF_ev rfl (up rfl (up rfl (up rfl (up rfl (up rfl (up rfl (up rfl (up rfl (up rfl (up rfl (up rfl (up rfl (up rfl (up rfl (up rfl (up rfl (up rfl (up rfl (up rfl (up rfl (up rfl (up rfl (up rfl (up rfl (up rfl (up rfl (up rfl (up rfl (up rfl (up rfl (up rfl (up rfl (up rfl (up rfl (up rfl (up rfl (up rfl (up rfl (up rfl (up rfl (up rfl (up rfl (up rfl (up rfl (up rfl (up rfl (up rfl (up rfl (up rfl (up rfl (up rfl (up rfl (up rfl (up rfl tp)))))))))))))))))))))))))))))))))))))))))))))))))))))))) (v := .bool false) (fun w hS => by exact E.move (AF_ev rfl tp)) hS ?_
                refine RD.take 58 rfl (by kernel_rfl) (by exact Wd.yes (x := 110) rfl (AF_ev rfl tp)) (v := .int .i64 x.uses) (fun w hS => by exact E.move (AF_ev rfl (up rfl (up rfl (up rfl (up rfl (up rfl (up rfl (up rfl (up rfl (up rfl (up rfl (up rfl (up rfl (up rfl (up rfl (up rfl (up rfl (up rfl (up rfl (up rfl (up rfl (up rfl (up rfl (up rfl (up rfl (up rfl (up rfl (up rfl (up rfl (up rfl (up rfl (up rfl (up rfl (up rfl (up rfl (up rfl (up rfl (up rfl (up rfl (up rfl (up rfl (up rfl (up rfl (up rfl (up rfl (up rfl (up rfl (up rfl (up rfl (up rfl (up rfl (up rfl (up rfl (up rfl (up rfl (up rfl (up rfl (up rfl (up rfl hs9)))))))))))))))))))))))))))))))))))))))))))))))))))))))))))) hS ?_
                refine RD.take 59 rfl (by kernel_rfl) (by exact Wd.yes (x := 110) rfl (AF_ev rfl (up rfl tp))) (v := .bool false) (fun w hS => by exact E.b (a := decide (x.uses ≥ 16)) (E.geq (k := .i64) (a := x.uses) (b := 16) (AF_ev rfl tp) rfl) (decide_eq_false (by omega))) hS ?_
                refine RD.take 60 rfl (by kernel_rfl) (by exact Wd.yes (x := 55) rfl (AF_ev rfl (up rfl (up rfl (up rfl (up rfl (up rfl (up rfl (up rfl (up rfl (up rfl (up rfl (up rfl (up rfl (up rfl (up rfl (up rfl (up rfl (up rfl (up rfl (up rfl (up rfl (up rfl (up rfl (up rfl (up rfl (up rfl (up rfl (up rfl (up rfl (up rfl (up rfl (up rfl (up rfl (up rfl (up rfl (up rfl (up rfl (up rfl (up rfl (up rfl (up rfl (up rfl (up rfl (up rfl (up rfl (up rfl (up rfl (up rfl (up rfl (up rfl (up rfl (up rfl (up rfl (up rfl (up rfl (up rfl (up rfl (up rfl tp))))))))))))))))))))))))))))))))))))))))))))))))))))))))))) (v := .bool false) (fun w hS => by exact E.pickF (AF_ev rfl (up rfl (up rfl tp))) (AF_ev rfl tp)) hS ?_
                refine RD.take 61 rfl (by kernel_rfl) Wd.a (v := .bool false) (fun w hS => by exact E.pickT (AF_ev rfl (up rfl (up rfl (up rfl (up rfl (up rfl (up rfl (up rfl (up rfl (up rfl (up rfl (up rfl (up rfl (up rfl (up rfl (up rfl (up rfl (up rfl (up rfl (up rfl (up rfl (up rfl (up rfl (up rfl (up rfl (up rfl (up rfl (up rfl (up rfl (up rfl (up rfl (up rfl (up rfl (up rfl (up rfl (up rfl (up rfl (up rfl (up rfl (up rfl (up rfl (up rfl (up rfl (up rfl (up rfl (up rfl (up rfl (up rfl (up rfl (up rfl (up rfl (up rfl (up rfl (up rfl (up rfl (up rfl (up rfl (up rfl (up rfl tp))))))))))))))))))))))))))))))))))))))))))))))))))))))))))) (AF_ev rfl tp)) hS ?_
                refine RD.fin (by kernel_rfl) (fun τ => τ 0 = .slice (some ⟨bl, ol, none⟩) l.length c ∧ τ 4 = .pointer (some ⟨k1, 0, none⟩) ∧ τ 5 = .slice (some ⟨ba, oa, none⟩) ks.length cs ∧ τ 6 = .int .i64 ((i : Nat) : Int) ∧ τ 7 = .pointer (some ⟨b6, 0, none⟩) ∧ τ 8 = .int .i64 ((vs.length : Nat) : Int) ∧ τ 9 = .int .i64 x.uses ∧ τ 10 = .pointer (some ⟨b11, 0, none⟩) ∧ τ 11 = .int .i64 0 ∧ τ 34 = .bool true ∧ τ 43 = .int .i64 (kindF o.kd 6) ∧ τ 114 = .bool false ∧ τ 115 = .bool false ∧ τ 121 = .bool false ∧ τ 129 = .bool false ∧ τ 139 = .bool false) ⟨up rfl (up rfl (up rfl (up rfl (up rfl (up rfl (up rfl (up rfl (up rfl (up rfl (up rfl (up rfl (up rfl (up rfl (up rfl (up rfl (up rfl (up rfl (up rfl (up rfl (up rfl (up rfl (up rfl (up rfl (up rfl (up rfl (up rfl (up rfl (up rfl (up rfl (up rfl (up rfl (up rfl (up rfl (up rfl (up rfl (up rfl (up rfl (up rfl (up rfl (up rfl (up rfl (up rfl (up rfl (up rfl (up rfl (up rfl (up rfl (up rfl (up rfl (up rfl (up rfl (up rfl (up rfl (up rfl (up rfl (up rfl (up rfl (up rfl (up rfl (up rfl (up rfl hs0))))))))))))))))))))))))))))))))))))))))))))))))))))))))))))), up rfl (up rfl (up rfl (up rfl (up rfl (up rfl (up rfl (up rfl (up rfl (up rfl (up rfl (up rfl (up rfl (up rfl (up rfl (up rfl (up rfl (up rfl (up rfl (up rfl (up rfl (up rfl (up rfl (up rfl (up rfl (up rfl (up rfl (up rfl (up rfl (up rfl (up rfl (up rfl (up rfl (up rfl (up rfl (up rfl (up rfl (up rfl (up rfl (up rfl (up rfl (up rfl (up rfl (up rfl (up rfl (up rfl (up rfl (up rfl (up rfl (up rfl (up rfl (up rfl (up rfl (up rfl (up rfl (up rfl (up rfl (up rfl (up rfl (up rfl (up rfl (up rfl hs4))))))))))))))))))))))))))))))))))))))))))))))))))))))))))))), up rfl (up rfl (up rfl (up rfl (up rfl (up rfl (up rfl (up rfl (up rfl (up rfl (up rfl (up rfl (up rfl (up rfl (up rfl (up rfl (up rfl (up rfl (up rfl (up rfl (up rfl (up rfl (up rfl (up rfl (up rfl (up rfl (up rfl (up rfl (up rfl (up rfl (up rfl (up rfl (up rfl (up rfl (up rfl (up rfl (up rfl (up rfl (up rfl (up rfl (up rfl (up rfl (up rfl (up rfl (up rfl (up rfl (up rfl (up rfl (up rfl (up rfl (up rfl (up rfl (up rfl (up rfl (up rfl (up rfl (up rfl (up rfl (up rfl (up rfl (up rfl (up rfl hs5))))))))))))))))))))))))))))))))))))))))))))))))))))))))))))), up rfl (up rfl (up rfl (up rfl (up rfl (up rfl (up rfl (up rfl (up rfl (up rfl (up rfl (up rfl (up rfl (up rfl (up rfl (up rfl (up rfl (up rfl (up rfl (up rfl (up rfl (up rfl (up rfl (up rfl (up rfl (up rfl (up rfl (up rfl (up rfl (up rfl (up rfl (up rfl (up rfl (up rfl (up rfl (up rfl (up rfl (up rfl (up rfl (up rfl (up rfl (up rfl (up rfl (up rfl (up rfl (up rfl (up rfl (up rfl (up rfl (up rfl (up rfl (up rfl (up rfl (up rfl (up rfl (up rfl (up rfl (up rfl (up rfl (up rfl (up rfl (up rfl hs6))))))))))))))))))))))))))))))))))))))))))))))))))))))))))))), up rfl (up rfl (up rfl (up rfl (up rfl (up rfl (up rfl (up rfl (up rfl (up rfl (up rfl (up rfl (up rfl (up rfl (up rfl (up rfl (up rfl (up rfl (up rfl (up rfl (up rfl (up rfl (up rfl (up rfl (up rfl (up rfl (up rfl (up rfl (up rfl (up rfl (up rfl (up rfl (up rfl (up rfl (up rfl (up rfl (up rfl (up rfl (up rfl (up rfl (up rfl (up rfl (up rfl (up rfl (up rfl (up rfl (up rfl (up rfl (up rfl (up rfl (up rfl (up rfl (up rfl (up rfl (up rfl (up rfl (up rfl (up rfl (up rfl (up rfl (up rfl (up rfl hs7))))))))))))))))))))))))))))))))))))))))))))))))))))))))))))), up rfl (up rfl (up rfl (up rfl (up rfl (up rfl (up rfl (up rfl (up rfl (up rfl (up rfl (up rfl (up rfl (up rfl (up rfl (up rfl (up rfl (up rfl (up rfl (up rfl (up rfl (up rfl (up rfl (up rfl (up rfl (up rfl (up rfl (up rfl (up rfl (up rfl (up rfl (up rfl (up rfl (up rfl (up rfl (up rfl (up rfl (up rfl (up rfl (up rfl (up rfl (up rfl (up rfl (up rfl (up rfl (up rfl (up rfl (up rfl (up rfl (up rfl (up rfl (up rfl (up rfl (up rfl (up rfl (up rfl (up rfl (up rfl (up rfl (up rfl (up rfl (up rfl hs8))))))))))))))))))))))))))))))))))))))))))))))))))))))))))))), up rfl (up rfl (up rfl (up rfl (up rfl (up rfl (up rfl (up rfl (up rfl (up rfl (up rfl (up rfl (up rfl (up rfl (up rfl (up rfl (up rfl (up rfl (up rfl (up rfl (up rfl (up rfl (up rfl (up rfl (up rfl (up rfl (up rfl (up rfl (up rfl (up rfl (up rfl (up rfl (up rfl (up rfl (up rfl (up rfl (up rfl (up rfl (up rfl (up rfl (up rfl (up rfl (up rfl (up rfl (up rfl (up rfl (up rfl (up rfl (up rfl (up rfl (up rfl (up rfl (up rfl (up rfl (up rfl (up rfl (up rfl (up rfl (up rfl (up rfl (up rfl (up rfl hs9))))))))))))))))))))))))))))))))))))))))))))))))))))))))))))), up rfl (up rfl (up rfl (up rfl (up rfl (up rfl (up rfl (up rfl (up rfl (up rfl (up rfl (up rfl (up rfl (up rfl (up rfl (up rfl (up rfl (up rfl (up rfl (up rfl (up rfl (up rfl (up rfl (up rfl (up rfl (up rfl (up rfl (up rfl (up rfl (up rfl (up rfl (up rfl (up rfl (up rfl (up rfl (up rfl (up rfl (up rfl (up rfl (up rfl (up rfl (up rfl (up rfl (up rfl (up rfl (up rfl (up rfl (up rfl (up rfl (up rfl (up rfl (up rfl (up rfl (up rfl (up rfl (up rfl (up rfl (up rfl (up rfl (up rfl (up rfl (up rfl hs10))))))))))))))))))))))))))))))))))))))))))))))))))))))))))))), up rfl (up rfl (up rfl (up rfl (up rfl (up rfl (up rfl (up rfl (up rfl (up rfl (up rfl (up rfl (up rfl (up rfl (up rfl (up rfl (up rfl (up rfl (up rfl (up rfl (up rfl (up rfl (up rfl (up rfl (up rfl (up rfl (up rfl (up rfl (up rfl (up rfl (up rfl (up rfl (up rfl (up rfl (up rfl (up rfl (up rfl (up rfl (up rfl (up rfl (up rfl (up rfl (up rfl (up rfl (up rfl (up rfl (up rfl (up rfl (up rfl (up rfl (up rfl (up rfl (up rfl (up rfl (up rfl (up rfl (up rfl (up rfl (up rfl (up rfl (up rfl (up rfl hs11))))))))))))))))))))))))))))))))))))))))))))))))))))))))))))), up rfl (up rfl (up rfl (up rfl (up rfl (up rfl (up rfl (up rfl (up rfl (up rfl (up rfl (up rfl (up rfl (up rfl (up rfl (up rfl (up rfl (up rfl (up rfl (up rfl (up rfl (up rfl (up rfl (up rfl (up rfl (up rfl (up rfl (up rfl (up rfl (up rfl (up rfl (up rfl (up rfl (up rfl (up rfl (up rfl (up rfl (up rfl (up rfl (up rfl (up rfl (up rfl (up rfl (up rfl (up rfl (up rfl (up rfl (up rfl (up rfl (up rfl (up rfl (up rfl (up rfl (up rfl (up rfl (up rfl (up rfl (up rfl (up rfl (up rfl (up rfl (up rfl hs34))))))))))))))))))))))))))))))))))))))))))))))))))))))))))))), up rfl (up rfl (up rfl (up rfl (up rfl (up rfl (up rfl (up rfl (up rfl (up rfl (up rfl (up rfl (up rfl (up rfl (up rfl (up rfl (up rfl (up rfl (up rfl (up rfl (up rfl (up rfl (up rfl (up rfl (up rfl (up rfl (up rfl (up rfl (up rfl (up rfl (up rfl (up rfl (up rfl (up rfl (up rfl (up rfl (up rfl (up rfl (up rfl (up rfl (up rfl (up rfl (up rfl (up rfl (up rfl (up rfl (up rfl (up rfl (up rfl (up rfl (up rfl (up rfl (up rfl (up rfl (up rfl (up rfl (up rfl (up rfl (up rfl (up rfl (up rfl (up rfl hs43))))))))))))))))))))))))))))))))))))))))))))))))))))))))))))), tp, up rfl (up rfl (up rfl (up rfl (up rfl (up rfl (up rfl (up rfl (up rfl (up rfl (up rfl (up rfl (up rfl (up rfl (up rfl (up rfl (up rfl (up rfl (up rfl (up rfl (up rfl (up rfl (up rfl (up rfl (up rfl (up rfl (up rfl (up rfl (up rfl (up rfl (up rfl (up rfl (up rfl (up rfl (up rfl (up rfl (up rfl (up rfl (up rfl (up rfl (up rfl (up rfl (up rfl (up rfl (up rfl (up rfl (up rfl (up rfl (up rfl (up rfl (up rfl (up rfl (up rfl (up rfl (up rfl (up rfl (up rfl (up rfl (up rfl (up rfl (up rfl (up rfl hs115))))))))))))))))))))))))))))))))))))))))))))))))))))))))))))), up rfl (up rfl (up rfl (up rfl (up rfl (up rfl (up rfl (up rfl (up rfl (up rfl (up rfl (up rfl (up rfl (up rfl (up rfl (up rfl (up rfl (up rfl (up rfl (up rfl (up rfl (up rfl (up rfl (up rfl (up rfl (up rfl (up rfl (up rfl (up rfl (up rfl (up rfl (up rfl (up rfl (up rfl (up rfl (up rfl (up rfl (up rfl (up rfl (up rfl (up rfl (up rfl (up rfl (up rfl (up rfl (up rfl (up rfl (up rfl (up rfl (up rfl (up rfl (up rfl (up rfl (up rfl (up rfl (up rfl (up rfl (up rfl (up rfl (up rfl (up rfl (up rfl hs121))))))))))))))))))))))))))))))))))))))))))))))))))))))))))))), up rfl (up rfl (up rfl (up rfl (up rfl (up rfl (up rfl (up rfl (up rfl (up rfl (up rfl (up rfl (up rfl (up rfl (up rfl (up rfl (up rfl (up rfl (up rfl (up rfl (up rfl (up rfl (up rfl (up rfl (up rfl (up rfl (up rfl (up rfl (up rfl (up rfl (up rfl (up rfl (up rfl (up rfl (up rfl (up rfl (up rfl (up rfl (up rfl (up rfl (up rfl (up rfl (up rfl (up rfl (up rfl (up rfl (up rfl (up rfl (up rfl (up rfl (up rfl (up rfl (up rfl (up rfl (up rfl (up rfl (up rfl (up rfl (up rfl (up rfl (up rfl (up rfl hs129))))))))))))))))))))))))))))))))))))))))))))))))))))))))))))), up rfl (up rfl (up rfl (up rfl (up rfl (up rfl (up rfl (up rfl (up rfl (up rfl (up rfl (up rfl (up rfl (up rfl (up rfl (up rfl (up rfl (up rfl (up rfl (up rfl (up rfl (up rfl (up rfl (up rfl (up rfl (up rfl (up rfl (up rfl (up rfl (up rfl (up rfl (up rfl (up rfl (up rfl (up rfl (up rfl (up rfl (up rfl (up rfl (up rfl (up rfl (up rfl (up rfl (up rfl (up rfl (up rfl (up rfl (up rfl (up rfl (up rfl (up rfl (up rfl (up rfl (up rfl (up rfl (up rfl (up rfl (up rfl (up rfl (up rfl (up rfl (up rfl hs139)))))))))))))))))))))))))))))))))))))))))))))))))))))))))))))⟩ ?_
                rintro τ ⟨hs0, hs4, hs5, hs6, hs7, hs8, hs9, hs10, hs11, hs34, hs43, hs114, hs115, hs121, hs129, hs139⟩
                refine CW.condF (AF_ev rfl hs114) ?_
                refine CW.skip ?_
                refine Bl.n ?_
                have hst := rowsB hva hst
                have hst := hst.take (.there (.there .here))
                have hst := (hst.take (.there (.there .here))).drop
                have hst := (hst.take (.there (.there .here))).drop
                exact ⟨rfl, ks2, (some ⟨ba, oa, none⟩), hstay, hs0, hs4, hs5, hs6, hst⟩
              · skip
                refine CW.region ?_
                refine RW.soft Wd.a (v := .pointer (some ⟨k1, 0, none⟩)) (by exact E.move (AF_ev rfl hs4)) ?_
                refine RW.soft Wd.a (v := .pointer (some ⟨b6, 1, none⟩)) (by exact E.fieldAddr (b := b6) (o := 0) (f := { name := "Id", type := 3, offset := 1, embedded := false, tag := "", pkgPath := "", byteOffset := 8 }) (AF_ev rfl (up rfl hs7)) Try.underlying76 rfl sz3 rfl) ?_
                refine RW.soft Wd.a (v := .int .i64 o.id) (by exact E.load (a := ⟨b6, 1, none⟩) Try.underlying3 rfl (AF_ev rfl tp) (hst.cell .here (by rw [List.getElem?_toArray]; exact rfl))) ?_
                have hst := hst.take (.there .here)
                refine RW.hard Wd.a ?_
                refine H.call0 Try.func46 nm46 rfl (map2 (AF_ev rfl (up rfl (up rfl tp))) (AF_ev rfl tp)) (Calls.mono (prog_Use o.id ho.2.1  hst) ?_)
                rintro _ w ⟨rfl, hst⟩
                have hstay : StayK ks (kUse ks o.id).2.2.2.2 := stay_use hko _
                generalize (kUse ks o.id).2.2.2.2 = ks2 at hst hstay
                refine ⟨_, rfl, ?_⟩
                show RW _ _ _ _ _ _ _
                refine RW.soft Wd.a (v := .tuple #[.int .i64 ((kUse ks o.id).1), .int .i64 ((kUse ks o.id).2.1), .agg (bk ((kUse ks o.id).2.2.1)).toArray, .int .i64 ((kUse ks o.id).2.2.2.1)]) (by exact E.move (AF_ev rfl tp)) ?_
                refine RW.soft Wd.a (v := .int .i64 ((kUse ks o.id).1)) (by exact E.extract (vs := #[.int .i64 ((kUse ks o.id).1), .int .i64 ((kUse ks o.id).2.1), .agg (bk ((kUse ks o.id).2.2.1)).toArray, .int .i64 ((kUse ks o.id).2.2.2.1)]) (AF_ev rfl tp) rfl) ?_
                refine RW.soft Wd.a (v := .int .i64 ((kUse ks o.id).2.1)) (by exact E.extract (vs := #[.int .i64 ((kUse ks o.id).1), .int .i64 ((kUse ks o.id).2.1), .agg (bk ((kUse ks o.id).2.2.1)).toArray, .int .i64 ((kUse ks o.id).2.2.2.1)]) (AF_ev rfl (up rfl tp)) rfl) ?_
                refine RW.soft Wd.a (v := .agg (bk ((kUse ks o.id).2.2.1)).toArray) (by exact E.extract (vs := #[.int .i64 ((kUse ks o.id).1), .int .i64 ((kUse ks o.id).2.1), .agg (bk ((kUse ks o.id).2.2.1)).toArray, .int .i64 ((kUse ks o.id).2.2.2.1)]) (AF_ev rfl (up rfl (up rfl tp))) rfl) ?_
                refine RW.soft Wd.a (v := .int .i64 ((kUse ks o.id).2.2.2.1)) (by exact E.extract (vs := #[.int .i64 ((kUse ks o.id).1), .int .i64 ((kUse ks o.id).2.1), .agg (bk ((kUse ks o.id).2.2.1)).toArray, .int .i64 ((kUse ks o.id).2.2.2.1)]) (AF_ev rfl (up rfl (up rfl (up rfl tp)))) rfl) ?_
                refine RW.hard Wd.a ?_
                refine H.alloc zr74k hst fun b12 w hst => ?_
                refine RW.soft Wd.a (v := .int .i64 ((kUse ks o.id).1)) (by exact E.assign (AF_ev rfl (up rfl (up rfl (up rfl (up rfl tp)))))) ?_
                refine RW.soft Wd.a (v := .int .i64 ((kUse ks o.id).2.1)) (by exact E.assign (AF_ev rfl (up rfl (up rfl (up rfl (up rfl tp)))))) ?_
                refine RW.hard Wd.a ?_
                refine H.storeWhole (b := b12) (m := 32) (v := .agg (bk ((kUse ks o.id).2.2.1)).toArray) (news := bk ((kUse ks o.id).2.2.1)) (AF_ev rfl (up rfl (up rfl tp))) (AF_ev rfl (up rfl (up rfl (up rfl (up rfl tp))))) hst .here rfl (bk_len _) (by rw [List.size_toArray]; exact (bk_len _)) sz74 (bk_one _) fun w hst => ?_
                refine RW.soft Wd.a (v := .int .i64 ((kUse ks o.id).2.2.2.1)) (by exact E.assign (AF_ev rfl (u0 (up rfl (up rfl (up rfl tp)))))) ?_
                refine RW.fin (fun τ => τ 0 = .slice (some ⟨bl, ol, none⟩) l.length c ∧ τ 4 = .pointer (some ⟨k1, 0, none⟩) ∧ τ 5 = .slice Xs ks.length cs ∧ τ 6 = .int .i64 ((i : Nat) : Int) ∧ τ 7 = .pointer (some ⟨b6, 0, none⟩) ∧ τ 8 = .int .i64 ((kUse ks o.id).1) ∧ τ 9 = .int .i64 ((kUse ks o.id).2.1) ∧ τ 10 = .pointer (some ⟨b12, 0, none⟩) ∧ τ 11 = .int .i64 ((kUse ks o.id).2.2.2.1) ∧ τ 34 = .bool true ∧ τ 43 = .int .i64 (kindF o.kd 6) ∧ τ 115 = .bool false ∧ τ 121 = .bool false ∧ τ 129 = .bool false ∧ τ 139 = .bool false) ⟨up rfl (u0 (up rfl (up rfl (up rfl (up rfl (up rfl (up rfl (up rfl (up rfl (up rfl (up rfl (up rfl (up rfl hs0))))))))))))), up rfl (u0 (up rfl (up rfl (up rfl (up rfl (up rfl (up rfl (up rfl (up rfl (up rfl (up rfl (up rfl (up rfl hs4))))))))))))), up rfl (u0 (up rfl (up rfl (up rfl (up rfl (up rfl (up rfl (up rfl (up rfl (up rfl (up rfl (up rfl (up rfl hs5))))))))))))), up rfl (u0 (up rfl (up rfl (up rfl (up rfl (up rfl (up rfl (up rfl (up rfl (up rfl (up rfl (up rfl (up rfl hs6))))))))))))), up rfl (u0 (up rfl (up rfl (up rfl (up rfl (up rfl (up rfl (up rfl (up rfl (up rfl (up rfl (up rfl (up rfl hs7))))))))))))), up rfl (u0 (up rfl tp)), up rfl (u0 tp), up rfl (u0 (up rfl (up rfl tp))), tp, up rfl (u0 (up rfl (up rfl (up rfl (up rfl (up rfl (up rfl (up rfl (up rfl (up rfl (up rfl (up rfl (up rfl hs34))))))))))))), up rfl (u0 (up rfl (up rfl (up rfl (up rfl (up rfl (up rfl (up rfl (up rfl (up rfl (up rfl (up rfl (up rfl hs43))))))))))))), up rfl (u0 (up rfl (up rfl (up rfl (up rfl (up rfl (up rfl (up rfl (up rfl (up rfl (up rfl (up rfl (up rfl hs115))))))))))))), up rfl (u0 (up rfl (up rfl (up rfl (up rfl (up rfl (up rfl (up rfl (up rfl (up rfl (up rfl (up rfl (up rfl hs121))))))))))))), up rfl (u0 (up rfl (up rfl (up rfl (up rfl (up rfl (up rfl (up rfl (up rfl (up rfl (up rfl (up rfl (up rfl hs129))))))))))))), up rfl (u0 (up rfl (up rfl (up rfl (up rfl (up rfl (up rfl (up rfl (up rfl (up rfl (up rfl (up rfl (up rfl (Eq.trans hs139 (congrArg Value.bool hc10)))))))))))))))⟩ ?_
                rintro τ ⟨hs0, hs4, hs5, hs6, hs7, hs8, hs9, hs10, hs11, hs34, hs43, hs115, hs121, hs129, hs139⟩
                refine CW.seq ?_
                refine CW.regionD [0, 1, 2, 3, 4, 5, 6, 7, 8, 9, 10, 11, 12, 13, 14, 15, 16, 17, 18, 19, 20, 21, 22, 23, 24, 25, 26, 27, 28, 29, 30, 31, 32, 33, 34, 35, 36, 37, 38, 39, 40, 41, 42, 43, 44, 45, 46, 47, 48, 49, 50, 51, 52, 53, 54, 55, 56, 57, 58, 59, 60, 61] (fun w => True) mixed ?_
                have hst := hst.drew
                generalize w.drew = w at hst ⊢
                have hS : True := trivial
                refine RD.take 0 rfl (by kernel_rfl) Wd.a (v := .int .i64 ((kUse ks o.id).2.2.2.1)) (fun w hS => by exact E.move (AF_ev rfl hs11)) hS ?_
                refine RD.take 1 rfl (by kernel_rfl) Wd.a (v := .bool false) (fun w hS => by exact E.b (a := ((kUse ks o.id).2.2.2.1) == 0) (E.eql (k := .i64) (a := (kUse ks o.id).2.2.2.1) (b := 0) (AF_ev rfl tp) rfl) hqu) hS ?_
                refine RD.take 2 rfl (by kernel_rfl) Wd.a (v := .bool false) (fun w hS => by exact E.move (AF_ev rfl tp)) hS ?_
                refine RD.pass 3 rfl (by kernel_rfl) (by exact Wd.no (x := 55) (b := false) rfl (AF_ev rfl tp) rfl) hS ?_
                refine RD.pass 4 rfl (by kernel_rfl) (by exact Wd.no (x := 55) (b := false) rfl (AF_ev rfl (up rfl tp)) rfl) hS ?_
                refine RD.pass 5 rfl (by kernel_rfl) (by exact Wd.no (x := 55) (b := false) rfl (AF_ev rfl (up rfl (up rfl tp))) rfl) hS ?_
                refine RD.pass 6 rfl (by kernel_rfl) (by exact Wd.no (x := 55) (b := false) rfl (AF_ev rfl (up rfl (up rfl (up rfl tp)))) rfl) hS ?_
                refine RD.pass 7 rfl (by kernel_rfl) (by exact Wd.u (x := 59) rfl (AF_ev rfl tp)) hS ?_
                refine RD.pass 8 rfl (by kernel_rfl) (by exact Wd.u (x := 59) rfl (AF_ev rfl (up rfl tp))) hS ?_
                refine RD.pass 9 rfl (by kernel_rfl) (by exact Wd.u (x := 59) rfl (AF_ev rfl (up rfl (up rfl tp)))) hS ?_
                refine RD.pass 10 rfl (by kernel_rfl) (by exact Wd.u (x := 59) rfl (AF_ev rfl (up rfl (up rfl (up rfl tp))))) hS ?_
                refine RD.pass 11 rfl (by kernel_rfl) (by exact Wd.u (x := 59) rfl (AF_ev rfl (up rfl (up rfl (up rfl (up rfl tp)))))) hS ?_
                refine RD.pass 12 rfl (by kernel_rfl) (by exact Wd.no (x := 55) (b := false) rfl (AF_ev rfl (up rfl (up rfl (up rfl (up rfl (up rfl (up rfl (up rfl (up rfl (up rfl tp)))))))))) rfl) hS ?_
                refine RD.pass 13 rfl (by kernel_rfl) (by exact Wd.no (x := 55) (b := false) rfl (AF_ev rfl (up rfl (up rfl (up rfl (up rfl (up rfl (up rfl (up rfl (up rfl (up rfl (up rfl tp))))))))))) rfl) hS ?_
                refine RD.pass 14 rfl (by kernel_rfl) (by exact Wd.u (x := 66) rfl (AF_ev rfl tp)) hS ?_
                refine RD.pass 15 rfl (by kernel_rfl) (by exact Wd.u (x := 66) rfl (AF_ev rfl (up rfl tp))) hS ?_
                refine RD.pass 16 rfl (by kernel_rfl) (by exact Wd.u (x := 66) rfl (AF_ev rfl (up rfl (up rfl tp)))) hS ?_
                refine RD.pass 17 rfl (by kernel_rfl) (by exact Wd.u (x := 66) rfl (AF_ev rfl (up rfl (up rfl (up rfl tp))))) hS ?_
                refine RD.pass 18 rfl (by kernel_rfl) (by exact Wd.u (x := 66) rfl (AF_ev rfl (up rfl (up rfl (up rfl (up rfl tp)))))) hS ?_
                refine RD.pass 19 rfl (by kernel_rfl) (by exact Wd.u (x := 66) rfl (AF_ev rfl (up rfl (up rfl (up rfl (up rfl (up rfl tp))))))) hS ?_
                refine RD.pass 20 rfl (by kernel_rfl) (by exact Wd.u (x := 66) rfl (AF_ev rfl (up rfl (up rfl (up rfl (up rfl (up rfl (up rfl tp)))))))) hS ?_
                refine RD.pass 21 rfl (by kernel_rfl) (by exact Wd.u (x := 66) rfl (AF_ev rfl (up rfl (up rfl (up rfl (up rfl (up rfl (up rfl (up rfl tp))))))))) hS ?_
                refine RD.pass 22 rfl (by kernel_rfl) (by exact Wd.u (x := 66) rfl (AF_ev rfl (up rfl (up rfl (up rfl (up rfl (up rfl (up rfl (up rfl (up rfl tp)))))))))) hS ?_
                refine RD.pass 23 rfl (by kernel_rfl) (by exact Wd.u (x := 66) rfl (AF_ev rfl (up rfl (up rfl (up rfl (up rfl (up rfl (up rfl (up rfl (up rfl (up rfl tp))))))))))) hS ?_
                refine RD.pass 24 rfl (by kernel_rfl) (by exact Wd.no (x := 55) (b := false) rfl (AF_ev rfl (up rfl (up rfl (up rfl (up rfl (up rfl (up rfl (up rfl (up rfl (up rfl (up rfl (up rfl (up rfl (up rfl (up rfl (up rfl (up rfl (up rfl (up rfl (up rfl (up rfl (up rfl tp)))))))))))))))))))))) rfl) hS ?_
                refine RD.pass 25 rfl (by kernel_rfl) (by exact Wd.no (x := 55) (b := false) rfl (AF_ev rfl (up rfl (up rfl (up rfl (up rfl (up rfl (up rfl (up rfl (up rfl (up rfl (up rfl (up rfl (up rfl (up rfl (up rfl (up rfl (up rfl (up rfl (up rfl (up rfl (up rfl (up rfl (up rfl tp))))))))))))))))))))))) rfl) hS ?_
                refine RD.pass 26 rfl (by kernel_rfl) (by exact Wd.u (x := 78) rfl (AF_ev rfl tp)) hS ?_
                refine RD.pass 27 rfl (by kernel_rfl) (by exact Wd.u (x := 78) rfl (AF_ev rfl (up rfl tp))) hS ?_
                refine RD.pass 28 rfl (by kernel_rfl) (by exact Wd.u (x := 78) rfl (AF_ev rfl (up rfl (up rfl tp)))) hS ?_
                refine RD.pass 29 rfl (by kernel_rfl) (by exact Wd.u (x := 78) rfl (AF_ev rfl (up rfl (up rfl (up rfl tp))))) hS ?_
                refine RD.pass 30 rfl (by kernel_rfl) (by exact Wd.u (x := 78) rfl (AF_ev rfl (up rfl (up rfl (up rfl (up rfl tp)))))) hS ?_
                refine RD.pass 31 rfl (by kernel_rfl) (by exact Wd.u (x := 78) rfl (AF_ev rfl (up rfl (up rfl (up rfl (up rfl (up rfl tp))))))) hS ?_
                refine RD.pass 32 rfl (by kernel_rfl) (by exact Wd.u (x := 78) rfl (AF_ev rfl (up rfl (up rfl (up rfl (up rfl (up rfl (up rfl tp)))))))) hS ?_
                refine RD.pass 33 rfl (by kernel_rfl) (by exact Wd.u (x := 78) rfl (AF_ev rfl (up rfl (up rfl (up rfl (up rfl (up rfl (up rfl (up rfl tp))))))))) hS ?_
                refine RD.pass 34 rfl (by kernel_rfl) (by exact Wd.u (x := 78) rfl (AF_ev rfl (up rfl (up rfl (up rfl (up rfl (up rfl (up rfl (up rfl (up rfl tp)))))))))) hS ?_
                refine RD.pass 35 rfl (by kernel_rfl) (by exact Wd.u (x := 78) rfl (AF_ev rfl (up rfl (up rfl (up rfl (up rfl (up rfl (up rfl (up rfl (up rfl (up rfl tp))))))))))) hS ?_
                refine RD.pass 36 rfl (by kernel_rfl) (by exact Wd.u (x := 78) rfl (AF_ev rfl (up rfl (up rfl (up rfl (up rfl (up rfl (up rfl (up rfl (up rfl (up rfl (up rfl tp)))))))))))) hS ?_
                refine RD.pass 37 rfl (by kernel_rfl) (by exact Wd.u (x := 78) rfl (AF_ev rfl (up rfl (up rfl (up rfl (up rfl (up rfl (up rfl (up rfl (up rfl (up rfl (up rfl (up rfl tp))))))))))))) hS ?_
                refine RD.pass 38 rfl (by kernel_rfl) (by exact Wd.u (x := 78) rfl (AF_ev rfl (up rfl (up rfl (up rfl (up rfl (up rfl (up rfl (up rfl (up rfl (up rfl (up rfl (up rfl (up rfl tp)))))))))))))) hS ?_
                refine RD.pass 39 rfl (by kernel_rfl) (by exact Wd.u (x := 78) rfl (AF_ev rfl (up rfl (up rfl (up rfl (up rfl (up rfl (up rfl (up rfl (up rfl (up rfl (up rfl (up rfl (up rfl (up rfl tp))))))))))))))) hS ?_
                refine RD.pass 40 rfl (by kernel_rfl) (by exact Wd.no (x := 55) (b := false) rfl (AF_ev rfl (up rfl (up rfl (up rfl (up rfl (up rfl (up rfl (up rfl (up rfl (up rfl (up rfl (up rfl (up rfl (up rfl (up rfl (up rfl (up rfl (up rfl (up rfl (up rfl (up rfl (up rfl (up rfl (up rfl (up rfl (up rfl (up rfl (up rfl (up rfl (up rfl (up rfl (up rfl (up rfl (up rfl (up rfl (up rfl (up rfl (up rfl tp)))))))))))))))))))))))))))))))))))))) rfl) hS ?_
                refine RD.pass 41 rfl (by kernel_rfl) (by exact Wd.no (x := 55) (b := false) rfl (AF_ev rfl (up rfl (up rfl (up rfl (up rfl (up rfl (up rfl (up rfl (up rfl (up rfl (up rfl (up rfl (up rfl (up rfl (up rfl (up rfl (up rfl (up rfl (up rfl (up rfl (up rfl (up rfl (up rfl (up rfl (up rfl (up rfl (up rfl (up rfl (up rfl (up rfl (up rfl (up rfl (up rfl (up rfl (up rfl (up rfl (up rfl (up rfl (up rfl tp))))))))))))))))))))))))))))))))))))))) rfl) hS ?_
                refine RD.pass 42 rfl (by kernel_rfl) (by exact Wd.u (x := 94) rfl (AF_ev rfl tp)) hS ?_
                refine RD.pass 43 rfl (by kernel_rfl) (by exact Wd.u (x := 94) rfl (AF_ev rfl (up rfl tp))) hS ?_
                refine RD.pass 44 rfl (by kernel_rfl) (by exact Wd.u (x := 94) rfl (AF_ev rfl (up rfl (up rfl tp)))) hS ?_
                refine RD.pass 45 rfl (by kernel_rfl) (by exact Wd.u (x := 94) rfl (AF_ev rfl (up rfl (up rfl (up rfl tp))))) hS ?_
                refine RD.pass 46 rfl (by kernel_rfl) (by exact Wd.u (x := 94) rfl (AF_ev rfl (up rfl (up rfl (up rfl (up rfl tp)))))) hS ?_
                refine RD.pass 47 rfl (by kernel_rfl) (by exact Wd.u (x := 94) rfl (AF_ev rfl (up rfl (up rfl (up rfl (up rfl (up rfl tp))))))) hS ?_
                refine RD.pass 48 rfl (by kernel_rfl) (by exact Wd.u (x := 94) rfl (AF_ev rfl (up rfl (up rfl (up rfl (up rfl (up rfl (up rfl tp)))))))) hS ?_
                refine RD.pass 49 rfl (by kernel_rfl) (by exact Wd.u (x := 94) rfl (AF_ev rfl (up rfl (up rfl (up rfl (up rfl (up rfl (up rfl (up rfl tp))))))))) hS ?_
                refine RD.pass 50 rfl (by kernel_rfl) (by exact Wd.u (x := 94) rfl (AF_ev rfl (up rfl (up rfl (up rfl (up rfl (up rfl (up rfl (up rfl (up rfl tp)))))))))) hS ?_
                refine RD.pass 51 rfl (by kernel_rfl) (by exact Wd.u (x := 94) rfl (AF_ev rfl (up rfl (up rfl (up rfl (up rfl (up rfl (up rfl (up rfl (up rfl (up rfl tp))))))))))) hS ?_
                refine RD.pass 52 rfl (by kernel_rfl) (by exact Wd.u (x := 94) rfl (AF_ev rfl (up rfl (up rfl (up rfl (up rfl (up rfl (up rfl (up rfl (up rfl (up rfl (up rfl tp)))))))))))) hS ?_
                refine RD.pass 53 rfl (by kernel_rfl) (by exact Wd.u (x := 94) rfl (AF_ev rfl (up rfl (up rfl (up rfl (up rfl (up rfl (up rfl (up rfl (up rfl (up rfl (up rfl (up rfl tp))))))))))))) hS ?_
                refine RD.pass 54 rfl (by kernel_rfl) (by exact Wd.u (x := 94) rfl (AF_ev rfl (up rfl (up rfl (up rfl (up rfl (up rfl (up rfl (up rfl (up rfl (up rfl (up rfl (up rfl (up rfl tp)))))))))))))) hS ?_
                refine RD.pass 55 rfl (by kernel_rfl) (by exact Wd.u (x := 94) rfl (AF_ev rfl (up rfl (up rfl (up rfl (up rfl (up rfl (up rfl (up rfl (up rfl (up rfl (up rfl (up rfl (up rfl (up rfl tp))))))))))))))) hS ?_
                refine RD.pass 56 rfl (by kernel_rfl) (by exact Wd.no (x := 55) (b := false) rfl (AF_ev rfl (up rfl (up rfl (up rfl (up rfl (up rfl (up rfl (up rfl (up rfl (up rfl (up rfl (up rfl (up rfl (up rfl (up rfl (up rfl (up rfl (up rfl (up rfl (up rfl (up rfl (up rfl (up rfl (up rfl (up rfl (up rfl (up rfl (up rfl (up rfl (up rfl (up rfl (up rfl (up rfl (up rfl (up rfl (up rfl (up rfl (up rfl (up rfl (up rfl (up rfl (up rfl (up rfl (up rfl (up rfl (up rfl (up rfl (up rfl (up rfl (up rfl (up rfl (up rfl (up rfl (up rfl tp)))))))))))))))))))))))))))))))))))))))))))))))))))))) rfl) hS ?_
                refine RD.pass 57 rfl (by kernel_rfl) (by exact Wd.no (x := 55) (b := false) rfl (AF_ev rfl (up rfl (up rfl (up rfl (up rfl (up rfl (up rfl (up rfl (up rfl (up rfl (up rfl (up rfl (up rfl (up rfl (up rfl (up rfl (up rfl (up rfl (up rfl (up rfl (up rfl (up rfl (up rfl (up rfl (up rfl (up rfl (up rfl (up rfl (up rfl (up rfl (up rfl (up rfl (up rfl (up rfl (up rfl (up rfl (up rfl (up rfl (up rfl (up rfl (up rfl (up rfl (up rfl (up rfl (up rfl (up rfl (up rfl (up rfl (up rfl (up rfl (up rfl (up rfl (up rfl (up rfl (up rfl tp))))))))))))))))))))))))))))))))))))))))))))))))))))))) rfl) hS ?_
                refine RD.pass 58 rfl (by kernel_rfl) (by exact Wd.u (x := 110) rfl (AF_ev rfl tp)) hS ?_
                refine RD.pass 59 rfl (by kernel_rfl) (by exact Wd.u (x := 110) rfl (AF_ev rfl (up rfl tp))) hS ?_
                refine RD.pass 60 rfl (by kernel_rfl) (by exact Wd.no (x := 55) (b := false) rfl (AF_ev rfl (up rfl (up rfl (up rfl (up rfl (up rfl (up rfl (up rfl (up rfl (up rfl (up rfl (up rfl (up rfl (up rfl (up rfl (up rfl (up rfl (up rfl (up rfl (up rfl (up rfl (up rfl (up rfl (up rfl (up rfl (up rfl (up rfl (up rfl (up rfl (up rfl (up rfl (up rfl (up rfl (up rfl (up rfl (up rfl (up rfl (up rfl (up rfl (up rfl (up rfl (up rfl (up rfl (up rfl (up rfl (up rfl (up rfl (up rfl (up rfl (up rfl (up rfl (up rfl (up rfl (up rfl (up rfl (up rfl (up rfl (up rfl tp)))))))))))))))))))))))))))))))))))))))))))))))))))))))))) rfl) hS ?_
                refine RD.take 61 rfl (by kernel_rfl) Wd.a (v := .bool false) (fun w hS => by exact E.pickF (AF_ev rfl (up rfl (up rfl (up rfl (up rfl (up rfl (up rfl (up rfl (up rfl (up rfl (up rfl (up rfl (up rfl (up rfl (up rfl (up rfl (up rfl (up rfl (up rfl (up rfl (up rfl (up rfl (up rfl (up rfl (up rfl (up rfl (up rfl (up rfl (up rfl (up rfl (up rfl (up rfl (up rfl (up rfl (up rfl (up rfl (up rfl (up rfl (up rfl (up rfl (up rfl (up rfl (up rfl (up rfl (up rfl (up rfl (up rfl (up rfl (up rfl (up rfl (up rfl (up rfl (up rfl (up rfl (up rfl (up rfl (up rfl (up rfl (up rfl tp))))))))))))))))))))))))))))))))))))))))))))))))))))))))))) rfl) hS ?_
                refine RD.fin (by kernel_rfl) (fun τ => τ 0 = .slice (some ⟨bl, ol, none⟩) l.length c ∧ τ 4 = .pointer (some ⟨k1, 0, none⟩) ∧ τ 5 = .slice Xs ks.length cs ∧ τ 6 = .int .i64 ((i : Nat) : Int) ∧ τ 7 = .pointer (some ⟨b6, 0, none⟩) ∧ τ 8 = .int .i64 ((kUse ks o.id).1) ∧ τ 9 = .int .i64 ((kUse ks o.id).2.1) ∧ τ 10 = .pointer (some ⟨b12, 0, none⟩) ∧ τ 11 = .int .i64 ((kUse ks o.id).2.2.2.1) ∧ τ 34 = .bool true ∧ τ 43 = .int .i64 (kindF o.kd 6) ∧ τ 114 = .bool false ∧ τ 115 = .bool false ∧ τ 121 = .bool false ∧ τ 129 = .bool false ∧ τ 139 = .bool false) ⟨up rfl (up rfl (up rfl (up rfl (up rfl (up rfl (up rfl (up rfl (up rfl (up rfl (up rfl (up rfl (up rfl (up rfl (up rfl (up rfl (up rfl (up rfl (up rfl (up rfl (up rfl (up rfl (up rfl (up rfl (up rfl (up rfl (up rfl (up rfl (up rfl (up rfl (up rfl (up rfl (up rfl (up rfl (up rfl (up rfl (up rfl (up rfl (up rfl (up rfl (up rfl (up rfl (up rfl (up rfl (up rfl (up rfl (up rfl (up rfl (up rfl (up rfl (up rfl (up rfl (up rfl (up rfl (up rfl (up rfl (up rfl (up rfl (up rfl (up rfl (up rfl (up rfl hs0))))))))))))))))))))))))))))))))))))))))))))))))))))))))))))), up rfl (up rfl (up rfl (up rfl (up rfl (up rfl (up rfl (up rfl (up rfl (up rfl (up rfl (up rfl (up rfl (up rfl (up rfl (up rfl (up rfl (up rfl (up rfl (up rfl (up rfl (up rfl (up rfl (up rfl (up rfl (up rfl (up rfl (up rfl (up rfl (up rfl (up rfl (up rfl (up rfl (up rfl (up rfl (up rfl (up rfl (up rfl (up rfl (up rfl (up rfl (up rfl (up rfl (up rfl (up rfl (up rfl (up rfl (up rfl (up rfl (up rfl (up rfl (up rfl (up rfl (up rfl (up rfl (up rfl (up rfl (up rfl (up rfl (up rfl (up rfl (up rfl hs4))))))))))))))))))))))))))))))))))))))))))))))))))))))))))))), up rfl (up rfl (up rfl (up rfl (up rfl (up rfl (up rfl (up rfl (up rfl (up rfl (up rfl (up rfl (up rfl (up rfl (up rfl (up rfl (up rfl (up rfl (up rfl (up rfl (up rfl (up rfl (up rfl (up rfl (up rfl (up rfl (up rfl (up rfl (up rfl (up rfl (up rfl (up rfl (up rfl (up rfl (up rfl (up rfl (up rfl (up rfl (up rfl (up rfl (up rfl (up rfl (up rfl (up rfl (up rfl (up rfl (up rfl (up rfl (up rfl (up rfl (up rfl (up rfl (up rfl (up rfl (up rfl (up rfl (up rfl (up rfl (up rfl (up rfl (up rfl (up rfl hs5))))))))))))))))))))))))))))))))))))))))))))))))))))))))))))), up rfl (up rfl (up rfl (up rfl (up rfl (up rfl (up rfl (up rfl (up rfl (up rfl (up rfl (up rfl (up rfl (up rfl (up rfl (up rfl (up rfl (up rfl (up rfl (up rfl (up rfl (up rfl (up rfl (up rfl (up rfl (up rfl (up rfl (up rfl (up rfl (up rfl (up rfl (up rfl (up rfl (up rfl (up rfl (up rfl (up rfl (up rfl (up rfl (up rfl (up rfl (up rfl (up rfl (up rfl (up rfl (up rfl (up rfl (up rfl (up rfl (up rfl (up rfl (up rfl (up rfl (up rfl (up rfl (up rfl (up rfl (up rfl (up rfl (up rfl (up rfl (up rfl hs6))))))))))))))))))))))))))))))))))))))))))))))))))))))))))))), up rfl (up rfl (up rfl (up rfl (up rfl (up rfl (up rfl (up rfl (up rfl (up rfl (up rfl (up rfl (up rfl (up rfl (up rfl (up rfl (up rfl (up rfl (up rfl (up rfl (up rfl (up rfl (up rfl (up rfl (up rfl (up rfl (up rfl (up rfl (up rfl (up rfl (up rfl (up rfl (up rfl (up rfl (up rfl (up rfl (up rfl (up rfl (up rfl (up rfl (up rfl (up rfl (up rfl (up rfl (up rfl (up rfl (up rfl (up rfl (up rfl (up rfl (up rfl (up rfl (up rfl (up rfl (up rfl (up rfl (up rfl (up rfl (up rfl (up rfl (up rfl (up rfl hs7))))))))))))))))))))))))))))))))))))))))))))))))))))))))))))), up rfl (up rfl (up rfl (up rfl (up rfl (up rfl (up rfl (up rfl (up rfl (up rfl (up rfl (up rfl (up rfl (up rfl (up rfl (up rfl (up rfl (up rfl (up rfl (up rfl (up rfl (up rfl (up rfl (up rfl (up rfl (up rfl (up rfl (up rfl (up rfl (up rfl (up rfl (up rfl (up rfl (up rfl (up rfl (up rfl (up rfl (up rfl (up rfl (up rfl (up rfl (up rfl (up rfl (up rfl (up rfl (up rfl (up rfl (up rfl (up rfl (up rfl (up rfl (up rfl (up rfl (up rfl (up rfl (up rfl (up rfl (up rfl (up rfl (up rfl (up rfl (up rfl hs8))))))))))))))))))))))))))))))))))))))))))))))))))))))))))))), up rfl (up rfl (up rfl (up rfl (up rfl (up rfl (up rfl (up rfl (up rfl (up rfl (up rfl (up rfl (up rfl (up rfl (up rfl (up rfl (up rfl (up rfl (up rfl (up rfl (up rfl (up rfl (up rfl (up rfl (up rfl (up rfl (up rfl (up rfl (up rfl (up rfl (up rfl (up rfl (up rfl (up rfl (up rfl (up rfl (up rfl (up rfl (up rfl (up rfl (up rfl (up rfl (up rfl (up rfl (up rfl (up rfl (up rfl (up rfl (up rfl (up rfl (up rfl (up rfl (up rfl (up rfl (up rfl (up rfl (up rfl (up rfl (up rfl (up rfl (up rfl (up rfl hs9))))))))))))))))))))))))))))))))))))))))))))))))))))))))))))), up rfl (up rfl (up rfl (up rfl (up rfl (up rfl (up rfl (up rfl (up rfl (up rfl (up rfl (up rfl (up rfl (up rfl (up rfl (up rfl (up rfl (up rfl (up rfl (up rfl (up rfl (up rfl (up rfl (up rfl (up rfl (up rfl (up rfl (up rfl (up rfl (up rfl (up rfl (up rfl (up rfl (up rfl (up rfl (up rfl (up rfl (up rfl (up rfl (up rfl (up rfl (up rfl (up rfl (up rfl (up rfl (up rfl (up rfl (up rfl (up rfl (up rfl (up rfl (up rfl (up rfl (up rfl (up rfl (up rfl (up rfl (up rfl (up rfl (up rfl (up rfl (up rfl hs10))))))))))))))))))))))))))))))))))))))))))))))))))))))))))))), up rfl (up rfl (up rfl (up rfl (up rfl (up rfl (up rfl (up rfl (up rfl (up rfl (up rfl (up rfl (up rfl (up rfl (up rfl (up rfl (up rfl (up rfl (up rfl (up rfl (up rfl (up rfl (up rfl (up rfl (up rfl (up rfl (up rfl (up rfl (up rfl (up rfl (up rfl (up rfl (up rfl (up rfl (up rfl (up rfl (up rfl (up rfl (up rfl (up rfl (up rfl (up rfl (up rfl (up rfl (up rfl (up rfl (up rfl (up rfl (up rfl (up rfl (up rfl (up rfl (up rfl (up rfl (up rfl (up rfl (up rfl (up rfl (up rfl (up rfl (up rfl (up rfl hs11))))))))))))))))))))))))))))))))))))))))))))))))))))))))))))), up rfl (up rfl (up rfl (up rfl (up rfl (up rfl (up rfl (up rfl (up rfl (up rfl (up rfl (up rfl (up rfl (up rfl (up rfl (up rfl (up rfl (up rfl (up rfl (up rfl (up rfl (up rfl (up rfl (up rfl (up rfl (up rfl (up rfl (up rfl (up rfl (up rfl (up rfl (up rfl (up rfl (up rfl (up rfl (up rfl (up rfl (up rfl (up rfl (up rfl (up rfl (up rfl (up rfl (up rfl (up rfl (up rfl (up rfl (up rfl (up rfl (up rfl (up rfl (up rfl (up rfl (up rfl (up rfl (up rfl (up rfl (up rfl (up rfl (up rfl (up rfl (up rfl hs34))))))))))))))))))))))))))))))))))))))))))))))))))))))))))))), up rfl (up rfl (up rfl (up rfl (up rfl (up rfl (up rfl (up rfl (up rfl (up rfl (up rfl (up rfl (up rfl (up rfl (up rfl (up rfl (up rfl (up rfl (up rfl (up rfl (up rfl (up rfl (up rfl (up rfl (up rfl (up rfl (up rfl (up rfl (up rfl (up rfl (up rfl (up rfl (up rfl (up rfl (up rfl (up rfl (up rfl (up rfl (up rfl (up rfl (up rfl (up rfl (up rfl (up rfl (up rfl (up rfl (up rfl (up rfl (up rfl (up rfl (up rfl (up rfl (up rfl (up rfl (up rfl (up rfl (up rfl (up rfl (up rfl (up rfl (up rfl (up rfl hs43))))))))))))))))))))))))))))))))))))))))))))))))))))))))))))), tp, up rfl (up rfl (up rfl (up rfl (up rfl (up rfl (up rfl (up rfl (up rfl (up rfl (up rfl (up rfl (up rfl (up rfl (up rfl (up rfl (up rfl (up rfl (up rfl (up rfl (up rfl (up rfl (up rfl (up rfl (up rfl (up rfl (up rfl (up rfl (up rfl (up rfl (up rfl (up rfl (up rfl (up rfl (up rfl (up rfl (up rfl (up rfl (up rfl (up rfl (up rfl (up rfl (up rfl (up rfl (up rfl (up rfl (up rfl (up rfl (up rfl (up rfl (up rfl (up rfl (up rfl (up rfl (up rfl (up rfl (up rfl (up rfl (up rfl (up rfl (up rfl (up rfl hs115))))))))))))))))))))))))))))))))))))))))))))))))))))))))))))), up rfl (up rfl (up rfl (up rfl (up rfl (up rfl (up rfl (up rfl (up rfl (up rfl (up rfl (up rfl (up rfl (up rfl (up rfl (up rfl (up rfl (up rfl (up rfl (up rfl (up rfl (up rfl (up rfl (up rfl (up rfl (up rfl (up rfl (up rfl (up rfl (up rfl (up rfl (up rfl (up rfl (up rfl (up rfl (up rfl (up rfl (up rfl (up rfl (up rfl (up rfl (up rfl (up rfl (up rfl (up rfl (up rfl (up rfl (up rfl (up rfl (up rfl (up rfl (up rfl (up rfl (up rfl (up rfl (up rfl (up rfl (up rfl (up rfl (up rfl (up rfl (up rfl hs121))))))))))))))))))))))))))))))))))))))))))))))))))))))))))))), up rfl (up rfl (up rfl (up rfl (up rfl (up rfl (up rfl (up rfl (up rfl (up rfl (up rfl (up rfl (up rfl (up rfl (up rfl (up rfl (up rfl (up rfl (up rfl (up rfl (up rfl (up rfl (up rfl (up rfl (up rfl (up rfl (up rfl (up rfl (up rfl (up rfl (up rfl (up rfl (up rfl (up rfl (up rfl (up rfl (up rfl (up rfl (up rfl (up rfl (up rfl (up rfl (up rfl (up rfl (up rfl (up rfl (up rfl (up rfl (up rfl (up rfl (up rfl (up rfl (up rfl (up rfl (up rfl (up rfl (up rfl (up rfl (up rfl (up rfl (up rfl (up rfl hs129))))))))))))))))))))))))))))))))))))))))))))))))))))))))))))), up rfl (up rfl (up rfl (up rfl (up rfl (up rfl (up rfl (up rfl (up rfl (up rfl (up rfl (up rfl (up rfl (up rfl (up rfl (up rfl (up rfl (up rfl (up rfl (up rfl (up rfl (up rfl (up rfl (up rfl (up rfl (up rfl (up rfl (up rfl (up rfl (up rfl (up rfl (up rfl (up rfl (up rfl (up rfl (up rfl (up rfl (up rfl (up rfl (up rfl (up rfl (up rfl (up rfl (up rfl (up rfl (up rfl (up rfl (up rfl (up rfl (up rfl (up rfl (up rfl (up rfl (up rfl (up rfl (up rfl (up rfl (up rfl (up rfl (up rfl (up rfl (up rfl hs139)))))))))))))))))))))))))))))))))))))))))))))))))))))))))))))⟩ ?_
                rintro τ ⟨hs0, hs4, hs5, hs6, hs7, hs8, hs9, hs10, hs11, hs34, hs43, hs114, hs115, hs121, hs129, hs139⟩
                refine CW.condF (AF_ev rfl hs114) ?_
                refine CW.skip ?_
                refine Bl.n ?_
                have hst := hst.take (.there (.there (.there .here)))
                have hst := hst.take (.there (.there .here))
                have hst := (hst.take (.there (.there .here))).drop
                have hst := (hst.take (.there (.there .here))).drop
                exact ⟨rfl, ks2, Xs, hstay, hs0, hs4, hs5, hs6, hst⟩
    rintro τ w ⟨ks2, Xt, hstay, hs0, hs4, hs5, hs6, hst⟩
    refine CW.seq ?_
    refine CW.region ?_
    refine RW.soft Wd.a (v := .pointer (some ⟨k1, 0, none⟩)) (by exact E.move (AF_ev rfl hs4)) ?_
    refine RW.hard Wd.a ?_
    refine H.call0 Try.func40 nm40 rfl (map1 (AF_ev rfl tp)) (Calls.mono (prog_Rings hst) ?_)
    rintro _ w ⟨vX13, rfl, hst⟩
    obtain ⟨X13, c14, rfl, hcX13⟩ := rowsShape hst
    refine ⟨_, rfl, ?_⟩
    show RW _ _ _ _ _ _ _
    refine RW.soft Wd.a (v := .slice X13 ks2.length c14) (by exact E.assign (AF_ev rfl tp)) ?_
    refine RW.fin (fun τ => τ 0 = .slice (some ⟨bl, ol, none⟩) l.length c ∧ τ 4 = .pointer (some ⟨k1, 0, none⟩) ∧ τ 5 = .slice Xt ks.length cs ∧ τ 6 = .int .i64 ((i : Nat) : Int) ∧ τ 12 = .slice X13 ks2.length c14) ⟨up rfl (up rfl (up rfl hs0)), up rfl (up rfl (up rfl hs4)), up rfl (up rfl (up rfl hs5)), up rfl (up rfl (up rfl hs6)), tp⟩ ?_
    rintro τ ⟨hs0, hs4, hs5, hs6, hs12⟩
    refine CW.seq ?_
    refine CW.seq ?_
    have hko2 := (keysApart (hst.take (.there .here))).1
    have hn82 := hko2.1
    have hlk := hstay.1
    refine CW.region ?_
    refine RW.soft Wd.a (v := .slice X13 ks2.length c14) (by exact E.move (AF_ev rfl hs12)) ?_
    refine RW.soft Wd.a (v := .int .i64 ((ks2.length : Nat) : Int)) (by exact E.lenS (p := X13) (l := ks2.length) (c := c14) Try.underlying71 (AF_ev rfl tp)) ?_
    refine RW.soft Wd.a (v := .slice Xt ks.length cs) (by exact E.move (AF_ev rfl (up rfl (up rfl hs5)))) ?_
    refine RW.soft Wd.a (v := .int .i64 ((ks.length : Nat) : Int)) (by exact E.lenS (p := Xt) (l := ks.length) (c := cs) Try.underlying71 (AF_ev rfl tp)) ?_
    refine RW.soft Wd.a (v := .bool false) (by exact E.b (a := decide (((ks2.length : Nat) : Int) < ((ks.length : Nat) : Int))) (E.lss (k := .i64) (a := ((ks2.length : Nat) : Int)) (b := ((ks.length : Nat) : Int)) (AF_ev rfl (up rfl (up rfl tp))) (AF_ev rfl tp)) (decide_eq_false (by omega))) ?_
    refine RW.soft Wd.a (v := .bool false) (by exact E.move (AF_ev rfl tp)) ?_
    refine RW.soft (by exact Wd.yes (x := 154) rfl (AF_ev rfl tp)) (v := .slice X13 ks2.length c14) (by exact E.move (AF_ev rfl (up rfl (up rfl (up rfl (up rfl (up rfl (up rfl hs12)))))))) ?_
    refine RW.soft (by exact Wd.yes (x := 154) rfl (AF_ev rfl (up rfl tp))) (v := .int .i64 ((ks2.length : Nat) : Int)) (by exact E.lenS (p := X13) (l := ks2.length) (c := c14) Try.underlying71 (AF_ev rfl tp)) ?_
    refine RW.soft (by exact Wd.yes (x := 154) rfl (AF_ev rfl (up rfl (up rfl tp)))) (v := .bool false) (by exact E.b (a := decide (((ks2.length : Nat) : Int) > 8)) (E.gtr (k := .i64) (a := ((ks2.length : Nat) : Int)) (b := 8) (AF_ev rfl tp) rfl) (decide_eq_false (by omega))) ?_
    refine RW.soft Wd.a (v := .bool false) (by exact E.pickF (AF_ev rfl (up rfl (up rfl (up rfl tp)))) (AF_ev rfl tp)) ?_
    refine RW.fin (fun τ => τ 0 = .slice (some ⟨bl, ol, none⟩) l.length c ∧ τ 4 = .pointer (some ⟨k1, 0, none⟩) ∧ τ 5 = .slice Xt ks.length cs ∧ τ 6 = .int .i64 ((i : Nat) : Int) ∧ τ 12 = .slice X13 ks2.length c14 ∧ τ 158 = .bool false) ⟨up rfl (up rfl (up rfl (up rfl (up rfl (up rfl (up rfl (up rfl (up rfl (up rfl hs0))))))))), up rfl (up rfl (up rfl (up rfl (up rfl (up rfl (up rfl (up rfl (up rfl (up rfl hs4))))))))), up rfl (up rfl (up rfl (up rfl (up rfl (up rfl (up rfl (up rfl (up rfl (up rfl hs5))))))))), up rfl (up rfl (up rfl (up rfl (up rfl (up rfl (up rfl (up rfl (up rfl (up rfl hs6))))))))), up rfl (up rfl (up rfl (up rfl (up rfl (up rfl (up rfl (up rfl (up rfl (up rfl hs12))))))))), tp⟩ ?_
    rintro τ ⟨hs0, hs4, hs5, hs6, hs12, hs158⟩
    refine CW.condF (AF_ev rfl hs158) ?_
    refine CW.skip ?_
    refine Th.n ?_
    refine CW.seq ?_
    refine CW.seq ?_
    have hst := hst.take (.there (.there .here))
    obtain ⟨ra2, hva2, hst⟩ := rowsR hst
    have hl_ra2 : ra2.length = ks.length := by rw [← hva2, List.length_map]
    have hst := hst.take (.there .here)
    obtain ⟨rb2, hvb2, hst⟩ := rowsR hst
    have hl_rb2 : rb2.length = ks2.length := by rw [← hvb2, List.length_map]
    refine CW.region ?_
    refine RW.soft Wd.a (v := .int .i64 0) (by exact E.assign rfl) ?_
    refine RW.fin (fun τ => τ 0 = .slice (some ⟨bl, ol, none⟩) l.length c ∧ τ 4 = .pointer (some ⟨k1, 0, none⟩) ∧ τ 5 = .slice Xt ks.length cs ∧ τ 6 = .int .i64 ((i : Nat) : Int) ∧ τ 12 = .slice X13 ks2.length c14 ∧ τ 13 = .int .i64 0 ∧ τ 158 = .bool false) ⟨up rfl hs0, up rfl hs4, up rfl hs5, up rfl hs6, up rfl hs12, tp, up rfl hs158⟩ ?_
    rintro τ ⟨hs0, hs4, hs5, hs6, hs12, hs13, hs158⟩
    refine CW.block ?_
    have hst := hst.take (.there .here)
    have hst := hst.take (.there (.there .here))
    refine CW.loop (fun (k : Nat) (τ : Fr) (w : World) => ∃ (j : Nat), j ≤ ks.length ∧ k = ks.length - j ∧ τ 0 = .slice (some ⟨bl, ol, none⟩) l.length c ∧ τ 4 = .pointer (some ⟨k1, 0, none⟩) ∧ τ 5 = .slice Xt ks.length cs ∧ τ 6 = .int .i64 ((i : Nat) : Int) ∧ τ 12 = .slice X13 ks2.length c14 ∧ τ 13 = .int .i64 ((j : Nat) : Int) ∧ St p w (KeysV 127 k1 ks2 :: RowsR (.slice Xt ks.length cs) ra2 :: RowsR (.slice X13 ks2.length c14) rb2 :: R)) (ks.length - 0) ⟨0, by omega, rfl, hs0, hs4, hs5, hs6, hs12, (int_eq (a := 0) hs13 (by omega)), hst⟩ ?_
    clear hst
    rintro k τ w ⟨j, hj, hkj, hs0, hs4, hs5, hs6, hs12, hs13, hst⟩
    refine CW.seq ?_
    refine CW.seq ?_
    refine CW.region ?_
    refine RW.soft Wd.a (v := .int .i64 ((j : Nat) : Int)) (by exact E.move (AF_ev rfl hs13)) ?_
    refine RW.soft Wd.a (v := .slice Xt ks.length cs) (by exact E.move (AF_ev rfl (up rfl hs5))) ?_
    refine RW.soft Wd.a (v := .int .i64 ((ks.length : Nat) : Int)) (by exact E.lenS (p := Xt) (l := ks.length) (c := cs) Try.underlying71 (AF_ev rfl tp)) ?_
    refine RW.soft Wd.a (v := .bool (decide (((j : Nat) : Int) < ((ks.length : Nat) : Int)))) (by exact E.lss (k := .i64) (a := ((j : Nat) : Int)) (b := ((ks.length : Nat) : Int)) (AF_ev rfl (up rfl (up rfl tp))) (AF_ev rfl tp)) ?_
    refine RW.fin (fun τ => τ 0 = .slice (some ⟨bl, ol, none⟩) l.length c ∧ τ 4 = .pointer (some ⟨k1, 0, none⟩) ∧ τ 5 = .slice Xt ks.length cs ∧ τ 6 = .int .i64 ((i : Nat) : Int) ∧ τ 12 = .slice X13 ks2.length c14 ∧ τ 13 = .int .i64 ((j : Nat) : Int) ∧ τ 162 = .bool (decide (((j : Nat) : Int) < ((ks.length : Nat) : Int)))) ⟨up rfl (up rfl (up rfl (up rfl hs0))), up rfl (up rfl (up rfl (up rfl hs4))), up rfl (up rfl (up rfl (up rfl hs5))), up rfl (up rfl (up rfl (up rfl hs6))), up rfl (up rfl (up rfl (up rfl hs12))), up rfl (up rfl (up rfl (up rfl hs13))), tp⟩ ?_
    rintro τ ⟨hs0, hs4, hs5, hs6, hs12, hs13, hs162⟩
    refine CW.cond (AF_ev rfl hs162) (fun hc15 => ?_) (fun hc15 => ?_)
    · have hc15_ := hc15
      try simp only [decide_eq_true_eq, decide_eq_false_iff_not, Bool.and_eq_true, Bool.or_eq_true, Bool.and_eq_false_iff, Bool.or_eq_false_iff, Bool.not_eq_true', Bool.not_eq_false', beq_iff_eq, beq_eq_false_iff_ne, bne_iff_ne, bne_eq_false_iff_eq, ne_eq, Int.not_lt, Int.not_le, gt_iff_lt, ge_iff_le] at hc15_
      refine CW.skip ?_
      refine Th.n ?_
      refine CW.seq ?_
      refine CW.block ?_
      refine CW.seq ?_
      refine CW.seq ?_
      have hjl : j < ks.length := by omega
      obtain ⟨bs, os, hX_ra2, hcs⟩ := (show Tells13 p (RowsR (.slice Xt ks.length cs) ra2) (.slice Xt ra2.length cs) ra2 from by rw [hl_ra2]; exact rowsR_tells).place (hst.take (.there .here)) (by omega)
      subst hX_ra2
      obtain ⟨bn, on, hX_rb2, hcn⟩ := (show Tells13 p (RowsR (.slice X13 ks2.length c14) rb2) (.slice X13 rb2.length c14) rb2 from by rw [hl_rb2]; exact rowsR_tells).place (hst.take (.there (.there .here))) (by omega)
      subst hX_rb2
      obtain ⟨⟨o1, vs1⟩, hk1⟩ : ∃ z, ks[j]? = some z := ⟨ks[j], List.getElem?_eq_getElem hjl⟩
      obtain ⟨o2, vs2, hk2, hle2, hst2⟩ := hstay.2 j o1 vs1 hk1
      obtain ⟨Y, d1, hra1⟩ := row_of hva2 hk1
      obtain ⟨Z, d2, hrb1⟩ := row_of hvb2 hk2
      have hv24 := (hko2.row hk2).2.1
      refine CW.regionD [0, 1, 2, 3, 4, 5, 6, 7, 8, 9, 10, 11, 12, 13, 14, 15, 16, 17, 18, 19, 20, 21] (fun w => w.cell? ⟨bn, on + j * 2 + 1, none⟩ = some (.slice Z vs2.length d2) ∧ w.cell? ⟨bs, os + j * 2 + 1, none⟩ = some (.slice Y vs1.length d1)) mixed ?_
      have hst := hst.drew
      generalize w.drew = w at hst ⊢
      have hS : w.cell? ⟨bn, on + j * 2 + 1, none⟩ = some (.slice Z vs2.length d2) ∧ w.cell? ⟨bs, os + j * 2 + 1, none⟩ = some (.slice Y vs1.length d1) := ⟨(by rw [Nat.add_assoc]; exact hcn (hst.take (.there (.there .here))) _ _ (flat_get (j := 1) RingM.enc_len hrb1 (rfl))), (by rw [Nat.add_assoc]; exact hcs (hst.take (.there .here)) _ _ (flat_get (j := 1) RingM.enc_len hra1 (rfl)))⟩
      refine RD.take 0 rfl (by kernel_rfl) Wd.a (v := .slice (some ⟨bn, on, none⟩) ks2.length c14) (fun w hS => by exact E.move (AF_ev rfl hs12)) hS ?_
      refine RD.take 1 rfl (by kernel_rfl) Wd.a (v := .int .i64 ((j : Nat) : Int)) (fun w hS => by exact E.move (AF_ev rfl (up rfl hs13))) hS ?_
      refine RD.take 2 rfl (by kernel_rfl) Wd.a (v := .pointer (some ⟨bn, on + j * 2, none⟩)) (fun w hS => by exact E.indexAddr (b := bn) (o := on) (l := ks2.length) (c := c14) (i := ((j : Nat) : Int)) Try.underlying71 sz84 (AF_ev rfl (up rfl tp)) (AF_ev rfl tp) (by omega) (by omega) (by simp)) hS ?_
      refine RD.take 3 rfl (by kernel_rfl) Wd.a (v := .pointer (some ⟨bn, on + j * 2 + 1, none⟩)) (fun w hS => by exact E.fieldAddr (b := bn) (o := on + j * 2) (f := { name := "L", type := 82, offset := 1, embedded := false, tag := "", pkgPath := "", byteOffset := 8 }) (AF_ev rfl tp) Try.underlying84 rfl sz82 rfl) hS ?_
      refine RD.take 4 rfl (by kernel_rfl) Wd.a (v := .slice Z vs2.length d2) (fun w hS => by exact E.load (a := ⟨bn, on + j * 2 + 1, none⟩) Try.underlying82 rfl (AF_ev rfl tp) hS.1) hS ?_
      refine RD.take 5 rfl (by kernel_rfl) Wd.a (v := .int .i64 ((vs2.length : Nat) : Int)) (fun w hS => by exact E.lenS (p := Z) (l := vs2.length) (c := d2) Try.underlying82 (AF_ev rfl tp)) hS ?_
      refine RD.take 6 rfl (by kernel_rfl) Wd.a (v := .slice (some ⟨bs, os, none⟩) ks.length cs) (fun w hS => by exact E.move (AF_ev rfl (up rfl (up rfl (up rfl (up rfl (up rfl (up rfl hs5)))))))) hS ?_
      refine RD.take 7 rfl (by kernel_rfl) Wd.a (v := .int .i64 ((j : Nat) : Int)) (fun w hS => by exact E.move (AF_ev rfl (up rfl (up rfl (up rfl (up rfl (up rfl (up rfl (up rfl hs13))))))))) hS ?_
      refine RD.take 8 rfl (by kernel_rfl) Wd.a (v := .pointer (some ⟨bs, os + j * 2, none⟩)) (fun w hS => by exact E.indexAddr (b := bs) (o := os) (l := ks.length) (c := cs) (i := ((j : Nat) : Int)) Try.underlying71 sz84 (AF_ev rfl (up rfl tp)) (AF_ev rfl tp) (by omega) (by omega) (by simp)) hS ?_
      refine RD.take 9 rfl (by kernel_rfl) Wd.a (v := .pointer (some ⟨bs, os + j * 2 + 1, none⟩)) (fun w hS => by exact E.fieldAddr (b := bs) (o := os + j * 2) (f := { name := "L", type := 82, offset := 1, embedded := false, tag := "", pkgPath := "", byteOffset := 8 }) (AF_ev rfl tp) Try.underlying84 rfl sz82 rfl) hS ?_
      refine RD.take 10 rfl (by kernel_rfl) Wd.a (v := .slice Y vs1.length d1) (fun w hS => by exact E.load (a := ⟨bs, os + j * 2 + 1, none⟩) Try.underlying82 rfl (AF_ev rfl tp) hS.2) hS ?_
      refine RD.take 11 rfl (by kernel_rfl) Wd.a (v := .int .i64 ((vs1.length : Nat) : Int)) (fun w hS => by exact E.lenS (p := Y) (l := vs1.length) (c := d1) Try.underlying82 (AF_ev rfl tp)) hS ?_
      refine RD.take 12 rfl (by kernel_rfl) Wd.a (v := .bool false) (fun w hS => by exact E.b (a := decide (((vs2.length : Nat) : Int) < ((vs1.length : Nat) : Int))) (E.lss (k := .i64) (a := ((vs2.length : Nat) : Int)) (b := ((vs1.length : Nat) : Int)) (AF_ev rfl (up rfl (up rfl (up rfl (up rfl (up rfl (up rfl tp))))))) (AF_ev rfl tp)) (decide_eq_false (by omega))) hS ?_
      refine RD.take 13 rfl (by kernel_rfl) Wd.a (v := .bool false) (fun w hS => by exact E.move (AF_ev rfl tp)) hS ?_
      refine RD.take 14 rfl (by kernel_rfl) (by exact Wd.yes (x := 178) rfl (AF_ev rfl tp)) (v := .slice (some ⟨bn, on, none⟩) ks2.length c14) (fun w hS => by exact E.move (AF_ev rfl (up rfl (up rfl (up rfl (up rfl (up rfl (up rfl (up rfl (up rfl (up rfl (up rfl (up rfl (up rfl (up rfl (up rfl hs12)))))))))))))))) hS ?_
      refine RD.take 15 rfl (by kernel_rfl) (by exact Wd.yes (x := 178) rfl (AF_ev rfl (up rfl tp))) (v := .int .i64 ((j : Nat) : Int)) (fun w hS => by exact E.move (AF_ev rfl (up rfl (up rfl (up rfl (up rfl (up rfl (up rfl (up rfl (up rfl (up rfl (up rfl (up rfl (up rfl (up rfl (up rfl (up rfl hs13))))))))))))))))) hS ?_
      refine RD.take 16 rfl (by kernel_rfl) (by exact Wd.yes (x := 178) rfl (AF_ev rfl (up rfl (up rfl tp)))) (v := .pointer (some ⟨bn, on + j * 2, none⟩)) (fun w hS => by exact E.indexAddr (b := bn) (o := on) (l := ks2.length) (c := c14) (i := ((j : Nat) : Int)) Try.underlying71 sz84 (AF_ev rfl (up rfl tp)) (AF_ev rfl tp) (by omega) (by omega) (by simp)) hS ?_
      refine RD.take 17 rfl (by kernel_rfl) (by exact Wd.yes (x := 178) rfl (AF_ev rfl (up rfl (up rfl (up rfl tp))))) (v := .pointer (some ⟨bn, on + j * 2 + 1, none⟩)) (fun w hS => by exact E.fieldAddr (b := bn) (o := on + j * 2) (f := { name := "L", type := 82, offset := 1, embedded := false, tag := "", pkgPath := "", byteOffset := 8 }) (AF_ev rfl tp) Try.underlying84 rfl sz82 rfl) hS ?_
      refine RD.take 18 rfl (by kernel_rfl) (by exact Wd.yes (x := 178) rfl (AF_ev rfl (up rfl (up rfl (up rfl (up rfl tp)))))) (v := .slice Z vs2.length d2) (fun w hS => by exact E.load (a := ⟨bn, on + j * 2 + 1, none⟩) Try.underlying82 rfl (AF_ev rfl tp) hS.1) hS ?_
      refine RD.take 19 rfl (by kernel_rfl) (by exact Wd.yes (x := 178) rfl (AF_ev rfl (up rfl (up rfl (up rfl (up rfl (up rfl tp))))))) (v := .int .i64 ((vs2.length : Nat) : Int)) (fun w hS => by exact E.lenS (p := Z) (l := vs2.length) (c := d2) Try.underlying82 (AF_ev rfl tp)) hS ?_
      refine RD.take 20 rfl (by kernel_rfl) (by exact Wd.yes (x := 178) rfl (AF_ev rfl (up rfl (up rfl (up rfl (up rfl (up rfl (up rfl tp)))))))) (v := .bool false) (fun w hS => by exact E.b (a := decide (((vs2.length : Nat) : Int) > 4)) (E.gtr (k := .i64) (a := ((vs2.length : Nat) : Int)) (b := 4) (AF_ev rfl tp) rfl) (decide_eq_false (by omega))) hS ?_
      refine RD.take 21 rfl (by kernel_rfl) Wd.a (v := .bool false) (fun w hS => by exact E.pickF (AF_ev rfl (up rfl (up rfl (up rfl (up rfl (up rfl (up rfl (up rfl tp)))))))) (AF_ev rfl tp)) hS ?_
      refine RD.fin (by kernel_rfl) (fun τ => τ 0 = .slice (some ⟨bl, ol, none⟩) l.length c ∧ τ 4 = .pointer (some ⟨k1, 0, none⟩) ∧ τ 5 = .slice (some ⟨bs, os, none⟩) ks.length cs ∧ τ 6 = .int .i64 ((i : Nat) : Int) ∧ τ 12 = .slice (some ⟨bn, on, none⟩) ks2.length c14 ∧ τ 13 = .int .i64 ((j : Nat) : Int) ∧ τ 162 = .bool true ∧ τ 186 = .bool false) ⟨up rfl (up rfl (up rfl (up rfl (up rfl (up rfl (up rfl (up rfl (up rfl (up rfl (up rfl (up rfl (up rfl (up rfl (up rfl (up rfl (up rfl (up rfl (up rfl (up rfl (up rfl (up rfl hs0))))))))))))))))))))), up rfl (up rfl (up rfl (up rfl (up rfl (up rfl (up rfl (up rfl (up rfl (up rfl (up rfl (up rfl (up rfl (up rfl (up rfl (up rfl (up rfl (up rfl (up rfl (up rfl (up rfl (up rfl hs4))))))))))))))))))))), up rfl (up rfl (up rfl (up rfl (up rfl (up rfl (up rfl (up rfl (up rfl (up rfl (up rfl (up rfl (up rfl (up rfl (up rfl (up rfl (up rfl (up rfl (up rfl (up rfl (up rfl (up rfl hs5))))))))))))))))))))), up rfl (up rfl (up rfl (up rfl (up rfl (up rfl (up rfl (up rfl (up rfl (up rfl (up rfl (up rfl (up rfl (up rfl (up rfl (up rfl (up rfl (up rfl (up rfl (up rfl (up rfl (up rfl hs6))))))))))))))))))))), up rfl (up rfl (up rfl (up rfl (up rfl (up rfl (up rfl (up rfl (up rfl (up rfl (up rfl (up rfl (up rfl (up rfl (up rfl (up rfl (up rfl (up rfl (up rfl (up rfl (up rfl (up rfl hs12))))))))))))))))))))), up rfl (up rfl (up rfl (up rfl (up rfl (up rfl (up rfl (up rfl (up rfl (up rfl (up rfl (up rfl (up rfl (up rfl (up rfl (up rfl (up rfl (up rfl (up rfl (up rfl (up rfl (up rfl hs13))))))))))))))))))))), up rfl (up rfl (up rfl (up rfl (up rfl (up rfl (up rfl (up rfl (up rfl (up rfl (up rfl (up rfl (up rfl (up rfl (up rfl (up rfl (up rfl (up rfl (up rfl (up rfl (up rfl (up rfl (Eq.trans hs162 (congrArg Value.bool hc15))))))))))))))))))))))), tp⟩ ?_
      rintro τ ⟨hs0, hs4, hs5, hs6, hs12, hs13, hs162, hs186⟩
      refine CW.condF (AF_ev rfl hs186) ?_
      refine CW.skip ?_
      refine Th.n ?_
      refine CW.seq ?_
      refine CW.region ?_
      refine RW.soft Wd.a (v := .int .i64 0) (by exact E.assign rfl) ?_
      refine RW.fin (fun τ => τ 0 = .slice (some ⟨bl, ol, none⟩) l.length c ∧ τ 4 = .pointer (some ⟨k1, 0, none⟩) ∧ τ 5 = .slice (some ⟨bs, os, none⟩) ks.length cs ∧ τ 6 = .int .i64 ((i : Nat) : Int) ∧ τ 12 = .slice (some ⟨bn, on, none⟩) ks2.length c14 ∧ τ 13 = .int .i64 ((j : Nat) : Int) ∧ τ 14 = .int .i64 0 ∧ τ 162 = .bool true ∧ τ 186 = .bool false) ⟨up rfl hs0, up rfl hs4, up rfl hs5, up rfl hs6, up rfl hs12, up rfl hs13, tp, up rfl hs162, up rfl hs186⟩ ?_
      rintro τ ⟨hs0, hs4, hs5, hs6, hs12, hs13, hs14, hs162, hs186⟩
      refine CW.block ?_
      have hst := hst.take (.there (.there .here))
      have hst := hst.take (.there (.there .here))
      have hst := hst.take (.there (.there .here))
      refine CW.loop (fun (k : Nat) (τ : Fr) (w : World) => ∃ (q : Nat), q ≤ vs1.length ∧ k = vs1.length - q ∧ τ 0 = .slice (some ⟨bl, ol, none⟩) l.length c ∧ τ 4 = .pointer (some ⟨k1, 0, none⟩) ∧ τ 5 = .slice (some ⟨bs, os, none⟩) ks.length cs ∧ τ 6 = .int .i64 ((i : Nat) : Int) ∧ τ 12 = .slice (some ⟨bn, on, none⟩) ks2.length c14 ∧ τ 13 = .int .i64 ((j : Nat) : Int) ∧ τ 14 = .int .i64 ((q : Nat) : Int) ∧ St p w (KeysV 127 k1 ks2 :: RowsR (.slice (some ⟨bs, os, none⟩) ks.length cs) ra2 :: RowsR (.slice (some ⟨bn, on, none⟩) ks2.length c14) rb2 :: R)) (vs1.length - 0) ⟨0, by omega, rfl, hs0, hs4, hs5, hs6, hs12, hs13, (int_eq (a := 0) hs14 (by omega)), hst⟩ ?_
      clear hst
      rintro k τ w ⟨q, hq, hkq, hs0, hs4, hs5, hs6, hs12, hs13, hs14, hst⟩
      refine CW.seq ?_
      refine CW.seq ?_
      refine CW.region ?_
      refine RW.soft Wd.a (v := .int .i64 ((q : Nat) : Int)) (by exact E.move (AF_ev rfl hs14)) ?_
      refine RW.soft Wd.a (v := .slice (some ⟨bs, os, none⟩) ks.length cs) (by exact E.move (AF_ev rfl (up rfl hs5))) ?_
      refine RW.soft Wd.a (v := .int .i64 ((j : Nat) : Int)) (by exact E.move (AF_ev rfl (up rfl (up rfl hs13)))) ?_
      refine RW.soft Wd.a (v := .pointer (some ⟨bs, os + j * 2, none⟩)) (by exact E.indexAddr (b := bs) (o := os) (l := ks.length) (c := cs) (i := ((j : Nat) : Int)) Try.underlying71 sz84 (AF_ev rfl (up rfl tp)) (AF_ev rfl tp) (by omega) (by omega) (by simp)) ?_
      refine RW.soft Wd.a (v := .pointer (some ⟨bs, os + j * 2 + 1, none⟩)) (by exact E.fieldAddr (b := bs) (o := os + j * 2) (f := { name := "L", type := 82, offset := 1, embedded := false, tag := "", pkgPath := "", byteOffset := 8 }) (AF_ev rfl tp) Try.underlying84 rfl sz82 rfl) ?_
      refine RW.soft Wd.a (v := .slice Y vs1.length d1) (by exact E.load (a := ⟨bs, os + j * 2 + 1, none⟩) Try.underlying82 rfl (AF_ev rfl tp) (by rw [Nat.add_assoc]; exact hcs (hst.take (.there .here)) _ _ (flat_get (j := 1) RingM.enc_len hra1 (rfl)))) ?_
      refine RW.soft Wd.a (v := .int .i64 ((vs1.length : Nat) : Int)) (by exact E.lenS (p := Y) (l := vs1.length) (c := d1) Try.underlying82 (AF_ev rfl tp)) ?_
      refine RW.soft Wd.a (v := .bool (decide (((q : Nat) : Int) < ((vs1.length : Nat) : Int)))) (by exact E.lss (k := .i64) (a := ((q : Nat) : Int)) (b := ((vs1.length : Nat) : Int)) (AF_ev rfl (up rfl (up rfl (up rfl (up rfl (up rfl (up rfl tp))))))) (AF_ev rfl tp)) ?_
      refine RW.fin (fun τ => τ 0 = .slice (some ⟨bl, ol, none⟩) l.length c ∧ τ 4 = .pointer (some ⟨k1, 0, none⟩) ∧ τ 5 = .slice (some ⟨bs, os, none⟩) ks.length cs ∧ τ 6 = .int .i64 ((i : Nat) : Int) ∧ τ 12 = .slice (some ⟨bn, on, none⟩) ks2.length c14 ∧ τ 13 = .int .i64 ((j : Nat) : Int) ∧ τ 14 = .int .i64 ((q : Nat) : Int) ∧ τ 194 = .bool (decide (((q : Nat) : Int) < ((vs1.length : Nat) : Int)))) ⟨up rfl (up rfl (up rfl (up rfl (up rfl (up rfl (up rfl (up rfl hs0))))))), up rfl (up rfl (up rfl (up rfl (up rfl (up rfl (up rfl (up rfl hs4))))))), up rfl (up rfl (up rfl (up rfl (up rfl (up rfl (up rfl (up rfl hs5))))))), up rfl (up rfl (up rfl (up rfl (up rfl (up rfl (up rfl (up rfl hs6))))))), up rfl (up rfl (up rfl (up rfl (up rfl (up rfl (up rfl (up rfl hs12))))))), up rfl (up rfl (up rfl (up rfl (up rfl (up rfl (up rfl (up rfl hs13))))))), up rfl (up rfl (up rfl (up rfl (up rfl (up rfl (up rfl (up rfl hs14))))))), tp⟩ ?_
      rintro τ ⟨hs0, hs4, hs5, hs6, hs12, hs13, hs14, hs194⟩
      refine CW.cond (AF_ev rfl hs194) (fun hc16 => ?_) (fun hc16 => ?_)
      · have hc16_ := hc16
        try simp only [decide_eq_true_eq, decide_eq_false_iff_not, Bool.and_eq_true, Bool.or_eq_true, Bool.and_eq_false_iff, Bool.or_eq_false_iff, Bool.not_eq_true', Bool.not_eq_false', beq_iff_eq, beq_eq_false_iff_ne, bne_iff_ne, bne_eq_false_iff_eq, ne_eq, Int.not_lt, Int.not_le, gt_iff_lt, ge_iff_le] at hc16_
        refine CW.skip ?_
        refine Th.n ?_
        refine CW.seq ?_
        refine CW.block ?_
        refine CW.seq ?_
        have hql : q < vs1.length := by omega
        obtain ⟨x1, hx1⟩ : ∃ z, vs1[q]? = some z := ⟨vs1[q], List.getElem?_eq_getElem hql⟩
        obtain ⟨y1, hy1, hs1⟩ := hst2 q x1 hx1
        have hs_le := hs1.le
        have hs_one := hs1.one
        have hs_most := hs1.most
        have hs_pos := hs1.pos
        obtain ⟨b1, o1_, rfl, hcx1⟩ := (rowsR_tells (p := p)).rowPlace hra1 (hst.take (.there .here)) (by omega)
        obtain ⟨b2, o2_, rfl, hcx2⟩ := (rowsR_tells (p := p)).rowPlace hrb1 (hst.take (.there (.there .here))) (by omega)
        refine CW.region ?_
        refine RW.soft Wd.a (v := .slice (some ⟨bs, os, none⟩) ks.length cs) (by exact E.move (AF_ev rfl hs5)) ?_
        refine RW.soft Wd.a (v := .int .i64 ((j : Nat) : Int)) (by exact E.move (AF_ev rfl (up rfl hs13))) ?_
        refine RW.soft Wd.a (v := .pointer (some ⟨bs, os + j * 2, none⟩)) (by exact E.indexAddr (b := bs) (o := os) (l := ks.length) (c := cs) (i := ((j : Nat) : Int)) Try.underlying71 sz84 (AF_ev rfl (up rfl tp)) (AF_ev rfl tp) (by omega) (by omega) (by simp)) ?_
        refine RW.soft Wd.a (v := .pointer (some ⟨bs, os + j * 2 + 1, none⟩)) (by exact E.fieldAddr (b := bs) (o := os + j * 2) (f := { name := "L", type := 82, offset := 1, embedded := false, tag := "", pkgPath := "", byteOffset := 8 }) (AF_ev rfl tp) Try.underlying84 rfl sz82 rfl) ?_
        refine RW.soft Wd.a (v := .slice (some ⟨b1, o1_, none⟩) vs1.length d1) (by exact E.load (a := ⟨bs, os + j * 2 + 1, none⟩) Try.underlying82 rfl (AF_ev rfl tp) (by rw [Nat.add_assoc]; exact hcs (hst.take (.there .here)) _ _ (flat_get (j := 1) RingM.enc_len hra1 (rfl)))) ?_
        refine RW.soft Wd.a (v := .int .i64 ((q : Nat) : Int)) (by exact E.move (AF_ev rfl (up rfl (up rfl (up rfl (up rfl (up rfl hs14))))))) ?_
        refine RW.soft Wd.a (v := .pointer (some ⟨b1, o1_ + q * 34, none⟩)) (by exact E.indexAddr (b := b1) (o := o1_) (l := vs1.length) (c := d1) (i := ((q : Nat) : Int)) Try.underlying82 sz86 (AF_ev rfl (up rfl tp)) (AF_ev rfl tp) (by omega) (by omega) (by simp)) ?_
        refine RW.soft Wd.a (v := .agg (Ver.enc x1).toArray) (by exact E.loadN (b := b1) (o := o1_ + q * 34) (cs := Ver.enc x1) Try.underlying86 rfl sz86 (AF_ev rfl tp) (Ver.enc_len _) (fun j v hv => by rw [Nat.add_assoc]; exact hcx1 (hst.take (.there .here)) _ _ (flat_get Ver.enc_len hx1 (hv)))) ?_
        refine RW.hard Wd.a ?_
        refine H.alloc zr86k hst fun b17 w hst => ?_
        refine RW.hard Wd.a ?_
        refine H.storeWhole (b := b17) (m := 34) (v := .agg (Ver.enc x1).toArray) (news := Ver.enc x1) (AF_ev rfl tp) (AF_ev rfl (up rfl tp)) hst .here rfl (Ver.enc_len _) (by rw [List.size_toArray]; exact (Ver.enc_len _)) sz86 (Ver.one _) fun w hst => ?_
        refine RW.fin (fun τ => τ 0 = .slice (some ⟨bl, ol, none⟩) l.length c ∧ τ 4 = .pointer (some ⟨k1, 0, none⟩) ∧ τ 5 = .slice (some ⟨bs, os, none⟩) ks.length cs ∧ τ 6 = .int .i64 ((i : Nat) : Int) ∧ τ 12 = .slice (some ⟨bn, on, none⟩) ks2.length c14 ∧ τ 13 = .int .i64 ((j : Nat) : Int) ∧ τ 14 = .int .i64 ((q : Nat) : Int) ∧ τ 15 = .pointer (some ⟨b17, 0, none⟩) ∧ τ 194 = .bool true) ⟨u0 (up rfl (up rfl (up rfl (up rfl (up rfl (up rfl (up rfl (up rfl (up rfl hs0))))))))), u0 (up rfl (up rfl (up rfl (up rfl (up rfl (up rfl (up rfl (up rfl (up rfl hs4))))))))), u0 (up rfl (up rfl (up rfl (up rfl (up rfl (up rfl (up rfl (up rfl (up rfl hs5))))))))), u0 (up rfl (up rfl (up rfl (up rfl (up rfl (up rfl (up rfl (up rfl (up rfl hs6))))))))), u0 (up rfl (up rfl (up rfl (up rfl (up rfl (up rfl (up rfl (up rfl (up rfl hs12))))))))), u0 (up rfl (up rfl (up rfl (up rfl (up rfl (up rfl (up rfl (up rfl (up rfl hs13))))))))), u0 (up rfl (up rfl (up rfl (up rfl (up rfl (up rfl (up rfl (up rfl (up rfl hs14))))))))), u0 tp, u0 (up rfl (up rfl (up rfl (up rfl (up rfl (up rfl (up rfl (up rfl (up rfl (Eq.trans hs194 (congrArg Value.bool hc16)))))))))))⟩ ?_
        rintro τ ⟨hs0, hs4, hs5, hs6, hs12, hs13, hs14, hs15, hs194⟩
        refine CW.seq ?_
        refine CW.region ?_
        refine RW.soft Wd.a (v := .slice (some ⟨bn, on, none⟩) ks2.length c14) (by exact E.move (AF_ev rfl hs12)) ?_
        refine RW.soft Wd.a (v := .int .i64 ((j : Nat) : Int)) (by exact E.move (AF_ev rfl (up rfl hs13))) ?_
        refine RW.soft Wd.a (v := .pointer (some ⟨bn, on + j * 2, none⟩)) (by exact E.indexAddr (b := bn) (o := on) (l := ks2.length) (c := c14) (i := ((j : Nat) : Int)) Try.underlying71 sz84 (AF_ev rfl (up rfl tp)) (AF_ev rfl tp) (by omega) (by omega) (by simp)) ?_
        refine RW.soft Wd.a (v := .pointer (some ⟨bn, on + j * 2 + 1, none⟩)) (by exact E.fieldAddr (b := bn) (o := on + j * 2) (f := { name := "L", type := 82, offset := 1, embedded := false, tag := "", pkgPath := "", byteOffset := 8 }) (AF_ev rfl tp) Try.underlying84 rfl sz82 rfl) ?_
        refine RW.soft Wd.a (v := .slice (some ⟨b2, o2_, none⟩) vs2.length d2) (by exact E.load (a := ⟨bn, on + j * 2 + 1, none⟩) Try.underlying82 rfl (AF_ev rfl tp) (by rw [Nat.add_assoc]; exact hcn (hst.take (.there (.there (.there .here)))) _ _ (flat_get (j := 1) RingM.enc_len hrb1 (rfl)))) ?_
        refine RW.soft Wd.a (v := .int .i64 ((q : Nat) : Int)) (by exact E.move (AF_ev rfl (up rfl (up rfl (up rfl (up rfl (up rfl hs14))))))) ?_
        refine RW.soft Wd.a (v := .pointer (some ⟨b2, o2_ + q * 34, none⟩)) (by exact E.indexAddr (b := b2) (o := o2_) (l := vs2.length) (c := d2) (i := ((q : Nat) : Int)) Try.underlying82 sz86 (AF_ev rfl (up rfl tp)) (AF_ev rfl tp) (by omega) (by omega) (by simp)) ?_
        refine RW.soft Wd.a (v := .agg (Ver.enc y1).toArray) (by exact E.loadN (b := b2) (o := o2_ + q * 34) (cs := Ver.enc y1) Try.underlying86 rfl sz86 (AF_ev rfl tp) (Ver.enc_len _) (fun j v hv => by rw [Nat.add_assoc]; exact hcx2 (hst.take (.there (.there (.there .here)))) _ _ (flat_get Ver.enc_len hy1 (hv)))) ?_
        refine RW.hard Wd.a ?_
        refine H.alloc zr86k hst fun b18 w hst => ?_
        refine RW.hard Wd.a ?_
        refine H.storeWhole (b := b18) (m := 34) (v := .agg (Ver.enc y1).toArray) (news := Ver.enc y1) (AF_ev rfl tp) (AF_ev rfl (up rfl tp)) hst .here rfl (Ver.enc_len _) (by rw [List.size_toArray]; exact (Ver.enc_len _)) sz86 (Ver.one _) fun w hst => ?_
        refine RW.fin (fun τ => τ 0 = .slice (some ⟨bl, ol, none⟩) l.length c ∧ τ 4 = .pointer (some ⟨k1, 0, none⟩) ∧ τ 5 = .slice (some ⟨bs, os, none⟩) ks.length cs ∧ τ 6 = .int .i64 ((i : Nat) : Int) ∧ τ 12 = .slice (some ⟨bn, on, none⟩) ks2.length c14 ∧ τ 13 = .int .i64 ((j : Nat) : Int) ∧ τ 14 = .int .i64 ((q : Nat) : Int) ∧ τ 15 = .pointer (some ⟨b17, 0, none⟩) ∧ τ 16 = .pointer (some ⟨b18, 0, none⟩) ∧ τ 194 = .bool true) ⟨u0 (up rfl (up rfl (up rfl (up rfl (up rfl (up rfl (up rfl (up rfl (up rfl hs0))))))))), u0 (up rfl (up rfl (up rfl (up rfl (up rfl (up rfl (up rfl (up rfl (up rfl hs4))))))))), u0 (up rfl (up rfl (up rfl (up rfl (up rfl (up rfl (up rfl (up rfl (up rfl hs5))))))))), u0 (up rfl (up rfl (up rfl (up rfl (up rfl (up rfl (up rfl (up rfl (up rfl hs6))))))))), u0 (up rfl (up rfl (up rfl (up rfl (up rfl (up rfl (up rfl (up rfl (up rfl hs12))))))))), u0 (up rfl (up rfl (up rfl (up rfl (up rfl (up rfl (up rfl (up rfl (up rfl hs13))))))))), u0 (up rfl (up rfl (up rfl (up rfl (up rfl (up rfl (up rfl (up rfl (up rfl hs14))))))))), u0 (up rfl (up rfl (up rfl (up rfl (up rfl (up rfl (up rfl (up rfl (up rfl hs15))))))))), u0 tp, u0 (up rfl (up rfl (up rfl (up rfl (up rfl (up rfl (up rfl (up rfl (up rfl hs194)))))))))⟩ ?_
        rintro τ ⟨hs0, hs4, hs5, hs6, hs12, hs13, hs14, hs15, hs16, hs194⟩
        refine CW.seq ?_
        refine Or.elim (Bool.eq_false_or_eq_true y1.gone) (fun hyg => ?_) (fun hyg => ?_)
        · skip
          refine Or.elim (Bool.eq_false_or_eq_true x1.gone) (fun hxg1 => ?_) (fun hxg1 => ?_)
          · skip
            refine CW.region ?_
            refine RW.soft Wd.a (v := .pointer (some ⟨b17, 33, none⟩)) (by exact E.fieldAddr (b := b17) (o := 0) (f := { name := "Gone", type := 4, offset := 33, embedded := false, tag := "", pkgPath := "", byteOffset := 40 }) (AF_ev rfl hs15) Try.underlying86 rfl sz4 rfl) ?_
            refine RW.soft Wd.a (v := .bool true) (by exact E.load (a := ⟨b17, 33, none⟩) Try.underlying4 rfl (AF_ev rfl tp) (hst.cell (.there .here) (by rw [List.getElem?_toArray]; exact (by have hz := Ver.at_gone x1; rw [hxg1] at hz; exact hz)))) ?_
            refine RW.soft Wd.a (v := .bool true) (by exact E.move (AF_ev rfl tp)) ?_
            refine RW.soft (by exact Wd.yes (x := 215) rfl (AF_ev rfl tp)) (v := .pointer (some ⟨b18, 33, none⟩)) (by exact E.fieldAddr (b := b18) (o := 0) (f := { name := "Gone", type := 4, offset := 33, embedded := false, tag := "", pkgPath := "", byteOffset := 40 }) (AF_ev rfl (up rfl (up rfl (up rfl hs16)))) Try.underlying86 rfl sz4 rfl) ?_
            refine RW.soft (by exact Wd.yes (x := 215) rfl (AF_ev rfl (up rfl tp))) (v := .bool true) (by exact E.load (a := ⟨b18, 33, none⟩) Try.underlying4 rfl (AF_ev rfl tp) (hst.cell .here (by rw [List.getElem?_toArray]; exact (by have hz := Ver.at_gone y1; rw [hyg] at hz; exact hz)))) ?_
            refine RW.soft (by exact Wd.yes (x := 215) rfl (AF_ev rfl (up rfl (up rfl tp)))) (v := .bool false) (by exact E.not (b := true) (AF_ev rfl tp)) ?_
            refine RW.soft Wd.a (v := .bool false) (by exact E.pickT (AF_ev rfl (up rfl (up rfl (up rfl tp)))) (AF_ev rfl tp)) ?_
            refine RW.soft Wd.a (v := .bool false) (by exact E.move (AF_ev rfl tp)) ?_
            refine RW.soft (by exact Wd.yes (x := 220) rfl (AF_ev rfl tp)) (v := .pointer (some ⟨b18, 33, none⟩)) (by exact E.fieldAddr (b := b18) (o := 0) (f := { name := "Gone", type := 4, offset := 33, embedded := false, tag := "", pkgPath := "", byteOffset := 40 }) (AF_ev rfl (up rfl (up rfl (up rfl (up rfl (up rfl (up rfl (up rfl (up rfl hs16))))))))) Try.underlying86 rfl sz4 rfl) ?_
            refine RW.soft (by exact Wd.yes (x := 220) rfl (AF_ev rfl (up rfl tp))) (v := .bool true) (by exact E.load (a := ⟨b18, 33, none⟩) Try.underlying4 rfl (AF_ev rfl tp) (hst.cell .here (by rw [List.getElem?_toArray]; exact (by have hz := Ver.at_gone y1; rw [hyg] at hz; exact hz)))) ?_
            refine RW.soft (by exact Wd.yes (x := 220) rfl (AF_ev rfl (up rfl (up rfl tp)))) (v := .bool false) (by exact E.not (b := true) (AF_ev rfl tp)) ?_
            refine RW.soft (by exact Wd.yes (x := 220) rfl (AF_ev rfl (up rfl (up rfl (up rfl tp))))) (v := .bool false) (by exact E.move (AF_ev rfl tp)) ?_
            refine RW.pass (by exact Wd.no (x := 224) (b := false) rfl (AF_ev rfl tp) rfl) ?_
            refine RW.pass (by exact Wd.no (x := 224) (b := false) rfl (AF_ev rfl (up rfl tp)) rfl) ?_
            refine RW.pass (by exact Wd.no (x := 224) (b := false) rfl (AF_ev rfl (up rfl (up rfl tp))) rfl) ?_
            refine RW.pass (by exact Wd.no (x := 224) (b := false) rfl (AF_ev rfl (up rfl (up rfl (up rfl tp)))) rfl) ?_
            refine RW.pass (by exact Wd.no (x := 224) (b := false) rfl (AF_ev rfl (up rfl (up rfl (up rfl (up rfl tp))))) rfl) ?_
            refine RW.soft (by exact Wd.yes (x := 220) rfl (AF_ev rfl (up rfl (up rfl (up rfl (up rfl (up rfl (up rfl (up rfl (up rfl (up rfl tp))))))))))) (v := .bool false) (by exact E.pickF (AF_ev rfl (up rfl (up rfl (up rfl (up rfl (up rfl tp)))))) rfl) ?_
            refine RW.soft Wd.a (v := .bool false) (by exact E.pickF (AF_ev rfl (up rfl (up rfl (up rfl (up rfl (up rfl (up rfl (up rfl (up rfl (up rfl (up rfl tp))))))))))) (AF_ev rfl tp)) ?_
            refine RW.soft Wd.a (v := .bool false) (by exact E.move (AF_ev rfl tp)) ?_
            refine RW.soft (by exact Wd.yes (x := 232) rfl (AF_ev rfl tp)) (v := .pointer (some ⟨b18, 32, none⟩)) (by exact E.fieldAddr (b := b18) (o := 0) (f := { name := "Uses", type := 3, offset := 32, embedded := false, tag := "", pkgPath := "", byteOffset := 32 }) (AF_ev rfl (up rfl (up rfl (up rfl (up rfl (up rfl (up rfl (up rfl (up rfl (up rfl (up rfl (up rfl (up rfl (up rfl (up rfl (up rfl (up rfl (up rfl (up rfl (up rfl (up rfl hs16))))))))))))))))))))) Try.underlying86 rfl sz3 rfl) ?_
            refine RW.soft (by exact Wd.yes (x := 232) rfl (AF_ev rfl (up rfl tp))) (v := .int .i64 y1.uses) (by exact E.load (a := ⟨b18, 32, none⟩) Try.underlying3 rfl (AF_ev rfl tp) (hst.cell .here (by rw [List.getElem?_toArray]; exact Ver.at_uses _))) ?_
            refine RW.soft (by exact Wd.yes (x := 232) rfl (AF_ev rfl (up rfl (up rfl tp)))) (v := .pointer (some ⟨b17, 32, none⟩)) (by exact E.fieldAddr (b := b17) (o := 0) (f := { name := "Uses", type := 3, offset := 32, embedded := false, tag := "", pkgPath := "", byteOffset := 32 }) (AF_ev rfl (up rfl (up rfl (up rfl (up rfl (up rfl (up rfl (up rfl (up rfl (up rfl (up rfl (up rfl (up rfl (up rfl (up rfl (up rfl (up rfl (up rfl (up rfl (up rfl (up rfl (up rfl (up rfl hs15))))))))))))))))))))))) Try.underlying86 rfl sz3 rfl) ?_
            refine RW.soft (by exact Wd.yes (x := 232) rfl (AF_ev rfl (up rfl (up rfl (up rfl tp))))) (v := .int .i64 x1.uses) (by exact E.load (a := ⟨b17, 32, none⟩) Try.underlying3 rfl (AF_ev rfl tp) (hst.cell (.there .here) (by rw [List.getElem?_toArray]; exact Ver.at_uses _))) ?_
            refine RW.soft (by exact Wd.yes (x := 232) rfl (AF_ev rfl (up rfl (up rfl (up rfl (up rfl tp)))))) (v := .bool false) (by exact E.b (a := decide (y1.uses < x1.uses)) (E.lss (k := .i64) (a := y1.uses) (b := x1.uses) (AF_ev rfl (up rfl (up rfl tp))) (AF_ev rfl tp)) (decide_eq_false (by omega))) ?_
            refine RW.soft Wd.a (v := .bool false) (by exact E.pickF (AF_ev rfl (up rfl (up rfl (up rfl (up rfl (up rfl tp)))))) (AF_ev rfl tp)) ?_
            refine RW.soft Wd.a (v := .bool false) (by exact E.move (AF_ev rfl tp)) ?_
            refine RW.soft (by exact Wd.yes (x := 239) rfl (AF_ev rfl tp)) (v := .pointer (some ⟨b18, 32, none⟩)) (by exact E.fieldAddr (b := b18) (o := 0) (f := { name := "Uses", type := 3, offset := 32, embedded := false, tag := "", pkgPath := "", byteOffset := 32 }) (AF_ev rfl (up rfl (up rfl (up rfl (up rfl (up rfl (up rfl (up rfl (up rfl (up rfl (up rfl (up rfl (up rfl (up rfl (up rfl (up rfl (up rfl (up rfl (up rfl (up rfl (up rfl (up rfl (up rfl (up rfl (up rfl (up rfl (up rfl (up rfl hs16)))))))))))))))))))))))))))) Try.underlying86 rfl sz3 rfl) ?_
            refine RW.soft (by exact Wd.yes (x := 239) rfl (AF_ev rfl (up rfl tp))) (v := .int .i64 y1.uses) (by exact E.load (a := ⟨b18, 32, none⟩) Try.underlying3 rfl (AF_ev rfl tp) (hst.cell .here (by rw [List.getElem?_toArray]; exact Ver.at_uses _))) ?_
            refine RW.soft (by exact Wd.yes (x := 239) rfl (AF_ev rfl (up rfl (up rfl tp)))) (v := .pointer (some ⟨b17, 32, none⟩)) (by exact E.fieldAddr (b := b17) (o := 0) (f := { name := "Uses", type := 3, offset := 32, embedded := false, tag := "", pkgPath := "", byteOffset := 32 }) (AF_ev rfl (up rfl (up rfl (up rfl (up rfl (up rfl (up rfl (up rfl (up rfl (up rfl (up rfl (up rfl (up rfl (up rfl (up rfl (up rfl (up rfl (up rfl (up rfl (up rfl (up rfl (up rfl (up rfl (up rfl (up rfl (up rfl (up rfl (up rfl (up rfl (up rfl hs15)))))))))))))))))))))))))))))) Try.underlying86 rfl sz3 rfl) ?_
            refine RW.soft (by exact Wd.yes (x := 239) rfl (AF_ev rfl (up rfl (up rfl (up rfl tp))))) (v := .int .i64 x1.uses) (by exact E.load (a := ⟨b17, 32, none⟩) Try.underlying3 rfl (AF_ev rfl tp) (hst.cell (.there .here) (by rw [List.getElem?_toArray]; exact Ver.at_uses _))) ?_
            refine RW.soft (by exact Wd.yes (x := 239) rfl (AF_ev rfl (up rfl (up rfl (up rfl (up rfl tp)))))) (v := .int .i64 (x1.uses + 1)) (by exact E.add (k := .i64) (a := x1.uses) (b := 1) (AF_ev rfl tp) rfl (show IntKind.i64.wrap (x1.uses + 1) = x1.uses + 1 from (by rw [IntWalk.i64_in _ (by omega)]))) ?_
            refine RW.soft (by exact Wd.yes (x := 239) rfl (AF_ev rfl (up rfl (up rfl (up rfl (up rfl (up rfl tp))))))) (v := .bool false) (by exact E.b (a := decide (y1.uses > (x1.uses + 1))) (E.gtr (k := .i64) (a := y1.uses) (b := x1.uses + 1) (AF_ev rfl (up rfl (up rfl (up rfl tp)))) (AF_ev rfl tp)) (decide_eq_false (by omega))) ?_
            refine RW.soft Wd.a (v := .bool false) (by exact E.pickF (AF_ev rfl (up rfl (up rfl (up rfl (up rfl (up rfl (up rfl tp))))))) (AF_ev rfl tp)) ?_
            refine RW.soft Wd.a (v := .bool false) (by exact E.move (AF_ev rfl tp)) ?_
            refine RW.soft (by exact Wd.yes (x := 247) rfl (AF_ev rfl tp)) (v := .pointer (some ⟨b18, 32, none⟩)) (by exact E.fieldAddr (b := b18) (o := 0) (f := { name := "Uses", type := 3, offset := 32, embedded := false, tag := "", pkgPath := "", byteOffset := 32 }) (AF_ev rfl (up rfl (up rfl (up rfl (up rfl (up rfl (up rfl (up rfl (up rfl (up rfl (up rfl (up rfl (up rfl (up rfl (up rfl (up rfl (up rfl (up rfl (up rfl (up rfl (up rfl (up rfl (up rfl (up rfl (up rfl (up rfl (up rfl (up rfl (up rfl (up rfl (up rfl (up rfl (up rfl (up rfl (up rfl (up rfl hs16)))))))))))))))))))))))))))))))))))) Try.underlying86 rfl sz3 rfl) ?_
            refine RW.soft (by exact Wd.yes (x := 247) rfl (AF_ev rfl (up rfl tp))) (v := .int .i64 y1.uses) (by exact E.load (a := ⟨b18, 32, none⟩) Try.underlying3 rfl (AF_ev rfl tp) (hst.cell .here (by rw [List.getElem?_toArray]; exact Ver.at_uses _))) ?_
            refine RW.soft (by exact Wd.yes (x := 247) rfl (AF_ev rfl (up rfl (up rfl tp)))) (v := .bool false) (by exact E.b (a := decide (y1.uses > 16)) (E.gtr (k := .i64) (a := y1.uses) (b := 16) (AF_ev rfl tp) rfl) (decide_eq_false (by omega))) ?_
            refine RW.soft Wd.a (v := .bool false) (by exact E.pickF (AF_ev rfl (up rfl (up rfl (up rfl tp)))) (AF_ev rfl tp)) ?_
            refine RW.fin (fun τ => τ 0 = .slice (some ⟨bl, ol, none⟩) l.length c ∧ τ 4 = .pointer (some ⟨k1, 0, none⟩) ∧ τ 5 = .slice (some ⟨bs, os, none⟩) ks.length cs ∧ τ 6 = .int .i64 ((i : Nat) : Int) ∧ τ 12 = .slice (some ⟨bn, on, none⟩) ks2.length c14 ∧ τ 13 = .int .i64 ((j : Nat) : Int) ∧ τ 14 = .int .i64 ((q : Nat) : Int) ∧ τ 15 = .pointer (some ⟨b17, 0, none⟩) ∧ τ 16 = .pointer (some ⟨b18, 0, none⟩) ∧ τ 194 = .bool true ∧ τ 251 = .bool false) ⟨up rfl (up rfl (up rfl (up rfl (up rfl (up rfl (up rfl (up rfl (up rfl (up rfl (up rfl (up rfl (up rfl (up rfl (up rfl (up rfl (up rfl (up rfl (up rfl (up rfl (up rfl (up rfl (up rfl (up rfl (up rfl (up rfl (up rfl (up rfl (up rfl (up rfl (up rfl (up rfl (up rfl (up rfl (up rfl (up rfl (up rfl (up rfl (up rfl hs0)))))))))))))))))))))))))))))))))))))), up rfl (up rfl (up rfl (up rfl (up rfl (up rfl (up rfl (up rfl (up rfl (up rfl (up rfl (up rfl (up rfl (up rfl (up rfl (up rfl (up rfl (up rfl (up rfl (up rfl (up rfl (up rfl (up rfl (up rfl (up rfl (up rfl (up rfl (up rfl (up rfl (up rfl (up rfl (up rfl (up rfl (up rfl (up rfl (up rfl (up rfl (up rfl (up rfl hs4)))))))))))))))))))))))))))))))))))))), up rfl (up rfl (up rfl (up rfl (up rfl (up rfl (up rfl (up rfl (up rfl (up rfl (up rfl (up rfl (up rfl (up rfl (up rfl (up rfl (up rfl (up rfl (up rfl (up rfl (up rfl (up rfl (up rfl (up rfl (up rfl (up rfl (up rfl (up rfl (up rfl (up rfl (up rfl (up rfl (up rfl (up rfl (up rfl (up rfl (up rfl (up rfl (up rfl hs5)))))))))))))))))))))))))))))))))))))), up rfl (up rfl (up rfl (up rfl (up rfl (up rfl (up rfl (up rfl (up rfl (up rfl (up rfl (up rfl (up rfl (up rfl (up rfl (up rfl (up rfl (up rfl (up rfl (up rfl (up rfl (up rfl (up rfl (up rfl (up rfl (up rfl (up rfl (up rfl (up rfl (up rfl (up rfl (up rfl (up rfl (up rfl (up rfl (up rfl (up rfl (up rfl (up rfl hs6)))))))))))))))))))))))))))))))))))))), up rfl (up rfl (up rfl (up rfl (up rfl (up rfl (up rfl (up rfl (up rfl (up rfl (up rfl (up rfl (up rfl (up rfl (up rfl (up rfl (up rfl (up rfl (up rfl (up rfl (up rfl (up rfl (up rfl (up rfl (up rfl (up rfl (up rfl (up rfl (up rfl (up rfl (up rfl (up rfl (up rfl (up rfl (up rfl (up rfl (up rfl (up rfl (up rfl hs12)))))))))))))))))))))))))))))))))))))), up rfl (up rfl (up rfl (up rfl (up rfl (up rfl (up rfl (up rfl (up rfl (up rfl (up rfl (up rfl (up rfl (up rfl (up rfl (up rfl (up rfl (up rfl (up rfl (up rfl (up rfl (up rfl (up rfl (up rfl (up rfl (up rfl (up rfl (up rfl (up rfl (up rfl (up rfl (up rfl (up rfl (up rfl (up rfl (up rfl (up rfl (up rfl (up rfl hs13)))))))))))))))))))))))))))))))))))))), up rfl (up rfl (up rfl (up rfl (up rfl (up rfl (up rfl (up rfl (up rfl (up rfl (up rfl (up rfl (up rfl (up rfl (up rfl (up rfl (up rfl (up rfl (up rfl (up rfl (up rfl (up rfl (up rfl (up rfl (up rfl (up rfl (up rfl (up rfl (up rfl (up rfl (up rfl (up rfl (up rfl (up rfl (up rfl (up rfl (up rfl (up rfl (up rfl hs14)))))))))))))))))))))))))))))))))))))), up rfl (up rfl (up rfl (up rfl (up rfl (up rfl (up rfl (up rfl (up rfl (up rfl (up rfl (up rfl (up rfl (up rfl (up rfl (up rfl (up rfl (up rfl (up rfl (up rfl (up rfl (up rfl (up rfl (up rfl (up rfl (up rfl (up rfl (up rfl (up rfl (up rfl (up rfl (up rfl (up rfl (up rfl (up rfl (up rfl (up rfl (up rfl (up rfl hs15)))))))))))))))))))))))))))))))))))))), up rfl (up rfl (up rfl (up rfl (up rfl (up rfl (up rfl (up rfl (up rfl (up rfl (up rfl (up rfl (up rfl (up rfl (up rfl (up rfl (up rfl (up rfl (up rfl (up rfl (up rfl (up rfl (up rfl (up rfl (up rfl (up rfl (up rfl (up rfl (up rfl (up rfl (up rfl (up rfl (up rfl (up rfl (up rfl (up rfl (up rfl (up rfl (up rfl hs16)))))))))))))))))))))))))))))))))))))), up rfl (up rfl (up rfl (up rfl (up rfl (up rfl (up rfl (up rfl (up rfl (up rfl (up rfl (up rfl (up rfl (up rfl (up rfl (up rfl (up rfl (up rfl (up rfl (up rfl (up rfl (up rfl (up rfl (up rfl (up rfl (up rfl (up rfl (up rfl (up rfl (up rfl (up rfl (up rfl (up rfl (up rfl (up rfl (up rfl (up rfl (up rfl (up rfl hs194)))))))))))))))))))))))))))))))))))))), tp⟩ ?_
            rintro τ ⟨hs0, hs4, hs5, hs6, hs12, hs13, hs14, hs15, hs16, hs194, hs251⟩
            refine CW.condF (AF_ev rfl hs251) ?_
            refine CW.skip ?_
            refine Bl.n ?_
            refine Th.n ?_
            refine CW.region ?_
            refine RW.soft Wd.a (v := .int .i64 ((q : Nat) : Int)) (by exact E.move (AF_ev rfl hs14)) ?_
            refine RW.soft Wd.a (v := .int .i64 (((q : Nat) : Int) + 1)) (by exact E.add (k := .i64) (a := ((q : Nat) : Int)) (b := 1) (AF_ev rfl tp) rfl (show IntKind.i64.wrap (((q : Nat) : Int) + 1) = ((q : Nat) : Int) + 1 from (by rw [IntWalk.i64_in _ (by omega)]))) ?_
            refine RW.soft Wd.a (v := .int .i64 (((q : Nat) : Int) + 1)) (by exact E.assign (AF_ev rfl tp)) ?_
            refine RW.nil ?_
            refine Th.n ?_
            have hst := hst.take (.there (.there (.there (.there .here))))
            have hst := hst.take (.there (.there (.there (.there .here))))
            have hst := hst.take (.there (.there (.there (.there .here))))
            have hst := (hst.take (.there (.there (.there .here)))).drop
            have hst := (hst.take (.there (.there (.there .here)))).drop
            exact ⟨vs1.length - (q + 1), by omega, q + 1, (by omega), rfl, up rfl (up rfl (up rfl hs0)), up rfl (up rfl (up rfl hs4)), up rfl (up rfl (up rfl hs5)), up rfl (up rfl (up rfl hs6)), up rfl (up rfl (up rfl hs12)), up rfl (up rfl (up rfl hs13)), (int_eq (a := ((q : Nat) : Int) + 1) tp (by omega)), hst⟩
          · skip
            refine CW.region ?_
            refine RW.soft Wd.a (v := .pointer (some ⟨b17, 33, none⟩)) (by exact E.fieldAddr (b := b17) (o := 0) (f := { name := "Gone", type := 4, offset := 33, embedded := false, tag := "", pkgPath := "", byteOffset := 40 }) (AF_ev rfl hs15) Try.underlying86 rfl sz4 rfl) ?_
            refine RW.soft Wd.a (v := .bool false) (by exact E.load (a := ⟨b17, 33, none⟩) Try.underlying4 rfl (AF_ev rfl tp) (hst.cell (.there .here) (by rw [List.getElem?_toArray]; exact (by have hz := Ver.at_gone x1; rw [hxg1] at hz; exact hz)))) ?_
            refine RW.soft Wd.a (v := .bool false) (by exact E.move (AF_ev rfl tp)) ?_
            refine RW.pass (by exact Wd.no (x := 215) (b := false) rfl (AF_ev rfl tp) rfl) ?_
            refine RW.pass (by exact Wd.no (x := 215) (b := false) rfl (AF_ev rfl (up rfl tp)) rfl) ?_
            refine RW.pass (by exact Wd.no (x := 215) (b := false) rfl (AF_ev rfl (up rfl (up rfl tp))) rfl) ?_
            refine RW.soft Wd.a (v := .bool false) (by exact E.pickF (AF_ev rfl (up rfl (up rfl (up rfl tp)))) rfl) ?_
            refine RW.soft Wd.a (v := .bool false) (by exact E.move (AF_ev rfl tp)) ?_
            refine RW.soft (by exact Wd.yes (x := 220) rfl (AF_ev rfl tp)) (v := .pointer (some ⟨b18, 33, none⟩)) (by exact E.fieldAddr (b := b18) (o := 0) (f := { name := "Gone", type := 4, offset := 33, embedded := false, tag := "", pkgPath := "", byteOffset := 40 }) (AF_ev rfl (up rfl (up rfl (up rfl (up rfl (up rfl (up rfl (up rfl (up rfl hs16))))))))) Try.underlying86 rfl sz4 rfl) ?_
            refine RW.soft (by exact Wd.yes (x := 220) rfl (AF_ev rfl (up rfl tp))) (v := .bool true) (by exact E.load (a := ⟨b18, 33, none⟩) Try.underlying4 rfl (AF_ev rfl tp) (hst.cell .here (by rw [List.getElem?_toArray]; exact (by have hz := Ver.at_gone y1; rw [hyg] at hz; exact hz)))) ?_
            refine RW.soft (by exact Wd.yes (x := 220) rfl (AF_ev rfl (up rfl (up rfl tp)))) (v := .bool false) (by exact E.not (b := true) (AF_ev rfl tp)) ?_
            refine RW.soft (by exact Wd.yes (x := 220) rfl (AF_ev rfl (up rfl (up rfl (up rfl tp))))) (v := .bool false) (by exact E.move (AF_ev rfl tp)) ?_
            refine RW.pass (by exact Wd.no (x := 224) (b := false) rfl (AF_ev rfl tp) rfl) ?_
            refine RW.pass (by exact Wd.no (x := 224) (b := false) rfl (AF_ev rfl (up rfl tp)) rfl) ?_
            refine RW.pass (by exact Wd.no (x := 224) (b := false) rfl (AF_ev rfl (up rfl (up rfl tp))) rfl) ?_
            refine RW.pass (by exact Wd.no (x := 224) (b := false) rfl (AF_ev rfl (up rfl (up rfl (up rfl tp)))) rfl) ?_
            refine RW.pass (by exact Wd.no (x := 224) (b := false) rfl (AF_ev rfl (up rfl (up rfl (up rfl (up rfl tp))))) rfl) ?_
            refine RW.soft (by exact Wd.yes (x := 220) rfl (AF_ev rfl (up rfl (up rfl (up rfl (up rfl (up rfl (up rfl (up rfl (up rfl (up rfl tp))))))))))) (v := .bool false) (by exact E.pickF (AF_ev rfl (up rfl (up rfl (up rfl (up rfl (up rfl tp)))))) rfl) ?_
            refine RW.soft Wd.a (v := .bool false) (by exact E.pickF (AF_ev rfl (up rfl (up rfl (up rfl (up rfl (up rfl (up rfl (up rfl (up rfl (up rfl (up rfl tp))))))))))) (AF_ev rfl tp)) ?_
            refine RW.soft Wd.a (v := .bool false) (by exact E.move (AF_ev rfl tp)) ?_
            refine RW.soft (by exact Wd.yes (x := 232) rfl (AF_ev rfl tp)) (v := .pointer (some ⟨b18, 32, none⟩)) (by exact E.fieldAddr (b := b18) (o := 0) (f := { name := "Uses", type := 3, offset := 32, embedded := false, tag := "", pkgPath := "", byteOffset := 32 }) (AF_ev rfl (up rfl (up rfl (up rfl (up rfl (up rfl (up rfl (up rfl (up rfl (up rfl (up rfl (up rfl (up rfl (up rfl (up rfl (up rfl (up rfl (up rfl (up rfl (up rfl (up rfl hs16))))))))))))))))))))) Try.underlying86 rfl sz3 rfl) ?_
            refine RW.soft (by exact Wd.yes (x := 232) rfl (AF_ev rfl (up rfl tp))) (v := .int .i64 y1.uses) (by exact E.load (a := ⟨b18, 32, none⟩) Try.underlying3 rfl (AF_ev rfl tp) (hst.cell .here (by rw [List.getElem?_toArray]; exact Ver.at_uses _))) ?_
            refine RW.soft (by exact Wd.yes (x := 232) rfl (AF_ev rfl (up rfl (up rfl tp)))) (v := .pointer (some ⟨b17, 32, none⟩)) (by exact E.fieldAddr (b := b17) (o := 0) (f := { name := "Uses", type := 3, offset := 32, embedded := false, tag := "", pkgPath := "", byteOffset := 32 }) (AF_ev rfl (up rfl (up rfl (up rfl (up rfl (up rfl (up rfl (up rfl (up rfl (up rfl (up rfl (up rfl (up rfl (up rfl (up rfl (up rfl (up rfl (up rfl (up rfl (up rfl (up rfl (up rfl (up rfl hs15))))))))))))))))))))))) Try.underlying86 rfl sz3 rfl) ?_
            refine RW.soft (by exact Wd.yes (x := 232) rfl (AF_ev rfl (up rfl (up rfl (up rfl tp))))) (v := .int .i64 x1.uses) (by exact E.load (a := ⟨b17, 32, none⟩) Try.underlying3 rfl (AF_ev rfl tp) (hst.cell (.there .here) (by rw [List.getElem?_toArray]; exact Ver.at_uses _))) ?_
            refine RW.soft (by exact Wd.yes (x := 232) rfl (AF_ev rfl (up rfl (up rfl (up rfl (up rfl tp)))))) (v := .bool false) (by exact E.b (a := decide (y1.uses < x1.uses)) (E.lss (k := .i64) (a := y1.uses) (b := x1.uses) (AF_ev rfl (up rfl (up rfl tp))) (AF_ev rfl tp)) (decide_eq_false (by omega))) ?_
            refine RW.soft Wd.a (v := .bool false) (by exact E.pickF (AF_ev rfl (up rfl (up rfl (up rfl (up rfl (up rfl tp)))))) (AF_ev rfl tp)) ?_
            refine RW.soft Wd.a (v := .bool false) (by exact E.move (AF_ev rfl tp)) ?_
            refine RW.soft (by exact Wd.yes (x := 239) rfl (AF_ev rfl tp)) (v := .pointer (some ⟨b18, 32, none⟩)) (by exact E.fieldAddr (b := b18) (o := 0) (f := { name := "Uses", type := 3, offset := 32, embedded := false, tag := "", pkgPath := "", byteOffset := 32 }) (AF_ev rfl (up rfl (up rfl (up rfl (up rfl (up rfl (up rfl (up rfl (up rfl (up rfl (up rfl (up rfl (up rfl (up rfl (up rfl (up rfl (up rfl (up rfl (up rfl (up rfl (up rfl (up rfl (up rfl (up rfl (up rfl (up rfl (up rfl (up rfl hs16)))))))))))))))))))))))))))) Try.underlying86 rfl sz3 rfl) ?_
            refine RW.soft (by exact Wd.yes (x := 239) rfl (AF_ev rfl (up rfl tp))) (v := .int .i64 y1.uses) (by exact E.load (a := ⟨b18, 32, none⟩) Try.underlying3 rfl (AF_ev rfl tp) (hst.cell .here (by rw [List.getElem?_toArray]; exact Ver.at_uses _))) ?_
            refine RW.soft (by exact Wd.yes (x := 239) rfl (AF_ev rfl (up rfl (up rfl tp)))) (v := .pointer (some ⟨b17, 32, none⟩)) (by exact E.fieldAddr (b := b17) (o := 0) (f := { name := "Uses", type := 3, offset := 32, embedded := false, tag := "", pkgPath := "", byteOffset := 32 }) (AF_ev rfl (up rfl (up rfl (up rfl (up rfl (up rfl (up rfl (up rfl (up rfl (up rfl (up rfl (up rfl (up rfl (up rfl (up rfl (up rfl (up rfl (up rfl (up rfl (up rfl (up rfl (up rfl (up rfl (up rfl (up rfl (up rfl (up rfl (up rfl (up rfl (up rfl hs15)))))))))))))))))))))))))))))) Try.underlying86 rfl sz3 rfl) ?_
            refine RW.soft (by exact Wd.yes (x := 239) rfl (AF_ev rfl (up rfl (up rfl (up rfl tp))))) (v := .int .i64 x1.uses) (by exact E.load (a := ⟨b17, 32, none⟩) Try.underlying3 rfl (AF_ev rfl tp) (hst.cell (.there .here) (by rw [List.getElem?_toArray]; exact Ver.at_uses _))) ?_
            refine RW.soft (by exact Wd.yes (x := 239) rfl (AF_ev rfl (up rfl (up rfl (up rfl (up rfl tp)))))) (v := .int .i64 (x1.uses + 1)) (by exact E.add (k := .i64) (a := x1.uses) (b := 1) (AF_ev rfl tp) rfl (show IntKind.i64.wrap (x1.uses + 1) = x1.uses + 1 from (by rw [IntWalk.i64_in _ (by omega)]))) ?_
            refine RW.soft (by exact Wd.yes (x := 239) rfl (AF_ev rfl (up rfl (up rfl (up rfl (up rfl (up rfl tp))))))) (v := .bool false) (by exact E.b (a := decide (y1.uses > (x1.uses + 1))) (E.gtr (k := .i64) (a := y1.uses) (b := x1.uses + 1) (AF_ev rfl (up rfl (up rfl (up rfl tp)))) (AF_ev rfl tp)) (decide_eq_false (by omega))) ?_
            refine RW.soft Wd.a (v := .bool false) (by exact E.pickF (AF_ev rfl (up rfl (up rfl (up rfl (up rfl (up rfl (up rfl tp))))))) (AF_ev rfl tp)) ?_
            refine RW.soft Wd.a (v := .bool false) (by exact E.move (AF_ev rfl tp)) ?_
            refine RW.soft (by exact Wd.yes (x := 247) rfl (AF_ev rfl tp)) (v := .pointer (some ⟨b18, 32, none⟩)) (by exact E.fieldAddr (b := b18) (o := 0) (f := { name := "Uses", type := 3, offset := 32, embedded := false, tag := "", pkgPath := "", byteOffset := 32 }) (AF_ev rfl (up rfl (up rfl (up rfl (up rfl (up rfl (up rfl (up rfl (up rfl (up rfl (up rfl (up rfl (up rfl (up rfl (up rfl (up rfl (up rfl (up rfl (up rfl (up rfl (up rfl (up rfl (up rfl (up rfl (up rfl (up rfl (up rfl (up rfl (up rfl (up rfl (up rfl (up rfl (up rfl (up rfl (up rfl (up rfl hs16)))))))))))))))))))))))))))))))))))) Try.underlying86 rfl sz3 rfl) ?_
            refine RW.soft (by exact Wd.yes (x := 247) rfl (AF_ev rfl (up rfl tp))) (v := .int .i64 y1.uses) (by exact E.load (a := ⟨b18, 32, none⟩) Try.underlying3 rfl (AF_ev rfl tp) (hst.cell .here (by rw [List.getElem?_toArray]; exact Ver.at_uses _))) ?_
            refine RW.soft (by exact Wd.yes (x := 247) rfl (AF_ev rfl (up rfl (up rfl tp)))) (v := .bool false) (by exact E.b (a := decide (y1.uses > 16)) (E.gtr (k := .i64) (a := y1.uses) (b := 16) (AF_ev rfl tp) rfl) (decide_eq_false (by omega))) ?_
            refine RW.soft Wd.a (v := .bool false) (by exact E.pickF (AF_ev rfl (up rfl (up rfl (up rfl tp)))) (AF_ev rfl tp)) ?_
            refine RW.fin (fun τ => τ 0 = .slice (some ⟨bl, ol, none⟩) l.length c ∧ τ 4 = .pointer (some ⟨k1, 0, none⟩) ∧ τ 5 = .slice (some ⟨bs, os, none⟩) ks.length cs ∧ τ 6 = .int .i64 ((i : Nat) : Int) ∧ τ 12 = .slice (some ⟨bn, on, none⟩) ks2.length c14 ∧ τ 13 = .int .i64 ((j : Nat) : Int) ∧ τ 14 = .int .i64 ((q : Nat) : Int) ∧ τ 15 = .pointer (some ⟨b17, 0, none⟩) ∧ τ 16 = .pointer (some ⟨b18, 0, none⟩) ∧ τ 194 = .bool true ∧ τ 251 = .bool false) ⟨up rfl (up rfl (up rfl (up rfl (up rfl (up rfl (up rfl (up rfl (up rfl (up rfl (up rfl (up rfl (up rfl (up rfl (up rfl (up rfl (up rfl (up rfl (up rfl (up rfl (up rfl (up rfl (up rfl (up rfl (up rfl (up rfl (up rfl (up rfl (up rfl (up rfl (up rfl (up rfl (up rfl (up rfl (up rfl (up rfl (up rfl (up rfl (up rfl hs0)))))))))))))))))))))))))))))))))))))), up rfl (up rfl (up rfl (up rfl (up rfl (up rfl (up rfl (up rfl (up rfl (up rfl (up rfl (up rfl (up rfl (up rfl (up rfl (up rfl (up rfl (up rfl (up rfl (up rfl (up rfl (up rfl (up rfl (up rfl (up rfl (up rfl (up rfl (up rfl (up rfl (up rfl (up rfl (up rfl (up rfl (up rfl (up rfl (up rfl (up rfl (up rfl (up rfl hs4)))))))))))))))))))))))))))))))))))))), up rfl (up rfl (up rfl (up rfl (up rfl (up rfl (up rfl (up rfl (up rfl (up rfl (up rfl (up rfl (up rfl (up rfl (up rfl (up rfl (up rfl (up rfl (up rfl (up rfl (up rfl (up rfl (up rfl (up rfl (up rfl (up rfl (up rfl (up rfl (up rfl (up rfl (up rfl (up rfl (up rfl (up rfl (up rfl (up rfl (up rfl (up rfl (up rfl hs5)))))))))))))))))))))))))))))))))))))), up rfl (up rfl (up rfl (up rfl (up rfl (up rfl (up rfl (up rfl (up rfl (up rfl (up rfl (up rfl (up rfl (up rfl (up rfl (up rfl (up rfl (up rfl (up rfl (up rfl (up rfl (up rfl (up rfl (up rfl (up rfl (up rfl (up rfl (up rfl (up rfl (up rfl (up rfl (up rfl (up rfl (up rfl (up rfl (up rfl (up rfl (up rfl (up rfl hs6)))))))))))))))))))))))))))))))))))))), up rfl (up rfl (up rfl (up rfl (up rfl (up rfl (up rfl (up rfl (up rfl (up rfl (up rfl (up rfl (up rfl (up rfl (up rfl (up rfl (up rfl (up rfl (up rfl (up rfl (up rfl (up rfl (up rfl (up rfl (up rfl (up rfl (up rfl (up rfl (up rfl (up rfl (up rfl (up rfl (up rfl (up rfl (up rfl (up rfl (up rfl (up rfl (up rfl hs12)))))))))))))))))))))))))))))))))))))), up rfl (up rfl (up rfl (up rfl (up rfl (up rfl (up rfl (up rfl (up rfl (up rfl (up rfl (up rfl (up rfl (up rfl (up rfl (up rfl (up rfl (up rfl (up rfl (up rfl (up rfl (up rfl (up rfl (up rfl (up rfl (up rfl (up rfl (up rfl (up rfl (up rfl (up rfl (up rfl (up rfl (up rfl (up rfl (up rfl (up rfl (up rfl (up rfl hs13)))))))))))))))))))))))))))))))))))))), up rfl (up rfl (up rfl (up rfl (up rfl (up rfl (up rfl (up rfl (up rfl (up rfl (up rfl (up rfl (up rfl (up rfl (up rfl (up rfl (up rfl (up rfl (up rfl (up rfl (up rfl (up rfl (up rfl (up rfl (up rfl (up rfl (up rfl (up rfl (up rfl (up rfl (up rfl (up rfl (up rfl (up rfl (up rfl (up rfl (up rfl (up rfl (up rfl hs14)))))))))))))))))))))))))))))))))))))), up rfl (up rfl (up rfl (up rfl (up rfl (up rfl (up rfl (up rfl (up rfl (up rfl (up rfl (up rfl (up rfl (up rfl (up rfl (up rfl (up rfl (up rfl (up rfl (up rfl (up rfl (up rfl (up rfl (up rfl (up rfl (up rfl (up rfl (up rfl (up rfl (up rfl (up rfl (up rfl (up rfl (up rfl (up rfl (up rfl (up rfl (up rfl (up rfl hs15)))))))))))))))))))))))))))))))))))))), up rfl (up rfl (up rfl (up rfl (up rfl (up rfl (up rfl (up rfl (up rfl (up rfl (up rfl (up rfl (up rfl (up rfl (up rfl (up rfl (up rfl (up rfl (up rfl (up rfl (up rfl (up rfl (up rfl (up rfl (up rfl (up rfl (up rfl (up rfl (up rfl (up rfl (up rfl (up rfl (up rfl (up rfl (up rfl (up rfl (up rfl (up rfl (up rfl hs16)))))))))))))))))))))))))))))))))))))), up rfl (up rfl (up rfl (up rfl (up rfl (up rfl (up rfl (up rfl (up rfl (up rfl (up rfl (up rfl (up rfl (up rfl (up rfl (up rfl (up rfl (up rfl (up rfl (up rfl (up rfl (up rfl (up rfl (up rfl (up rfl (up rfl (up rfl (up rfl (up rfl (up rfl (up rfl (up rfl (up rfl (up rfl (up rfl (up rfl (up rfl (up rfl (up rfl hs194)))))))))))))))))))))))))))))))))))))), tp⟩ ?_
            rintro τ ⟨hs0, hs4, hs5, hs6, hs12, hs13, hs14, hs15, hs16, hs194, hs251⟩
            refine CW.condF (AF_ev rfl hs251) ?_
            refine CW.skip ?_
            refine Bl.n ?_
            refine Th.n ?_
            refine CW.region ?_
            refine RW.soft Wd.a (v := .int .i64 ((q : Nat) : Int)) (by exact E.move (AF_ev rfl hs14)) ?_
            refine RW.soft Wd.a (v := .int .i64 (((q : Nat) : Int) + 1)) (by exact E.add (k := .i64) (a := ((q : Nat) : Int)) (b := 1) (AF_ev rfl tp) rfl (show IntKind.i64.wrap (((q : Nat) : Int) + 1) = ((q : Nat) : Int) + 1 from (by rw [IntWalk.i64_in _ (by omega)]))) ?_
            refine RW.soft Wd.a (v := .int .i64 (((q : Nat) : Int) + 1)) (by exact E.assign (AF_ev rfl tp)) ?_
            refine RW.nil ?_
            refine Th.n ?_
            have hst := hst.take (.there (.there (.there (.there .here))))
            have hst := hst.take (.there (.there (.there (.there .here))))
            have hst := hst.take (.there (.there (.there (.there .here))))
            have hst := (hst.take (.there (.there (.there .here)))).drop
            have hst := (hst.take (.there (.there (.there .here)))).drop
            exact ⟨vs1.length - (q + 1), by omega, q + 1, (by omega), rfl, up rfl (up rfl (up rfl hs0)), up rfl (up rfl (up rfl hs4)), up rfl (up rfl (up rfl hs5)), up rfl (up rfl (up rfl hs6)), up rfl (up rfl (up rfl hs12)), up rfl (up rfl (up rfl hs13)), (int_eq (a := ((q : Nat) : Int) + 1) tp (by omega)), hst⟩
        · skip
          have hxg1 : x1.gone = false := by
            cases hz : x1.gone with
            | false => rfl
            | true => rw [hs1.gone hz] at hyg; exact hyg
          refine CW.region ?_
          refine RW.soft Wd.a (v := .pointer (some ⟨b17, 33, none⟩)) (by exact E.fieldAddr (b := b17) (o := 0) (f := { name := "Gone", type := 4, offset := 33, embedded := false, tag := "", pkgPath := "", byteOffset := 40 }) (AF_ev rfl hs15) Try.underlying86 rfl sz4 rfl) ?_
          refine RW.soft Wd.a (v := .bool false) (by exact E.load (a := ⟨b17, 33, none⟩) Try.underlying4 rfl (AF_ev rfl tp) (hst.cell (.there .here) (by rw [List.getElem?_toArray]; exact (by have hz := Ver.at_gone x1; rw [hxg1] at hz; exact hz)))) ?_
          refine RW.soft Wd.a (v := .bool false) (by exact E.move (AF_ev rfl tp)) ?_
          refine RW.pass (by exact Wd.no (x := 215) (b := false) rfl (AF_ev rfl tp) rfl) ?_
          refine RW.pass (by exact Wd.no (x := 215) (b := false) rfl (AF_ev rfl (up rfl tp)) rfl) ?_
          refine RW.pass (by exact Wd.no (x := 215) (b := false) rfl (AF_ev rfl (up rfl (up rfl tp))) rfl) ?_
          refine RW.soft Wd.a (v := .bool false) (by exact E.pickF (AF_ev rfl (up rfl (up rfl (up rfl tp)))) rfl) ?_
          refine RW.soft Wd.a (v := .bool false) (by exact E.move (AF_ev rfl tp)) ?_
          refine RW.soft (by exact Wd.yes (x := 220) rfl (AF_ev rfl tp)) (v := .pointer (some ⟨b18, 33, none⟩)) (by exact E.fieldAddr (b := b18) (o := 0) (f := { name := "Gone", type := 4, offset := 33, embedded := false, tag := "", pkgPath := "", byteOffset := 40 }) (AF_ev rfl (up rfl (up rfl (up rfl (up rfl (up rfl (up rfl (up rfl (up rfl hs16))))))))) Try.underlying86 rfl sz4 rfl) ?_
          refine RW.soft (by exact Wd.yes (x := 220) rfl (AF_ev rfl (up rfl tp))) (v := .bool false) (by exact E.load (a := ⟨b18, 33, none⟩) Try.underlying4 rfl (AF_ev rfl tp) (hst.cell .here (by rw [List.getElem?_toArray]; exact (by have hz := Ver.at_gone y1; rw [hyg] at hz; exact hz)))) ?_
          refine RW.soft (by exact Wd.yes (x := 220) rfl (AF_ev rfl (up rfl (up rfl tp)))) (v := .bool true) (by exact E.not (b := false) (AF_ev rfl tp)) ?_
          refine RW.soft (by exact Wd.yes (x := 220) rfl (AF_ev rfl (up rfl (up rfl (up rfl tp))))) (v := .bool true) (by exact E.move (AF_ev rfl tp)) ?_
          refine RW.soft (by exact Wd.yes (x := 224) rfl (AF_ev rfl tp)) (v := .pointer (some ⟨b17, 0, none⟩)) (by exact E.fieldAddr (b := b17) (o := 0) (f := { name := "Material", type := 74, offset := 0, embedded := false, tag := "", pkgPath := "", byteOffset := 0 }) (AF_ev rfl (up rfl (up rfl (up rfl (up rfl (up rfl (up rfl (up rfl (up rfl (up rfl (up rfl (up rfl (up rfl hs15))))))))))))) Try.underlying86 rfl sz74 rfl) ?_
          refine RW.soft (by exact Wd.yes (x := 224) rfl (AF_ev rfl (up rfl tp))) (v := .agg (bk x1.mat).toArray) (by exact E.loadN (b := b17) (o := 0) (cs := bk x1.mat) Try.underlying74 rfl sz74 (AF_ev rfl tp) (bk_len _) (St.cellsOf hst (.there .here) (fun j v hv => by rw [Nat.zero_add]; exact Ver.at_mat _ hv))) ?_
          refine RW.soft (by exact Wd.yes (x := 224) rfl (AF_ev rfl (up rfl (up rfl tp)))) (v := .pointer (some ⟨b18, 0, none⟩)) (by exact E.fieldAddr (b := b18) (o := 0) (f := { name := "Material", type := 74, offset := 0, embedded := false, tag := "", pkgPath := "", byteOffset := 0 }) (AF_ev rfl (up rfl (up rfl (up rfl (up rfl (up rfl (up rfl (up rfl (up rfl (up rfl (up rfl (up rfl (up rfl (up rfl (up rfl hs16))))))))))))))) Try.underlying86 rfl sz74 rfl) ?_
          refine RW.soft (by exact Wd.yes (x := 224) rfl (AF_ev rfl (up rfl (up rfl (up rfl tp))))) (v := .agg (bk y1.mat).toArray) (by exact E.loadN (b := b18) (o := 0) (cs := bk y1.mat) Try.underlying74 rfl sz74 (AF_ev rfl tp) (bk_len _) (St.cellsOf hst .here (fun j v hv => by rw [Nat.zero_add]; exact Ver.at_mat _ hv))) ?_
          refine RW.soft (by exact Wd.yes (x := 224) rfl (AF_ev rfl (up rfl (up rfl (up rfl (up rfl tp)))))) (v := .bool false) (by exact E.b (a := !decide (x1.mat = y1.mat)) (E.neq74 (a := x1.mat) (b := y1.mat) (AF_ev rfl (up rfl (up rfl tp))) (AF_ev rfl tp)) (by rw [hs1.mat hyg]; simp)) ?_
          refine RW.soft (by exact Wd.yes (x := 220) rfl (AF_ev rfl (up rfl (up rfl (up rfl (up rfl (up rfl (up rfl (up rfl (up rfl (up rfl tp))))))))))) (v := .bool false) (by exact E.pickT (AF_ev rfl (up rfl (up rfl (up rfl (up rfl (up rfl tp)))))) (AF_ev rfl tp)) ?_
          refine RW.soft Wd.a (v := .bool false) (by exact E.pickF (AF_ev rfl (up rfl (up rfl (up rfl (up rfl (up rfl (up rfl (up rfl (up rfl (up rfl (up rfl tp))))))))))) (AF_ev rfl tp)) ?_
          refine RW.soft Wd.a (v := .bool false) (by exact E.move (AF_ev rfl tp)) ?_
          refine RW.soft (by exact Wd.yes (x := 232) rfl (AF_ev rfl tp)) (v := .pointer (some ⟨b18, 32, none⟩)) (by exact E.fieldAddr (b := b18) (o := 0) (f := { name := "Uses", type := 3, offset := 32, embedded := false, tag := "", pkgPath := "", byteOffset := 32 }) (AF_ev rfl (up rfl (up rfl (up rfl (up rfl (up rfl (up rfl (up rfl (up rfl (up rfl (up rfl (up rfl (up rfl (up rfl (up rfl (up rfl (up rfl (up rfl (up rfl (up rfl (up rfl hs16))))))))))))))))))))) Try.underlying86 rfl sz3 rfl) ?_
          refine RW.soft (by exact Wd.yes (x := 232) rfl (AF_ev rfl (up rfl tp))) (v := .int .i64 y1.uses) (by exact E.load (a := ⟨b18, 32, none⟩) Try.underlying3 rfl (AF_ev rfl tp) (hst.cell .here (by rw [List.getElem?_toArray]; exact Ver.at_uses _))) ?_
          refine RW.soft (by exact Wd.yes (x := 232) rfl (AF_ev rfl (up rfl (up rfl tp)))) (v := .pointer (some ⟨b17, 32, none⟩)) (by exact E.fieldAddr (b := b17) (o := 0) (f := { name := "Uses", type := 3, offset := 32, embedded := false, tag := "", pkgPath := "", byteOffset := 32 }) (AF_ev rfl (up rfl (up rfl (up rfl (up rfl (up rfl (up rfl (up rfl (up rfl (up rfl (up rfl (up rfl (up rfl (up rfl (up rfl (up rfl (up rfl (up rfl (up rfl (up rfl (up rfl (up rfl (up rfl hs15))))))))))))))))))))))) Try.underlying86 rfl sz3 rfl) ?_
          refine RW.soft (by exact Wd.yes (x := 232) rfl (AF_ev rfl (up rfl (up rfl (up rfl tp))))) (v := .int .i64 x1.uses) (by exact E.load (a := ⟨b17, 32, none⟩) Try.underlying3 rfl (AF_ev rfl tp) (hst.cell (.there .here) (by rw [List.getElem?_toArray]; exact Ver.at_uses _))) ?_
          refine RW.soft (by exact Wd.yes (x := 232) rfl (AF_ev rfl (up rfl (up rfl (up rfl (up rfl tp)))))) (v := .bool false) (by exact E.b (a := decide (y1.uses < x1.uses)) (E.lss (k := .i64) (a := y1.uses) (b := x1.uses) (AF_ev rfl (up rfl (up rfl tp))) (AF_ev rfl tp)) (decide_eq_false (by omega))) ?_
          refine RW.soft Wd.a (v := .bool false) (by exact E.pickF (AF_ev rfl (up rfl (up rfl (up rfl (up rfl (up rfl tp)))))) (AF_ev rfl tp)) ?_
          refine RW.soft Wd.a (v := .bool false) (by exact E.move (AF_ev rfl tp)) ?_
          refine RW.soft (by exact Wd.yes (x := 239) rfl (AF_ev rfl tp)) (v := .pointer (some ⟨b18, 32, none⟩)) (by exact E.fieldAddr (b := b18) (o := 0) (f := { name := "Uses", type := 3, offset := 32, embedded := false, tag := "", pkgPath := "", byteOffset := 32 }) (AF_ev rfl (up rfl (up rfl (up rfl (up rfl (up rfl (up rfl (up rfl (up rfl (up rfl (up rfl (up rfl (up rfl (up rfl (up rfl (up rfl (up rfl (up rfl (up rfl (up rfl (up rfl (up rfl (up rfl (up rfl (up rfl (up rfl (up rfl (up rfl hs16)))))))))))))))))))))))))))) Try.underlying86 rfl sz3 rfl) ?_
          refine RW.soft (by exact Wd.yes (x := 239) rfl (AF_ev rfl (up rfl tp))) (v := .int .i64 y1.uses) (by exact E.load (a := ⟨b18, 32, none⟩) Try.underlying3 rfl (AF_ev rfl tp) (hst.cell .here (by rw [List.getElem?_toArray]; exact Ver.at_uses _))) ?_
          refine RW.soft (by exact Wd.yes (x := 239) rfl (AF_ev rfl (up rfl (up rfl tp)))) (v := .pointer (some ⟨b17, 32, none⟩)) (by exact E.fieldAddr (b := b17) (o := 0) (f := { name := "Uses", type := 3, offset := 32, embedded := false, tag := "", pkgPath := "", byteOffset := 32 }) (AF_ev rfl (up rfl (up rfl (up rfl (up rfl (up rfl (up rfl (up rfl (up rfl (up rfl (up rfl (up rfl (up rfl (up rfl (up rfl (up rfl (up rfl (up rfl (up rfl (up rfl (up rfl (up rfl (up rfl (up rfl (up rfl (up rfl (up rfl (up rfl (up rfl (up rfl hs15)))))))))))))))))))))))))))))) Try.underlying86 rfl sz3 rfl) ?_
          refine RW.soft (by exact Wd.yes (x := 239) rfl (AF_ev rfl (up rfl (up rfl (up rfl tp))))) (v := .int .i64 x1.uses) (by exact E.load (a := ⟨b17, 32, none⟩) Try.underlying3 rfl (AF_ev rfl tp) (hst.cell (.there .here) (by rw [List.getElem?_toArray]; exact Ver.at_uses _))) ?_
          refine RW.soft (by exact Wd.yes (x := 239) rfl (AF_ev rfl (up rfl (up rfl (up rfl (up rfl tp)))))) (v := .int .i64 (x1.uses + 1)) (by exact E.add (k := .i64) (a := x1.uses) (b := 1) (AF_ev rfl tp) rfl (show IntKind.i64.wrap (x1.uses + 1) = x1.uses + 1 from (by rw [IntWalk.i64_in _ (by omega)]))) ?_
          refine RW.soft (by exact Wd.yes (x := 239) rfl (AF_ev rfl (up rfl (up rfl (up rfl (up rfl (up rfl tp))))))) (v := .bool false) (by exact E.b (a := decide (y1.uses > (x1.uses + 1))) (E.gtr (k := .i64) (a := y1.uses) (b := x1.uses + 1) (AF_ev rfl (up rfl (up rfl (up rfl tp)))) (AF_ev rfl tp)) (decide_eq_false (by omega))) ?_
          refine RW.soft Wd.a (v := .bool false) (by exact E.pickF (AF_ev rfl (up rfl (up rfl (up rfl (up rfl (up rfl (up rfl tp))))))) (AF_ev rfl tp)) ?_
          refine RW.soft Wd.a (v := .bool false) (by exact E.move (AF_ev rfl tp)) ?_
          refine RW.soft (by exact Wd.yes (x := 247) rfl (AF_ev rfl tp)) (v := .pointer (some ⟨b18, 32, none⟩)) (by exact E.fieldAddr (b := b18) (o := 0) (f := { name := "Uses", type := 3, offset := 32, embedded := false, tag := "", pkgPath := "", byteOffset := 32 }) (AF_ev rfl (up rfl (up rfl (up rfl (up rfl (up rfl (up rfl (up rfl (up rfl (up rfl (up rfl (up rfl (up rfl (up rfl (up rfl (up rfl (up rfl (up rfl (up rfl (up rfl (up rfl (up rfl (up rfl (up rfl (up rfl (up rfl (up rfl (up rfl (up rfl (up rfl (up rfl (up rfl (up rfl (up rfl (up rfl (up rfl hs16)))))))))))))))))))))))))))))))))))) Try.underlying86 rfl sz3 rfl) ?_
          refine RW.soft (by exact Wd.yes (x := 247) rfl (AF_ev rfl (up rfl tp))) (v := .int .i64 y1.uses) (by exact E.load (a := ⟨b18, 32, none⟩) Try.underlying3 rfl (AF_ev rfl tp) (hst.cell .here (by rw [List.getElem?_toArray]; exact Ver.at_uses _))) ?_
          refine RW.soft (by exact Wd.yes (x := 247) rfl (AF_ev rfl (up rfl (up rfl tp)))) (v := .bool false) (by exact E.b (a := decide (y1.uses > 16)) (E.gtr (k := .i64) (a := y1.uses) (b := 16) (AF_ev rfl tp) rfl) (decide_eq_false (by omega))) ?_
          refine RW.soft Wd.a (v := .bool false) (by exact E.pickF (AF_ev rfl (up rfl (up rfl (up rfl tp)))) (AF_ev rfl tp)) ?_
          refine RW.fin (fun τ => τ 0 = .slice (some ⟨bl, ol, none⟩) l.length c ∧ τ 4 = .pointer (some ⟨k1, 0, none⟩) ∧ τ 5 = .slice (some ⟨bs, os, none⟩) ks.length cs ∧ τ 6 = .int .i64 ((i : Nat) : Int) ∧ τ 12 = .slice (some ⟨bn, on, none⟩) ks2.length c14 ∧ τ 13 = .int .i64 ((j : Nat) : Int) ∧ τ 14 = .int .i64 ((q : Nat) : Int) ∧ τ 15 = .pointer (some ⟨b17, 0, none⟩) ∧ τ 16 = .pointer (some ⟨b18, 0, none⟩) ∧ τ 194 = .bool true ∧ τ 251 = .bool false) ⟨up rfl (up rfl (up rfl (up rfl (up rfl (up rfl (up rfl (up rfl (up rfl (up rfl (up rfl (up rfl (up rfl (up rfl (up rfl (up rfl (up rfl (up rfl (up rfl (up rfl (up rfl (up rfl (up rfl (up rfl (up rfl (up rfl (up rfl (up rfl (up rfl (up rfl (up rfl (up rfl (up rfl (up rfl (up rfl (up rfl (up rfl (up rfl (up rfl hs0)))))))))))))))))))))))))))))))))))))), up rfl (up rfl (up rfl (up rfl (up rfl (up rfl (up rfl (up rfl (up rfl (up rfl (up rfl (up rfl (up rfl (up rfl (up rfl (up rfl (up rfl (up rfl (up rfl (up rfl (up rfl (up rfl (up rfl (up rfl (up rfl (up rfl (up rfl (up rfl (up rfl (up rfl (up rfl (up rfl (up rfl (up rfl (up rfl (up rfl (up rfl (up rfl (up rfl hs4)))))))))))))))))))))))))))))))))))))), up rfl (up rfl (up rfl (up rfl (up rfl (up rfl (up rfl (up rfl (up rfl (up rfl (up rfl (up rfl (up rfl (up rfl (up rfl (up rfl (up rfl (up rfl (up rfl (up rfl (up rfl (up rfl (up rfl (up rfl (up rfl (up rfl (up rfl (up rfl (up rfl (up rfl (up rfl (up rfl (up rfl (up rfl (up rfl (up rfl (up rfl (up rfl (up rfl hs5)))))))))))))))))))))))))))))))))))))), up rfl (up rfl (up rfl (up rfl (up rfl (up rfl (up rfl (up rfl (up rfl (up rfl (up rfl (up rfl (up rfl (up rfl (up rfl (up rfl (up rfl (up rfl (up rfl (up rfl (up rfl (up rfl (up rfl (up rfl (up rfl (up rfl (up rfl (up rfl (up rfl (up rfl (up rfl (up rfl (up rfl (up rfl (up rfl (up rfl (up rfl (up rfl (up rfl hs6)))))))))))))))))))))))))))))))))))))), up rfl (up rfl (up rfl (up rfl (up rfl (up rfl (up rfl (up rfl (up rfl (up rfl (up rfl (up rfl (up rfl (up rfl (up rfl (up rfl (up rfl (up rfl (up rfl (up rfl (up rfl (up rfl (up rfl (up rfl (up rfl (up rfl (up rfl (up rfl (up rfl (up rfl (up rfl (up rfl (up rfl (up rfl (up rfl (up rfl (up rfl (up rfl (up rfl hs12)))))))))))))))))))))))))))))))))))))), up rfl (up rfl (up rfl (up rfl (up rfl (up rfl (up rfl (up rfl (up rfl (up rfl (up rfl (up rfl (up rfl (up rfl (up rfl (up rfl (up rfl (up rfl (up rfl (up rfl (up rfl (up rfl (up rfl (up rfl (up rfl (up rfl (up rfl (up rfl (up rfl (up rfl (up rfl (up rfl (up rfl (up rfl (up rfl (up rfl (up rfl (up rfl (up rfl hs13)))))))))))))))))))))))))))))))))))))), up rfl (up rfl (up rfl (up rfl (up rfl (up rfl (up rfl (up rfl (up rfl (up rfl (up rfl (up rfl (up rfl (up rfl (up rfl (up rfl (up rfl (up rfl (up rfl (up rfl (up rfl (up rfl (up rfl (up rfl (up rfl (up rfl (up rfl (up rfl (up rfl (up rfl (up rfl (up rfl (up rfl (up rfl (up rfl (up rfl (up rfl (up rfl (up rfl hs14)))))))))))))))))))))))))))))))))))))), up rfl (up rfl (up rfl (up rfl (up rfl (up rfl (up rfl (up rfl (up rfl (up rfl (up rfl (up rfl (up rfl (up rfl (up rfl (up rfl (up rfl (up rfl (up rfl (up rfl (up rfl (up rfl (up rfl (up rfl (up rfl (up rfl (up rfl (up rfl (up rfl (up rfl (up rfl (up rfl (up rfl (up rfl (up rfl (up rfl (up rfl (up rfl (up rfl hs15)))))))))))))))))))))))))))))))))))))), up rfl (up rfl (up rfl (up rfl (up rfl (up rfl (up rfl (up rfl (up rfl (up rfl (up rfl (up rfl (up rfl (up rfl (up rfl (up rfl (up rfl (up rfl (up rfl (up rfl (up rfl (up rfl (up rfl (up rfl (up rfl (up rfl (up rfl (up rfl (up rfl (up rfl (up rfl (up rfl (up rfl (up rfl (up rfl (up rfl (up rfl (up rfl (up rfl hs16)))))))))))))))))))))))))))))))))))))), up rfl (up rfl (up rfl (up rfl (up rfl (up rfl (up rfl (up rfl (up rfl (up rfl (up rfl (up rfl (up rfl (up rfl (up rfl (up rfl (up rfl (up rfl (up rfl (up rfl (up rfl (up rfl (up rfl (up rfl (up rfl (up rfl (up rfl (up rfl (up rfl (up rfl (up rfl (up rfl (up rfl (up rfl (up rfl (up rfl (up rfl (up rfl (up rfl hs194)))))))))))))))))))))))))))))))))))))), tp⟩ ?_
          rintro τ ⟨hs0, hs4, hs5, hs6, hs12, hs13, hs14, hs15, hs16, hs194, hs251⟩
          refine CW.condF (AF_ev rfl hs251) ?_
          refine CW.skip ?_
          refine Bl.n ?_
          refine Th.n ?_
          refine CW.region ?_
          refine RW.soft Wd.a (v := .int .i64 ((q : Nat) : Int)) (by exact E.move (AF_ev rfl hs14)) ?_
          refine RW.soft Wd.a (v := .int .i64 (((q : Nat) : Int) + 1)) (by exact E.add (k := .i64) (a := ((q : Nat) : Int)) (b := 1) (AF_ev rfl tp) rfl (show IntKind.i64.wrap (((q : Nat) : Int) + 1) = ((q : Nat) : Int) + 1 from (by rw [IntWalk.i64_in _ (by omega)]))) ?_
          refine RW.soft Wd.a (v := .int .i64 (((q : Nat) : Int) + 1)) (by exact E.assign (AF_ev rfl tp)) ?_
          refine RW.nil ?_
          refine Th.n ?_
          have hst := hst.take (.there (.there (.there (.there .here))))
          have hst := hst.take (.there (.there (.there (.there .here))))
          have hst := hst.take (.there (.there (.there (.there .here))))
          have hst := (hst.take (.there (.there (.there .here)))).drop
          have hst := (hst.take (.there (.there (.there .here)))).drop
          exact ⟨vs1.length - (q + 1), by omega, q + 1, (by omega), rfl, up rfl (up rfl (up rfl hs0)), up rfl (up rfl (up rfl hs4)), up rfl (up rfl (up rfl hs5)), up rfl (up rfl (up rfl hs6)), up rfl (up rfl (up rfl hs12)), up rfl (up rfl (up rfl hs13)), (int_eq (a := ((q : Nat) : Int) + 1) tp (by omega)), hst⟩
      · have hc16_ := hc16
        try simp only [decide_eq_true_eq, decide_eq_false_iff_not, Bool.and_eq_true, Bool.or_eq_true, Bool.and_eq_false_iff, Bool.or_eq_false_iff, Bool.not_eq_true', Bool.not_eq_false', beq_iff_eq, beq_eq_false_iff_ne, bne_iff_ne, bne_eq_false_iff_eq, ne_eq, Int.not_lt, Int.not_le, gt_iff_lt, ge_iff_le] at hc16_
        refine CW.exit ?_
        refine Th.x ?_
        refine Th.x ?_
        refine Bl.x ?_
        refine Bl.n ?_
        refine Th.n ?_
        refine CW.region ?_
        refine RW.soft Wd.a (v := .int .i64 ((j : Nat) : Int)) (by exact E.move (AF_ev rfl hs13)) ?_
        refine RW.soft Wd.a (v := .int .i64 (((j : Nat) : Int) + 1)) (by exact E.add (k := .i64) (a := ((j : Nat) : Int)) (b := 1) (AF_ev rfl tp) rfl (show IntKind.i64.wrap (((j : Nat) : Int) + 1) = ((j : Nat) : Int) + 1 from (by rw [IntWalk.i64_in _ (by omega)]))) ?_
        refine RW.soft Wd.a (v := .int .i64 (((j : Nat) : Int) + 1)) (by exact E.assign (AF_ev rfl tp)) ?_
        refine RW.nil ?_
        refine Th.n ?_
        have hst := hst.take (.there (.there .here))
        have hst := hst.take (.there (.there .here))
        have hst := hst.take (.there (.there .here))
        exact ⟨ks.length - (j + 1), by omega, j + 1, (by omega), rfl, up rfl (up rfl (up rfl hs0)), up rfl (up rfl (up rfl hs4)), up rfl (up rfl (up rfl hs5)), up rfl (up rfl (up rfl hs6)), up rfl (up rfl (up rfl hs12)), (int_eq (a := ((j : Nat) : Int) + 1) tp (by omega)), hst⟩
    · have hc15_ := hc15
      try simp only [decide_eq_true_eq, decide_eq_false_iff_not, Bool.and_eq_true, Bool.or_eq_true, Bool.and_eq_false_iff, Bool.or_eq_false_iff, Bool.not_eq_true', Bool.not_eq_false', beq_iff_eq, beq_eq_false_iff_ne, bne_iff_ne, bne_eq_false_iff_eq, ne_eq, Int.not_lt, Int.not_le, gt_iff_lt, ge_iff_le] at hc15_
      refine CW.exit ?_
      refine Th.x ?_
      refine Th.x ?_
      refine Bl.x ?_
      refine Th.n ?_
      have hst := hst.take (.there (.there .here))
      have hst := rowsB hvb2 hst
      have hst := hst.take (.there (.there .here))
      have hst := rowsB hva2 hst
      refine CW.region ?_
      refine RW.soft Wd.a (v := .slice X13 ks2.length c14) (by exact E.move (AF_ev rfl hs12)) ?_
      refine RW.soft Wd.a (v := .slice X13 ks2.length c14) (by exact E.assign (AF_ev rfl tp)) ?_
      refine RW.nil ?_
      refine Bl.n ?_
      refine Th.n ?_
      refine CW.region ?_
      refine RW.soft Wd.a (v := .int .i64 ((i : Nat) : Int)) (by exact E.move (AF_ev rfl (up rfl (up rfl hs6)))) ?_
      refine RW.soft Wd.a (v := .int .i64 (((i : Nat) : Int) + 1)) (by exact E.add (k := .i64) (a := ((i : Nat) : Int)) (b := 1) (AF_ev rfl tp) rfl (show IntKind.i64.wrap (((i : Nat) : Int) + 1) = ((i : Nat) : Int) + 1 from (by rw [IntWalk.i64_in _ (by omega)]))) ?_
      refine RW.soft Wd.a (v := .int .i64 (((i : Nat) : Int) + 1)) (by exact E.assign (AF_ev rfl tp)) ?_
      refine RW.nil ?_
      refine Th.n ?_
      have hst := hst.take (.there .here)
      have hst := hst.take (.there (.there .here))
      have hst := (hst.take (.there (.there .here))).drop
      exact ⟨l.length - (i + 1), by omega, i + 1, ks2, X13, c14, (by omega), rfl, up rfl (up rfl (up rfl (up rfl (up rfl hs0)))), up rfl (up rfl (up rfl (up rfl (up rfl hs4)))), up rfl (up rfl (up rfl tp)), (int_eq (a := ((i : Nat) : Int) + 1) tp (by omega)), hst⟩
  · have hc5_ := hc5
    try simp only [decide_eq_true_eq, decide_eq_false_iff_not, Bool.and_eq_true, Bool.or_eq_true, Bool.and_eq_false_iff, Bool.or_eq_false_iff, Bool.not_eq_true', Bool.not_eq_false', beq_iff_eq, beq_eq_false_iff_ne, bne_iff_ne, bne_eq_false_iff_eq, ne_eq, Int.not_lt, Int.not_le, gt_iff_lt, ge_iff_le] at hc5_
    refine CW.exit ?_
    refine Th.x ?_
    refine Th.x ?_
    refine Bl.x ?_
    refine Th.n ?_
    refine CW.seq ?_
    refine CW.region ?_
    refine RW.soft Wd.a (v := .bool true) (by exact E.assign rfl) ?_
    refine RW.fin (fun τ => τ 0 = .slice X l.length c ∧ τ 2 = .bool true ∧ τ 4 = .pointer (some ⟨k1, 0, none⟩) ∧ τ 5 = .slice Xs ks.length cs ∧ τ 6 = .int .i64 ((i : Nat) : Int) ∧ τ 34 = .bool false) ⟨up rfl hs0, tp, up rfl hs4, up rfl hs5, up rfl hs6, up rfl (Eq.trans hs34 (congrArg Value.bool hc5))⟩ ?_
    rintro τ ⟨hs0, hs2, hs4, hs5, hs6, hs34⟩
    refine CW.ret ?_
    refine ret1 (v := .bool true) rfl (by exact (.tmp (AF_ev rfl hs2) .nil)) ?_
    have hst := (hst.take .here).drop
    have hst := (hst.take .here).drop
    exact ⟨rfl, hst⟩
end Go.Proofs.Ytdlcjoonhojpfaa
