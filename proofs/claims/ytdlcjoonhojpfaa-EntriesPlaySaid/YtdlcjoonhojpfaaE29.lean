/- The calls of the package entries, walked through operation by operation. -/
import Derived.Test.YtdlcjoonhojpfaaE0
import Derived.Test.YtdlcjoonhojpfaaT1
import Derived.Test.YtdlcjoonhojpfaaE1
import Derived.Test.YtdlcjoonhojpfaaE2
import Derived.Test.YtdlcjoonhojpfaaE3
import Derived.Test.YtdlcjoonhojpfaaE4
import Derived.Test.YtdlcjoonhojpfaaE5
import Derived.Test.YtdlcjoonhojpfaaE6
import Derived.Test.YtdlcjoonhojpfaaE9
import Derived.Test.YtdlcjoonhojpfaaE10
import Derived.Test.YtdlcjoonhojpfaaE11
import Derived.Test.YtdlcjoonhojpfaaE14
import Derived.Test.YtdlcjoonhojpfaaE15
import Derived.Test.YtdlcjoonhojpfaaE16
import Derived.Test.YtdlcjoonhojpfaaE22
import Derived.Test.YtdlcjoonhojpfaaE23
import Derived.Test.YtdlcjoonhojpfaaE24
import Derived.Test.YtdlcjoonhojpfaaE25
import Derived.Test.YtdlcjoonhojpfaaE26
import Derived.Test.YtdlcjoonhojpfaaE27
import Derived.Test.YtdlcjoonhojpfaaE28
namespace Go.Proofs.Ytdlcjoonhojpfaa
open Go.RowKit Go.SL Go.E17
attribute [local irreducible] Go.SL.RW Go.SL.CW Go.SL.RD Go.SL.Hd Go.SL.St
set_option linter.unusedVariables false
set_option linter.unusedSimpArgs false



theorem ent_few2 {p : Pers} {w : World} {R : List Assn} {p0 : Pers} {A : Assn} {X : Option Addr} {c : Nat} {l : List Ent} (hA0 : Tells p0 A 4 (.slice X l.length c) l.length (flat l)) (hE0 : EsLas p0 l) (hlm : l.length ≤ 9223372036854775807) (hle : p0.le p) (hst : St p w (A :: R)) :
    Calls Try.prog 27 #[.slice X l.length c] w fun e w => ∃ q v es', p0.le q ∧ e = .returned v ∧ EsOk q es' ∧ es'.length ≤ 20 ∧ vs es' = fewV l ∧ St q w (Own 58 4 v es'.length (flat es') :: A :: R) := by
  refine enter Try.func27 rfl (by simp) (n := 52) rfl fun τ hτ => ?_
  have hs0 : τ 0 = .slice X l.length c := hτ 0 (by simp)
  clear hτ
  refine CW.seq ?_
  refine CW.region ?_
  refine RW.soft Wd.a (v := .slice none 0 0) (by exact E.assign rfl) ?_
  refine RW.fin (fun τ => τ 0 = .slice X l.length c ∧ τ 2 = .slice none 0 0) ⟨up rfl hs0, tp⟩ ?_
  rintro τ ⟨hs0, hs2⟩
  refine CW.seq ?_
  refine CW.region ?_
  refine RW.hard Wd.a ?_
  refine H.buildSlice (e := 58) (cs := #[]) (vs := #[]) (by simp) (fun _ => by kernel_rfl) hst fun b1 w hst => ?_
  refine RW.soft Wd.a (v := .slice (some ⟨b1, 0, none⟩) 0 0) (by exact E.assign (AF_ev rfl tp)) ?_
  refine RW.fin (fun τ => τ 0 = .slice X l.length c ∧ τ 2 = .slice none 0 0 ∧ τ 3 = .slice (some ⟨b1, 0, none⟩) 0 0) ⟨up rfl (up rfl hs0), up rfl (up rfl hs2), tp⟩ ?_
  rintro τ ⟨hs0, hs2, hs3⟩
  refine CW.seq ?_
  refine CW.seq ?_
  refine CW.region ?_
  refine RW.soft Wd.a (v := .int .i64 0) (by exact E.assign rfl) ?_
  refine RW.fin (fun τ => τ 0 = .slice X l.length c ∧ τ 2 = .slice none 0 0 ∧ τ 3 = .slice (some ⟨b1, 0, none⟩) 0 0 ∧ τ 4 = .int .i64 0) ⟨up rfl hs0, up rfl hs2, up rfl hs3, tp⟩ ?_
  rintro τ ⟨hs0, hs2, hs3, hs4⟩
  refine CW.block ?_
  have hst := hst.take (.there .here)
  have hst := hst.take (.there .here)
  have hst : St p w (Own 58 4 (.slice (some ⟨b1, 0, none⟩) 0 0) 0 (flat []) :: A :: R) := hst.ownNew (by omega) (by simp [maxLen]) rfl rfl
  refine CW.loop (fun (k : Nat) (τ : Fr) (w : World) => ∃ (p : Pers) (es' : List Ent) (i : Nat) (V : Option Addr) (cv : Nat), p0.le p ∧ EsOk p es' ∧ es'.length = i ∧ vs es' = (l.take i).map cutV ∧ i ≤ 20 ∧ i ≤ l.length ∧ k = l.length - i ∧ τ 0 = .slice X l.length c ∧ τ 3 = .slice V i cv ∧ τ 4 = .int .i64 ((i : Nat) : Int) ∧ St p w (Own 58 4 (.slice V i cv) i (flat es') :: A :: R)) (l.length - 0) ⟨p, [], 0, some ⟨b1, 0, none⟩, 0, hle, EsOk.nil, rfl, rfl, by omega, by omega, rfl, hs0, hs3, (int_eq (a := 0) hs4 (by omega)), hst⟩ ?_
  clear hst
  rintro k τ w ⟨p, es', i, V, cv, hle, hes, hlen', hvw, hi20, hi, hk, hs0, hs3, hs4, hst⟩
  refine CW.seq ?_
  refine CW.seq ?_
  refine CW.cut (fun τ => τ 0 = .slice X l.length c ∧ τ 3 = .slice V i cv ∧ τ 4 = .int .i64 ((i : Nat) : Int) ∧ τ 14 = .bool ((decide (((i : Nat) : Int) < ((l.length : Nat) : Int))) && (decide (((i : Nat) : Int) < 20)))) ?_ ?_
  · refine CW.region ?_
    refine RW.soft Wd.a (v := .int .i64 ((i : Nat) : Int)) (by exact E.move (AF_ev rfl hs4)) ?_
    refine RW.soft Wd.a (v := .slice X l.length c) (by exact E.move (AF_ev rfl (up rfl hs0))) ?_
    refine RW.soft Wd.a (v := .int .i64 ((l.length : Nat) : Int)) (by exact E.lenS (p := X) (l := l.length) (c := c) Try.underlying44 (AF_ev rfl tp)) ?_
    refine RW.soft Wd.a (v := .bool (decide (((i : Nat) : Int) < ((l.length : Nat) : Int)))) (by exact E.lss (k := .i64) (a := ((i : Nat) : Int)) (b := ((l.length : Nat) : Int)) (AF_ev rfl (up rfl (up rfl tp))) (AF_ev rfl tp)) ?_
    refine RW.soft Wd.a (v := .bool (decide (((i : Nat) : Int) < ((l.length : Nat) : Int)))) (by exact E.move (AF_ev rfl tp)) ?_
    refine Or.elim (Bool.eq_false_or_eq_true (decide (((i : Nat) : Int) < ((l.length : Nat) : Int)))) (fun hg2 => ?_) (fun hg2 => ?_)
    · have hg2_ := hg2
      try simp only [decide_eq_true_eq, decide_eq_false_iff_not, Bool.and_eq_true, Bool.or_eq_true, Bool.and_eq_false_iff, Bool.or_eq_false_iff, Bool.not_eq_true', Bool.not_eq_false', beq_iff_eq, beq_eq_false_iff_ne, bne_iff_ne, bne_eq_false_iff_eq, ne_eq, Int.not_lt, Int.not_le, gt_iff_lt, ge_iff_le] at hg2_
      refine RW.soft (by exact Wd.yes (x := 11) rfl (AF_ev rfl (Eq.trans tp (congrArg Value.bool hg2)))) (v := .int .i64 ((i : Nat) : Int)) (by exact E.move (AF_ev rfl (up rfl (up rfl (up rfl (up rfl (up rfl hs4))))))) ?_
      refine RW.soft (by exact Wd.yes (x := 11) rfl (AF_ev rfl (up rfl (Eq.trans tp (congrArg Value.bool hg2))))) (v := .bool (decide (((i : Nat) : Int) < 20))) (by exact E.lss (k := .i64) (a := ((i : Nat) : Int)) (b := 20) (AF_ev rfl tp) rfl) ?_
      refine RW.soft Wd.a (v := .bool (decide (((i : Nat) : Int) < 20))) (by exact E.pickT (AF_ev rfl (up rfl (up rfl (Eq.trans tp (congrArg Value.bool hg2))))) (AF_ev rfl tp)) ?_
      refine RW.nil ⟨rfl, rfl, up rfl (up rfl (up rfl (up rfl (up rfl (up rfl (up rfl (up rfl hs0))))))), up rfl (up rfl (up rfl (up rfl (up rfl (up rfl (up rfl (up rfl hs3))))))), up rfl (up rfl (up rfl (up rfl (up rfl (up rfl (up rfl (up rfl hs4))))))), (bool_eq (a := decide (((i : Nat) : Int) < 20)) tp (by simp only [hg2, Bool.true_and, Bool.false_and, Bool.true_or, Bool.false_or]))⟩
    · have hg2_ := hg2
      try simp only [decide_eq_true_eq, decide_eq_false_iff_not, Bool.and_eq_true, Bool.or_eq_true, Bool.and_eq_false_iff, Bool.or_eq_false_iff, Bool.not_eq_true', Bool.not_eq_false', beq_iff_eq, beq_eq_false_iff_ne, bne_iff_ne, bne_eq_false_iff_eq, ne_eq, Int.not_lt, Int.not_le, gt_iff_lt, ge_iff_le] at hg2_
      refine RW.pass (by exact Wd.no (x := 11) (b := false) rfl (AF_ev rfl (Eq.trans tp (congrArg Value.bool hg2))) rfl) ?_
      refine RW.pass (by exact Wd.no (x := 11) (b := false) rfl (AF_ev rfl (up rfl (Eq.trans tp (congrArg Value.bool hg2)))) rfl) ?_
      refine RW.soft Wd.a (v := .bool false) (by exact E.pickF (AF_ev rfl (up rfl (up rfl (Eq.trans tp (congrArg Value.bool hg2))))) rfl) ?_
      refine RW.nil ⟨rfl, rfl, up rfl (up rfl (up rfl (up rfl (up rfl (up rfl (up rfl (up rfl hs0))))))), up rfl (up rfl (up rfl (up rfl (up rfl (up rfl (up rfl (up rfl hs3))))))), up rfl (up rfl (up rfl (up rfl (up rfl (up rfl (up rfl (up rfl hs4))))))), (bool_eq (a := false) tp (by simp only [hg2, Bool.true_and, Bool.false_and, Bool.true_or, Bool.false_or]))⟩
  rintro τ ⟨hs0, hs3, hs4, hs14⟩
  refine CW.cond (AF_ev rfl hs14) (fun hc3 => ?_) (fun hc3 => ?_)
  · have hc3_ := hc3
    try simp only [decide_eq_true_eq, decide_eq_false_iff_not, Bool.and_eq_true, Bool.or_eq_true, Bool.and_eq_false_iff, Bool.or_eq_false_iff, Bool.not_eq_true', Bool.not_eq_false', beq_iff_eq, beq_eq_false_iff_ne, bne_iff_ne, bne_eq_false_iff_eq, ne_eq, Int.not_lt, Int.not_le, gt_iff_lt, ge_iff_le] at hc3_
    refine CW.skip ?_
    refine Th.n ?_
    refine CW.seq ?_
    refine CW.block ?_
    refine CW.seq ?_
    have hA := hA0.le hle
    have hE := hE0.le hle
    have hcond : i < l.length ∧ i < 20 := by omega
    obtain ⟨b0, o0, rfl, hcell0⟩ := hA.place (hst.take (.there .here)) (by omega)
    obtain ⟨x, hx⟩ : ∃ x, l[i]? = some x := ⟨l[i]'(by omega), List.getElem?_eq_getElem (by omega)⟩
    have hEx := hE x (List.mem_of_getElem? hx)
    obtain ⟨xt, xk, xX, xc, xn, xY, yc, xm⟩ := x
    simp only [ELas] at hEx
    have hxc := ((hEx.1.src hst).len).2.1
    have hyc := ((hEx.2.src hst).len).2.1
    refine CW.region ?_
    refine RW.soft Wd.a (v := .slice (some ⟨b0, o0, none⟩) l.length c) (by exact E.move (AF_ev rfl hs0)) ?_
    refine RW.soft Wd.a (v := .int .i64 ((i : Nat) : Int)) (by exact E.move (AF_ev rfl (up rfl hs4))) ?_
    refine RW.soft Wd.a (v := .pointer (some ⟨b0, o0 + i * 4, none⟩)) (by exact E.indexAddr (b := b0) (o := o0) (l := l.length) (c := c) (i := ((i : Nat) : Int)) Try.underlying44 sz58 (AF_ev rfl (up rfl tp)) (AF_ev rfl tp) (by omega) (by omega) (by simp)) ?_
    refine RW.soft Wd.a (v := .agg #[.int .i64 xt, .int .i64 xk, .slice xX xn.length xc, .slice xY xm.length yc]) (by exact E.loadN (b := b0) (o := o0 + i * 4) (cs := (Ent.enc ⟨xt, xk, xX, xc, xn, xY, yc, xm⟩)) Try.underlying58 rfl sz58 (AF_ev rfl tp) rfl (fun j u hu => by rw [Nat.add_assoc]; exact hcell0 p.le_refl (hst.take (.there .here)) _ _ (flat_get Ent.enc_len hx hu))) ?_
    refine RW.hard Wd.a ?_
    refine H.alloc zr58 hst fun b4 w hst => ?_
    refine RW.hard Wd.a ?_
    refine H.store (b := b4) (o := 0) (v := .agg #[.int .i64 xt, .int .i64 xk, .slice xX xn.length xc, .slice xY xm.length yc]) (c' := #[.int .i64 xt, .int .i64 xk, .slice xX xn.length xc, .slice xY xm.length yc]) (AF_ev rfl tp) (AF_ev rfl (up rfl tp)) hst .here sz58 (by simp [Value.cells]) (by simp [Value.cells, Value.oneCell']) rfl fun w hst => ?_
    refine RW.fin (fun τ => τ 0 = .slice (some ⟨b0, o0, none⟩) l.length c ∧ τ 3 = .slice V i cv ∧ τ 4 = .int .i64 ((i : Nat) : Int) ∧ τ 5 = .pointer (some ⟨b4, 0, none⟩) ∧ τ 14 = .bool true) ⟨u0 (up rfl (up rfl (up rfl (up rfl (up rfl hs0))))), u0 (up rfl (up rfl (up rfl (up rfl (up rfl hs3))))), u0 (up rfl (up rfl (up rfl (up rfl (up rfl hs4))))), u0 tp, u0 (up rfl (up rfl (up rfl (up rfl (up rfl (Eq.trans hs14 (congrArg Value.bool hc3)))))))⟩ ?_
    rintro τ ⟨hs0, hs3, hs4, hs5, hs14⟩
    refine CW.seq ?_
    refine CW.seq ?_
    refine CW.region ?_
    refine RW.soft Wd.a (v := .pointer (some ⟨b4, 2, none⟩)) (by exact E.fieldAddr (b := b4) (o := 0) (f := { name := "Data", type := 27, offset := 2, embedded := false, tag := "", pkgPath := "", byteOffset := 16 }) (AF_ev rfl hs5) Try.underlying58 rfl sz27 rfl) ?_
    refine RW.soft Wd.a (v := .slice xX xn.length xc) (by exact E.load (a := ⟨b4, 2, none⟩) Try.underlying27 rfl (AF_ev rfl tp) (hst.cell .here rfl)) ?_
    refine RW.soft Wd.a (v := .int .i64 ((xn.length : Nat) : Int)) (by exact E.lenS (p := xX) (l := xn.length) (c := xc) Try.underlying27 (AF_ev rfl tp)) ?_
    refine RW.soft Wd.a (v := .bool (decide (((xn.length : Nat) : Int) > 100))) (by exact E.gtr (k := .i64) (a := ((xn.length : Nat) : Int)) (b := 100) (AF_ev rfl tp) rfl) ?_
    refine RW.fin (fun τ => τ 0 = .slice (some ⟨b0, o0, none⟩) l.length c ∧ τ 3 = .slice V i cv ∧ τ 4 = .int .i64 ((i : Nat) : Int) ∧ τ 5 = .pointer (some ⟨b4, 0, none⟩) ∧ τ 14 = .bool true ∧ τ 24 = .bool (decide (((xn.length : Nat) : Int) > 100))) ⟨up rfl (up rfl (up rfl (up rfl hs0))), up rfl (up rfl (up rfl (up rfl hs3))), up rfl (up rfl (up rfl (up rfl hs4))), up rfl (up rfl (up rfl (up rfl hs5))), up rfl (up rfl (up rfl (up rfl hs14))), tp⟩ ?_
    rintro τ ⟨hs0, hs3, hs4, hs5, hs14, hs24⟩
    refine CW.cond (AF_ev rfl hs24) (fun hc5 => ?_) (fun hc5 => ?_)
    · have hc5_ := hc5
      try simp only [decide_eq_true_eq, decide_eq_false_iff_not, Bool.and_eq_true, Bool.or_eq_true, Bool.and_eq_false_iff, Bool.or_eq_false_iff, Bool.not_eq_true', Bool.not_eq_false', beq_iff_eq, beq_eq_false_iff_ne, bne_iff_ne, bne_eq_false_iff_eq, ne_eq, Int.not_lt, Int.not_le, gt_iff_lt, ge_iff_le] at hc5_
      obtain ⟨ns0, hns0⟩ : ∃ z, z = xn.take 100 := ⟨_, rfl⟩
      have hlc0 : ns0.length = 100 := by rw [hns0, List.length_take]; omega
      obtain ⟨bb0, oo0, rfl, -⟩ := hEx.1.place (by omega)
      refine CW.region ?_
      refine RW.soft Wd.a (v := .pointer (some ⟨b4, 2, none⟩)) (by exact E.fieldAddr (b := b4) (o := 0) (f := { name := "Data", type := 27, offset := 2, embedded := false, tag := "", pkgPath := "", byteOffset := 16 }) (AF_ev rfl hs5) Try.underlying58 rfl sz27 rfl) ?_
      refine RW.soft Wd.a (v := .slice (some ⟨bb0, oo0, none⟩) xn.length xc) (by exact E.load (a := ⟨b4, 2, none⟩) Try.underlying27 rfl (AF_ev rfl tp) (hst.cell .here rfl)) ?_
      refine RW.soft Wd.a (v := .slice (some ⟨bb0, oo0, none⟩) ns0.length xc) (by exact E.slice (i := 0) (j := ns0.length) Try.underlying27 sz5 (AF_ev rfl tp) rfl (int_eq (a := 100) rfl (by omega)) (by omega) (by omega) (by simp)) ?_
      refine RW.soft Wd.a (v := .pointer (some ⟨b4, 2, none⟩)) (by exact E.fieldAddr (b := b4) (o := 0) (f := { name := "Data", type := 27, offset := 2, embedded := false, tag := "", pkgPath := "", byteOffset := 16 }) (AF_ev rfl (up rfl (up rfl (up rfl hs5)))) Try.underlying58 rfl sz27 rfl) ?_
      refine RW.hard Wd.a ?_
      refine H.store (b := b4) (o := 2) (v := .slice (some ⟨bb0, oo0, none⟩) ns0.length xc) (c' := #[.int .i64 xt, .int .i64 xk, .slice (some ⟨bb0, oo0, none⟩) ns0.length xc, .slice xY xm.length yc]) (AF_ev rfl tp) (AF_ev rfl (up rfl tp)) hst .here sz27 (by simp [Value.cells]) (by simp [Value.cells, Value.oneCell']) rfl fun w hst => ?_
      refine RW.fin (fun τ => τ 0 = .slice (some ⟨b0, o0, none⟩) l.length c ∧ τ 3 = .slice V i cv ∧ τ 4 = .int .i64 ((i : Nat) : Int) ∧ τ 5 = .pointer (some ⟨b4, 0, none⟩) ∧ τ 14 = .bool true ∧ τ 24 = .bool true) ⟨u0 (up rfl (up rfl (up rfl (up rfl hs0)))), u0 (up rfl (up rfl (up rfl (up rfl hs3)))), u0 (up rfl (up rfl (up rfl (up rfl hs4)))), u0 (up rfl (up rfl (up rfl (up rfl hs5)))), u0 (up rfl (up rfl (up rfl (up rfl hs14)))), u0 (up rfl (up rfl (up rfl (up rfl (Eq.trans hs24 (congrArg Value.bool hc5))))))⟩ ?_
      rintro τ ⟨hs0, hs3, hs4, hs5, hs14, hs24⟩
      refine CW.seq ?_
      refine CW.seq ?_
      refine CW.region ?_
      refine RW.soft Wd.a (v := .pointer (some ⟨b4, 3, none⟩)) (by exact E.fieldAddr (b := b4) (o := 0) (f := { name := "Members", type := 56, offset := 3, embedded := false, tag := "", pkgPath := "", byteOffset := 40 }) (AF_ev rfl hs5) Try.underlying58 rfl sz56 rfl) ?_
      refine RW.soft Wd.a (v := .slice xY xm.length yc) (by exact E.load (a := ⟨b4, 3, none⟩) Try.underlying56 rfl (AF_ev rfl tp) (hst.cell .here rfl)) ?_
      refine RW.soft Wd.a (v := .int .i64 ((xm.length : Nat) : Int)) (by exact E.lenS (p := xY) (l := xm.length) (c := yc) Try.underlying56 (AF_ev rfl tp)) ?_
      refine RW.soft Wd.a (v := .bool (decide (((xm.length : Nat) : Int) > 9))) (by exact E.gtr (k := .i64) (a := ((xm.length : Nat) : Int)) (b := 9) (AF_ev rfl tp) rfl) ?_
      refine RW.fin (fun τ => τ 0 = .slice (some ⟨b0, o0, none⟩) l.length c ∧ τ 3 = .slice V i cv ∧ τ 4 = .int .i64 ((i : Nat) : Int) ∧ τ 5 = .pointer (some ⟨b4, 0, none⟩) ∧ τ 14 = .bool true ∧ τ 24 = .bool true ∧ τ 32 = .bool (decide (((xm.length : Nat) : Int) > 9))) ⟨up rfl (up rfl (up rfl (up rfl hs0))), up rfl (up rfl (up rfl (up rfl hs3))), up rfl (up rfl (up rfl (up rfl hs4))), up rfl (up rfl (up rfl (up rfl hs5))), up rfl (up rfl (up rfl (up rfl hs14))), up rfl (up rfl (up rfl (up rfl hs24))), tp⟩ ?_
      rintro τ ⟨hs0, hs3, hs4, hs5, hs14, hs24, hs32⟩
      refine CW.cond (AF_ev rfl hs32) (fun hc6 => ?_) (fun hc6 => ?_)
      · have hc6_ := hc6
        try simp only [decide_eq_true_eq, decide_eq_false_iff_not, Bool.and_eq_true, Bool.or_eq_true, Bool.and_eq_false_iff, Bool.or_eq_false_iff, Bool.not_eq_true', Bool.not_eq_false', beq_iff_eq, beq_eq_false_iff_ne, bne_iff_ne, bne_eq_false_iff_eq, ne_eq, Int.not_lt, Int.not_le, gt_iff_lt, ge_iff_le] at hc6_
        obtain ⟨ns1, hns1⟩ : ∃ z, z = xm.take 9 := ⟨_, rfl⟩
        have hlc1 : ns1.length = 9 := by rw [hns1, List.length_take]; omega
        obtain ⟨bb1, oo1, rfl, -⟩ := hEx.2.place (by omega)
        refine CW.region ?_
        refine RW.soft Wd.a (v := .pointer (some ⟨b4, 3, none⟩)) (by exact E.fieldAddr (b := b4) (o := 0) (f := { name := "Members", type := 56, offset := 3, embedded := false, tag := "", pkgPath := "", byteOffset := 40 }) (AF_ev rfl hs5) Try.underlying58 rfl sz56 rfl) ?_
        refine RW.soft Wd.a (v := .slice (some ⟨bb1, oo1, none⟩) xm.length yc) (by exact E.load (a := ⟨b4, 3, none⟩) Try.underlying56 rfl (AF_ev rfl tp) (hst.cell .here rfl)) ?_
        refine RW.soft Wd.a (v := .slice (some ⟨bb1, oo1, none⟩) ns1.length yc) (by exact E.slice (i := 0) (j := ns1.length) Try.underlying56 sz3 (AF_ev rfl tp) rfl (int_eq (a := 9) rfl (by omega)) (by omega) (by omega) (by simp)) ?_
        refine RW.soft Wd.a (v := .pointer (some ⟨b4, 3, none⟩)) (by exact E.fieldAddr (b := b4) (o := 0) (f := { name := "Members", type := 56, offset := 3, embedded := false, tag := "", pkgPath := "", byteOffset := 40 }) (AF_ev rfl (up rfl (up rfl (up rfl hs5)))) Try.underlying58 rfl sz56 rfl) ?_
        refine RW.hard Wd.a ?_
        refine H.store (b := b4) (o := 3) (v := .slice (some ⟨bb1, oo1, none⟩) ns1.length yc) (c' := #[.int .i64 xt, .int .i64 xk, .slice (some ⟨bb0, oo0, none⟩) ns0.length xc, .slice (some ⟨bb1, oo1, none⟩) ns1.length yc]) (AF_ev rfl tp) (AF_ev rfl (up rfl tp)) hst .here sz56 (by simp [Value.cells]) (by simp [Value.cells, Value.oneCell']) rfl fun w hst => ?_
        refine RW.fin (fun τ => τ 0 = .slice (some ⟨b0, o0, none⟩) l.length c ∧ τ 3 = .slice V i cv ∧ τ 4 = .int .i64 ((i : Nat) : Int) ∧ τ 5 = .pointer (some ⟨b4, 0, none⟩) ∧ τ 14 = .bool true ∧ τ 24 = .bool true ∧ τ 32 = .bool true) ⟨u0 (up rfl (up rfl (up rfl (up rfl hs0)))), u0 (up rfl (up rfl (up rfl (up rfl hs3)))), u0 (up rfl (up rfl (up rfl (up rfl hs4)))), u0 (up rfl (up rfl (up rfl (up rfl hs5)))), u0 (up rfl (up rfl (up rfl (up rfl hs14)))), u0 (up rfl (up rfl (up rfl (up rfl hs24)))), u0 (up rfl (up rfl (up rfl (up rfl (Eq.trans hs32 (congrArg Value.bool hc6))))))⟩ ?_
        rintro τ ⟨hs0, hs3, hs4, hs5, hs14, hs24, hs32⟩
        refine CW.seq ?_
        refine CW.region ?_
        refine RW.hard Wd.a ?_
        refine H.buildSlice (e := 5) (cs := #[]) (vs := #[]) (by simp) (fun _ => by kernel_rfl) hst fun b7 w hst => ?_
        refine RW.soft Wd.a (v := .pointer (some ⟨b4, 2, none⟩)) (by exact E.fieldAddr (b := b4) (o := 0) (f := { name := "Data", type := 27, offset := 2, embedded := false, tag := "", pkgPath := "", byteOffset := 16 }) (AF_ev rfl (up rfl hs5)) Try.underlying58 rfl sz27 rfl) ?_
        refine RW.soft Wd.a (v := .slice (some ⟨bb0, oo0, none⟩) ns0.length xc) (by exact E.load (a := ⟨b4, 2, none⟩) Try.underlying27 rfl (AF_ev rfl tp) (hst.cell (.there .here) rfl)) ?_
        have hst := hst.ownNew (n := 0) (cap := 0) (sz := 1) (xs := []) (by omega) (by simp [maxLen]) rfl rfl
        refine RW.hard Wd.a ?_
        refine H.append2 (n2 := ns0.length) (xs2 := bv ns0) (by first | rfl | simp) (by first | rfl | simp) (m := ns0.length) (news := bv ns0) (s0 := .slice (some ⟨b7, 0, none⟩) 0 0) (x0 := .slice (some ⟨bb0, oo0, none⟩) ns0.length xc) Try.underlying27 inf5 rfl (AF_ev rfl (up rfl (up rfl tp))) (AF_ev rfl tp) hst .here (by have q := (hEx.1.src hst).take (k := ns0.length) (by omega); rw [Nat.mul_one, bv_take, hlc0, ← hns0] at q; rw [hlc0]; exact q) (bv_one _) (by omega) (by simp only [maxLen]; omega) ?_
        intro vX8 w hnilX8 hst
        obtain ⟨X8, c9, rfl, hcX8, hmX8, hlX8, hbX8⟩ := hst.shape
        refine RW.soft Wd.a (v := .pointer (some ⟨b4, 2, none⟩)) (by exact E.fieldAddr (b := b4) (o := 0) (f := { name := "Data", type := 27, offset := 2, embedded := false, tag := "", pkgPath := "", byteOffset := 16 }) (AF_ev rfl (up rfl (up rfl (up rfl (up rfl hs5))))) Try.underlying58 rfl sz27 rfl) ?_
        refine RW.hard Wd.a ?_
        refine H.store (b := b4) (o := 2) (v := .slice X8 ns0.length c9) (c' := #[.int .i64 xt, .int .i64 xk, .slice X8 ns0.length c9, .slice (some ⟨bb1, oo1, none⟩) ns1.length yc]) (AF_ev rfl tp) (AF_ev rfl (up rfl tp)) hst (.there .here) sz27 (by simp [Value.cells]) (by simp [Value.cells, Value.oneCell']) rfl fun w hst => ?_
        refine RW.fin (fun τ => τ 0 = .slice (some ⟨b0, o0, none⟩) l.length c ∧ τ 3 = .slice V i cv ∧ τ 4 = .int .i64 ((i : Nat) : Int) ∧ τ 5 = .pointer (some ⟨b4, 0, none⟩) ∧ τ 14 = .bool true ∧ τ 24 = .bool true ∧ τ 32 = .bool true) ⟨u0 (up rfl (up rfl (up rfl (up rfl (up rfl hs0))))), u0 (up rfl (up rfl (up rfl (up rfl (up rfl hs3))))), u0 (up rfl (up rfl (up rfl (up rfl (up rfl hs4))))), u0 (up rfl (up rfl (up rfl (up rfl (up rfl hs5))))), u0 (up rfl (up rfl (up rfl (up rfl (up rfl hs14))))), u0 (up rfl (up rfl (up rfl (up rfl (up rfl hs24))))), u0 (up rfl (up rfl (up rfl (up rfl (up rfl hs32)))))⟩ ?_
        rintro τ ⟨hs0, hs3, hs4, hs5, hs14, hs24, hs32⟩
        refine CW.seq ?_
        refine CW.region ?_
        refine RW.hard Wd.a ?_
        refine H.buildSlice (e := 3) (cs := #[]) (vs := #[]) (by simp) (fun _ => by kernel_rfl) hst fun b10 w hst => ?_
        refine RW.soft Wd.a (v := .pointer (some ⟨b4, 3, none⟩)) (by exact E.fieldAddr (b := b4) (o := 0) (f := { name := "Members", type := 56, offset := 3, embedded := false, tag := "", pkgPath := "", byteOffset := 40 }) (AF_ev rfl (up rfl hs5)) Try.underlying58 rfl sz56 rfl) ?_
        refine RW.soft Wd.a (v := .slice (some ⟨bb1, oo1, none⟩) ns1.length yc) (by exact E.load (a := ⟨b4, 3, none⟩) Try.underlying56 rfl (AF_ev rfl tp) (hst.cell (.there (.there .here)) rfl)) ?_
        have hst := hst.ownNew (n := 0) (cap := 0) (sz := 1) (xs := []) (by omega) (by simp [maxLen]) rfl rfl
        refine RW.hard Wd.a ?_
        refine H.append2 (n2 := ns1.length) (xs2 := iv ns1) (by first | rfl | simp) (by first | rfl | simp) (m := ns1.length) (news := iv ns1) (s0 := .slice (some ⟨b10, 0, none⟩) 0 0) (x0 := .slice (some ⟨bb1, oo1, none⟩) ns1.length yc) Try.underlying56 inf3 rfl (AF_ev rfl (up rfl (up rfl tp))) (AF_ev rfl tp) hst .here (by have q := (hEx.2.src hst).take (k := ns1.length) (by omega); rw [Nat.mul_one, iv_take, hlc1, ← hns1] at q; rw [hlc1]; exact q) (iv_one _) (by omega) (by simp only [maxLen]; omega) ?_
        intro vX11 w hnilX11 hst
        obtain ⟨X11, c12, rfl, hcX11, hmX11, hlX11, hbX11⟩ := hst.shape
        refine RW.soft Wd.a (v := .pointer (some ⟨b4, 3, none⟩)) (by exact E.fieldAddr (b := b4) (o := 0) (f := { name := "Members", type := 56, offset := 3, embedded := false, tag := "", pkgPath := "", byteOffset := 40 }) (AF_ev rfl (up rfl (up rfl (up rfl (up rfl hs5))))) Try.underlying58 rfl sz56 rfl) ?_
        refine RW.hard Wd.a ?_
        refine H.store (b := b4) (o := 3) (v := .slice X11 ns1.length c12) (c' := #[.int .i64 xt, .int .i64 xk, .slice X8 ns0.length c9, .slice X11 ns1.length c12]) (AF_ev rfl tp) (AF_ev rfl (up rfl tp)) hst (.there (.there .here)) sz56 (by simp [Value.cells]) (by simp [Value.cells, Value.oneCell']) rfl fun w hst => ?_
        refine RW.fin (fun τ => τ 0 = .slice (some ⟨b0, o0, none⟩) l.length c ∧ τ 3 = .slice V i cv ∧ τ 4 = .int .i64 ((i : Nat) : Int) ∧ τ 5 = .pointer (some ⟨b4, 0, none⟩) ∧ τ 14 = .bool true ∧ τ 24 = .bool true ∧ τ 32 = .bool true) ⟨u0 (up rfl (up rfl (up rfl (up rfl (up rfl hs0))))), u0 (up rfl (up rfl (up rfl (up rfl (up rfl hs3))))), u0 (up rfl (up rfl (up rfl (up rfl (up rfl hs4))))), u0 (up rfl (up rfl (up rfl (up rfl (up rfl hs5))))), u0 (up rfl (up rfl (up rfl (up rfl (up rfl hs14))))), u0 (up rfl (up rfl (up rfl (up rfl (up rfl hs24))))), u0 (up rfl (up rfl (up rfl (up rfl (up rfl hs32)))))⟩ ?_
        rintro τ ⟨hs0, hs3, hs4, hs5, hs14, hs24, hs32⟩
        have hst := hst.take (.there .here)
        obtain ⟨p1, hle1, hlas1, hst⟩ := hst.ownKeep
        obtain ⟨p2, hle2, hlas2, hst⟩ := hst.ownKeep
        have hle0 := hle1.trans hle2
        have hlas1 := hlas1.le hle2
        refine CW.region ?_
        refine RW.soft Wd.a (v := .slice V i cv) (by exact E.move (AF_ev rfl hs3)) ?_
        refine RW.soft Wd.a (v := .agg #[.int .i64 xt, .int .i64 xk, .slice X8 ns0.length c9, .slice X11 ns1.length c12]) (by exact E.loadN (b := b4) (o := 0) (cs := [.int .i64 xt, .int .i64 xk, .slice X8 ns0.length c9, .slice X11 ns1.length c12]) Try.underlying58 rfl sz58 (AF_ev rfl (up rfl hs5)) rfl (hst.cellsIn .here rfl)) ?_
        refine RW.hard Wd.a ?_
        refine H.buildSlice (e := 58) (cs := #[.int .i64 xt, .int .i64 xk, .slice X8 ns0.length c9, .slice X11 ns1.length c12]) (vs := #[(0, .agg #[.int .i64 xt, .int .i64 xk, .slice X8 ns0.length c9, .slice X11 ns1.length c12])]) (bld1 (AF_ev rfl tp)) (fun _ => by kernel_rfl) hst fun b13 w hst => ?_
        refine RW.hard Wd.a ?_
        refine H.append2 (n2 := i + 1) (xs2 := (flat es') ++ ([.int .i64 xt, .int .i64 xk, .slice X8 ns0.length c9, .slice X11 ns1.length c12])) (by first | rfl | simp) (by first | rfl | simp) (m := 1) (news := [.int .i64 xt, .int .i64 xk, .slice X8 ns0.length c9, .slice X11 ns1.length c12]) (s0 := .slice V i cv) (x0 := .slice (some ⟨b13, 0, none⟩) 1 1) Try.underlying44 inf58 rfl (AF_ev rfl (up rfl (up rfl tp))) (AF_ev rfl tp) hst (.there (.there .here)) ⟨rfl, _, _, rfl, by omega, .inr ⟨_, 0, rfl, hst.cellsIn .here rfl⟩⟩ (by simp [Value.oneCell']) (by omega) (by simp only [maxLen]; omega) ?_
        intro vX14 w hnilX14 hst
        obtain ⟨X14, c15, rfl, hcX14, hmX14, hlX14, hbX14⟩ := hst.shape
        refine RW.soft Wd.a (v := .slice X14 (i + 1) c15) (by exact E.assign (AF_ev rfl tp)) ?_
        refine RW.nil ?_
        refine Bl.n ?_
        refine Th.n ?_
        refine CW.region ?_
        refine RW.soft Wd.a (v := .int .i64 ((i : Nat) : Int)) (by exact E.move (AF_ev rfl (up rfl (up rfl (up rfl (up rfl (up rfl hs4))))))) ?_
        refine RW.soft Wd.a (v := .int .i64 (((i : Nat) : Int) + 1)) (by exact E.add (k := .i64) (a := ((i : Nat) : Int)) (b := 1) (AF_ev rfl tp) rfl (show IntKind.i64.wrap (((i : Nat) : Int) + 1) = ((i : Nat) : Int) + 1 from (by rw [IntWalk.i64_in _ (by omega)]))) ?_
        refine RW.soft Wd.a (v := .int .i64 (((i : Nat) : Int) + 1)) (by exact E.assign (AF_ev rfl tp)) ?_
        refine RW.nil ?_
        refine Th.n ?_
        have hst := hst.take (.there (.there (.there .here)))
        have hst := hst.take (.there .here)
        have hst := (hst.take (.there (.there .here))).drop
        have hst := (hst.take (.there (.there .here))).drop
        have hok : EsOk p2 (es' ++ [(⟨xt, xk, X8, c9, ns0, X11, c12, ns1⟩ : Ent)]) := (hes.le hle0).append (fun y hy => by rw [List.mem_singleton.1 hy]; exact ⟨hlas1, hlas2, (by simp only []; omega), (by simp only []; omega)⟩)
        have hle := hle.trans hle0
        have hlenN : (es' ++ [(⟨xt, xk, X8, c9, ns0, X11, c12, ns1⟩ : Ent)]).length = i + 1 := by rw [List.length_append, hlen']; rfl
        have hvw2 : vs (es' ++ [(⟨xt, xk, X8, c9, ns0, X11, c12, ns1⟩ : Ent)]) = (l.take (i + 1)).map cutV := few_step hvw hx (Prod.ext rfl (Prod.ext rfl (Prod.ext (show ns0 = xn.take 100 from hns0) (show ns1 = xm.take 9 from hns1))))
        have hst : St p2 w (Own 58 4 (.slice X14 (i + 1) c15) (i + 1) (flat (es' ++ [(⟨xt, xk, X8, c9, ns0, X11, c12, ns1⟩ : Ent)])) :: A :: R) := by rw [flat_append]; exact hst
        have hst := hst.take (.there .here)
        have hst := hst.take (.there .here)
        exact ⟨l.length - (i + 1), by omega, p2, (es' ++ [(⟨xt, xk, X8, c9, ns0, X11, c12, ns1⟩ : Ent)]), i + 1, X14, c15, hle, hok, hlenN, hvw2, (by omega), (by omega), (by omega), up rfl (up rfl (up rfl (up rfl (up rfl (up rfl (up rfl (up rfl hs0))))))), up rfl (up rfl (up rfl tp)), (int_eq (a := ((i : Nat) : Int) + 1) tp (by omega)), hst⟩
      · have hc6_ := hc6
        try simp only [decide_eq_true_eq, decide_eq_false_iff_not, Bool.and_eq_true, Bool.or_eq_true, Bool.and_eq_false_iff, Bool.or_eq_false_iff, Bool.not_eq_true', Bool.not_eq_false', beq_iff_eq, beq_eq_false_iff_ne, bne_iff_ne, bne_eq_false_iff_eq, ne_eq, Int.not_lt, Int.not_le, gt_iff_lt, ge_iff_le] at hc6_
        refine CW.skip ?_
        refine Th.n ?_
        refine CW.seq ?_
        refine CW.region ?_
        refine RW.hard Wd.a ?_
        refine H.buildSlice (e := 5) (cs := #[]) (vs := #[]) (by simp) (fun _ => by kernel_rfl) hst fun b16 w hst => ?_
        refine RW.soft Wd.a (v := .pointer (some ⟨b4, 2, none⟩)) (by exact E.fieldAddr (b := b4) (o := 0) (f := { name := "Data", type := 27, offset := 2, embedded := false, tag := "", pkgPath := "", byteOffset := 16 }) (AF_ev rfl (up rfl hs5)) Try.underlying58 rfl sz27 rfl) ?_
        refine RW.soft Wd.a (v := .slice (some ⟨bb0, oo0, none⟩) ns0.length xc) (by exact E.load (a := ⟨b4, 2, none⟩) Try.underlying27 rfl (AF_ev rfl tp) (hst.cell (.there .here) rfl)) ?_
        have hst := hst.ownNew (n := 0) (cap := 0) (sz := 1) (xs := []) (by omega) (by simp [maxLen]) rfl rfl
        refine RW.hard Wd.a ?_
        refine H.append2 (n2 := ns0.length) (xs2 := bv ns0) (by first | rfl | simp) (by first | rfl | simp) (m := ns0.length) (news := bv ns0) (s0 := .slice (some ⟨b16, 0, none⟩) 0 0) (x0 := .slice (some ⟨bb0, oo0, none⟩) ns0.length xc) Try.underlying27 inf5 rfl (AF_ev rfl (up rfl (up rfl tp))) (AF_ev rfl tp) hst .here (by have q := (hEx.1.src hst).take (k := ns0.length) (by omega); rw [Nat.mul_one, bv_take, hlc0, ← hns0] at q; rw [hlc0]; exact q) (bv_one _) (by omega) (by simp only [maxLen]; omega) ?_
        intro vX17 w hnilX17 hst
        obtain ⟨X17, c18, rfl, hcX17, hmX17, hlX17, hbX17⟩ := hst.shape
        refine RW.soft Wd.a (v := .pointer (some ⟨b4, 2, none⟩)) (by exact E.fieldAddr (b := b4) (o := 0) (f := { name := "Data", type := 27, offset := 2, embedded := false, tag := "", pkgPath := "", byteOffset := 16 }) (AF_ev rfl (up rfl (up rfl (up rfl (up rfl hs5))))) Try.underlying58 rfl sz27 rfl) ?_
        refine RW.hard Wd.a ?_
        refine H.store (b := b4) (o := 2) (v := .slice X17 ns0.length c18) (c' := #[.int .i64 xt, .int .i64 xk, .slice X17 ns0.length c18, .slice xY xm.length yc]) (AF_ev rfl tp) (AF_ev rfl (up rfl tp)) hst (.there .here) sz27 (by simp [Value.cells]) (by simp [Value.cells, Value.oneCell']) rfl fun w hst => ?_
        refine RW.fin (fun τ => τ 0 = .slice (some ⟨b0, o0, none⟩) l.length c ∧ τ 3 = .slice V i cv ∧ τ 4 = .int .i64 ((i : Nat) : Int) ∧ τ 5 = .pointer (some ⟨b4, 0, none⟩) ∧ τ 14 = .bool true ∧ τ 24 = .bool true ∧ τ 32 = .bool false) ⟨u0 (up rfl (up rfl (up rfl (up rfl (up rfl hs0))))), u0 (up rfl (up rfl (up rfl (up rfl (up rfl hs3))))), u0 (up rfl (up rfl (up rfl (up rfl (up rfl hs4))))), u0 (up rfl (up rfl (up rfl (up rfl (up rfl hs5))))), u0 (up rfl (up rfl (up rfl (up rfl (up rfl hs14))))), u0 (up rfl (up rfl (up rfl (up rfl (up rfl hs24))))), u0 (up rfl (up rfl (up rfl (up rfl (up rfl (Eq.trans hs32 (congrArg Value.bool hc6)))))))⟩ ?_
        rintro τ ⟨hs0, hs3, hs4, hs5, hs14, hs24, hs32⟩
        refine CW.seq ?_
        refine CW.region ?_
        refine RW.hard Wd.a ?_
        refine H.buildSlice (e := 3) (cs := #[]) (vs := #[]) (by simp) (fun _ => by kernel_rfl) hst fun b19 w hst => ?_
        refine RW.soft Wd.a (v := .pointer (some ⟨b4, 3, none⟩)) (by exact E.fieldAddr (b := b4) (o := 0) (f := { name := "Members", type := 56, offset := 3, embedded := false, tag := "", pkgPath := "", byteOffset := 40 }) (AF_ev rfl (up rfl hs5)) Try.underlying58 rfl sz56 rfl) ?_
        refine RW.soft Wd.a (v := .slice xY xm.length yc) (by exact E.load (a := ⟨b4, 3, none⟩) Try.underlying56 rfl (AF_ev rfl tp) (hst.cell (.there (.there .here)) rfl)) ?_
        have hst := hst.ownNew (n := 0) (cap := 0) (sz := 1) (xs := []) (by omega) (by simp [maxLen]) rfl rfl
        refine RW.hard Wd.a ?_
        refine H.append2 (n2 := xm.length) (xs2 := iv xm) (by first | rfl | simp) (by first | rfl | simp) (m := xm.length) (news := iv xm) (s0 := .slice (some ⟨b19, 0, none⟩) 0 0) (x0 := .slice xY xm.length yc) Try.underlying56 inf3 rfl (AF_ev rfl (up rfl (up rfl tp))) (AF_ev rfl tp) hst .here (hEx.2.src hst) (iv_one _) (by omega) (by simp only [maxLen]; omega) ?_
        intro vX20 w hnilX20 hst
        obtain ⟨X20, c21, rfl, hcX20, hmX20, hlX20, hbX20⟩ := hst.shape
        refine RW.soft Wd.a (v := .pointer (some ⟨b4, 3, none⟩)) (by exact E.fieldAddr (b := b4) (o := 0) (f := { name := "Members", type := 56, offset := 3, embedded := false, tag := "", pkgPath := "", byteOffset := 40 }) (AF_ev rfl (up rfl (up rfl (up rfl (up rfl hs5))))) Try.underlying58 rfl sz56 rfl) ?_
        refine RW.hard Wd.a ?_
        refine H.store (b := b4) (o := 3) (v := .slice X20 xm.length c21) (c' := #[.int .i64 xt, .int .i64 xk, .slice X17 ns0.length c18, .slice X20 xm.length c21]) (AF_ev rfl tp) (AF_ev rfl (up rfl tp)) hst (.there (.there .here)) sz56 (by simp [Value.cells]) (by simp [Value.cells, Value.oneCell']) rfl fun w hst => ?_
        refine RW.fin (fun τ => τ 0 = .slice (some ⟨b0, o0, none⟩) l.length c ∧ τ 3 = .slice V i cv ∧ τ 4 = .int .i64 ((i : Nat) : Int) ∧ τ 5 = .pointer (some ⟨b4, 0, none⟩) ∧ τ 14 = .bool true ∧ τ 24 = .bool true ∧ τ 32 = .bool false) ⟨u0 (up rfl (up rfl (up rfl (up rfl (up rfl hs0))))), u0 (up rfl (up rfl (up rfl (up rfl (up rfl hs3))))), u0 (up rfl (up rfl (up rfl (up rfl (up rfl hs4))))), u0 (up rfl (up rfl (up rfl (up rfl (up rfl hs5))))), u0 (up rfl (up rfl (up rfl (up rfl (up rfl hs14))))), u0 (up rfl (up rfl (up rfl (up rfl (up rfl hs24))))), u0 (up rfl (up rfl (up rfl (up rfl (up rfl hs32)))))⟩ ?_
        rintro τ ⟨hs0, hs3, hs4, hs5, hs14, hs24, hs32⟩
        have hst := hst.take (.there .here)
        obtain ⟨p1, hle1, hlas1, hst⟩ := hst.ownKeep
        obtain ⟨p2, hle2, hlas2, hst⟩ := hst.ownKeep
        have hle0 := hle1.trans hle2
        have hlas1 := hlas1.le hle2
        refine CW.region ?_
        refine RW.soft Wd.a (v := .slice V i cv) (by exact E.move (AF_ev rfl hs3)) ?_
        refine RW.soft Wd.a (v := .agg #[.int .i64 xt, .int .i64 xk, .slice X17 ns0.length c18, .slice X20 xm.length c21]) (by exact E.loadN (b := b4) (o := 0) (cs := [.int .i64 xt, .int .i64 xk, .slice X17 ns0.length c18, .slice X20 xm.length c21]) Try.underlying58 rfl sz58 (AF_ev rfl (up rfl hs5)) rfl (hst.cellsIn .here rfl)) ?_
        refine RW.hard Wd.a ?_
        refine H.buildSlice (e := 58) (cs := #[.int .i64 xt, .int .i64 xk, .slice X17 ns0.length c18, .slice X20 xm.length c21]) (vs := #[(0, .agg #[.int .i64 xt, .int .i64 xk, .slice X17 ns0.length c18, .slice X20 xm.length c21])]) (bld1 (AF_ev rfl tp)) (fun _ => by kernel_rfl) hst fun b22 w hst => ?_
        refine RW.hard Wd.a ?_
        refine H.append2 (n2 := i + 1) (xs2 := (flat es') ++ ([.int .i64 xt, .int .i64 xk, .slice X17 ns0.length c18, .slice X20 xm.length c21])) (by first | rfl | simp) (by first | rfl | simp) (m := 1) (news := [.int .i64 xt, .int .i64 xk, .slice X17 ns0.length c18, .slice X20 xm.length c21]) (s0 := .slice V i cv) (x0 := .slice (some ⟨b22, 0, none⟩) 1 1) Try.underlying44 inf58 rfl (AF_ev rfl (up rfl (up rfl tp))) (AF_ev rfl tp) hst (.there (.there .here)) ⟨rfl, _, _, rfl, by omega, .inr ⟨_, 0, rfl, hst.cellsIn .here rfl⟩⟩ (by simp [Value.oneCell']) (by omega) (by simp only [maxLen]; omega) ?_
        intro vX23 w hnilX23 hst
        obtain ⟨X23, c24, rfl, hcX23, hmX23, hlX23, hbX23⟩ := hst.shape
        refine RW.soft Wd.a (v := .slice X23 (i + 1) c24) (by exact E.assign (AF_ev rfl tp)) ?_
        refine RW.nil ?_
        refine Bl.n ?_
        refine Th.n ?_
        refine CW.region ?_
        refine RW.soft Wd.a (v := .int .i64 ((i : Nat) : Int)) (by exact E.move (AF_ev rfl (up rfl (up rfl (up rfl (up rfl (up rfl hs4))))))) ?_
        refine RW.soft Wd.a (v := .int .i64 (((i : Nat) : Int) + 1)) (by exact E.add (k := .i64) (a := ((i : Nat) : Int)) (b := 1) (AF_ev rfl tp) rfl (show IntKind.i64.wrap (((i : Nat) : Int) + 1) = ((i : Nat) : Int) + 1 from (by rw [IntWalk.i64_in _ (by omega)]))) ?_
        refine RW.soft Wd.a (v := .int .i64 (((i : Nat) : Int) + 1)) (by exact E.assign (AF_ev rfl tp)) ?_
        refine RW.nil ?_
        refine Th.n ?_
        have hst := hst.take (.there (.there (.there .here)))
        have hst := hst.take (.there .here)
        have hst := (hst.take (.there (.there .here))).drop
        have hst := (hst.take (.there (.there .here))).drop
        have hok : EsOk p2 (es' ++ [(⟨xt, xk, X17, c18, ns0, X20, c21, xm⟩ : Ent)]) := (hes.le hle0).append (fun y hy => by rw [List.mem_singleton.1 hy]; exact ⟨hlas1, hlas2, (by simp only []; omega), (by simp only []; omega)⟩)
        have hle := hle.trans hle0
        have hlenN : (es' ++ [(⟨xt, xk, X17, c18, ns0, X20, c21, xm⟩ : Ent)]).length = i + 1 := by rw [List.length_append, hlen']; rfl
        have hvw2 : vs (es' ++ [(⟨xt, xk, X17, c18, ns0, X20, c21, xm⟩ : Ent)]) = (l.take (i + 1)).map cutV := few_step hvw hx (Prod.ext rfl (Prod.ext rfl (Prod.ext (show ns0 = xn.take 100 from hns0) (show xm = xm.take 9 from (List.take_of_length_le (by omega)).symm))))
        have hst : St p2 w (Own 58 4 (.slice X23 (i + 1) c24) (i + 1) (flat (es' ++ [(⟨xt, xk, X17, c18, ns0, X20, c21, xm⟩ : Ent)])) :: A :: R) := by rw [flat_append]; exact hst
        have hst := hst.take (.there .here)
        have hst := hst.take (.there .here)
        exact ⟨l.length - (i + 1), by omega, p2, (es' ++ [(⟨xt, xk, X17, c18, ns0, X20, c21, xm⟩ : Ent)]), i + 1, X23, c24, hle, hok, hlenN, hvw2, (by omega), (by omega), (by omega), up rfl (up rfl (up rfl (up rfl (up rfl (up rfl (up rfl (up rfl hs0))))))), up rfl (up rfl (up rfl tp)), (int_eq (a := ((i : Nat) : Int) + 1) tp (by omega)), hst⟩
    · have hc5_ := hc5
      try simp only [decide_eq_true_eq, decide_eq_false_iff_not, Bool.and_eq_true, Bool.or_eq_true, Bool.and_eq_false_iff, Bool.or_eq_false_iff, Bool.not_eq_true', Bool.not_eq_false', beq_iff_eq, beq_eq_false_iff_ne, bne_iff_ne, bne_eq_false_iff_eq, ne_eq, Int.not_lt, Int.not_le, gt_iff_lt, ge_iff_le] at hc5_
      refine CW.skip ?_
      refine Th.n ?_
      refine CW.seq ?_
      refine CW.seq ?_
      refine CW.region ?_
      refine RW.soft Wd.a (v := .pointer (some ⟨b4, 3, none⟩)) (by exact E.fieldAddr (b := b4) (o := 0) (f := { name := "Members", type := 56, offset := 3, embedded := false, tag := "", pkgPath := "", byteOffset := 40 }) (AF_ev rfl hs5) Try.underlying58 rfl sz56 rfl) ?_
      refine RW.soft Wd.a (v := .slice xY xm.length yc) (by exact E.load (a := ⟨b4, 3, none⟩) Try.underlying56 rfl (AF_ev rfl tp) (hst.cell .here rfl)) ?_
      refine RW.soft Wd.a (v := .int .i64 ((xm.length : Nat) : Int)) (by exact E.lenS (p := xY) (l := xm.length) (c := yc) Try.underlying56 (AF_ev rfl tp)) ?_
      refine RW.soft Wd.a (v := .bool (decide (((xm.length : Nat) : Int) > 9))) (by exact E.gtr (k := .i64) (a := ((xm.length : Nat) : Int)) (b := 9) (AF_ev rfl tp) rfl) ?_
      refine RW.fin (fun τ => τ 0 = .slice (some ⟨b0, o0, none⟩) l.length c ∧ τ 3 = .slice V i cv ∧ τ 4 = .int .i64 ((i : Nat) : Int) ∧ τ 5 = .pointer (some ⟨b4, 0, none⟩) ∧ τ 14 = .bool true ∧ τ 24 = .bool false ∧ τ 32 = .bool (decide (((xm.length : Nat) : Int) > 9))) ⟨up rfl (up rfl (up rfl (up rfl hs0))), up rfl (up rfl (up rfl (up rfl hs3))), up rfl (up rfl (up rfl (up rfl hs4))), up rfl (up rfl (up rfl (up rfl hs5))), up rfl (up rfl (up rfl (up rfl hs14))), up rfl (up rfl (up rfl (up rfl (Eq.trans hs24 (congrArg Value.bool hc5))))), tp⟩ ?_
      rintro τ ⟨hs0, hs3, hs4, hs5, hs14, hs24, hs32⟩
      refine CW.cond (AF_ev rfl hs32) (fun hc25 => ?_) (fun hc25 => ?_)
      · have hc25_ := hc25
        try simp only [decide_eq_true_eq, decide_eq_false_iff_not, Bool.and_eq_true, Bool.or_eq_true, Bool.and_eq_false_iff, Bool.or_eq_false_iff, Bool.not_eq_true', Bool.not_eq_false', beq_iff_eq, beq_eq_false_iff_ne, bne_iff_ne, bne_eq_false_iff_eq, ne_eq, Int.not_lt, Int.not_le, gt_iff_lt, ge_iff_le] at hc25_
        obtain ⟨ns1, hns1⟩ : ∃ z, z = xm.take 9 := ⟨_, rfl⟩
        have hlc1 : ns1.length = 9 := by rw [hns1, List.length_take]; omega
        obtain ⟨bb1, oo1, rfl, -⟩ := hEx.2.place (by omega)
        refine CW.region ?_
        refine RW.soft Wd.a (v := .pointer (some ⟨b4, 3, none⟩)) (by exact E.fieldAddr (b := b4) (o := 0) (f := { name := "Members", type := 56, offset := 3, embedded := false, tag := "", pkgPath := "", byteOffset := 40 }) (AF_ev rfl hs5) Try.underlying58 rfl sz56 rfl) ?_
        refine RW.soft Wd.a (v := .slice (some ⟨bb1, oo1, none⟩) xm.length yc) (by exact E.load (a := ⟨b4, 3, none⟩) Try.underlying56 rfl (AF_ev rfl tp) (hst.cell .here rfl)) ?_
        refine RW.soft Wd.a (v := .slice (some ⟨bb1, oo1, none⟩) ns1.length yc) (by exact E.slice (i := 0) (j := ns1.length) Try.underlying56 sz3 (AF_ev rfl tp) rfl (int_eq (a := 9) rfl (by omega)) (by omega) (by omega) (by simp)) ?_
        refine RW.soft Wd.a (v := .pointer (some ⟨b4, 3, none⟩)) (by exact E.fieldAddr (b := b4) (o := 0) (f := { name := "Members", type := 56, offset := 3, embedded := false, tag := "", pkgPath := "", byteOffset := 40 }) (AF_ev rfl (up rfl (up rfl (up rfl hs5)))) Try.underlying58 rfl sz56 rfl) ?_
        refine RW.hard Wd.a ?_
        refine H.store (b := b4) (o := 3) (v := .slice (some ⟨bb1, oo1, none⟩) ns1.length yc) (c' := #[.int .i64 xt, .int .i64 xk, .slice xX xn.length xc, .slice (some ⟨bb1, oo1, none⟩) ns1.length yc]) (AF_ev rfl tp) (AF_ev rfl (up rfl tp)) hst .here sz56 (by simp [Value.cells]) (by simp [Value.cells, Value.oneCell']) rfl fun w hst => ?_
        refine RW.fin (fun τ => τ 0 = .slice (some ⟨b0, o0, none⟩) l.length c ∧ τ 3 = .slice V i cv ∧ τ 4 = .int .i64 ((i : Nat) : Int) ∧ τ 5 = .pointer (some ⟨b4, 0, none⟩) ∧ τ 14 = .bool true ∧ τ 24 = .bool false ∧ τ 32 = .bool true) ⟨u0 (up rfl (up rfl (up rfl (up rfl hs0)))), u0 (up rfl (up rfl (up rfl (up rfl hs3)))), u0 (up rfl (up rfl (up rfl (up rfl hs4)))), u0 (up rfl (up rfl (up rfl (up rfl hs5)))), u0 (up rfl (up rfl (up rfl (up rfl hs14)))), u0 (up rfl (up rfl (up rfl (up rfl hs24)))), u0 (up rfl (up rfl (up rfl (up rfl (Eq.trans hs32 (congrArg Value.bool hc25))))))⟩ ?_
        rintro τ ⟨hs0, hs3, hs4, hs5, hs14, hs24, hs32⟩
        refine CW.seq ?_
        refine CW.region ?_
        refine RW.hard Wd.a ?_
        refine H.buildSlice (e := 5) (cs := #[]) (vs := #[]) (by simp) (fun _ => by kernel_rfl) hst fun b26 w hst => ?_
        refine RW.soft Wd.a (v := .pointer (some ⟨b4, 2, none⟩)) (by exact E.fieldAddr (b := b4) (o := 0) (f := { name := "Data", type := 27, offset := 2, embedded := false, tag := "", pkgPath := "", byteOffset := 16 }) (AF_ev rfl (up rfl hs5)) Try.underlying58 rfl sz27 rfl) ?_
        refine RW.soft Wd.a (v := .slice xX xn.length xc) (by exact E.load (a := ⟨b4, 2, none⟩) Try.underlying27 rfl (AF_ev rfl tp) (hst.cell (.there .here) rfl)) ?_
        have hst := hst.ownNew (n := 0) (cap := 0) (sz := 1) (xs := []) (by omega) (by simp [maxLen]) rfl rfl
        refine RW.hard Wd.a ?_
        refine H.append2 (n2 := xn.length) (xs2 := bv xn) (by first | rfl | simp) (by first | rfl | simp) (m := xn.length) (news := bv xn) (s0 := .slice (some ⟨b26, 0, none⟩) 0 0) (x0 := .slice xX xn.length xc) Try.underlying27 inf5 rfl (AF_ev rfl (up rfl (up rfl tp))) (AF_ev rfl tp) hst .here (hEx.1.src hst) (bv_one _) (by omega) (by simp only [maxLen]; omega) ?_
        intro vX27 w hnilX27 hst
        obtain ⟨X27, c28, rfl, hcX27, hmX27, hlX27, hbX27⟩ := hst.shape
        refine RW.soft Wd.a (v := .pointer (some ⟨b4, 2, none⟩)) (by exact E.fieldAddr (b := b4) (o := 0) (f := { name := "Data", type := 27, offset := 2, embedded := false, tag := "", pkgPath := "", byteOffset := 16 }) (AF_ev rfl (up rfl (up rfl (up rfl (up rfl hs5))))) Try.underlying58 rfl sz27 rfl) ?_
        refine RW.hard Wd.a ?_
        refine H.store (b := b4) (o := 2) (v := .slice X27 xn.length c28) (c' := #[.int .i64 xt, .int .i64 xk, .slice X27 xn.length c28, .slice (some ⟨bb1, oo1, none⟩) ns1.length yc]) (AF_ev rfl tp) (AF_ev rfl (up rfl tp)) hst (.there .here) sz27 (by simp [Value.cells]) (by simp [Value.cells, Value.oneCell']) rfl fun w hst => ?_
        refine RW.fin (fun τ => τ 0 = .slice (some ⟨b0, o0, none⟩) l.length c ∧ τ 3 = .slice V i cv ∧ τ 4 = .int .i64 ((i : Nat) : Int) ∧ τ 5 = .pointer (some ⟨b4, 0, none⟩) ∧ τ 14 = .bool true ∧ τ 24 = .bool false ∧ τ 32 = .bool true) ⟨u0 (up rfl (up rfl (up rfl (up rfl (up rfl hs0))))), u0 (up rfl (up rfl (up rfl (up rfl (up rfl hs3))))), u0 (up rfl (up rfl (up rfl (up rfl (up rfl hs4))))), u0 (up rfl (up rfl (up rfl (up rfl (up rfl hs5))))), u0 (up rfl (up rfl (up rfl (up rfl (up rfl hs14))))), u0 (up rfl (up rfl (up rfl (up rfl (up rfl hs24))))), u0 (up rfl (up rfl (up rfl (up rfl (up rfl hs32)))))⟩ ?_
        rintro τ ⟨hs0, hs3, hs4, hs5, hs14, hs24, hs32⟩
        refine CW.seq ?_
        refine CW.region ?_
        refine RW.hard Wd.a ?_
        refine H.buildSlice (e := 3) (cs := #[]) (vs := #[]) (by simp) (fun _ => by kernel_rfl) hst fun b29 w hst => ?_
        refine RW.soft Wd.a (v := .pointer (some ⟨b4, 3, none⟩)) (by exact E.fieldAddr (b := b4) (o := 0) (f := { name := "Members", type := 56, offset := 3, embedded := false, tag := "", pkgPath := "", byteOffset := 40 }) (AF_ev rfl (up rfl hs5)) Try.underlying58 rfl sz56 rfl) ?_
        refine RW.soft Wd.a (v := .slice (some ⟨bb1, oo1, none⟩) ns1.length yc) (by exact E.load (a := ⟨b4, 3, none⟩) Try.underlying56 rfl (AF_ev rfl tp) (hst.cell (.there (.there .here)) rfl)) ?_
        have hst := hst.ownNew (n := 0) (cap := 0) (sz := 1) (xs := []) (by omega) (by simp [maxLen]) rfl rfl
        refine RW.hard Wd.a ?_
        refine H.append2 (n2 := ns1.length) (xs2 := iv ns1) (by first | rfl | simp) (by first | rfl | simp) (m := ns1.length) (news := iv ns1) (s0 := .slice (some ⟨b29, 0, none⟩) 0 0) (x0 := .slice (some ⟨bb1, oo1, none⟩) ns1.length yc) Try.underlying56 inf3 rfl (AF_ev rfl (up rfl (up rfl tp))) (AF_ev rfl tp) hst .here (by have q := (hEx.2.src hst).take (k := ns1.length) (by omega); rw [Nat.mul_one, iv_take, hlc1, ← hns1] at q; rw [hlc1]; exact q) (iv_one _) (by omega) (by simp only [maxLen]; omega) ?_
        intro vX30 w hnilX30 hst
        obtain ⟨X30, c31, rfl, hcX30, hmX30, hlX30, hbX30⟩ := hst.shape
        refine RW.soft Wd.a (v := .pointer (some ⟨b4, 3, none⟩)) (by exact E.fieldAddr (b := b4) (o := 0) (f := { name := "Members", type := 56, offset := 3, embedded := false, tag := "", pkgPath := "", byteOffset := 40 }) (AF_ev rfl (up rfl (up rfl (up rfl (up rfl hs5))))) Try.underlying58 rfl sz56 rfl) ?_
        refine RW.hard Wd.a ?_
        refine H.store (b := b4) (o := 3) (v := .slice X30 ns1.length c31) (c' := #[.int .i64 xt, .int .i64 xk, .slice X27 xn.length c28, .slice X30 ns1.length c31]) (AF_ev rfl tp) (AF_ev rfl (up rfl tp)) hst (.there (.there .here)) sz56 (by simp [Value.cells]) (by simp [Value.cells, Value.oneCell']) rfl fun w hst => ?_
        refine RW.fin (fun τ => τ 0 = .slice (some ⟨b0, o0, none⟩) l.length c ∧ τ 3 = .slice V i cv ∧ τ 4 = .int .i64 ((i : Nat) : Int) ∧ τ 5 = .pointer (some ⟨b4, 0, none⟩) ∧ τ 14 = .bool true ∧ τ 24 = .bool false ∧ τ 32 = .bool true) ⟨u0 (up rfl (up rfl (up rfl (up rfl (up rfl hs0))))), u0 (up rfl (up rfl (up rfl (up rfl (up rfl hs3))))), u0 (up rfl (up rfl (up rfl (up rfl (up rfl hs4))))), u0 (up rfl (up rfl (up rfl (up rfl (up rfl hs5))))), u0 (up rfl (up rfl (up rfl (up rfl (up rfl hs14))))), u0 (up rfl (up rfl (up rfl (up rfl (up rfl hs24))))), u0 (up rfl (up rfl (up rfl (up rfl (up rfl hs32)))))⟩ ?_
        rintro τ ⟨hs0, hs3, hs4, hs5, hs14, hs24, hs32⟩
        have hst := hst.take (.there .here)
        obtain ⟨p1, hle1, hlas1, hst⟩ := hst.ownKeep
        obtain ⟨p2, hle2, hlas2, hst⟩ := hst.ownKeep
        have hle0 := hle1.trans hle2
        have hlas1 := hlas1.le hle2
        refine CW.region ?_
        refine RW.soft Wd.a (v := .slice V i cv) (by exact E.move (AF_ev rfl hs3)) ?_
        refine RW.soft Wd.a (v := .agg #[.int .i64 xt, .int .i64 xk, .slice X27 xn.length c28, .slice X30 ns1.length c31]) (by exact E.loadN (b := b4) (o := 0) (cs := [.int .i64 xt, .int .i64 xk, .slice X27 xn.length c28, .slice X30 ns1.length c31]) Try.underlying58 rfl sz58 (AF_ev rfl (up rfl hs5)) rfl (hst.cellsIn .here rfl)) ?_
        refine RW.hard Wd.a ?_
        refine H.buildSlice (e := 58) (cs := #[.int .i64 xt, .int .i64 xk, .slice X27 xn.length c28, .slice X30 ns1.length c31]) (vs := #[(0, .agg #[.int .i64 xt, .int .i64 xk, .slice X27 xn.length c28, .slice X30 ns1.length c31])]) (bld1 (AF_ev rfl tp)) (fun _ => by kernel_rfl) hst fun b32 w hst => ?_
        refine RW.hard Wd.a ?_
        refine H.append2 (n2 := i + 1) (xs2 := (flat es') ++ ([.int .i64 xt, .int .i64 xk, .slice X27 xn.length c28, .slice X30 ns1.length c31])) (by first | rfl | simp) (by first | rfl | simp) (m := 1) (news := [.int .i64 xt, .int .i64 xk, .slice X27 xn.length c28, .slice X30 ns1.length c31]) (s0 := .slice V i cv) (x0 := .slice (some ⟨b32, 0, none⟩) 1 1) Try.underlying44 inf58 rfl (AF_ev rfl (up rfl (up rfl tp))) (AF_ev rfl tp) hst (.there (.there .here)) ⟨rfl, _, _, rfl, by omega, .inr ⟨_, 0, rfl, hst.cellsIn .here rfl⟩⟩ (by simp [Value.oneCell']) (by omega) (by simp only [maxLen]; omega) ?_
        intro vX33 w hnilX33 hst
        obtain ⟨X33, c34, rfl, hcX33, hmX33, hlX33, hbX33⟩ := hst.shape
        refine RW.soft Wd.a (v := .slice X33 (i + 1) c34) (by exact E.assign (AF_ev rfl tp)) ?_
        refine RW.nil ?_
        refine Bl.n ?_
        refine Th.n ?_
        refine CW.region ?_
        refine RW.soft Wd.a (v := .int .i64 ((i : Nat) : Int)) (by exact E.move (AF_ev rfl (up rfl (up rfl (up rfl (up rfl (up rfl hs4))))))) ?_
        refine RW.soft Wd.a (v := .int .i64 (((i : Nat) : Int) + 1)) (by exact E.add (k := .i64) (a := ((i : Nat) : Int)) (b := 1) (AF_ev rfl tp) rfl (show IntKind.i64.wrap (((i : Nat) : Int) + 1) = ((i : Nat) : Int) + 1 from (by rw [IntWalk.i64_in _ (by omega)]))) ?_
        refine RW.soft Wd.a (v := .int .i64 (((i : Nat) : Int) + 1)) (by exact E.assign (AF_ev rfl tp)) ?_
        refine RW.nil ?_
        refine Th.n ?_
        have hst := hst.take (.there (.there (.there .here)))
        have hst := hst.take (.there .here)
        have hst := (hst.take (.there (.there .here))).drop
        have hst := (hst.take (.there (.there .here))).drop
        have hok : EsOk p2 (es' ++ [(⟨xt, xk, X27, c28, xn, X30, c31, ns1⟩ : Ent)]) := (hes.le hle0).append (fun y hy => by rw [List.mem_singleton.1 hy]; exact ⟨hlas1, hlas2, (by simp only []; omega), (by simp only []; omega)⟩)
        have hle := hle.trans hle0
        have hlenN : (es' ++ [(⟨xt, xk, X27, c28, xn, X30, c31, ns1⟩ : Ent)]).length = i + 1 := by rw [List.length_append, hlen']; rfl
        have hvw2 : vs (es' ++ [(⟨xt, xk, X27, c28, xn, X30, c31, ns1⟩ : Ent)]) = (l.take (i + 1)).map cutV := few_step hvw hx (Prod.ext rfl (Prod.ext rfl (Prod.ext (show xn = xn.take 100 from (List.take_of_length_le (by omega)).symm) (show ns1 = xm.take 9 from hns1))))
        have hst : St p2 w (Own 58 4 (.slice X33 (i + 1) c34) (i + 1) (flat (es' ++ [(⟨xt, xk, X27, c28, xn, X30, c31, ns1⟩ : Ent)])) :: A :: R) := by rw [flat_append]; exact hst
        have hst := hst.take (.there .here)
        have hst := hst.take (.there .here)
        exact ⟨l.length - (i + 1), by omega, p2, (es' ++ [(⟨xt, xk, X27, c28, xn, X30, c31, ns1⟩ : Ent)]), i + 1, X33, c34, hle, hok, hlenN, hvw2, (by omega), (by omega), (by omega), up rfl (up rfl (up rfl (up rfl (up rfl (up rfl (up rfl (up rfl hs0))))))), up rfl (up rfl (up rfl tp)), (int_eq (a := ((i : Nat) : Int) + 1) tp (by omega)), hst⟩
      · have hc25_ := hc25
        try simp only [decide_eq_true_eq, decide_eq_false_iff_not, Bool.and_eq_true, Bool.or_eq_true, Bool.and_eq_false_iff, Bool.or_eq_false_iff, Bool.not_eq_true', Bool.not_eq_false', beq_iff_eq, beq_eq_false_iff_ne, bne_iff_ne, bne_eq_false_iff_eq, ne_eq, Int.not_lt, Int.not_le, gt_iff_lt, ge_iff_le] at hc25_
        refine CW.skip ?_
        refine Th.n ?_
        refine CW.seq ?_
        refine CW.region ?_
        refine RW.hard Wd.a ?_
        refine H.buildSlice (e := 5) (cs := #[]) (vs := #[]) (by simp) (fun _ => by kernel_rfl) hst fun b35 w hst => ?_
        refine RW.soft Wd.a (v := .pointer (some ⟨b4, 2, none⟩)) (by exact E.fieldAddr (b := b4) (o := 0) (f := { name := "Data", type := 27, offset := 2, embedded := false, tag := "", pkgPath := "", byteOffset := 16 }) (AF_ev rfl (up rfl hs5)) Try.underlying58 rfl sz27 rfl) ?_
        refine RW.soft Wd.a (v := .slice xX xn.length xc) (by exact E.load (a := ⟨b4, 2, none⟩) Try.underlying27 rfl (AF_ev rfl tp) (hst.cell (.there .here) rfl)) ?_
        have hst := hst.ownNew (n := 0) (cap := 0) (sz := 1) (xs := []) (by omega) (by simp [maxLen]) rfl rfl
        refine RW.hard Wd.a ?_
        refine H.append2 (n2 := xn.length) (xs2 := bv xn) (by first | rfl | simp) (by first | rfl | simp) (m := xn.length) (news := bv xn) (s0 := .slice (some ⟨b35, 0, none⟩) 0 0) (x0 := .slice xX xn.length xc) Try.underlying27 inf5 rfl (AF_ev rfl (up rfl (up rfl tp))) (AF_ev rfl tp) hst .here (hEx.1.src hst) (bv_one _) (by omega) (by simp only [maxLen]; omega) ?_
        intro vX36 w hnilX36 hst
        obtain ⟨X36, c37, rfl, hcX36, hmX36, hlX36, hbX36⟩ := hst.shape
        refine RW.soft Wd.a (v := .pointer (some ⟨b4, 2, none⟩)) (by exact E.fieldAddr (b := b4) (o := 0) (f := { name := "Data", type := 27, offset := 2, embedded := false, tag := "", pkgPath := "", byteOffset := 16 }) (AF_ev rfl (up rfl (up rfl (up rfl (up rfl hs5))))) Try.underlying58 rfl sz27 rfl) ?_
        refine RW.hard Wd.a ?_
        refine H.store (b := b4) (o := 2) (v := .slice X36 xn.length c37) (c' := #[.int .i64 xt, .int .i64 xk, .slice X36 xn.length c37, .slice xY xm.length yc]) (AF_ev rfl tp) (AF_ev rfl (up rfl tp)) hst (.there .here) sz27 (by simp [Value.cells]) (by simp [Value.cells, Value.oneCell']) rfl fun w hst => ?_
        refine RW.fin (fun τ => τ 0 = .slice (some ⟨b0, o0, none⟩) l.length c ∧ τ 3 = .slice V i cv ∧ τ 4 = .int .i64 ((i : Nat) : Int) ∧ τ 5 = .pointer (some ⟨b4, 0, none⟩) ∧ τ 14 = .bool true ∧ τ 24 = .bool false ∧ τ 32 = .bool false) ⟨u0 (up rfl (up rfl (up rfl (up rfl (up rfl hs0))))), u0 (up rfl (up rfl (up rfl (up rfl (up rfl hs3))))), u0 (up rfl (up rfl (up rfl (up rfl (up rfl hs4))))), u0 (up rfl (up rfl (up rfl (up rfl (up rfl hs5))))), u0 (up rfl (up rfl (up rfl (up rfl (up rfl hs14))))), u0 (up rfl (up rfl (up rfl (up rfl (up rfl hs24))))), u0 (up rfl (up rfl (up rfl (up rfl (up rfl (Eq.trans hs32 (congrArg Value.bool hc25)))))))⟩ ?_
        rintro τ ⟨hs0, hs3, hs4, hs5, hs14, hs24, hs32⟩
        refine CW.seq ?_
        refine CW.region ?_
        refine RW.hard Wd.a ?_
        refine H.buildSlice (e := 3) (cs := #[]) (vs := #[]) (by simp) (fun _ => by kernel_rfl) hst fun b38 w hst => ?_
        refine RW.soft Wd.a (v := .pointer (some ⟨b4, 3, none⟩)) (by exact E.fieldAddr (b := b4) (o := 0) (f := { name := "Members", type := 56, offset := 3, embedded := false, tag := "", pkgPath := "", byteOffset := 40 }) (AF_ev rfl (up rfl hs5)) Try.underlying58 rfl sz56 rfl) ?_
        refine RW.soft Wd.a (v := .slice xY xm.length yc) (by exact E.load (a := ⟨b4, 3, none⟩) Try.underlying56 rfl (AF_ev rfl tp) (hst.cell (.there (.there .here)) rfl)) ?_
        have hst := hst.ownNew (n := 0) (cap := 0) (sz := 1) (xs := []) (by omega) (by simp [maxLen]) rfl rfl
        refine RW.hard Wd.a ?_
        refine H.append2 (n2 := xm.length) (xs2 := iv xm) (by first | rfl | simp) (by first | rfl | simp) (m := xm.length) (news := iv xm) (s0 := .slice (some ⟨b38, 0, none⟩) 0 0) (x0 := .slice xY xm.length yc) Try.underlying56 inf3 rfl (AF_ev rfl (up rfl (up rfl tp))) (AF_ev rfl tp) hst .here (hEx.2.src hst) (iv_one _) (by omega) (by simp only [maxLen]; omega) ?_
        intro vX39 w hnilX39 hst
        obtain ⟨X39, c40, rfl, hcX39, hmX39, hlX39, hbX39⟩ := hst.shape
        refine RW.soft Wd.a (v := .pointer (some ⟨b4, 3, none⟩)) (by exact E.fieldAddr (b := b4) (o := 0) (f := { name := "Members", type := 56, offset := 3, embedded := false, tag := "", pkgPath := "", byteOffset := 40 }) (AF_ev rfl (up rfl (up rfl (up rfl (up rfl hs5))))) Try.underlying58 rfl sz56 rfl) ?_
        refine RW.hard Wd.a ?_
        refine H.store (b := b4) (o := 3) (v := .slice X39 xm.length c40) (c' := #[.int .i64 xt, .int .i64 xk, .slice X36 xn.length c37, .slice X39 xm.length c40]) (AF_ev rfl tp) (AF_ev rfl (up rfl tp)) hst (.there (.there .here)) sz56 (by simp [Value.cells]) (by simp [Value.cells, Value.oneCell']) rfl fun w hst => ?_
        refine RW.fin (fun τ => τ 0 = .slice (some ⟨b0, o0, none⟩) l.length c ∧ τ 3 = .slice V i cv ∧ τ 4 = .int .i64 ((i : Nat) : Int) ∧ τ 5 = .pointer (some ⟨b4, 0, none⟩) ∧ τ 14 = .bool true ∧ τ 24 = .bool false ∧ τ 32 = .bool false) ⟨u0 (up rfl (up rfl (up rfl (up rfl (up rfl hs0))))), u0 (up rfl (up rfl (up rfl (up rfl (up rfl hs3))))), u0 (up rfl (up rfl (up rfl (up rfl (up rfl hs4))))), u0 (up rfl (up rfl (up rfl (up rfl (up rfl hs5))))), u0 (up rfl (up rfl (up rfl (up rfl (up rfl hs14))))), u0 (up rfl (up rfl (up rfl (up rfl (up rfl hs24))))), u0 (up rfl (up rfl (up rfl (up rfl (up rfl hs32)))))⟩ ?_
        rintro τ ⟨hs0, hs3, hs4, hs5, hs14, hs24, hs32⟩
        have hst := hst.take (.there .here)
        obtain ⟨p1, hle1, hlas1, hst⟩ := hst.ownKeep
        obtain ⟨p2, hle2, hlas2, hst⟩ := hst.ownKeep
        have hle0 := hle1.trans hle2
        have hlas1 := hlas1.le hle2
        refine CW.region ?_
        refine RW.soft Wd.a (v := .slice V i cv) (by exact E.move (AF_ev rfl hs3)) ?_
        refine RW.soft Wd.a (v := .agg #[.int .i64 xt, .int .i64 xk, .slice X36 xn.length c37, .slice X39 xm.length c40]) (by exact E.loadN (b := b4) (o := 0) (cs := [.int .i64 xt, .int .i64 xk, .slice X36 xn.length c37, .slice X39 xm.length c40]) Try.underlying58 rfl sz58 (AF_ev rfl (up rfl hs5)) rfl (hst.cellsIn .here rfl)) ?_
        refine RW.hard Wd.a ?_
        refine H.buildSlice (e := 58) (cs := #[.int .i64 xt, .int .i64 xk, .slice X36 xn.length c37, .slice X39 xm.length c40]) (vs := #[(0, .agg #[.int .i64 xt, .int .i64 xk, .slice X36 xn.length c37, .slice X39 xm.length c40])]) (bld1 (AF_ev rfl tp)) (fun _ => by kernel_rfl) hst fun b41 w hst => ?_
        refine RW.hard Wd.a ?_
        refine H.append2 (n2 := i + 1) (xs2 := (flat es') ++ ([.int .i64 xt, .int .i64 xk, .slice X36 xn.length c37, .slice X39 xm.length c40])) (by first | rfl | simp) (by first | rfl | simp) (m := 1) (news := [.int .i64 xt, .int .i64 xk, .slice X36 xn.length c37, .slice X39 xm.length c40]) (s0 := .slice V i cv) (x0 := .slice (some ⟨b41, 0, none⟩) 1 1) Try.underlying44 inf58 rfl (AF_ev rfl (up rfl (up rfl tp))) (AF_ev rfl tp) hst (.there (.there .here)) ⟨rfl, _, _, rfl, by omega, .inr ⟨_, 0, rfl, hst.cellsIn .here rfl⟩⟩ (by simp [Value.oneCell']) (by omega) (by simp only [maxLen]; omega) ?_
        intro vX42 w hnilX42 hst
        obtain ⟨X42, c43, rfl, hcX42, hmX42, hlX42, hbX42⟩ := hst.shape
        refine RW.soft Wd.a (v := .slice X42 (i + 1) c43) (by exact E.assign (AF_ev rfl tp)) ?_
        refine RW.nil ?_
        refine Bl.n ?_
        refine Th.n ?_
        refine CW.region ?_
        refine RW.soft Wd.a (v := .int .i64 ((i : Nat) : Int)) (by exact E.move (AF_ev rfl (up rfl (up rfl (up rfl (up rfl (up rfl hs4))))))) ?_
        refine RW.soft Wd.a (v := .int .i64 (((i : Nat) : Int) + 1)) (by exact E.add (k := .i64) (a := ((i : Nat) : Int)) (b := 1) (AF_ev rfl tp) rfl (show IntKind.i64.wrap (((i : Nat) : Int) + 1) = ((i : Nat) : Int) + 1 from (by rw [IntWalk.i64_in _ (by omega)]))) ?_
        refine RW.soft Wd.a (v := .int .i64 (((i : Nat) : Int) + 1)) (by exact E.assign (AF_ev rfl tp)) ?_
        refine RW.nil ?_
        refine Th.n ?_
        have hst := hst.take (.there (.there (.there .here)))
        have hst := hst.take (.there .here)
        have hst := (hst.take (.there (.there .here))).drop
        have hst := (hst.take (.there (.there .here))).drop
        have hok : EsOk p2 (es' ++ [(⟨xt, xk, X36, c37, xn, X39, c40, xm⟩ : Ent)]) := (hes.le hle0).append (fun y hy => by rw [List.mem_singleton.1 hy]; exact ⟨hlas1, hlas2, (by simp only []; omega), (by simp only []; omega)⟩)
        have hle := hle.trans hle0
        have hlenN : (es' ++ [(⟨xt, xk, X36, c37, xn, X39, c40, xm⟩ : Ent)]).length = i + 1 := by rw [List.length_append, hlen']; rfl
        have hvw2 : vs (es' ++ [(⟨xt, xk, X36, c37, xn, X39, c40, xm⟩ : Ent)]) = (l.take (i + 1)).map cutV := few_step hvw hx (Prod.ext rfl (Prod.ext rfl (Prod.ext (show xn = xn.take 100 from (List.take_of_length_le (by omega)).symm) (show xm = xm.take 9 from (List.take_of_length_le (by omega)).symm))))
        have hst : St p2 w (Own 58 4 (.slice X42 (i + 1) c43) (i + 1) (flat (es' ++ [(⟨xt, xk, X36, c37, xn, X39, c40, xm⟩ : Ent)])) :: A :: R) := by rw [flat_append]; exact hst
        have hst := hst.take (.there .here)
        have hst := hst.take (.there .here)
        exact ⟨l.length - (i + 1), by omega, p2, (es' ++ [(⟨xt, xk, X36, c37, xn, X39, c40, xm⟩ : Ent)]), i + 1, X42, c43, hle, hok, hlenN, hvw2, (by omega), (by omega), (by omega), up rfl (up rfl (up rfl (up rfl (up rfl (up rfl (up rfl (up rfl hs0))))))), up rfl (up rfl (up rfl tp)), (int_eq (a := ((i : Nat) : Int) + 1) tp (by omega)), hst⟩
  · have hc3_ := hc3
    try simp only [decide_eq_true_eq, decide_eq_false_iff_not, Bool.and_eq_true, Bool.or_eq_true, Bool.and_eq_false_iff, Bool.or_eq_false_iff, Bool.not_eq_true', Bool.not_eq_false', beq_iff_eq, beq_eq_false_iff_ne, bne_iff_ne, bne_eq_false_iff_eq, ne_eq, Int.not_lt, Int.not_le, gt_iff_lt, ge_iff_le] at hc3_
    refine CW.exit ?_
    refine Th.x ?_
    refine Th.x ?_
    refine Bl.x ?_
    refine Th.n ?_
    refine CW.seq ?_
    refine CW.region ?_
    refine RW.soft Wd.a (v := .slice V i cv) (by exact E.move (AF_ev rfl hs3)) ?_
    refine RW.soft Wd.a (v := .slice V i cv) (by exact E.assign (AF_ev rfl tp)) ?_
    refine RW.fin (fun τ => τ 0 = .slice X l.length c ∧ τ 2 = .slice V i cv ∧ τ 3 = .slice V i cv ∧ τ 4 = .int .i64 ((i : Nat) : Int) ∧ τ 14 = .bool false) ⟨up rfl (up rfl hs0), tp, up rfl (up rfl hs3), up rfl (up rfl hs4), up rfl (up rfl (Eq.trans hs14 (congrArg Value.bool hc3)))⟩ ?_
    rintro τ ⟨hs0, hs2, hs3, hs4, hs14⟩
    refine CW.ret ?_
    refine ret1 (v := .slice V i cv) rfl (by exact (.tmp (AF_ev rfl hs2) .nil)) ?_
    exact ⟨p, _, es', hle, rfl, hes, by omega, few_end hvw hi20 hi (by omega), by rw [hlen']; exact hst⟩
end Go.Proofs.Ytdlcjoonhojpfaa
