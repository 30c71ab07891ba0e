/- The calls of the package sessions, walked through operation by operation. -/
import Derived.Test.YtdlcjoonhojpfaaT3
namespace Go.Proofs.Ytdlcjoonhojpfaa
open Go.RowKit Go.SL Go.S15
attribute [local irreducible] Go.SL.RW Go.SL.CW Go.SL.RD Go.SL.Hd Go.SL.St
set_option linter.unusedVariables false
set_option linter.unusedSimpArgs false

theorem nm17 : (Try.f17.name == "runtime.NumGoroutine") = false := by kernel_rfl
theorem sz31 : (Try.prog.info? 31).map (·.size) = some 7 := by kernel_rfl
theorem zr31 : (Try.prog.info? 31).bind (·.zero) = some (.agg #[.int .i64 0, .int .i64 0, .int .i64 0, .int .i64 0, .int .i64 0, .int .i64 0, .slice none 0 0]) := by kernel_rfl

/-- a call that the law is handed -/
structure Op where
  kind : Int
  id : Int
  seq : Int
  c0 : Int
  c1 : Int
  c2 : Int
  X : Option Addr
  cap : Nat
  ns : List Int
def Op.enc (x : Op) : List Value := [.int .i64 x.kind, .int .i64 x.id, .int .i64 x.seq, .int .i64 x.c0, .int .i64 x.c1, .int .i64 x.c2, .slice x.X x.ns.length x.cap]
theorem Op.enc_len (x : Op) : x.enc.length = 7 := rfl
/-- all of them: their numbers fit, their bytes last -/
def OpsOk (p : Pers) (os : List Op) : Prop := ∀ x ∈ os, (-9223372036854775808 ≤ x.kind ∧ x.kind ≤ 9223372036854775807) ∧ Las p 1 (.slice x.X x.ns.length x.cap) x.ns.length (bv x.ns)
theorem OpsOk.le {p q : Pers} {os : List Op} (h : OpsOk p os) (l : p.le q) : OpsOk q os := fun x hx => ⟨(h x hx).1, (h x hx).2.le l⟩

theorem once_walk {p : Pers} {w : World} {R : List Assn} {p0 : Pers} {X : Option Addr} {c : Nat} {os : List Op} (hO : Las p 7 (.slice X os.length c) os.length (os.flatMap Op.enc)) (hK : OpsOk p os) (hp0 : p0.le p) (hst : St p w (R)) :
    Calls Try.prog 3 #[.slice X os.length c] w fun e w => ∃ q, p0.le q ∧ e = .returned (.bool true) ∧ St q w R := by
  refine enter Try.func3 rfl (by simp) (n := 127) rfl fun τ hτ => ?_
  have hs0 : τ 0 = .slice X os.length c := hτ 0 (by simp)
  clear hτ
  refine CW.seq ?_
  refine CW.region ?_
  refine RW.soft Wd.a (v := .bool false) (by exact E.assign rfl) ?_
  refine RW.fin (fun τ => τ 0 = .slice X os.length c ∧ τ 2 = .bool false) ⟨up rfl hs0, tp⟩ ?_
  rintro τ ⟨hs0, hs2⟩
  refine CW.seq ?_
  refine CW.region ?_
  refine RW.hard Wd.a ?_
  refine H.call0 Try.func15 nm15 rfl map0 (Calls.mono (law15_shown hst) ?_)
  rintro _ w ⟨p, hle, rfl, hst⟩
  have hO := hO.le hle
  have hK := hK.le hle
  have hp0 := hp0.le hle
  refine ⟨_, rfl, ?_⟩
  show RW _ _ _ _ _ _ _
  refine RW.soft Wd.a (v := .bool true) (by exact E.assign (AF_ev rfl tp)) ?_
  refine RW.fin (fun τ => τ 0 = .slice X os.length c ∧ τ 2 = .bool false ∧ τ 3 = .bool true) ⟨up rfl (up rfl hs0), up rfl (up rfl hs2), tp⟩ ?_
  rintro τ ⟨hs0, hs2, hs3⟩
  refine CW.seq ?_
  refine CW.region ?_
  refine RW.hard Wd.a ?_
  refine H.call0 Try.func16 nm16 rfl map0 (Calls.mono (New_L hst) ?_)
  rintro _ w ⟨t1, rfl, hst⟩
  refine ⟨_, rfl, ?_⟩
  show RW _ _ _ _ _ _ _
  refine RW.soft Wd.a (v := .pointer (some ⟨t1, 0, none⟩)) (by exact E.assign (AF_ev rfl tp)) ?_
  refine RW.fin (fun τ => τ 0 = .slice X os.length c ∧ τ 2 = .bool false ∧ τ 3 = .bool true ∧ τ 4 = .pointer (some ⟨t1, 0, none⟩)) ⟨up rfl (up rfl hs0), up rfl (up rfl hs2), up rfl (up rfl hs3), tp⟩ ?_
  rintro τ ⟨hs0, hs2, hs3, hs4⟩
  refine CW.seq ?_
  refine CW.seq ?_
  refine CW.region ?_
  refine RW.soft Wd.a (v := .bool true) (by exact E.move (AF_ev rfl hs3)) ?_
  refine RW.soft Wd.a (v := .bool false) (by exact E.not (b := true) (AF_ev rfl tp)) ?_
  refine RW.soft Wd.a (v := .bool false) (by exact E.move (AF_ev rfl tp)) ?_
  refine RW.soft (by exact Wd.yes (x := 22) rfl (AF_ev rfl tp)) (v := .pointer (some ⟨t1, 0, none⟩)) (by exact E.move (AF_ev rfl (up rfl (up rfl (up rfl hs4))))) ?_
  refine RW.soft (by exact Wd.yes (x := 22) rfl (AF_ev rfl (up rfl tp))) (v := .bool false) (by exact E.eqlP (p := (some ⟨t1, 0, none⟩)) Try.underlying24 (AF_ev rfl tp) rfl) ?_
  refine RW.soft Wd.a (v := .bool false) (by exact E.pickF (AF_ev rfl (up rfl (up rfl tp))) (AF_ev rfl tp)) ?_
  refine RW.fin (fun τ => τ 0 = .slice X os.length c ∧ τ 2 = .bool false ∧ τ 3 = .bool true ∧ τ 4 = .pointer (some ⟨t1, 0, none⟩) ∧ τ 25 = .bool false) ⟨up rfl (up rfl (up rfl (up rfl (up rfl (up rfl hs0))))), up rfl (up rfl (up rfl (up rfl (up rfl (up rfl hs2))))), up rfl (up rfl (up rfl (up rfl (up rfl (up rfl hs3))))), up rfl (up rfl (up rfl (up rfl (up rfl (up rfl hs4))))), tp⟩ ?_
  rintro τ ⟨hs0, hs2, hs3, hs4, hs25⟩
  refine CW.condF (AF_ev rfl hs25) ?_
  refine CW.skip ?_
  refine Th.n ?_
  refine CW.seq ?_
  refine CW.region ?_
  refine RW.soft Wd.a (v := .int .i64 0) (by exact E.assign rfl) ?_
  refine RW.fin (fun τ => τ 0 = .slice X os.length c ∧ τ 2 = .bool false ∧ τ 3 = .bool true ∧ τ 4 = .pointer (some ⟨t1, 0, none⟩) ∧ τ 5 = .int .i64 0 ∧ τ 25 = .bool false) ⟨up rfl hs0, up rfl hs2, up rfl hs3, up rfl hs4, tp, up rfl hs25⟩ ?_
  rintro τ ⟨hs0, hs2, hs3, hs4, hs5, hs25⟩
  refine CW.seq ?_
  refine CW.seq ?_
  refine CW.region ?_
  refine RW.soft Wd.a (v := .int .i64 0) (by exact E.assign rfl) ?_
  refine RW.fin (fun τ => τ 0 = .slice X os.length c ∧ τ 2 = .bool false ∧ τ 3 = .bool true ∧ τ 4 = .pointer (some ⟨t1, 0, none⟩) ∧ τ 5 = .int .i64 0 ∧ τ 6 = .int .i64 0 ∧ τ 25 = .bool false) ⟨up rfl hs0, up rfl hs2, up rfl hs3, up rfl hs4, up rfl hs5, tp, up rfl hs25⟩ ?_
  rintro τ ⟨hs0, hs2, hs3, hs4, hs5, hs6, hs25⟩
  refine CW.block ?_
  refine CW.loop (fun (k : Nat) (τ : Fr) (w : World) => ∃ (p : Pers) (L : Ses) (next : Int) (i : Nat), p0.le p ∧ Las p 7 (.slice X os.length c) os.length (os.flatMap Op.enc) ∧ OpsOk p os ∧ Ok L ∧ (1 ≤ next ∧ next ≤ 1099511627776) ∧ i ≤ os.length ∧ k = os.length - i ∧ τ 0 = .slice X os.length c ∧ τ 4 = .pointer (some ⟨t1, 0, none⟩) ∧ τ 5 = .int .i64 (next - 1) ∧ τ 6 = .int .i64 ((i : Nat) : Int) ∧ St p w (Tab p t1 L next :: R)) (os.length - 0) ⟨p, [], 1, 0, hp0, hO, hK, Ok.nil, by omega, by omega, rfl, hs0, hs4, (int_eq (a := 0) hs5 (by omega)), (int_eq (a := 0) hs6 (by omega)), hst⟩ ?_
  clear hst
  rintro k τ w ⟨p, L, next, i, hp0, hO, hK, hok, hnx, hi, hk, hs0, hs4, hs5, hs6, hst⟩
  refine CW.seq ?_
  refine CW.seq ?_
  refine CW.cut (fun τ => τ 0 = .slice X os.length c ∧ τ 4 = .pointer (some ⟨t1, 0, none⟩) ∧ τ 5 = .int .i64 (next - 1) ∧ τ 6 = .int .i64 ((i : Nat) : Int) ∧ τ 33 = .bool ((decide (((i : Nat) : Int) < ((os.length : Nat) : Int))) && (decide (((i : Nat) : Int) < 100)))) ?_ ?_
  · refine CW.region ?_
    refine RW.soft Wd.a (v := .int .i64 ((i : Nat) : Int)) (by exact E.move (AF_ev rfl hs6)) ?_
    refine RW.soft Wd.a (v := .slice X os.length c) (by exact E.move (AF_ev rfl (up rfl hs0))) ?_
    refine RW.soft Wd.a (v := .int .i64 ((os.length : Nat) : Int)) (by exact E.lenS (p := X) (l := os.length) (c := c) Try.underlying22 (AF_ev rfl tp)) ?_
    refine RW.soft Wd.a (v := .bool (decide (((i : Nat) : Int) < ((os.length : Nat) : Int)))) (by exact E.lss (k := .i64) (a := ((i : Nat) : Int)) (b := ((os.length : Nat) : Int)) (AF_ev rfl (up rfl (up rfl tp))) (AF_ev rfl tp)) ?_
    refine RW.soft Wd.a (v := .bool (decide (((i : Nat) : Int) < ((os.length : Nat) : Int)))) (by exact E.move (AF_ev rfl tp)) ?_
    refine Or.elim (Bool.eq_false_or_eq_true (decide (((i : Nat) : Int) < ((os.length : Nat) : Int)))) (fun hg2 => ?_) (fun hg2 => ?_)
    · have hg2_ := hg2
      try simp only [decide_eq_true_eq, decide_eq_false_iff_not, Bool.and_eq_true, Bool.or_eq_true, Bool.and_eq_false_iff, Bool.or_eq_false_iff, Bool.not_eq_true', Bool.not_eq_false', beq_iff_eq, beq_eq_false_iff_ne, bne_iff_ne, bne_eq_false_iff_eq, ne_eq, Int.not_lt, Int.not_le, gt_iff_lt, ge_iff_le] at hg2_
      refine RW.soft (by exact Wd.yes (x := 30) rfl (AF_ev rfl (Eq.trans tp (congrArg Value.bool hg2)))) (v := .int .i64 ((i : Nat) : Int)) (by exact E.move (AF_ev rfl (up rfl (up rfl (up rfl (up rfl (up rfl hs6))))))) ?_
      refine RW.soft (by exact Wd.yes (x := 30) rfl (AF_ev rfl (up rfl (Eq.trans tp (congrArg Value.bool hg2))))) (v := .bool (decide (((i : Nat) : Int) < 100))) (by exact E.lss (k := .i64) (a := ((i : Nat) : Int)) (b := 100) (AF_ev rfl tp) rfl) ?_
      refine RW.soft Wd.a (v := .bool (decide (((i : Nat) : Int) < 100))) (by exact E.pickT (AF_ev rfl (up rfl (up rfl (Eq.trans tp (congrArg Value.bool hg2))))) (AF_ev rfl tp)) ?_
      refine RW.nil ⟨rfl, rfl, up rfl (up rfl (up rfl (up rfl (up rfl (up rfl (up rfl (up rfl hs0))))))), up rfl (up rfl (up rfl (up rfl (up rfl (up rfl (up rfl (up rfl hs4))))))), up rfl (up rfl (up rfl (up rfl (up rfl (up rfl (up rfl (up rfl hs5))))))), up rfl (up rfl (up rfl (up rfl (up rfl (up rfl (up rfl (up rfl hs6))))))), (bool_eq (a := decide (((i : Nat) : Int) < 100)) tp (by simp only [hg2, Bool.true_and, Bool.false_and, Bool.true_or, Bool.false_or]))⟩
    · have hg2_ := hg2
      try simp only [decide_eq_true_eq, decide_eq_false_iff_not, Bool.and_eq_true, Bool.or_eq_true, Bool.and_eq_false_iff, Bool.or_eq_false_iff, Bool.not_eq_true', Bool.not_eq_false', beq_iff_eq, beq_eq_false_iff_ne, bne_iff_ne, bne_eq_false_iff_eq, ne_eq, Int.not_lt, Int.not_le, gt_iff_lt, ge_iff_le] at hg2_
      refine RW.pass (by exact Wd.no (x := 30) (b := false) rfl (AF_ev rfl (Eq.trans tp (congrArg Value.bool hg2))) rfl) ?_
      refine RW.pass (by exact Wd.no (x := 30) (b := false) rfl (AF_ev rfl (up rfl (Eq.trans tp (congrArg Value.bool hg2)))) rfl) ?_
      refine RW.soft Wd.a (v := .bool false) (by exact E.pickF (AF_ev rfl (up rfl (up rfl (Eq.trans tp (congrArg Value.bool hg2))))) rfl) ?_
      refine RW.nil ⟨rfl, rfl, up rfl (up rfl (up rfl (up rfl (up rfl (up rfl (up rfl (up rfl hs0))))))), up rfl (up rfl (up rfl (up rfl (up rfl (up rfl (up rfl (up rfl hs4))))))), up rfl (up rfl (up rfl (up rfl (up rfl (up rfl (up rfl (up rfl hs5))))))), up rfl (up rfl (up rfl (up rfl (up rfl (up rfl (up rfl (up rfl hs6))))))), (bool_eq (a := false) tp (by simp only [hg2, Bool.true_and, Bool.false_and, Bool.true_or, Bool.false_or]))⟩
  rintro τ ⟨hs0, hs4, hs5, hs6, hs33⟩
  refine CW.cond (AF_ev rfl hs33) (fun hc3 => ?_) (fun hc3 => ?_)
  · have hc3_ := hc3
    try simp only [decide_eq_true_eq, decide_eq_false_iff_not, Bool.and_eq_true, Bool.or_eq_true, Bool.and_eq_false_iff, Bool.or_eq_false_iff, Bool.not_eq_true', Bool.not_eq_false', beq_iff_eq, beq_eq_false_iff_ne, bne_iff_ne, bne_eq_false_iff_eq, ne_eq, Int.not_lt, Int.not_le, gt_iff_lt, ge_iff_le] at hc3_
    refine CW.skip ?_
    refine Th.n ?_
    refine CW.seq ?_
    refine CW.block ?_
    refine CW.seq ?_
    obtain ⟨b0, o0, rfl, hcell0⟩ := hO.place (by omega)
    obtain ⟨x, hx⟩ : ∃ x, os[i]? = some x := ⟨os[i]'(by omega), List.getElem?_eq_getElem (by omega)⟩
    have hxm : x ∈ os := List.mem_of_getElem? hx
    have hkx := (hK x hxm).1
    have hE := (hK x hxm).2
    have hst := hst.emp
    refine CW.region ?_
    refine RW.soft Wd.a (v := .slice (some ⟨b0, o0, none⟩) os.length c) (by exact E.move (AF_ev rfl hs0)) ?_
    refine RW.soft Wd.a (v := .int .i64 ((i : Nat) : Int)) (by exact E.move (AF_ev rfl (up rfl hs6))) ?_
    refine RW.soft Wd.a (v := .pointer (some ⟨b0, o0 + i * 7, none⟩)) (by exact E.indexAddr (b := b0) (o := o0) (l := os.length) (c := c) (i := ((i : Nat) : Int)) Try.underlying22 sz31 (AF_ev rfl (up rfl tp)) (AF_ev rfl tp) (by omega) (by omega) (by simp)) ?_
    refine RW.soft Wd.a (v := .agg #[.int .i64 x.kind, .int .i64 x.id, .int .i64 x.seq, .int .i64 x.c0, .int .i64 x.c1, .int .i64 x.c2, .slice x.X x.ns.length x.cap]) (by exact E.loadN (b := b0) (o := o0 + i * 7) (cs := x.enc) Try.underlying31 rfl sz31 (AF_ev rfl tp) rfl (fun j u hu => by rw [Nat.add_assoc]; exact hcell0 hst _ _ (flat_get Op.enc_len hx hu))) ?_
    refine RW.hard Wd.a ?_
    refine H.alloc zr31 hst fun b4 w hst => ?_
    refine RW.hard Wd.a ?_
    refine H.store (b := b4) (o := 0) (v := .agg #[.int .i64 x.kind, .int .i64 x.id, .int .i64 x.seq, .int .i64 x.c0, .int .i64 x.c1, .int .i64 x.c2, .slice x.X x.ns.length x.cap]) (c' := #[.int .i64 x.kind, .int .i64 x.id, .int .i64 x.seq, .int .i64 x.c0, .int .i64 x.c1, .int .i64 x.c2, .slice x.X x.ns.length x.cap]) (AF_ev rfl tp) (AF_ev rfl (up rfl tp)) hst .here sz31 (by simp [Value.cells]) (by simp [Value.cells, Value.oneCell']) rfl fun w hst => ?_
    refine RW.fin (fun τ => τ 0 = .slice (some ⟨b0, o0, none⟩) os.length c ∧ τ 4 = .pointer (some ⟨t1, 0, none⟩) ∧ τ 5 = .int .i64 (next - 1) ∧ τ 6 = .int .i64 ((i : Nat) : Int) ∧ τ 7 = .pointer (some ⟨b4, 0, none⟩) ∧ τ 33 = .bool true) ⟨u0 (up rfl (up rfl (up rfl (up rfl (up rfl hs0))))), u0 (up rfl (up rfl (up rfl (up rfl (up rfl hs4))))), u0 (up rfl (up rfl (up rfl (up rfl (up rfl hs5))))), u0 (up rfl (up rfl (up rfl (up rfl (up rfl hs6))))), u0 tp, u0 (up rfl (up rfl (up rfl (up rfl (up rfl (Eq.trans hs33 (congrArg Value.bool hc3)))))))⟩ ?_
    rintro τ ⟨hs0, hs4, hs5, hs6, hs7, hs33⟩
    refine CW.seq ?_
    refine CW.region ?_
    refine RW.soft Wd.a (v := .pointer (some ⟨b4, 0, none⟩)) (by exact E.fieldAddr (b := b4) (o := 0) (f := { name := "Kind", type := 3, offset := 0, embedded := false, tag := "", pkgPath := "", byteOffset := 0 }) (AF_ev rfl hs7) Try.underlying31 rfl sz3 rfl) ?_
    refine RW.soft Wd.a (v := .int .i64 x.kind) (by exact E.load (a := ⟨b4, 0, none⟩) Try.underlying3 rfl (AF_ev rfl tp) (hst.cell .here rfl)) ?_
    refine RW.hard Wd.a ?_
    refine H.call0 Try.func17 nm17 rfl (map2 (AF_ev rfl tp) rfl) (Calls.mono (kind15 x.kind 4 (by omega) (by omega) hst) ?_)
    rintro _ w ⟨rfl, hst⟩
    refine ⟨_, rfl, ?_⟩
    show RW _ _ _ _ _ _ _
    refine RW.fin (fun τ => τ 0 = .slice (some ⟨b0, o0, none⟩) os.length c ∧ τ 4 = .pointer (some ⟨t1, 0, none⟩) ∧ τ 5 = .int .i64 (next - 1) ∧ τ 6 = .int .i64 ((i : Nat) : Int) ∧ τ 7 = .pointer (some ⟨b4, 0, none⟩) ∧ τ 33 = .bool true ∧ τ 42 = .int .i64 (kindF x.kind 4)) ⟨up rfl (up rfl (up rfl hs0)), up rfl (up rfl (up rfl hs4)), up rfl (up rfl (up rfl hs5)), up rfl (up rfl (up rfl hs6)), up rfl (up rfl (up rfl hs7)), up rfl (up rfl (up rfl hs33)), tp⟩ ?_
    rintro τ ⟨hs0, hs4, hs5, hs6, hs7, hs33, hs42⟩
    refine CW.block ?_
    refine CW.seq ?_
    refine CW.region ?_
    refine RW.soft Wd.a (v := .bool ((kindF x.kind 4) == 0)) (by exact E.eql (k := .i64) (a := kindF x.kind 4) (b := 0) (AF_ev rfl hs42) rfl) ?_
    refine RW.soft Wd.a (v := .bool ((kindF x.kind 4) == 0)) (by exact E.assign (AF_ev rfl tp)) ?_
    refine RW.fin (fun τ => τ 0 = .slice (some ⟨b0, o0, none⟩) os.length c ∧ τ 4 = .pointer (some ⟨t1, 0, none⟩) ∧ τ 5 = .int .i64 (next - 1) ∧ τ 6 = .int .i64 ((i : Nat) : Int) ∧ τ 7 = .pointer (some ⟨b4, 0, none⟩) ∧ τ 33 = .bool true ∧ τ 42 = .int .i64 (kindF x.kind 4) ∧ τ 91 = .bool ((kindF x.kind 4) == 0)) ⟨up rfl (up rfl hs0), up rfl (up rfl hs4), up rfl (up rfl hs5), up rfl (up rfl hs6), up rfl (up rfl hs7), up rfl (up rfl hs33), up rfl (up rfl hs42), tp⟩ ?_
    rintro τ ⟨hs0, hs4, hs5, hs6, hs7, hs33, hs42, hs91⟩
    refine CW.cond (AF_ev rfl hs91) (fun hc5 => ?_) (fun hc5 => ?_)
    · have hc5_ := hc5
      try simp only [decide_eq_true_eq, decide_eq_false_iff_not, Bool.and_eq_true, Bool.or_eq_true, Bool.and_eq_false_iff, Bool.or_eq_false_iff, Bool.not_eq_true', Bool.not_eq_false', beq_iff_eq, beq_eq_false_iff_ne, bne_iff_ne, bne_eq_false_iff_eq, ne_eq, Int.not_lt, Int.not_le, gt_iff_lt, ge_iff_le] at hc5_
      refine CW.seq ?_
      refine Or.elim (Bool.eq_false_or_eq_true (openFull L next)) (fun hf => ?_) (fun hf => ?_)
      · skip
        refine CW.region ?_
        refine RW.soft Wd.a (v := .pointer (some ⟨t1, 0, none⟩)) (by exact E.move (AF_ev rfl hs4)) ?_
        have hst := hst.take (.there (.there .here))
        refine RW.hard Wd.a ?_
        refine H.call0 Try.func18 nm18 rfl (map1 (AF_ev rfl tp)) (Calls.mono (Open_C (L' := L) (n' := next) (a := 0) (e := 134) (if_pos hf) (if_pos hf) (if_pos hf) (if_pos hf) (by omega) hst) ?_)
        rintro _ w ⟨rfl, hst⟩
        refine ⟨_, rfl, ?_⟩
        show RW _ _ _ _ _ _ _
        refine RW.soft Wd.a (v := .tuple #[.int .i64 0, .int .i64 134]) (by exact E.move (AF_ev rfl tp)) ?_
        refine RW.soft Wd.a (v := .int .i64 0) (by exact E.extract (vs := #[.int .i64 0, .int .i64 134]) (AF_ev rfl tp) rfl) ?_
        refine RW.soft Wd.a (v := .int .i64 134) (by exact E.extract (vs := #[.int .i64 0, .int .i64 134]) (AF_ev rfl (up rfl tp)) rfl) ?_
        refine RW.soft Wd.a (v := .int .i64 0) (by exact E.assign (AF_ev rfl (up rfl tp))) ?_
        refine RW.soft Wd.a (v := .int .i64 134) (by exact E.assign (AF_ev rfl (up rfl tp))) ?_
        refine RW.fin (fun τ => τ 0 = .slice (some ⟨b0, o0, none⟩) os.length c ∧ τ 4 = .pointer (some ⟨t1, 0, none⟩) ∧ τ 5 = .int .i64 (next - 1) ∧ τ 6 = .int .i64 ((i : Nat) : Int) ∧ τ 7 = .pointer (some ⟨b4, 0, none⟩) ∧ τ 8 = .int .i64 0 ∧ τ 9 = .int .i64 134 ∧ τ 33 = .bool true ∧ τ 42 = .int .i64 (kindF x.kind 4) ∧ τ 91 = .bool true) ⟨up rfl (up rfl (up rfl (up rfl (up rfl (up rfl (up rfl hs0)))))), up rfl (up rfl (up rfl (up rfl (up rfl (up rfl (up rfl hs4)))))), up rfl (up rfl (up rfl (up rfl (up rfl (up rfl (up rfl hs5)))))), up rfl (up rfl (up rfl (up rfl (up rfl (up rfl (up rfl hs6)))))), up rfl (up rfl (up rfl (up rfl (up rfl (up rfl (up rfl hs7)))))), up rfl tp, tp, up rfl (up rfl (up rfl (up rfl (up rfl (up rfl (up rfl hs33)))))), up rfl (up rfl (up rfl (up rfl (up rfl (up rfl (up rfl hs42)))))), up rfl (up rfl (up rfl (up rfl (up rfl (up rfl (up rfl (Eq.trans hs91 (congrArg Value.bool hc5))))))))⟩ ?_
        rintro τ ⟨hs0, hs4, hs5, hs6, hs7, hs8, hs9, hs33, hs42, hs91⟩
        refine CW.seq ?_
        refine CW.seq ?_
        refine CW.region ?_
        refine RW.soft Wd.a (v := .int .i64 134) (by exact E.move (AF_ev rfl hs9)) ?_
        refine RW.soft Wd.a (v := .bool false) (by exact E.eql (k := .i64) (a := 134) (b := 0) (AF_ev rfl tp) rfl) ?_
        refine RW.soft Wd.a (v := .bool false) (by exact E.move (AF_ev rfl tp)) ?_
        refine RW.pass (by exact Wd.no (x := 100) (b := false) rfl (AF_ev rfl tp) rfl) ?_
        refine RW.pass (by exact Wd.no (x := 100) (b := false) rfl (AF_ev rfl (up rfl tp)) rfl) ?_
        refine RW.pass (by exact Wd.no (x := 100) (b := false) rfl (AF_ev rfl (up rfl (up rfl tp))) rfl) ?_
        refine RW.pass (by exact Wd.no (x := 100) (b := false) rfl (AF_ev rfl (up rfl (up rfl (up rfl tp)))) rfl) ?_
        refine RW.soft Wd.a (v := .bool false) (by exact E.pickF (AF_ev rfl (up rfl (up rfl (up rfl (up rfl tp))))) rfl) ?_
        refine RW.fin (fun τ => τ 0 = .slice (some ⟨b0, o0, none⟩) os.length c ∧ τ 4 = .pointer (some ⟨t1, 0, none⟩) ∧ τ 5 = .int .i64 (next - 1) ∧ τ 6 = .int .i64 ((i : Nat) : Int) ∧ τ 7 = .pointer (some ⟨b4, 0, none⟩) ∧ τ 8 = .int .i64 0 ∧ τ 9 = .int .i64 134 ∧ τ 33 = .bool true ∧ τ 42 = .int .i64 (kindF x.kind 4) ∧ τ 91 = .bool true ∧ τ 105 = .bool false) ⟨up rfl (up rfl (up rfl (up rfl (up rfl (up rfl (up rfl (up rfl hs0))))))), up rfl (up rfl (up rfl (up rfl (up rfl (up rfl (up rfl (up rfl hs4))))))), up rfl (up rfl (up rfl (up rfl (up rfl (up rfl (up rfl (up rfl hs5))))))), up rfl (up rfl (up rfl (up rfl (up rfl (up rfl (up rfl (up rfl hs6))))))), up rfl (up rfl (up rfl (up rfl (up rfl (up rfl (up rfl (up rfl hs7))))))), up rfl (up rfl (up rfl (up rfl (up rfl (up rfl (up rfl (up rfl hs8))))))), up rfl (up rfl (up rfl (up rfl (up rfl (up rfl (up rfl (up rfl hs9))))))), up rfl (up rfl (up rfl (up rfl (up rfl (up rfl (up rfl (up rfl hs33))))))), up rfl (up rfl (up rfl (up rfl (up rfl (up rfl (up rfl (up rfl hs42))))))), up rfl (up rfl (up rfl (up rfl (up rfl (up rfl (up rfl (up rfl hs91))))))), tp⟩ ?_
        rintro τ ⟨hs0, hs4, hs5, hs6, hs7, hs8, hs9, hs33, hs42, hs91, hs105⟩
        refine CW.condF (AF_ev rfl hs105) ?_
        refine CW.skip ?_
        refine Th.n ?_
        refine CW.seq ?_
        refine CW.region ?_
        refine RW.soft Wd.a (v := .int .i64 134) (by exact E.move (AF_ev rfl hs9)) ?_
        refine RW.soft Wd.a (v := .bool false) (by exact E.eql (k := .i64) (a := 134) (b := 0) (AF_ev rfl tp) rfl) ?_
        refine RW.fin (fun τ => τ 0 = .slice (some ⟨b0, o0, none⟩) os.length c ∧ τ 4 = .pointer (some ⟨t1, 0, none⟩) ∧ τ 5 = .int .i64 (next - 1) ∧ τ 6 = .int .i64 ((i : Nat) : Int) ∧ τ 7 = .pointer (some ⟨b4, 0, none⟩) ∧ τ 8 = .int .i64 0 ∧ τ 9 = .int .i64 134 ∧ τ 33 = .bool true ∧ τ 42 = .int .i64 (kindF x.kind 4) ∧ τ 91 = .bool true ∧ τ 105 = .bool false ∧ τ 107 = .bool false) ⟨up rfl (up rfl hs0), up rfl (up rfl hs4), up rfl (up rfl hs5), up rfl (up rfl hs6), up rfl (up rfl hs7), up rfl (up rfl hs8), up rfl (up rfl hs9), up rfl (up rfl hs33), up rfl (up rfl hs42), up rfl (up rfl hs91), up rfl (up rfl hs105), tp⟩ ?_
        rintro τ ⟨hs0, hs4, hs5, hs6, hs7, hs8, hs9, hs33, hs42, hs91, hs105, hs107⟩
        refine CW.condF (AF_ev rfl hs107) ?_
        refine CW.skip ?_
        refine Bl.n ?_
        refine Bl.n ?_
        refine Th.n ?_
        refine CW.region ?_
        refine RW.soft Wd.a (v := .int .i64 ((i : Nat) : Int)) (by exact E.move (AF_ev rfl hs6)) ?_
        refine RW.soft Wd.a (v := .int .i64 (((i : Nat) : Int) + 1)) (by exact E.add (k := .i64) (a := ((i : Nat) : Int)) (b := 1) (AF_ev rfl tp) rfl (show IntKind.i64.wrap (((i : Nat) : Int) + 1) = ((i : Nat) : Int) + 1 from (by rw [IntWalk.i64_in _ (by omega)]))) ?_
        refine RW.soft Wd.a (v := .int .i64 (((i : Nat) : Int) + 1)) (by exact E.assign (AF_ev rfl tp)) ?_
        refine RW.nil ?_
        refine Th.n ?_
        have hle0 := hp0
        have hst := (hst.take (.there .here)).drop
        have hst := (hst.take (.there .here)).drop
        exact ⟨os.length - (i + 1), by omega, p, L, next, i + 1, hp0, hO, hK, (hok), by omega, by omega, by omega, up rfl (up rfl (up rfl hs0)), up rfl (up rfl (up rfl hs4)), up rfl (up rfl (up rfl hs5)), (int_eq (a := ((i : Nat) : Int) + 1) tp (by omega)), hst⟩
      · skip
        refine CW.region ?_
        refine RW.soft Wd.a (v := .pointer (some ⟨t1, 0, none⟩)) (by exact E.move (AF_ev rfl hs4)) ?_
        have hst := hst.take (.there (.there .here))
        have hnf : next < 1099511627776 := by have q := hf; unfold openFull at q; rw [Bool.or_eq_false_iff, decide_eq_false_iff_not, decide_eq_false_iff_not] at q; omega
        refine RW.hard Wd.a ?_
        refine H.call0 Try.func18 nm18 rfl (map1 (AF_ev rfl tp)) (Calls.mono (Open_C (L' := lput L next (0, Rp.zero)) (n' := next + 1) (a := next) (e := 0) (if_neg (by rw [hf]; simp)) (if_neg (by rw [hf]; simp)) (if_neg (by rw [hf]; simp)) (if_neg (by rw [hf]; simp)) (by omega) hst) ?_)
        rintro _ w ⟨rfl, hst⟩
        refine ⟨_, rfl, ?_⟩
        show RW _ _ _ _ _ _ _
        refine RW.soft Wd.a (v := .tuple #[.int .i64 next, .int .i64 0]) (by exact E.move (AF_ev rfl tp)) ?_
        refine RW.soft Wd.a (v := .int .i64 next) (by exact E.extract (vs := #[.int .i64 next, .int .i64 0]) (AF_ev rfl tp) rfl) ?_
        refine RW.soft Wd.a (v := .int .i64 0) (by exact E.extract (vs := #[.int .i64 next, .int .i64 0]) (AF_ev rfl (up rfl tp)) rfl) ?_
        refine RW.soft Wd.a (v := .int .i64 next) (by exact E.assign (AF_ev rfl (up rfl tp))) ?_
        refine RW.soft Wd.a (v := .int .i64 0) (by exact E.assign (AF_ev rfl (up rfl tp))) ?_
        refine RW.fin (fun τ => τ 0 = .slice (some ⟨b0, o0, none⟩) os.length c ∧ τ 4 = .pointer (some ⟨t1, 0, none⟩) ∧ τ 5 = .int .i64 (next - 1) ∧ τ 6 = .int .i64 ((i : Nat) : Int) ∧ τ 7 = .pointer (some ⟨b4, 0, none⟩) ∧ τ 8 = .int .i64 next ∧ τ 9 = .int .i64 0 ∧ τ 33 = .bool true ∧ τ 42 = .int .i64 (kindF x.kind 4) ∧ τ 91 = .bool true) ⟨up rfl (up rfl (up rfl (up rfl (up rfl (up rfl (up rfl hs0)))))), up rfl (up rfl (up rfl (up rfl (up rfl (up rfl (up rfl hs4)))))), up rfl (up rfl (up rfl (up rfl (up rfl (up rfl (up rfl hs5)))))), up rfl (up rfl (up rfl (up rfl (up rfl (up rfl (up rfl hs6)))))), up rfl (up rfl (up rfl (up rfl (up rfl (up rfl (up rfl hs7)))))), up rfl tp, tp, up rfl (up rfl (up rfl (up rfl (up rfl (up rfl (up rfl hs33)))))), up rfl (up rfl (up rfl (up rfl (up rfl (up rfl (up rfl hs42)))))), up rfl (up rfl (up rfl (up rfl (up rfl (up rfl (up rfl (Eq.trans hs91 (congrArg Value.bool hc5))))))))⟩ ?_
        rintro τ ⟨hs0, hs4, hs5, hs6, hs7, hs8, hs9, hs33, hs42, hs91⟩
        refine CW.seq ?_
        refine CW.seq ?_
        refine CW.region ?_
        refine RW.soft Wd.a (v := .int .i64 0) (by exact E.move (AF_ev rfl hs9)) ?_
        refine RW.soft Wd.a (v := .bool true) (by exact E.eql (k := .i64) (a := 0) (b := 0) (AF_ev rfl tp) rfl) ?_
        refine RW.soft Wd.a (v := .bool true) (by exact E.move (AF_ev rfl tp)) ?_
        refine RW.soft (by exact Wd.yes (x := 100) rfl (AF_ev rfl tp)) (v := .int .i64 next) (by exact E.move (AF_ev rfl (up rfl (up rfl (up rfl hs8))))) ?_
        refine RW.soft (by exact Wd.yes (x := 100) rfl (AF_ev rfl (up rfl tp))) (v := .int .i64 (next - 1)) (by exact E.move (AF_ev rfl (up rfl (up rfl (up rfl (up rfl hs5)))))) ?_
        refine RW.soft (by exact Wd.yes (x := 100) rfl (AF_ev rfl (up rfl (up rfl tp)))) (v := .int .i64 (next - 1 + 1)) (by exact E.add (k := .i64) (a := next - 1) (b := 1) (AF_ev rfl tp) rfl (show IntKind.i64.wrap ((next - 1) + 1) = next - 1 + 1 from (by rw [IntWalk.i64_in _ (by omega)] <;> omega))) ?_
        refine RW.soft (by exact Wd.yes (x := 100) rfl (AF_ev rfl (up rfl (up rfl (up rfl tp))))) (v := .bool false) (by exact E.b (a := next != (next - 1 + 1)) (E.neq (k := .i64) (a := next) (b := next - 1 + 1) (AF_ev rfl (up rfl (up rfl tp))) (AF_ev rfl tp)) (by rw [bne_eq_false_iff_eq]; omega)) ?_
        refine RW.soft Wd.a (v := .bool false) (by exact E.pickT (AF_ev rfl (up rfl (up rfl (up rfl (up rfl tp))))) (AF_ev rfl tp)) ?_
        refine RW.fin (fun τ => τ 0 = .slice (some ⟨b0, o0, none⟩) os.length c ∧ τ 4 = .pointer (some ⟨t1, 0, none⟩) ∧ τ 5 = .int .i64 (next - 1) ∧ τ 6 = .int .i64 ((i : Nat) : Int) ∧ τ 7 = .pointer (some ⟨b4, 0, none⟩) ∧ τ 8 = .int .i64 next ∧ τ 9 = .int .i64 0 ∧ τ 33 = .bool true ∧ τ 42 = .int .i64 (kindF x.kind 4) ∧ τ 91 = .bool true ∧ τ 105 = .bool false) ⟨up rfl (up rfl (up rfl (up rfl (up rfl (up rfl (up rfl (up rfl hs0))))))), up rfl (up rfl (up rfl (up rfl (up rfl (up rfl (up rfl (up rfl hs4))))))), up rfl (up rfl (up rfl (up rfl (up rfl (up rfl (up rfl (up rfl hs5))))))), up rfl (up rfl (up rfl (up rfl (up rfl (up rfl (up rfl (up rfl hs6))))))), up rfl (up rfl (up rfl (up rfl (up rfl (up rfl (up rfl (up rfl hs7))))))), up rfl (up rfl (up rfl (up rfl (up rfl (up rfl (up rfl (up rfl hs8))))))), up rfl (up rfl (up rfl (up rfl (up rfl (up rfl (up rfl (up rfl hs9))))))), up rfl (up rfl (up rfl (up rfl (up rfl (up rfl (up rfl (up rfl hs33))))))), up rfl (up rfl (up rfl (up rfl (up rfl (up rfl (up rfl (up rfl hs42))))))), up rfl (up rfl (up rfl (up rfl (up rfl (up rfl (up rfl (up rfl hs91))))))), tp⟩ ?_
        rintro τ ⟨hs0, hs4, hs5, hs6, hs7, hs8, hs9, hs33, hs42, hs91, hs105⟩
        refine CW.condF (AF_ev rfl hs105) ?_
        refine CW.skip ?_
        refine Th.n ?_
        refine CW.seq ?_
        refine CW.region ?_
        refine RW.soft Wd.a (v := .int .i64 0) (by exact E.move (AF_ev rfl hs9)) ?_
        refine RW.soft Wd.a (v := .bool true) (by exact E.eql (k := .i64) (a := 0) (b := 0) (AF_ev rfl tp) rfl) ?_
        refine RW.fin (fun τ => τ 0 = .slice (some ⟨b0, o0, none⟩) os.length c ∧ τ 4 = .pointer (some ⟨t1, 0, none⟩) ∧ τ 5 = .int .i64 (next - 1) ∧ τ 6 = .int .i64 ((i : Nat) : Int) ∧ τ 7 = .pointer (some ⟨b4, 0, none⟩) ∧ τ 8 = .int .i64 next ∧ τ 9 = .int .i64 0 ∧ τ 33 = .bool true ∧ τ 42 = .int .i64 (kindF x.kind 4) ∧ τ 91 = .bool true ∧ τ 105 = .bool false ∧ τ 107 = .bool true) ⟨up rfl (up rfl hs0), up rfl (up rfl hs4), up rfl (up rfl hs5), up rfl (up rfl hs6), up rfl (up rfl hs7), up rfl (up rfl hs8), up rfl (up rfl hs9), up rfl (up rfl hs33), up rfl (up rfl hs42), up rfl (up rfl hs91), up rfl (up rfl hs105), tp⟩ ?_
        rintro τ ⟨hs0, hs4, hs5, hs6, hs7, hs8, hs9, hs33, hs42, hs91, hs105, hs107⟩
        refine CW.condT (AF_ev rfl hs107) ?_
        refine CW.region ?_
        refine RW.soft Wd.a (v := .int .i64 next) (by exact E.move (AF_ev rfl hs8)) ?_
        refine RW.soft Wd.a (v := .int .i64 next) (by exact E.assign (AF_ev rfl tp)) ?_
        refine RW.nil ?_
        refine Bl.n ?_
        refine Bl.n ?_
        refine Th.n ?_
        refine CW.region ?_
        refine RW.soft Wd.a (v := .int .i64 ((i : Nat) : Int)) (by exact E.move (AF_ev rfl (up rfl (up rfl hs6)))) ?_
        refine RW.soft Wd.a (v := .int .i64 (((i : Nat) : Int) + 1)) (by exact E.add (k := .i64) (a := ((i : Nat) : Int)) (b := 1) (AF_ev rfl tp) rfl (show IntKind.i64.wrap (((i : Nat) : Int) + 1) = ((i : Nat) : Int) + 1 from (by rw [IntWalk.i64_in _ (by omega)]))) ?_
        refine RW.soft Wd.a (v := .int .i64 (((i : Nat) : Int) + 1)) (by exact E.assign (AF_ev rfl tp)) ?_
        refine RW.nil ?_
        refine Th.n ?_
        have hle0 := hp0
        have hst := (hst.take (.there .here)).drop
        have hst := (hst.take (.there .here)).drop
        exact ⟨os.length - (i + 1), by omega, p, (lput L next (0, Rp.zero)), (next + 1), i + 1, hp0, hO, hK, (hok.put next (by omega)), by omega, by omega, by omega, up rfl (up rfl (up rfl (up rfl (up rfl hs0)))), up rfl (up rfl (up rfl (up rfl (up rfl hs4)))), (int_eq (a := next) (up rfl (up rfl (up rfl tp))) (by omega)), (int_eq (a := ((i : Nat) : Int) + 1) tp (by omega)), hst⟩
    · have hc5_ := hc5
      try simp only [decide_eq_true_eq, decide_eq_false_iff_not, Bool.and_eq_true, Bool.or_eq_true, Bool.and_eq_false_iff, Bool.or_eq_false_iff, Bool.not_eq_true', Bool.not_eq_false', beq_iff_eq, beq_eq_false_iff_ne, bne_iff_ne, bne_eq_false_iff_eq, ne_eq, Int.not_lt, Int.not_le, gt_iff_lt, ge_iff_le] at hc5_
      refine CW.seq ?_
      refine CW.region ?_
      refine RW.soft Wd.a (v := .bool ((kindF x.kind 4) == 1)) (by exact E.eql (k := .i64) (a := kindF x.kind 4) (b := 1) (AF_ev rfl hs42) rfl) ?_
      refine RW.soft Wd.a (v := .bool ((kindF x.kind 4) == 1)) (by exact E.assign (AF_ev rfl tp)) ?_
      refine RW.fin (fun τ => τ 0 = .slice (some ⟨b0, o0, none⟩) os.length c ∧ τ 4 = .pointer (some ⟨t1, 0, none⟩) ∧ τ 5 = .int .i64 (next - 1) ∧ τ 6 = .int .i64 ((i : Nat) : Int) ∧ τ 7 = .pointer (some ⟨b4, 0, none⟩) ∧ τ 33 = .bool true ∧ τ 42 = .int .i64 (kindF x.kind 4) ∧ τ 91 = .bool false ∧ τ 109 = .bool ((kindF x.kind 4) == 1)) ⟨up rfl (up rfl hs0), up rfl (up rfl hs4), up rfl (up rfl hs5), up rfl (up rfl hs6), up rfl (up rfl hs7), up rfl (up rfl hs33), up rfl (up rfl hs42), up rfl (up rfl (Eq.trans hs91 (congrArg Value.bool hc5))), tp⟩ ?_
      rintro τ ⟨hs0, hs4, hs5, hs6, hs7, hs33, hs42, hs91, hs109⟩
      refine CW.cond (AF_ev rfl hs109) (fun hc6 => ?_) (fun hc6 => ?_)
      · have hc6_ := hc6
        try simp only [decide_eq_true_eq, decide_eq_false_iff_not, Bool.and_eq_true, Bool.or_eq_true, Bool.and_eq_false_iff, Bool.or_eq_false_iff, Bool.not_eq_true', Bool.not_eq_false', beq_iff_eq, beq_eq_false_iff_ne, bne_iff_ne, bne_eq_false_iff_eq, ne_eq, Int.not_lt, Int.not_le, gt_iff_lt, ge_iff_le] at hc6_
        refine CW.seq ?_
        refine CW.region ?_
        refine RW.soft Wd.a (v := .pointer (some ⟨t1, 0, none⟩)) (by exact E.move (AF_ev rfl hs4)) ?_
        refine RW.soft Wd.a (v := .pointer (some ⟨b4, 1, none⟩)) (by exact E.fieldAddr (b := b4) (o := 0) (f := { name := "Id", type := 3, offset := 1, embedded := false, tag := "", pkgPath := "", byteOffset := 8 }) (AF_ev rfl (up rfl hs7)) Try.underlying31 rfl sz3 rfl) ?_
        refine RW.soft Wd.a (v := .int .i64 x.id) (by exact E.load (a := ⟨b4, 1, none⟩) Try.underlying3 rfl (AF_ev rfl tp) (hst.cell .here rfl)) ?_
        have hst := hst.take (.there (.there .here))
        refine RW.hard Wd.a ?_
        refine H.call0 Try.func19 nm19 rfl (map2 (AF_ev rfl (up rfl (up rfl tp))) (AF_ev rfl tp)) (Calls.mono (Expire_C (L' := expL L x.id) (e := expE L x.id) x.id rfl rfl hst) ?_)
        rintro _ w ⟨rfl, hst⟩
        refine ⟨_, rfl, ?_⟩
        show RW _ _ _ _ _ _ _
        refine RW.fin (fun τ => τ 0 = .slice (some ⟨b0, o0, none⟩) os.length c ∧ τ 4 = .pointer (some ⟨t1, 0, none⟩) ∧ τ 5 = .int .i64 (next - 1) ∧ τ 6 = .int .i64 ((i : Nat) : Int) ∧ τ 7 = .pointer (some ⟨b4, 0, none⟩) ∧ τ 33 = .bool true ∧ τ 42 = .int .i64 (kindF x.kind 4) ∧ τ 91 = .bool false ∧ τ 109 = .bool true) ⟨up rfl (up rfl (up rfl (up rfl hs0))), up rfl (up rfl (up rfl (up rfl hs4))), up rfl (up rfl (up rfl (up rfl hs5))), up rfl (up rfl (up rfl (up rfl hs6))), up rfl (up rfl (up rfl (up rfl hs7))), up rfl (up rfl (up rfl (up rfl hs33))), up rfl (up rfl (up rfl (up rfl hs42))), up rfl (up rfl (up rfl (up rfl hs91))), up rfl (up rfl (up rfl (up rfl (Eq.trans hs109 (congrArg Value.bool hc6)))))⟩ ?_
        rintro τ ⟨hs0, hs4, hs5, hs6, hs7, hs33, hs42, hs91, hs109⟩
        refine CW.seq ?_
        refine CW.region ?_
        refine RW.soft Wd.a (v := .pointer (some ⟨t1, 0, none⟩)) (by exact E.move (AF_ev rfl hs4)) ?_
        refine RW.soft Wd.a (v := .pointer (some ⟨b4, 1, none⟩)) (by exact E.fieldAddr (b := b4) (o := 0) (f := { name := "Id", type := 3, offset := 1, embedded := false, tag := "", pkgPath := "", byteOffset := 8 }) (AF_ev rfl (up rfl hs7)) Try.underlying31 rfl sz3 rfl) ?_
        refine RW.soft Wd.a (v := .int .i64 x.id) (by exact E.load (a := ⟨b4, 1, none⟩) Try.underlying3 rfl (AF_ev rfl tp) (hst.cell (.there .here) rfl)) ?_
        refine RW.soft Wd.a (v := .pointer (some ⟨b4, 2, none⟩)) (by exact E.fieldAddr (b := b4) (o := 0) (f := { name := "Seq", type := 3, offset := 2, embedded := false, tag := "", pkgPath := "", byteOffset := 16 }) (AF_ev rfl (up rfl (up rfl (up rfl hs7)))) Try.underlying31 rfl sz3 rfl) ?_
        refine RW.soft Wd.a (v := .int .i64 x.seq) (by exact E.load (a := ⟨b4, 2, none⟩) Try.underlying3 rfl (AF_ev rfl tp) (hst.cell (.there .here) rfl)) ?_
        refine RW.hard Wd.a ?_
        refine H.call0 Try.func20 nm20 rfl (map3 (AF_ev rfl (up rfl (up rfl (up rfl (up rfl tp))))) (AF_ev rfl (up rfl (up rfl tp))) (AF_ev rfl tp)) (Calls.mono (Ask_C (r := askR (expL L x.id) x.id x.seq) (sn := askS (expL L x.id) x.id x.seq) (e := 150) x.id x.seq rfl rfl (exp_askE hok _ _) hst) ?_)
        rintro _ w ⟨vX7, rfl, hbX7, hst⟩
        obtain ⟨X7, c8, rfl, hcX7, hmX7, hlX7, hbbX7⟩ := hst.shape
        refine ⟨_, rfl, ?_⟩
        show RW _ _ _ _ _ _ _
        refine RW.soft Wd.a (v := .tuple #[.agg #[.int .i64 ((askR (expL L x.id) x.id x.seq).c), .int .i64 ((askR (expL L x.id) x.id x.seq).a), .int .i64 ((askR (expL L x.id) x.id x.seq).b), .slice X7 (((askR (expL L x.id) x.id x.seq).bs).length) c8], .bool (askS (expL L x.id) x.id x.seq), .int .i64 150]) (by exact E.move (AF_ev rfl tp)) ?_
        refine RW.soft Wd.a (v := .agg #[.int .i64 ((askR (expL L x.id) x.id x.seq).c), .int .i64 ((askR (expL L x.id) x.id x.seq).a), .int .i64 ((askR (expL L x.id) x.id x.seq).b), .slice X7 (((askR (expL L x.id) x.id x.seq).bs).length) c8]) (by exact E.extract (vs := #[.agg #[.int .i64 ((askR (expL L x.id) x.id x.seq).c), .int .i64 ((askR (expL L x.id) x.id x.seq).a), .int .i64 ((askR (expL L x.id) x.id x.seq).b), .slice X7 (((askR (expL L x.id) x.id x.seq).bs).length) c8], .bool (askS (expL L x.id) x.id x.seq), .int .i64 150]) (AF_ev rfl tp) rfl) ?_
        refine RW.soft Wd.a (v := .bool (askS (expL L x.id) x.id x.seq)) (by exact E.extract (vs := #[.agg #[.int .i64 ((askR (expL L x.id) x.id x.seq).c), .int .i64 ((askR (expL L x.id) x.id x.seq).a), .int .i64 ((askR (expL L x.id) x.id x.seq).b), .slice X7 (((askR (expL L x.id) x.id x.seq).bs).length) c8], .bool (askS (expL L x.id) x.id x.seq), .int .i64 150]) (AF_ev rfl (up rfl tp)) rfl) ?_
        refine RW.soft Wd.a (v := .int .i64 150) (by exact E.extract (vs := #[.agg #[.int .i64 ((askR (expL L x.id) x.id x.seq).c), .int .i64 ((askR (expL L x.id) x.id x.seq).a), .int .i64 ((askR (expL L x.id) x.id x.seq).b), .slice X7 (((askR (expL L x.id) x.id x.seq).bs).length) c8], .bool (askS (expL L x.id) x.id x.seq), .int .i64 150]) (AF_ev rfl (up rfl (up rfl tp))) rfl) ?_
        refine RW.hard Wd.a ?_
        refine H.alloc zr29 hst fun b9 w hst => ?_
        refine RW.hard Wd.a ?_
        refine H.store (b := b9) (o := 0) (v := .agg #[.int .i64 ((askR (expL L x.id) x.id x.seq).c), .int .i64 ((askR (expL L x.id) x.id x.seq).a), .int .i64 ((askR (expL L x.id) x.id x.seq).b), .slice X7 (((askR (expL L x.id) x.id x.seq).bs).length) c8]) (c' := #[.int .i64 ((askR (expL L x.id) x.id x.seq).c), .int .i64 ((askR (expL L x.id) x.id x.seq).a), .int .i64 ((askR (expL L x.id) x.id x.seq).b), .slice X7 (((askR (expL L x.id) x.id x.seq).bs).length) c8]) (AF_ev rfl tp) (AF_ev rfl (up rfl (up rfl (up rfl tp)))) hst .here sz29 (by simp [Value.cells]) (by simp [Value.cells, Value.oneCell']) rfl fun w hst => ?_
        refine RW.soft Wd.a (v := .bool (askS (expL L x.id) x.id x.seq)) (by exact E.assign (AF_ev rfl (u0 (up rfl (up rfl tp))))) ?_
        refine RW.soft Wd.a (v := .int .i64 150) (by exact E.assign (AF_ev rfl (up rfl (u0 (up rfl tp))))) ?_
        refine RW.fin (fun τ => τ 0 = .slice (some ⟨b0, o0, none⟩) os.length c ∧ τ 4 = .pointer (some ⟨t1, 0, none⟩) ∧ τ 5 = .int .i64 (next - 1) ∧ τ 6 = .int .i64 ((i : Nat) : Int) ∧ τ 7 = .pointer (some ⟨b4, 0, none⟩) ∧ τ 12 = .int .i64 150 ∧ τ 33 = .bool true ∧ τ 42 = .int .i64 (kindF x.kind 4) ∧ τ 91 = .bool false ∧ τ 109 = .bool true) ⟨up rfl (up rfl (u0 (up rfl (up rfl (up rfl (up rfl (up rfl (up rfl (up rfl (up rfl (up rfl (up rfl (up rfl hs0))))))))))))), up rfl (up rfl (u0 (up rfl (up rfl (up rfl (up rfl (up rfl (up rfl (up rfl (up rfl (up rfl (up rfl (up rfl hs4))))))))))))), up rfl (up rfl (u0 (up rfl (up rfl (up rfl (up rfl (up rfl (up rfl (up rfl (up rfl (up rfl (up rfl (up rfl hs5))))))))))))), up rfl (up rfl (u0 (up rfl (up rfl (up rfl (up rfl (up rfl (up rfl (up rfl (up rfl (up rfl (up rfl (up rfl hs6))))))))))))), up rfl (up rfl (u0 (up rfl (up rfl (up rfl (up rfl (up rfl (up rfl (up rfl (up rfl (up rfl (up rfl (up rfl hs7))))))))))))), tp, up rfl (up rfl (u0 (up rfl (up rfl (up rfl (up rfl (up rfl (up rfl (up rfl (up rfl (up rfl (up rfl (up rfl hs33))))))))))))), up rfl (up rfl (u0 (up rfl (up rfl (up rfl (up rfl (up rfl (up rfl (up rfl (up rfl (up rfl (up rfl (up rfl hs42))))))))))))), up rfl (up rfl (u0 (up rfl (up rfl (up rfl (up rfl (up rfl (up rfl (up rfl (up rfl (up rfl (up rfl (up rfl hs91))))))))))))), up rfl (up rfl (u0 (up rfl (up rfl (up rfl (up rfl (up rfl (up rfl (up rfl (up rfl (up rfl (up rfl (up rfl hs109)))))))))))))⟩ ?_
        rintro τ ⟨hs0, hs4, hs5, hs6, hs7, hs12, hs33, hs42, hs91, hs109⟩
        refine CW.seq ?_
        refine CW.region ?_
        refine RW.soft Wd.a (v := .int .i64 150) (by exact E.move (AF_ev rfl hs12)) ?_
        refine RW.soft Wd.a (v := .bool false) (by exact E.neq (k := .i64) (a := 150) (b := 150) (AF_ev rfl tp) rfl) ?_
        refine RW.fin (fun τ => τ 0 = .slice (some ⟨b0, o0, none⟩) os.length c ∧ τ 4 = .pointer (some ⟨t1, 0, none⟩) ∧ τ 5 = .int .i64 (next - 1) ∧ τ 6 = .int .i64 ((i : Nat) : Int) ∧ τ 7 = .pointer (some ⟨b4, 0, none⟩) ∧ τ 12 = .int .i64 150 ∧ τ 33 = .bool true ∧ τ 42 = .int .i64 (kindF x.kind 4) ∧ τ 91 = .bool false ∧ τ 109 = .bool true ∧ τ 126 = .bool false) ⟨up rfl (up rfl hs0), up rfl (up rfl hs4), up rfl (up rfl hs5), up rfl (up rfl hs6), up rfl (up rfl hs7), up rfl (up rfl hs12), up rfl (up rfl hs33), up rfl (up rfl hs42), up rfl (up rfl hs91), up rfl (up rfl hs109), tp⟩ ?_
        rintro τ ⟨hs0, hs4, hs5, hs6, hs7, hs12, hs33, hs42, hs91, hs109, hs126⟩
        refine CW.condF (AF_ev rfl hs126) ?_
        refine CW.skip ?_
        refine Bl.n ?_
        refine Bl.n ?_
        refine Th.n ?_
        refine CW.region ?_
        refine RW.soft Wd.a (v := .int .i64 ((i : Nat) : Int)) (by exact E.move (AF_ev rfl hs6)) ?_
        refine RW.soft Wd.a (v := .int .i64 (((i : Nat) : Int) + 1)) (by exact E.add (k := .i64) (a := ((i : Nat) : Int)) (b := 1) (AF_ev rfl tp) rfl (show IntKind.i64.wrap (((i : Nat) : Int) + 1) = ((i : Nat) : Int) + 1 from (by rw [IntWalk.i64_in _ (by omega)]))) ?_
        refine RW.soft Wd.a (v := .int .i64 (((i : Nat) : Int) + 1)) (by exact E.assign (AF_ev rfl tp)) ?_
        refine RW.nil ?_
        refine Th.n ?_
        have hle0 := hp0
        have hst := hst.take (.there (.there .here))
        have hst := (hst.take (.there .here)).drop
        have hst := (hst.take (.there .here)).drop
        have hst := (hst.take (.there .here)).drop
        have hst := (hst.take (.there .here)).drop
        exact ⟨os.length - (i + 1), by omega, p, (expL L x.id), next, i + 1, hp0, hO, hK, (hok.exp _), by omega, by omega, by omega, up rfl (up rfl (up rfl hs0)), up rfl (up rfl (up rfl hs4)), up rfl (up rfl (up rfl hs5)), (int_eq (a := ((i : Nat) : Int) + 1) tp (by omega)), hst⟩
      · have hc6_ := hc6
        try simp only [decide_eq_true_eq, decide_eq_false_iff_not, Bool.and_eq_true, Bool.or_eq_true, Bool.and_eq_false_iff, Bool.or_eq_false_iff, Bool.not_eq_true', Bool.not_eq_false', beq_iff_eq, beq_eq_false_iff_ne, bne_iff_ne, bne_eq_false_iff_eq, ne_eq, Int.not_lt, Int.not_le, gt_iff_lt, ge_iff_le] at hc6_
        refine CW.seq ?_
        refine CW.regionD [0, 1, 2, 3, 4, 5, 6, 9] (fun w => w.cell? ⟨b4, 1, none⟩ = some (.int .i64 x.id) ∧ w.cell? ⟨b4, 2, none⟩ = some (.int .i64 x.seq) ∧ (∀ j v, ([.int .i64 x.c0, .int .i64 x.c1, .int .i64 x.c2, .slice x.X x.ns.length x.cap] : List Value)[j]? = some v → w.cell? ⟨b4, 3 + j, none⟩ = some v)) mixed ?_
        have hst := hst.drew
        generalize w.drew = w at hst ⊢
        have hS : w.cell? ⟨b4, 1, none⟩ = some (.int .i64 x.id) ∧ w.cell? ⟨b4, 2, none⟩ = some (.int .i64 x.seq) ∧ (∀ j v, ([.int .i64 x.c0, .int .i64 x.c1, .int .i64 x.c2, .slice x.X x.ns.length x.cap] : List Value)[j]? = some v → w.cell? ⟨b4, 3 + j, none⟩ = some v) := ⟨hst.cell .here rfl, hst.cell .here rfl, hst.cellsIn .here rfl⟩
        refine RD.take 0 rfl (by kernel_rfl) Wd.a (v := .pointer (some ⟨t1, 0, none⟩)) (fun w hS => by exact E.move (AF_ev rfl hs4)) hS ?_
        refine RD.take 1 rfl (by kernel_rfl) Wd.a (v := .pointer (some ⟨b4, 1, none⟩)) (fun w hS => by exact E.fieldAddr (b := b4) (o := 0) (f := { name := "Id", type := 3, offset := 1, embedded := false, tag := "", pkgPath := "", byteOffset := 8 }) (AF_ev rfl (up rfl hs7)) Try.underlying31 rfl sz3 rfl) hS ?_
        refine RD.take 2 rfl (by kernel_rfl) Wd.a (v := .int .i64 x.id) (fun w hS => by exact E.load (a := ⟨b4, 1, none⟩) Try.underlying3 rfl (AF_ev rfl tp) hS.1) hS ?_
        refine RD.take 3 rfl (by kernel_rfl) Wd.a (v := .pointer (some ⟨b4, 2, none⟩)) (fun w hS => by exact E.fieldAddr (b := b4) (o := 0) (f := { name := "Seq", type := 3, offset := 2, embedded := false, tag := "", pkgPath := "", byteOffset := 16 }) (AF_ev rfl (up rfl (up rfl (up rfl hs7)))) Try.underlying31 rfl sz3 rfl) hS ?_
        refine RD.take 4 rfl (by kernel_rfl) Wd.a (v := .int .i64 x.seq) (fun w hS => by exact E.load (a := ⟨b4, 2, none⟩) Try.underlying3 rfl (AF_ev rfl tp) hS.2.1) hS ?_
        refine RD.take 5 rfl (by kernel_rfl) Wd.a (v := .pointer (some ⟨b4, 3, none⟩)) (fun w hS => by exact E.fieldAddr (b := b4) (o := 0) (f := { name := "R", type := 29, offset := 3, embedded := false, tag := "", pkgPath := "", byteOffset := 24 }) (AF_ev rfl (up rfl (up rfl (up rfl (up rfl (up rfl hs7)))))) Try.underlying31 rfl sz29 rfl) hS ?_
        refine RD.take 6 rfl (by kernel_rfl) Wd.a (v := .agg #[.int .i64 x.c0, .int .i64 x.c1, .int .i64 x.c2, .slice x.X x.ns.length x.cap]) (fun w hS => by exact E.loadN (b := b4) (o := 3) (cs := [.int .i64 x.c0, .int .i64 x.c1, .int .i64 x.c2, .slice x.X x.ns.length x.cap]) Try.underlying29 rfl sz29 (AF_ev rfl tp) rfl hS.2.2) hS ?_
        have hst := hst.take (.there .here)
        refine RD.only 7 rfl (by kernel_rfl) Wd.a ?_
        refine H.call0 Try.func22 nm22 rfl (map1 (AF_ev rfl tp)) (Calls.mono (law15_own_ (A := Emp) (fun w H s => hE.src s) x.c0 x.c1 x.c2 hst) ?_)
        rintro _ w ⟨vX10, rfl, hnX10, hst⟩
        obtain ⟨X10, c11, rfl, hcX10, hmX10, hlX10, hbX10⟩ := hst.shape
        refine ⟨_, rfl, ?_⟩
        have hS : w.cell? ⟨b4, 1, none⟩ = some (.int .i64 x.id) ∧ w.cell? ⟨b4, 2, none⟩ = some (.int .i64 x.seq) ∧ (∀ j v, ([.int .i64 x.c0, .int .i64 x.c1, .int .i64 x.c2, .slice x.X x.ns.length x.cap] : List Value)[j]? = some v → w.cell? ⟨b4, 3 + j, none⟩ = some v) := ⟨hst.cell (.there (.there .here)) rfl, hst.cell (.there (.there .here)) rfl, hst.cellsIn (.there (.there .here)) rfl⟩
        refine ⟨fun _ => hS, ?_⟩
        have hst := hst.take (.there (.there (.there .here)))
        refine RD.only 8 rfl (by kernel_rfl) Wd.a ?_
        refine H.call0 Try.func21 nm21 rfl (map4 (AF_ev rfl (up rfl (up rfl (up rfl (up rfl (up rfl (up rfl (up rfl tp)))))))) (AF_ev rfl (up rfl (up rfl (up rfl (up rfl (up rfl tp)))))) (AF_ev rfl (up rfl (up rfl (up rfl tp)))) (AF_ev rfl tp)) (Calls.mono (Done_C (A := Own 5 1 (.slice X10 ((x.ns.take 100).length) c11) ((x.ns.take 100).length) (bv (x.ns.take 100))) (Y := X10) (d := c11) (L' := doneL L x.id x.seq ⟨x.c0, x.c1, x.c2, (x.ns.take 100)⟩) (e := doneE L x.id x.seq) x.id x.seq x.c0 x.c1 x.c2 (x.ns.take 100) rfl rfl (fun w H s => Own.src s) (by first | omega | (simp; done) | (simp; omega)) hst) ?_)
        rintro _ w ⟨p, hle, rfl, hst⟩
        have hO := hO.le hle
        have hK := hK.le hle
        have hp0 := hp0.le hle
        have hE := hE.le hle
        refine ⟨_, rfl, ?_⟩
        have hS : w.cell? ⟨b4, 1, none⟩ = some (.int .i64 x.id) ∧ w.cell? ⟨b4, 2, none⟩ = some (.int .i64 x.seq) ∧ (∀ j v, ([.int .i64 x.c0, .int .i64 x.c1, .int .i64 x.c2, .slice x.X x.ns.length x.cap] : List Value)[j]? = some v → w.cell? ⟨b4, 3 + j, none⟩ = some v) := ⟨hst.cell (.there (.there (.there .here))) rfl, hst.cell (.there (.there (.there .here))) rfl, hst.cellsIn (.there (.there (.there .here))) rfl⟩
        refine ⟨fun _ => hS, ?_⟩
        refine RD.take 9 rfl (by kernel_rfl) Wd.a (v := .int .i64 (doneE L x.id x.seq)) (fun w hS => by exact E.assign (AF_ev rfl tp)) hS ?_
        refine RD.fin (by kernel_rfl) (fun τ => τ 0 = .slice (some ⟨b0, o0, none⟩) os.length c ∧ τ 4 = .pointer (some ⟨t1, 0, none⟩) ∧ τ 5 = .int .i64 (next - 1) ∧ τ 6 = .int .i64 ((i : Nat) : Int) ∧ τ 7 = .pointer (some ⟨b4, 0, none⟩) ∧ τ 13 = .int .i64 (doneE L x.id x.seq) ∧ τ 33 = .bool true ∧ τ 42 = .int .i64 (kindF x.kind 4) ∧ τ 91 = .bool false ∧ τ 109 = .bool false) ⟨up rfl (up rfl (up rfl (up rfl (up rfl (up rfl (up rfl (up rfl (up rfl (up rfl hs0))))))))), up rfl (up rfl (up rfl (up rfl (up rfl (up rfl (up rfl (up rfl (up rfl (up rfl hs4))))))))), up rfl (up rfl (up rfl (up rfl (up rfl (up rfl (up rfl (up rfl (up rfl (up rfl hs5))))))))), up rfl (up rfl (up rfl (up rfl (up rfl (up rfl (up rfl (up rfl (up rfl (up rfl hs6))))))))), up rfl (up rfl (up rfl (up rfl (up rfl (up rfl (up rfl (up rfl (up rfl (up rfl hs7))))))))), tp, up rfl (up rfl (up rfl (up rfl (up rfl (up rfl (up rfl (up rfl (up rfl (up rfl hs33))))))))), up rfl (up rfl (up rfl (up rfl (up rfl (up rfl (up rfl (up rfl (up rfl (up rfl hs42))))))))), up rfl (up rfl (up rfl (up rfl (up rfl (up rfl (up rfl (up rfl (up rfl (up rfl hs91))))))))), up rfl (up rfl (up rfl (up rfl (up rfl (up rfl (up rfl (up rfl (up rfl (up rfl (Eq.trans hs109 (congrArg Value.bool hc6)))))))))))⟩ ?_
        rintro τ ⟨hs0, hs4, hs5, hs6, hs7, hs13, hs33, hs42, hs91, hs109⟩
        refine CW.seq ?_
        refine CW.seq ?_
        refine CW.region ?_
        refine RW.soft Wd.a (v := .int .i64 (doneE L x.id x.seq)) (by exact E.move (AF_ev rfl hs13)) ?_
        refine RW.soft Wd.a (v := .bool ((doneE L x.id x.seq) != 0)) (by exact E.neq (k := .i64) (a := doneE L x.id x.seq) (b := 0) (AF_ev rfl tp) rfl) ?_
        refine RW.fin (fun τ => τ 0 = .slice (some ⟨b0, o0, none⟩) os.length c ∧ τ 4 = .pointer (some ⟨t1, 0, none⟩) ∧ τ 5 = .int .i64 (next - 1) ∧ τ 6 = .int .i64 ((i : Nat) : Int) ∧ τ 7 = .pointer (some ⟨b4, 0, none⟩) ∧ τ 13 = .int .i64 (doneE L x.id x.seq) ∧ τ 33 = .bool true ∧ τ 42 = .int .i64 (kindF x.kind 4) ∧ τ 53 = .bool ((doneE L x.id x.seq) != 0) ∧ τ 91 = .bool false ∧ τ 109 = .bool false) ⟨up rfl (up rfl hs0), up rfl (up rfl hs4), up rfl (up rfl hs5), up rfl (up rfl hs6), up rfl (up rfl hs7), up rfl (up rfl hs13), up rfl (up rfl hs33), up rfl (up rfl hs42), tp, up rfl (up rfl hs91), up rfl (up rfl hs109)⟩ ?_
        rintro τ ⟨hs0, hs4, hs5, hs6, hs7, hs13, hs33, hs42, hs53, hs91, hs109⟩
        refine CW.cond (AF_ev rfl hs53) (fun hc12 => ?_) (fun hc12 => ?_)
        · have hc12_ := hc12
          try simp only [decide_eq_true_eq, decide_eq_false_iff_not, Bool.and_eq_true, Bool.or_eq_true, Bool.and_eq_false_iff, Bool.or_eq_false_iff, Bool.not_eq_true', Bool.not_eq_false', beq_iff_eq, beq_eq_false_iff_ne, bne_iff_ne, bne_eq_false_iff_eq, ne_eq, Int.not_lt, Int.not_le, gt_iff_lt, ge_iff_le] at hc12_
          refine CW.exit ?_
          refine Th.x ?_
          refine Bl.y (by decide) ?_
          refine Bl.x ?_
          refine Th.n ?_
          refine CW.region ?_
          refine RW.soft Wd.a (v := .int .i64 ((i : Nat) : Int)) (by exact E.move (AF_ev rfl hs6)) ?_
          refine RW.soft Wd.a (v := .int .i64 (((i : Nat) : Int) + 1)) (by exact E.add (k := .i64) (a := ((i : Nat) : Int)) (b := 1) (AF_ev rfl tp) rfl (show IntKind.i64.wrap (((i : Nat) : Int) + 1) = ((i : Nat) : Int) + 1 from (by rw [IntWalk.i64_in _ (by omega)]))) ?_
          refine RW.soft Wd.a (v := .int .i64 (((i : Nat) : Int) + 1)) (by exact E.assign (AF_ev rfl tp)) ?_
          refine RW.nil ?_
          refine Th.n ?_
          have hle0 := hp0
          have hst := (hst.take (.there .here)).drop
          have hst := (hst.take (.there .here)).drop
          have hst := (hst.take (.there .here)).drop
          exact ⟨os.length - (i + 1), by omega, p, (doneL L x.id x.seq ⟨x.c0, x.c1, x.c2, (x.ns.take 100)⟩), next, i + 1, hp0, hO, hK, (hok.done _ _ _), by omega, by omega, by omega, up rfl (up rfl (up rfl hs0)), up rfl (up rfl (up rfl hs4)), up rfl (up rfl (up rfl hs5)), (int_eq (a := ((i : Nat) : Int) + 1) tp (by omega)), hst⟩
        · have hc12_ := hc12
          try simp only [decide_eq_true_eq, decide_eq_false_iff_not, Bool.and_eq_true, Bool.or_eq_true, Bool.and_eq_false_iff, Bool.or_eq_false_iff, Bool.not_eq_true', Bool.not_eq_false', beq_iff_eq, beq_eq_false_iff_ne, bne_iff_ne, bne_eq_false_iff_eq, ne_eq, Int.not_lt, Int.not_le, gt_iff_lt, ge_iff_le] at hc12_
          refine CW.skip ?_
          refine Th.n ?_
          refine CW.seq ?_
          refine CW.region ?_
          refine RW.soft Wd.a (v := .pointer (some ⟨t1, 0, none⟩)) (by exact E.move (AF_ev rfl hs4)) ?_
          refine RW.soft Wd.a (v := .pointer (some ⟨b4, 1, none⟩)) (by exact E.fieldAddr (b := b4) (o := 0) (f := { name := "Id", type := 3, offset := 1, embedded := false, tag := "", pkgPath := "", byteOffset := 8 }) (AF_ev rfl (up rfl hs7)) Try.underlying31 rfl sz3 rfl) ?_
          refine RW.soft Wd.a (v := .int .i64 x.id) (by exact E.load (a := ⟨b4, 1, none⟩) Try.underlying3 rfl (AF_ev rfl tp) (hst.cell (.there (.there (.there .here))) rfl)) ?_
          refine RW.soft Wd.a (v := .pointer (some ⟨b4, 2, none⟩)) (by exact E.fieldAddr (b := b4) (o := 0) (f := { name := "Seq", type := 3, offset := 2, embedded := false, tag := "", pkgPath := "", byteOffset := 16 }) (AF_ev rfl (up rfl (up rfl (up rfl hs7)))) Try.underlying31 rfl sz3 rfl) ?_
          refine RW.soft Wd.a (v := .int .i64 x.seq) (by exact E.load (a := ⟨b4, 2, none⟩) Try.underlying3 rfl (AF_ev rfl tp) (hst.cell (.there (.there (.there .here))) rfl)) ?_
          refine RW.hard Wd.a ?_
          refine H.call0 Try.func20 nm20 rfl (map3 (AF_ev rfl (up rfl (up rfl (up rfl (up rfl tp))))) (AF_ev rfl (up rfl (up rfl tp))) (AF_ev rfl tp)) (Calls.mono (Ask_C (r := ⟨x.c0, x.c1, x.c2, (x.ns.take 100)⟩) (sn := true) (e := 0) x.id x.seq (done_askR hok ‹_›) (done_askS hok ‹_›) (done_askE hok ‹_›) hst) ?_)
          rintro _ w ⟨vX13, rfl, hbX13, hst⟩
          obtain ⟨X13, c14, rfl, hcX13, hmX13, hlX13, hbbX13⟩ := hst.shape
          refine ⟨_, rfl, ?_⟩
          show RW _ _ _ _ _ _ _
          refine RW.soft Wd.a (v := .tuple #[.agg #[.int .i64 x.c0, .int .i64 x.c1, .int .i64 x.c2, .slice X13 ((x.ns.take 100).length) c14], .bool true, .int .i64 0]) (by exact E.move (AF_ev rfl tp)) ?_
          refine RW.soft Wd.a (v := .agg #[.int .i64 x.c0, .int .i64 x.c1, .int .i64 x.c2, .slice X13 ((x.ns.take 100).length) c14]) (by exact E.extract (vs := #[.agg #[.int .i64 x.c0, .int .i64 x.c1, .int .i64 x.c2, .slice X13 ((x.ns.take 100).length) c14], .bool true, .int .i64 0]) (AF_ev rfl tp) rfl) ?_
          refine RW.soft Wd.a (v := .bool true) (by exact E.extract (vs := #[.agg #[.int .i64 x.c0, .int .i64 x.c1, .int .i64 x.c2, .slice X13 ((x.ns.take 100).length) c14], .bool true, .int .i64 0]) (AF_ev rfl (up rfl tp)) rfl) ?_
          refine RW.soft Wd.a (v := .int .i64 0) (by exact E.extract (vs := #[.agg #[.int .i64 x.c0, .int .i64 x.c1, .int .i64 x.c2, .slice X13 ((x.ns.take 100).length) c14], .bool true, .int .i64 0]) (AF_ev rfl (up rfl (up rfl tp))) rfl) ?_
          refine RW.hard Wd.a ?_
          refine H.alloc zr29 hst fun b15 w hst => ?_
          refine RW.hard Wd.a ?_
          refine H.store (b := b15) (o := 0) (v := .agg #[.int .i64 x.c0, .int .i64 x.c1, .int .i64 x.c2, .slice X13 ((x.ns.take 100).length) c14]) (c' := #[.int .i64 x.c0, .int .i64 x.c1, .int .i64 x.c2, .slice X13 ((x.ns.take 100).length) c14]) (AF_ev rfl tp) (AF_ev rfl (up rfl (up rfl (up rfl tp)))) hst .here sz29 (by simp [Value.cells]) (by simp [Value.cells, Value.oneCell']) rfl fun w hst => ?_
          refine RW.soft Wd.a (v := .bool true) (by exact E.assign (AF_ev rfl (u0 (up rfl (up rfl tp))))) ?_
          refine RW.soft Wd.a (v := .int .i64 0) (by exact E.assign (AF_ev rfl (up rfl (u0 (up rfl tp))))) ?_
          refine RW.fin (fun τ => τ 0 = .slice (some ⟨b0, o0, none⟩) os.length c ∧ τ 4 = .pointer (some ⟨t1, 0, none⟩) ∧ τ 5 = .int .i64 (next - 1) ∧ τ 6 = .int .i64 ((i : Nat) : Int) ∧ τ 7 = .pointer (some ⟨b4, 0, none⟩) ∧ τ 13 = .int .i64 (doneE L x.id x.seq) ∧ τ 14 = .pointer (some ⟨b15, 0, none⟩) ∧ τ 15 = .bool true ∧ τ 16 = .int .i64 0 ∧ τ 33 = .bool true ∧ τ 42 = .int .i64 (kindF x.kind 4) ∧ τ 53 = .bool false ∧ τ 91 = .bool false ∧ τ 109 = .bool false) ⟨up rfl (up rfl (u0 (up rfl (up rfl (up rfl (up rfl (up rfl (up rfl (up rfl (up rfl (up rfl (up rfl (up rfl hs0))))))))))))), up rfl (up rfl (u0 (up rfl (up rfl (up rfl (up rfl (up rfl (up rfl (up rfl (up rfl (up rfl (up rfl (up rfl hs4))))))))))))), up rfl (up rfl (u0 (up rfl (up rfl (up rfl (up rfl (up rfl (up rfl (up rfl (up rfl (up rfl (up rfl (up rfl hs5))))))))))))), up rfl (up rfl (u0 (up rfl (up rfl (up rfl (up rfl (up rfl (up rfl (up rfl (up rfl (up rfl (up rfl (up rfl hs6))))))))))))), up rfl (up rfl (u0 (up rfl (up rfl (up rfl (up rfl (up rfl (up rfl (up rfl (up rfl (up rfl (up rfl (up rfl hs7))))))))))))), up rfl (up rfl (u0 (up rfl (up rfl (up rfl (up rfl (up rfl (up rfl (up rfl (up rfl (up rfl (up rfl (up rfl hs13))))))))))))), up rfl (up rfl (u0 tp)), up rfl tp, tp, up rfl (up rfl (u0 (up rfl (up rfl (up rfl (up rfl (up rfl (up rfl (up rfl (up rfl (up rfl (up rfl (up rfl hs33))))))))))))), up rfl (up rfl (u0 (up rfl (up rfl (up rfl (up rfl (up rfl (up rfl (up rfl (up rfl (up rfl (up rfl (up rfl hs42))))))))))))), up rfl (up rfl (u0 (up rfl (up rfl (up rfl (up rfl (up rfl (up rfl (up rfl (up rfl (up rfl (up rfl (up rfl (Eq.trans hs53 (congrArg Value.bool hc12))))))))))))))), up rfl (up rfl (u0 (up rfl (up rfl (up rfl (up rfl (up rfl (up rfl (up rfl (up rfl (up rfl (up rfl (up rfl hs91))))))))))))), up rfl (up rfl (u0 (up rfl (up rfl (up rfl (up rfl (up rfl (up rfl (up rfl (up rfl (up rfl (up rfl (up rfl hs109)))))))))))))⟩ ?_
          rintro τ ⟨hs0, hs4, hs5, hs6, hs7, hs13, hs14, hs15, hs16, hs33, hs42, hs53, hs91, hs109⟩
          refine CW.seq ?_
          refine CW.regionD [0, 1, 2, 5] (fun w => (∀ j v, ([.int .i64 x.c0, .int .i64 x.c1, .int .i64 x.c2, .slice X13 ((x.ns.take 100).length) c14] : List Value)[j]? = some v → w.cell? ⟨b15, 0 + j, none⟩ = some v) ∧ (∀ j v, ([.int .i64 x.c0, .int .i64 x.c1, .int .i64 x.c2, .slice x.X x.ns.length x.cap] : List Value)[j]? = some v → w.cell? ⟨b4, 3 + j, none⟩ = some v)) mixed ?_
          have hst := hst.drew
          generalize w.drew = w at hst ⊢
          have hS : (∀ j v, ([.int .i64 x.c0, .int .i64 x.c1, .int .i64 x.c2, .slice X13 ((x.ns.take 100).length) c14] : List Value)[j]? = some v → w.cell? ⟨b15, 0 + j, none⟩ = some v) ∧ (∀ j v, ([.int .i64 x.c0, .int .i64 x.c1, .int .i64 x.c2, .slice x.X x.ns.length x.cap] : List Value)[j]? = some v → w.cell? ⟨b4, 3 + j, none⟩ = some v) := ⟨hst.cellsIn .here rfl, hst.cellsIn (.there (.there (.there (.there (.there .here))))) rfl⟩
          refine RD.take 0 rfl (by kernel_rfl) Wd.a (v := .agg #[.int .i64 x.c0, .int .i64 x.c1, .int .i64 x.c2, .slice X13 ((x.ns.take 100).length) c14]) (fun w hS => by exact E.loadN (b := b15) (o := 0) (cs := [.int .i64 x.c0, .int .i64 x.c1, .int .i64 x.c2, .slice X13 ((x.ns.take 100).length) c14]) Try.underlying29 rfl sz29 (AF_ev rfl hs14) rfl hS.1) hS ?_
          refine RD.take 1 rfl (by kernel_rfl) Wd.a (v := .pointer (some ⟨b4, 3, none⟩)) (fun w hS => by exact E.fieldAddr (b := b4) (o := 0) (f := { name := "R", type := 29, offset := 3, embedded := false, tag := "", pkgPath := "", byteOffset := 24 }) (AF_ev rfl (up rfl hs7)) Try.underlying31 rfl sz29 rfl) hS ?_
          refine RD.take 2 rfl (by kernel_rfl) Wd.a (v := .agg #[.int .i64 x.c0, .int .i64 x.c1, .int .i64 x.c2, .slice x.X x.ns.length x.cap]) (fun w hS => by exact E.loadN (b := b4) (o := 3) (cs := [.int .i64 x.c0, .int .i64 x.c1, .int .i64 x.c2, .slice x.X x.ns.length x.cap]) Try.underlying29 rfl sz29 (AF_ev rfl tp) rfl hS.2) hS ?_
          have hst := hst.take (.there (.there (.there (.there .here))))
          refine RD.only 3 rfl (by kernel_rfl) Wd.a ?_
          refine H.call0 Try.func22 nm22 rfl (map1 (AF_ev rfl tp)) (Calls.mono (law15_own_ (A := Emp) (fun w H s => hE.src s) x.c0 x.c1 x.c2 hst) ?_)
          rintro _ w ⟨vX16, rfl, hnX16, hst⟩
          obtain ⟨X16, c17, rfl, hcX16, hmX16, hlX16, hbX16⟩ := hst.shape
          refine ⟨_, rfl, ?_⟩
          have hS : (∀ j v, ([.int .i64 x.c0, .int .i64 x.c1, .int .i64 x.c2, .slice X13 ((x.ns.take 100).length) c14] : List Value)[j]? = some v → w.cell? ⟨b15, 0 + j, none⟩ = some v) ∧ (∀ j v, ([.int .i64 x.c0, .int .i64 x.c1, .int .i64 x.c2, .slice x.X x.ns.length x.cap] : List Value)[j]? = some v → w.cell? ⟨b4, 3 + j, none⟩ = some v) := ⟨hst.cellsIn (.there (.there .here)) rfl, hst.cellsIn (.there (.there (.there (.there (.there (.there .here)))))) rfl⟩
          refine ⟨fun _ => hS, ?_⟩
          have hst := hst.take (.there (.there (.there .here)))
          refine RD.only 4 rfl (by kernel_rfl) Wd.a ?_
          refine H.call0 Try.func23 nm23 rfl (map2 (AF_ev rfl (up rfl (up rfl (up rfl tp)))) (AF_ev rfl tp)) (Calls.mono (same_true (ref_SameReply (A := Own 5 1 (.slice X13 ((x.ns.take 100).length) c14) ((x.ns.take 100).length) (bv (x.ns.take 100))) (B := Own 5 1 (.slice X16 ((x.ns.take 100).length) c17) ((x.ns.take 100).length) (bv (x.ns.take 100))) (fun w H s => Own.src s) (fun w H s => Own.src s) x.c0 x.c1 x.c2 x.c0 x.c1 x.c2 hst)) ?_)
          rintro _ w ⟨rfl, hst⟩
          refine ⟨_, rfl, ?_⟩
          have hS : (∀ j v, ([.int .i64 x.c0, .int .i64 x.c1, .int .i64 x.c2, .slice X13 ((x.ns.take 100).length) c14] : List Value)[j]? = some v → w.cell? ⟨b15, 0 + j, none⟩ = some v) ∧ (∀ j v, ([.int .i64 x.c0, .int .i64 x.c1, .int .i64 x.c2, .slice x.X x.ns.length x.cap] : List Value)[j]? = some v → w.cell? ⟨b4, 3 + j, none⟩ = some v) := ⟨hst.cellsIn (.there (.there (.there .here))) rfl, hst.cellsIn (.there (.there (.there (.there (.there (.there .here)))))) rfl⟩
          refine ⟨fun _ => hS, ?_⟩
          refine RD.take 5 rfl (by kernel_rfl) Wd.a (v := .bool true) (fun w hS => by exact E.assign (AF_ev rfl tp)) hS ?_
          refine RD.fin (by kernel_rfl) (fun τ => τ 0 = .slice (some ⟨b0, o0, none⟩) os.length c ∧ τ 4 = .pointer (some ⟨t1, 0, none⟩) ∧ τ 5 = .int .i64 (next - 1) ∧ τ 6 = .int .i64 ((i : Nat) : Int) ∧ τ 7 = .pointer (some ⟨b4, 0, none⟩) ∧ τ 13 = .int .i64 (doneE L x.id x.seq) ∧ τ 14 = .pointer (some ⟨b15, 0, none⟩) ∧ τ 15 = .bool true ∧ τ 16 = .int .i64 0 ∧ τ 17 = .bool true ∧ τ 33 = .bool true ∧ τ 42 = .int .i64 (kindF x.kind 4) ∧ τ 53 = .bool false ∧ τ 91 = .bool false ∧ τ 109 = .bool false) ⟨up rfl (up rfl (up rfl (up rfl (up rfl (up rfl hs0))))), up rfl (up rfl (up rfl (up rfl (up rfl (up rfl hs4))))), up rfl (up rfl (up rfl (up rfl (up rfl (up rfl hs5))))), up rfl (up rfl (up rfl (up rfl (up rfl (up rfl hs6))))), up rfl (up rfl (up rfl (up rfl (up rfl (up rfl hs7))))), up rfl (up rfl (up rfl (up rfl (up rfl (up rfl hs13))))), up rfl (up rfl (up rfl (up rfl (up rfl (up rfl hs14))))), up rfl (up rfl (up rfl (up rfl (up rfl (up rfl hs15))))), up rfl (up rfl (up rfl (up rfl (up rfl (up rfl hs16))))), tp, up rfl (up rfl (up rfl (up rfl (up rfl (up rfl hs33))))), up rfl (up rfl (up rfl (up rfl (up rfl (up rfl hs42))))), up rfl (up rfl (up rfl (up rfl (up rfl (up rfl hs53))))), up rfl (up rfl (up rfl (up rfl (up rfl (up rfl hs91))))), up rfl (up rfl (up rfl (up rfl (up rfl (up rfl hs109)))))⟩ ?_
          rintro τ ⟨hs0, hs4, hs5, hs6, hs7, hs13, hs14, hs15, hs16, hs17, hs33, hs42, hs53, hs91, hs109⟩
          refine CW.seq ?_
          refine CW.regionD [0, 1, 2, 3, 4, 5, 6, 7, 8, 9, 10, 11, 12, 13, 14, 15, 16, 17, 20, 21] (fun w => w.cell? ⟨b4, 1, none⟩ = some (.int .i64 x.id) ∧ w.cell? ⟨b4, 2, none⟩ = some (.int .i64 x.seq) ∧ (∀ j v, ([.int .i64 x.c0, .int .i64 x.c1, .int .i64 x.c2, .slice x.X x.ns.length x.cap] : List Value)[j]? = some v → w.cell? ⟨b4, 3 + j, none⟩ = some v)) mixed ?_
          have hst := hst.drew
          generalize w.drew = w at hst ⊢
          have hS : w.cell? ⟨b4, 1, none⟩ = some (.int .i64 x.id) ∧ w.cell? ⟨b4, 2, none⟩ = some (.int .i64 x.seq) ∧ (∀ j v, ([.int .i64 x.c0, .int .i64 x.c1, .int .i64 x.c2, .slice x.X x.ns.length x.cap] : List Value)[j]? = some v → w.cell? ⟨b4, 3 + j, none⟩ = some v) := ⟨hst.cell (.there (.there (.there (.there (.there (.there .here)))))) rfl, hst.cell (.there (.there (.there (.there (.there (.there .here)))))) rfl, hst.cellsIn (.there (.there (.there (.there (.there (.there .here)))))) rfl⟩
          refine RD.take 0 rfl (by kernel_rfl) Wd.a (v := .bool true) (fun w hS => by exact E.move (AF_ev rfl hs15)) hS ?_
          refine RD.take 1 rfl (by kernel_rfl) Wd.a (v := .bool false) (fun w hS => by exact E.not (b := true) (AF_ev rfl tp)) hS ?_
          refine RD.take 2 rfl (by kernel_rfl) Wd.a (v := .bool false) (fun w hS => by exact E.move (AF_ev rfl tp)) hS ?_
          refine RD.take 3 rfl (by kernel_rfl) (by exact Wd.yes (x := 71) rfl (AF_ev rfl tp)) (v := .int .i64 0) (fun w hS => by exact E.move (AF_ev rfl (up rfl (up rfl (up rfl hs16))))) hS ?_
          refine RD.take 4 rfl (by kernel_rfl) (by exact Wd.yes (x := 71) rfl (AF_ev rfl (up rfl tp))) (v := .bool false) (fun w hS => by exact E.neq (k := .i64) (a := 0) (b := 0) (AF_ev rfl tp) rfl) hS ?_
          refine RD.take 5 rfl (by kernel_rfl) Wd.a (v := .bool false) (fun w hS => by exact E.pickF (AF_ev rfl (up rfl (up rfl tp))) (AF_ev rfl tp)) hS ?_
          refine RD.take 6 rfl (by kernel_rfl) Wd.a (v := .bool false) (fun w hS => by exact E.move (AF_ev rfl tp)) hS ?_
          refine RD.take 7 rfl (by kernel_rfl) (by exact Wd.yes (x := 75) rfl (AF_ev rfl tp)) (v := .bool true) (fun w hS => by exact E.move (AF_ev rfl (up rfl (up rfl (up rfl (up rfl (up rfl (up rfl (up rfl hs17))))))))) hS ?_
          refine RD.take 8 rfl (by kernel_rfl) (by exact Wd.yes (x := 75) rfl (AF_ev rfl (up rfl tp))) (v := .bool false) (fun w hS => by exact E.not (b := true) (AF_ev rfl tp)) hS ?_
          refine RD.take 9 rfl (by kernel_rfl) Wd.a (v := .bool false) (fun w hS => by exact E.pickF (AF_ev rfl (up rfl (up rfl tp))) (AF_ev rfl tp)) hS ?_
          refine RD.take 10 rfl (by kernel_rfl) Wd.a (v := .bool false) (fun w hS => by exact E.move (AF_ev rfl tp)) hS ?_
          refine RD.take 11 rfl (by kernel_rfl) (by exact Wd.yes (x := 79) rfl (AF_ev rfl tp)) (v := .pointer (some ⟨t1, 0, none⟩)) (fun w hS => by exact E.move (AF_ev rfl (up rfl (up rfl (up rfl (up rfl (up rfl (up rfl (up rfl (up rfl (up rfl (up rfl (up rfl hs4))))))))))))) hS ?_
          refine RD.take 12 rfl (by kernel_rfl) (by exact Wd.yes (x := 79) rfl (AF_ev rfl (up rfl tp))) (v := .pointer (some ⟨b4, 1, none⟩)) (fun w hS => by exact E.fieldAddr (b := b4) (o := 0) (f := { name := "Id", type := 3, offset := 1, embedded := false, tag := "", pkgPath := "", byteOffset := 8 }) (AF_ev rfl (up rfl (up rfl (up rfl (up rfl (up rfl (up rfl (up rfl (up rfl (up rfl (up rfl (up rfl (up rfl hs7))))))))))))) Try.underlying31 rfl sz3 rfl) hS ?_
          refine RD.take 13 rfl (by kernel_rfl) (by exact Wd.yes (x := 79) rfl (AF_ev rfl (up rfl (up rfl tp)))) (v := .int .i64 x.id) (fun w hS => by exact E.load (a := ⟨b4, 1, none⟩) Try.underlying3 rfl (AF_ev rfl tp) hS.1) hS ?_
          refine RD.take 14 rfl (by kernel_rfl) (by exact Wd.yes (x := 79) rfl (AF_ev rfl (up rfl (up rfl (up rfl tp))))) (v := .pointer (some ⟨b4, 2, none⟩)) (fun w hS => by exact E.fieldAddr (b := b4) (o := 0) (f := { name := "Seq", type := 3, offset := 2, embedded := false, tag := "", pkgPath := "", byteOffset := 16 }) (AF_ev rfl (up rfl (up rfl (up rfl (up rfl (up rfl (up rfl (up rfl (up rfl (up rfl (up rfl (up rfl (up rfl (up rfl (up rfl hs7))))))))))))))) Try.underlying31 rfl sz3 rfl) hS ?_
          refine RD.take 15 rfl (by kernel_rfl) (by exact Wd.yes (x := 79) rfl (AF_ev rfl (up rfl (up rfl (up rfl (up rfl tp)))))) (v := .int .i64 x.seq) (fun w hS => by exact E.load (a := ⟨b4, 2, none⟩) Try.underlying3 rfl (AF_ev rfl tp) hS.2.1) hS ?_
          refine RD.take 16 rfl (by kernel_rfl) (by exact Wd.yes (x := 79) rfl (AF_ev rfl (up rfl (up rfl (up rfl (up rfl (up rfl tp))))))) (v := .pointer (some ⟨b4, 3, none⟩)) (fun w hS => by exact E.fieldAddr (b := b4) (o := 0) (f := { name := "R", type := 29, offset := 3, embedded := false, tag := "", pkgPath := "", byteOffset := 24 }) (AF_ev rfl (up rfl (up rfl (up rfl (up rfl (up rfl (up rfl (up rfl (up rfl (up rfl (up rfl (up rfl (up rfl (up rfl (up rfl (up rfl (up rfl hs7))))))))))))))))) Try.underlying31 rfl sz29 rfl) hS ?_
          refine RD.take 17 rfl (by kernel_rfl) (by exact Wd.yes (x := 79) rfl (AF_ev rfl (up rfl (up rfl (up rfl (up rfl (up rfl (up rfl tp)))))))) (v := .agg #[.int .i64 x.c0, .int .i64 x.c1, .int .i64 x.c2, .slice x.X x.ns.length x.cap]) (fun w hS => by exact E.loadN (b := b4) (o := 3) (cs := [.int .i64 x.c0, .int .i64 x.c1, .int .i64 x.c2, .slice x.X x.ns.length x.cap]) Try.underlying29 rfl sz29 (AF_ev rfl tp) rfl hS.2.2) hS ?_
          have hst := hst.take (.there (.there .here))
          refine RD.only 18 rfl (by kernel_rfl) (by exact Wd.yes (x := 79) rfl (AF_ev rfl (up rfl (up rfl (up rfl (up rfl (up rfl (up rfl (up rfl tp))))))))) ?_
          refine H.call0 Try.func22 nm22 rfl (map1 (AF_ev rfl tp)) (Calls.mono (law15_own_ (A := Emp) (fun w H s => hE.src s) x.c0 x.c1 x.c2 hst) ?_)
          rintro _ w ⟨vX18, rfl, hnX18, hst⟩
          obtain ⟨X18, c19, rfl, hcX18, hmX18, hlX18, hbX18⟩ := hst.shape
          refine ⟨_, rfl, ?_⟩
          have hS : w.cell? ⟨b4, 1, none⟩ = some (.int .i64 x.id) ∧ w.cell? ⟨b4, 2, none⟩ = some (.int .i64 x.seq) ∧ (∀ j v, ([.int .i64 x.c0, .int .i64 x.c1, .int .i64 x.c2, .slice x.X x.ns.length x.cap] : List Value)[j]? = some v → w.cell? ⟨b4, 3 + j, none⟩ = some v) := ⟨hst.cell (.there (.there (.there (.there (.there (.there (.there .here))))))) rfl, hst.cell (.there (.there (.there (.there (.there (.there (.there .here))))))) rfl, hst.cellsIn (.there (.there (.there (.there (.there (.there (.there .here))))))) rfl⟩
          refine ⟨fun _ => hS, ?_⟩
          have hst := hst.take (.there (.there (.there (.there (.there .here)))))
          refine RD.only 19 rfl (by kernel_rfl) (by exact Wd.yes (x := 79) rfl (AF_ev rfl (up rfl (up rfl (up rfl (up rfl (up rfl (up rfl (up rfl (up rfl tp)))))))))) ?_
          refine H.call0 Try.func21 nm21 rfl (map4 (AF_ev rfl (up rfl (up rfl (up rfl (up rfl (up rfl (up rfl (up rfl tp)))))))) (AF_ev rfl (up rfl (up rfl (up rfl (up rfl (up rfl tp)))))) (AF_ev rfl (up rfl (up rfl (up rfl tp)))) (AF_ev rfl tp)) (Calls.mono (Done_C (A := Own 5 1 (.slice X18 ((x.ns.take 100).length) c19) ((x.ns.take 100).length) (bv (x.ns.take 100))) (Y := X18) (d := c19) (L' := doneL L x.id x.seq ⟨x.c0, x.c1, x.c2, (x.ns.take 100)⟩) (e := 151) x.id x.seq x.c0 x.c1 x.c2 (x.ns.take 100) (done_doneL hok ‹_›) (done_doneE hok ‹_›) (fun w H s => Own.src s) (by first | omega | (simp; done) | (simp; omega)) hst) ?_)
          rintro _ w ⟨p, hle, rfl, hst⟩
          have hO := hO.le hle
          have hK := hK.le hle
          have hp0 := hp0.le hle
          have hE := hE.le hle
          refine ⟨_, rfl, ?_⟩
          have hS : w.cell? ⟨b4, 1, none⟩ = some (.int .i64 x.id) ∧ w.cell? ⟨b4, 2, none⟩ = some (.int .i64 x.seq) ∧ (∀ j v, ([.int .i64 x.c0, .int .i64 x.c1, .int .i64 x.c2, .slice x.X x.ns.length x.cap] : List Value)[j]? = some v → w.cell? ⟨b4, 3 + j, none⟩ = some v) := ⟨hst.cell (.there (.there (.there (.there (.there (.there (.there .here))))))) rfl, hst.cell (.there (.there (.there (.there (.there (.there (.there .here))))))) rfl, hst.cellsIn (.there (.there (.there (.there (.there (.there (.there .here))))))) rfl⟩
          refine ⟨fun _ => hS, ?_⟩
          refine RD.take 20 rfl (by kernel_rfl) (by exact Wd.yes (x := 79) rfl (AF_ev rfl (up rfl (up rfl (up rfl (up rfl (up rfl (up rfl (up rfl (up rfl (up rfl tp))))))))))) (v := .bool false) (fun w hS => by exact E.neq (k := .i64) (a := 151) (b := 151) (AF_ev rfl tp) rfl) hS ?_
          refine RD.take 21 rfl (by kernel_rfl) Wd.a (v := .bool false) (fun w hS => by exact E.pickF (AF_ev rfl (up rfl (up rfl (up rfl (up rfl (up rfl (up rfl (up rfl (up rfl (up rfl (up rfl tp))))))))))) (AF_ev rfl tp)) hS ?_
          refine RD.fin (by kernel_rfl) (fun τ => τ 0 = .slice (some ⟨b0, o0, none⟩) os.length c ∧ τ 4 = .pointer (some ⟨t1, 0, none⟩) ∧ τ 5 = .int .i64 (next - 1) ∧ τ 6 = .int .i64 ((i : Nat) : Int) ∧ τ 7 = .pointer (some ⟨b4, 0, none⟩) ∧ τ 13 = .int .i64 (doneE L x.id x.seq) ∧ τ 14 = .pointer (some ⟨b15, 0, none⟩) ∧ τ 15 = .bool true ∧ τ 16 = .int .i64 0 ∧ τ 17 = .bool true ∧ τ 33 = .bool true ∧ τ 42 = .int .i64 (kindF x.kind 4) ∧ τ 53 = .bool false ∧ τ 90 = .bool false ∧ τ 91 = .bool false ∧ τ 109 = .bool false) ⟨up rfl (up rfl (up rfl (up rfl (up rfl (up rfl (up rfl (up rfl (up rfl (up rfl (up rfl (up rfl (up rfl (up rfl (up rfl (up rfl (up rfl (up rfl (up rfl (up rfl (up rfl (up rfl hs0))))))))))))))))))))), up rfl (up rfl (up rfl (up rfl (up rfl (up rfl (up rfl (up rfl (up rfl (up rfl (up rfl (up rfl (up rfl (up rfl (up rfl (up rfl (up rfl (up rfl (up rfl (up rfl (up rfl (up rfl hs4))))))))))))))))))))), up rfl (up rfl (up rfl (up rfl (up rfl (up rfl (up rfl (up rfl (up rfl (up rfl (up rfl (up rfl (up rfl (up rfl (up rfl (up rfl (up rfl (up rfl (up rfl (up rfl (up rfl (up rfl hs5))))))))))))))))))))), up rfl (up rfl (up rfl (up rfl (up rfl (up rfl (up rfl (up rfl (up rfl (up rfl (up rfl (up rfl (up rfl (up rfl (up rfl (up rfl (up rfl (up rfl (up rfl (up rfl (up rfl (up rfl hs6))))))))))))))))))))), up rfl (up rfl (up rfl (up rfl (up rfl (up rfl (up rfl (up rfl (up rfl (up rfl (up rfl (up rfl (up rfl (up rfl (up rfl (up rfl (up rfl (up rfl (up rfl (up rfl (up rfl (up rfl hs7))))))))))))))))))))), up rfl (up rfl (up rfl (up rfl (up rfl (up rfl (up rfl (up rfl (up rfl (up rfl (up rfl (up rfl (up rfl (up rfl (up rfl (up rfl (up rfl (up rfl (up rfl (up rfl (up rfl (up rfl hs13))))))))))))))))))))), up rfl (up rfl (up rfl (up rfl (up rfl (up rfl (up rfl (up rfl (up rfl (up rfl (up rfl (up rfl (up rfl (up rfl (up rfl (up rfl (up rfl (up rfl (up rfl (up rfl (up rfl (up rfl hs14))))))))))))))))))))), up rfl (up rfl (up rfl (up rfl (up rfl (up rfl (up rfl (up rfl (up rfl (up rfl (up rfl (up rfl (up rfl (up rfl (up rfl (up rfl (up rfl (up rfl (up rfl (up rfl (up rfl (up rfl hs15))))))))))))))))))))), up rfl (up rfl (up rfl (up rfl (up rfl (up rfl (up rfl (up rfl (up rfl (up rfl (up rfl (up rfl (up rfl (up rfl (up rfl (up rfl (up rfl (up rfl (up rfl (up rfl (up rfl (up rfl hs16))))))))))))))))))))), up rfl (up rfl (up rfl (up rfl (up rfl (up rfl (up rfl (up rfl (up rfl (up rfl (up rfl (up rfl (up rfl (up rfl (up rfl (up rfl (up rfl (up rfl (up rfl (up rfl (up rfl (up rfl hs17))))))))))))))))))))), up rfl (up rfl (up rfl (up rfl (up rfl (up rfl (up rfl (up rfl (up rfl (up rfl (up rfl (up rfl (up rfl (up rfl (up rfl (up rfl (up rfl (up rfl (up rfl (up rfl (up rfl (up rfl hs33))))))))))))))))))))), up rfl (up rfl (up rfl (up rfl (up rfl (up rfl (up rfl (up rfl (up rfl (up rfl (up rfl (up rfl (up rfl (up rfl (up rfl (up rfl (up rfl (up rfl (up rfl (up rfl (up rfl (up rfl hs42))))))))))))))))))))), up rfl (up rfl (up rfl (up rfl (up rfl (up rfl (up rfl (up rfl (up rfl (up rfl (up rfl (up rfl (up rfl (up rfl (up rfl (up rfl (up rfl (up rfl (up rfl (up rfl (up rfl (up rfl hs53))))))))))))))))))))), tp, up rfl (up rfl (up rfl (up rfl (up rfl (up rfl (up rfl (up rfl (up rfl (up rfl (up rfl (up rfl (up rfl (up rfl (up rfl (up rfl (up rfl (up rfl (up rfl (up rfl (up rfl (up rfl hs91))))))))))))))))))))), up rfl (up rfl (up rfl (up rfl (up rfl (up rfl (up rfl (up rfl (up rfl (up rfl (up rfl (up rfl (up rfl (up rfl (up rfl (up rfl (up rfl (up rfl (up rfl (up rfl (up rfl (up rfl hs109)))))))))))))))))))))⟩ ?_
          rintro τ ⟨hs0, hs4, hs5, hs6, hs7, hs13, hs14, hs15, hs16, hs17, hs33, hs42, hs53, hs90, hs91, hs109⟩
          refine CW.condF (AF_ev rfl hs90) ?_
          refine CW.skip ?_
          refine Bl.n ?_
          refine Bl.n ?_
          refine Th.n ?_
          refine CW.region ?_
          refine RW.soft Wd.a (v := .int .i64 ((i : Nat) : Int)) (by exact E.move (AF_ev rfl hs6)) ?_
          refine RW.soft Wd.a (v := .int .i64 (((i : Nat) : Int) + 1)) (by exact E.add (k := .i64) (a := ((i : Nat) : Int)) (b := 1) (AF_ev rfl tp) rfl (show IntKind.i64.wrap (((i : Nat) : Int) + 1) = ((i : Nat) : Int) + 1 from (by rw [IntWalk.i64_in _ (by omega)]))) ?_
          refine RW.soft Wd.a (v := .int .i64 (((i : Nat) : Int) + 1)) (by exact E.assign (AF_ev rfl tp)) ?_
          refine RW.nil ?_
          refine Th.n ?_
          have hle0 := hp0
          have hst := (hst.take (.there .here)).drop
          have hst := (hst.take (.there .here)).drop
          have hst := (hst.take (.there .here)).drop
          have hst := (hst.take (.there .here)).drop
          have hst := (hst.take (.there .here)).drop
          have hst := (hst.take (.there .here)).drop
          have hst := (hst.take (.there .here)).drop
          exact ⟨os.length - (i + 1), by omega, p, (doneL L x.id x.seq ⟨x.c0, x.c1, x.c2, (x.ns.take 100)⟩), next, i + 1, hp0, hO, hK, (hok.done _ _ _), by omega, by omega, by omega, up rfl (up rfl (up rfl hs0)), up rfl (up rfl (up rfl hs4)), up rfl (up rfl (up rfl hs5)), (int_eq (a := ((i : Nat) : Int) + 1) tp (by omega)), hst⟩
  · have hc3_ := hc3
    try simp only [decide_eq_true_eq, decide_eq_false_iff_not, Bool.and_eq_true, Bool.or_eq_true, Bool.and_eq_false_iff, Bool.or_eq_false_iff, Bool.not_eq_true', Bool.not_eq_false', beq_iff_eq, beq_eq_false_iff_ne, bne_iff_ne, bne_eq_false_iff_eq, ne_eq, Int.not_lt, Int.not_le, gt_iff_lt, ge_iff_le] at hc3_
    refine CW.exit ?_
    refine Th.x ?_
    refine Th.x ?_
    refine Bl.x ?_
    refine Th.n ?_
    refine CW.seq ?_
    refine CW.region ?_
    refine RW.soft Wd.a (v := .bool true) (by exact E.assign rfl) ?_
    refine RW.fin (fun τ => τ 0 = .slice X os.length c ∧ τ 2 = .bool true ∧ τ 4 = .pointer (some ⟨t1, 0, none⟩) ∧ τ 5 = .int .i64 (next - 1) ∧ τ 6 = .int .i64 ((i : Nat) : Int) ∧ τ 33 = .bool false) ⟨up rfl hs0, tp, up rfl hs4, up rfl hs5, up rfl hs6, up rfl (Eq.trans hs33 (congrArg Value.bool hc3))⟩ ?_
    rintro τ ⟨hs0, hs2, hs4, hs5, hs6, hs33⟩
    refine CW.ret ?_
    refine ret1 (v := .bool true) rfl (by exact (.tmp (AF_ev rfl hs2) .nil)) ?_
    have hst := hst.drop
    exact ⟨p, hp0, rfl, hst⟩
end Go.Proofs.Ytdlcjoonhojpfaa
