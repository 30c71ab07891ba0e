/- The calls of the package entries, walked through operation by operation. -/
import Derived.Test.YtdlcjoonhojpfaaE0
import Derived.Test.YtdlcjoonhojpfaaT1
import Derived.Test.YtdlcjoonhojpfaaE1
import Derived.Test.YtdlcjoonhojpfaaE2
import Derived.Test.YtdlcjoonhojpfaaE3
import Derived.Test.YtdlcjoonhojpfaaE4
namespace Go.Proofs.Ytdlcjoonhojpfaa
open Go.RowKit Go.SL Go.E17
attribute [local irreducible] Go.SL.RW Go.SL.CW Go.SL.RD Go.SL.Hd Go.SL.St
set_option linter.unusedVariables false
set_option linter.unusedSimpArgs false

theorem nm25 : (Try.f25.name == "runtime.NumGoroutine") = false := by kernel_rfl
theorem nm29 : (Try.f29.name == "runtime.NumGoroutine") = false := by kernel_rfl
theorem nm54 : (Try.f54.name == "runtime.NumGoroutine") = false := by kernel_rfl
theorem nm65 : (Try.f65.name == "runtime.NumGoroutine") = false := by kernel_rfl

theorem map6 {r : Operand → Value} {x y z a b d : Operand} {v u t s q f : Value} (h : r x = v) (h2 : r y = u) (h3 : r z = t) (h4 : r a = s) (h5 : r b = q) (h6 : r d = f) : #[x, y, z, a, b, d].map r = #[v, u, t, s, q, f] := by simp [h, h2, h3, h4, h5, h6]
theorem ent_NewC {p : Pers} {w : World} {R : List Assn} {A : Assn} {X : Option Addr} {c : Nat} {l : List Ent} {i' : Int} (i t : Int) (hA : Tells p A 4 (.slice X l.length c) l.length (flat l)) (hE : EsOk p l) (hl : l.length ≤ 1000000) (hi : -9223372036854775808 ≤ i ∧ i ≤ 9223372036854775807) (hi' : max 0 (min i 1099511627776) = i') (hst : St p w (A :: R)) :
    Calls Try.prog 25 #[.int .i64 i, .int .i64 t, .slice X l.length c] w fun e w => ∃ q b es, p.le q ∧ e = .returned (.pointer (some ⟨b, 0, none⟩)) ∧ vs es = vs l ∧ St q w (LogB q b i' t es :: A :: R) := by
  subst hi'; exact ent_New i t hA hE hl hi hst
theorem ent_ofC {p : Pers} {w : World} {R : List Assn} {A : Assn} {X : Option Addr} {n c : Nat} {us : List Int} {xs : List Value} (hn : n = us.length) (hx : xs = iv us) (hA : Tells p A 1 (.slice X n c) n xs) (hl : us.length ≤ 1000) (hst : St p w (A :: R)) :
    Calls Try.prog 54 #[.slice X n c] w fun e w => ∃ v, e = .returned v ∧ St p w (Own 58 4 v (us.map mkE).length (flat (us.map mkE)) :: A :: R) := by
  subst hn; subst hx
  rw [List.length_map]
  exact ent_of hA hl hst

theorem ent_joins {p : Pers} {w : World} {R : List Assn} {p0 : Pers} {A : Assn} {X : Option Addr} {c : Nat} {l : List Ent} (hp0 : p0.le p) (idx tm last first : Int) (ok : Bool) (hidx : -9223372036854775808 ≤ idx ∧ idx ≤ 9223372036854775807) (hA : Tells p A 4 (.slice X l.length c) l.length (flat l)) (hE : EsOk p l) (hl : l.length ≤ 1000) (hst : St p w (A :: R)) :
    Calls Try.prog 65 #[.int .i64 idx, .int .i64 tm, .slice X l.length c, .int .i64 last, .int .i64 first, .bool ok] w fun e w => ∃ q, p0.le q ∧ e = .returned (.bool (((joinA 0 0 [1, 1, 2] idx tm (ts l) == last) && (joinF 0 0 [1, 1, 2] idx tm (ts l) == first)) && (joinO 0 0 [1, 1, 2] idx tm == ok))) ∧ St q w (A :: R) := by
  refine enter Try.func65 rfl (by simp) (n := 44) rfl fun τ hτ => ?_
  have hs0 : τ 0 = .int .i64 idx := hτ 0 (by simp)
  have hs1 : τ 1 = .int .i64 tm := hτ 1 (by simp)
  have hs2 : τ 2 = .slice X l.length c := hτ 2 (by simp)
  have hs3 : τ 3 = .int .i64 last := hτ 3 (by simp)
  have hs4 : τ 4 = .int .i64 first := hτ 4 (by simp)
  have hs5 : τ 5 = .bool ok := hτ 5 (by simp)
  clear hτ
  refine CW.seq ?_
  refine CW.region ?_
  refine RW.soft Wd.a (v := .bool false) (by exact E.assign rfl) ?_
  refine RW.fin (fun τ => τ 0 = .int .i64 idx ∧ τ 1 = .int .i64 tm ∧ τ 2 = .slice X l.length c ∧ τ 3 = .int .i64 last ∧ τ 4 = .int .i64 first ∧ τ 5 = .bool ok ∧ τ 12 = .bool false) ⟨up rfl hs0, up rfl hs1, up rfl hs2, up rfl hs3, up rfl hs4, up rfl hs5, tp⟩ ?_
  rintro τ ⟨hs0, hs1, hs2, hs3, hs4, hs5, hs12⟩
  refine CW.seq ?_
  refine CW.region ?_
  refine RW.hard Wd.a ?_
  refine H.buildSlice (e := 3) (cs := #[.int .i64 1, .int .i64 1, .int .i64 2]) (vs := #[(0, .int .i64 1), (1, .int .i64 1), (2, .int .i64 2)]) (bld3 rfl rfl rfl) (fun _ => by kernel_rfl) hst fun b1 w hst => ?_
  have hst := hst.ownNew (n := 3) (cap := 3) (sz := 1) (xs := iv [1, 1, 2]) (by omega) (by simp [maxLen]) rfl rfl
  refine RW.hard Wd.a ?_
  refine H.call0 Try.func54 nm54 rfl (map1 (AF_ev rfl tp)) (Calls.mono (ent_ofC (us := [1, 1, 2]) rfl rfl Own.tells (by simp) hst) ?_)
  rintro _ w ⟨vX2, rfl, hst⟩
  obtain ⟨X2, c3, rfl, hcX2, hmX2, hlX2, hbX2⟩ := hst.shape
  refine ⟨_, rfl, ?_⟩
  show RW _ _ _ _ _ _ _
  refine RW.hard Wd.a ?_
  refine H.call0 Try.func25 nm25 rfl (map3 rfl rfl (AF_ev rfl tp)) (Calls.mono (ent_NewC (i' := 0) 0 0 Own.tells (mkE_ok [1, 1, 2]) (by simp) (by omega) (by omega) hst) ?_)
  rintro _ w ⟨p, b4, es5, hle, rfl, hvses5, hst⟩
  have hA := hA.le hle
  have hE := hE.le hle
  have hp0 := hp0.le hle
  have htses5 := ts_eq hvses5
  have hvles5 := vs_len hvses5
  rw [ts_mkE] at htses5; simp only [List.length_map, List.length_cons, List.length_nil] at hvles5
  refine ⟨_, rfl, ?_⟩
  show RW _ _ _ _ _ _ _
  refine RW.soft Wd.a (v := .pointer (some ⟨b4, 0, none⟩)) (by exact E.assign (AF_ev rfl tp)) ?_
  refine RW.fin (fun τ => τ 0 = .int .i64 idx ∧ τ 1 = .int .i64 tm ∧ τ 2 = .slice X l.length c ∧ τ 3 = .int .i64 last ∧ τ 4 = .int .i64 first ∧ τ 5 = .bool ok ∧ τ 12 = .bool false ∧ τ 13 = .pointer (some ⟨b4, 0, none⟩)) ⟨up rfl (up rfl (up rfl (up rfl hs0))), up rfl (up rfl (up rfl (up rfl hs1))), up rfl (up rfl (up rfl (up rfl hs2))), up rfl (up rfl (up rfl (up rfl hs3))), up rfl (up rfl (up rfl (up rfl hs4))), up rfl (up rfl (up rfl (up rfl hs5))), up rfl (up rfl (up rfl (up rfl hs12))), tp⟩ ?_
  rintro τ ⟨hs0, hs1, hs2, hs3, hs4, hs5, hs12, hs13⟩
  refine CW.seq ?_
  refine CW.seq ?_
  refine CW.region ?_
  refine RW.soft Wd.a (v := .pointer (some ⟨b4, 0, none⟩)) (by exact E.move (AF_ev rfl hs13)) ?_
  refine RW.soft Wd.a (v := .bool false) (by exact E.eqlP (p := (some ⟨b4, 0, none⟩)) Try.underlying47 (AF_ev rfl tp) rfl) ?_
  refine RW.fin (fun τ => τ 0 = .int .i64 idx ∧ τ 1 = .int .i64 tm ∧ τ 2 = .slice X l.length c ∧ τ 3 = .int .i64 last ∧ τ 4 = .int .i64 first ∧ τ 5 = .bool ok ∧ τ 12 = .bool false ∧ τ 13 = .pointer (some ⟨b4, 0, none⟩) ∧ τ 21 = .bool false) ⟨up rfl (up rfl hs0), up rfl (up rfl hs1), up rfl (up rfl hs2), up rfl (up rfl hs3), up rfl (up rfl hs4), up rfl (up rfl hs5), up rfl (up rfl hs12), up rfl (up rfl hs13), tp⟩ ?_
  rintro τ ⟨hs0, hs1, hs2, hs3, hs4, hs5, hs12, hs13, hs21⟩
  refine CW.condF (AF_ev rfl hs21) ?_
  refine CW.skip ?_
  refine Th.n ?_
  refine CW.seq ?_
  refine CW.region ?_
  refine RW.soft Wd.a (v := .pointer (some ⟨b4, 0, none⟩)) (by exact E.move (AF_ev rfl hs13)) ?_
  refine RW.soft Wd.a (v := .int .i64 idx) (by exact E.move (AF_ev rfl (up rfl hs0))) ?_
  refine RW.soft Wd.a (v := .int .i64 tm) (by exact E.move (AF_ev rfl (up rfl (up rfl hs1)))) ?_
  refine RW.soft Wd.a (v := .slice X l.length c) (by exact E.move (AF_ev rfl (up rfl (up rfl (up rfl hs2))))) ?_
  have hst := hst.take (.there (.there (.there .here)))
  have hst := hst.take (.there .here)
  refine RW.hard Wd.a ?_
  refine H.call0 Try.func29 nm29 rfl (map4 (AF_ev rfl (up rfl (up rfl (up rfl tp)))) (AF_ev rfl (up rfl (up rfl tp))) (AF_ev rfl (up rfl tp)) (AF_ev rfl tp)) (Calls.mono (ent_Join idx tm (by omega) (by omega) hA hE hst) ?_)
  rintro _ w ⟨p, es6, hle, rfl, hvses6, hst⟩
  have hA := hA.le hle
  have hE := hE.le hle
  have hp0 := hp0.le hle
  have hjles6 := joinL_len (α := Int × Int × List Int × List Int) (i := 0) (t := 0) (idx := idx) (tm := tm) (T := ts es5) (U := ts l) (a := vs es5) (b := vs l) (by simp [vs, ts]) (by simp [vs, ts])
  rw [← hvses6] at hjles6; simp only [vs, List.length_map] at hjles6
  refine ⟨_, rfl, ?_⟩
  show RW _ _ _ _ _ _ _
  refine RW.soft Wd.a (v := .tuple #[.int .i64 (joinA 0 0 (ts es5) idx tm (ts l)), .int .i64 (joinF 0 0 (ts es5) idx tm (ts l)), .bool (joinO 0 0 (ts es5) idx tm)]) (by exact E.move (AF_ev rfl tp)) ?_
  refine RW.soft Wd.a (v := .int .i64 (joinA 0 0 (ts es5) idx tm (ts l))) (by exact E.extract (vs := #[.int .i64 (joinA 0 0 (ts es5) idx tm (ts l)), .int .i64 (joinF 0 0 (ts es5) idx tm (ts l)), .bool (joinO 0 0 (ts es5) idx tm)]) (AF_ev rfl tp) rfl) ?_
  refine RW.soft Wd.a (v := .int .i64 (joinF 0 0 (ts es5) idx tm (ts l))) (by exact E.extract (vs := #[.int .i64 (joinA 0 0 (ts es5) idx tm (ts l)), .int .i64 (joinF 0 0 (ts es5) idx tm (ts l)), .bool (joinO 0 0 (ts es5) idx tm)]) (AF_ev rfl (up rfl tp)) rfl) ?_
  refine RW.soft Wd.a (v := .bool (joinO 0 0 (ts es5) idx tm)) (by exact E.extract (vs := #[.int .i64 (joinA 0 0 (ts es5) idx tm (ts l)), .int .i64 (joinF 0 0 (ts es5) idx tm (ts l)), .bool (joinO 0 0 (ts es5) idx tm)]) (AF_ev rfl (up rfl (up rfl tp))) rfl) ?_
  refine RW.soft Wd.a (v := .int .i64 (joinA 0 0 (ts es5) idx tm (ts l))) (by exact E.assign (AF_ev rfl (up rfl (up rfl tp)))) ?_
  refine RW.soft Wd.a (v := .int .i64 (joinF 0 0 (ts es5) idx tm (ts l))) (by exact E.assign (AF_ev rfl (up rfl (up rfl tp)))) ?_
  refine RW.soft Wd.a (v := .bool (joinO 0 0 (ts es5) idx tm)) (by exact E.assign (AF_ev rfl (up rfl (up rfl tp)))) ?_
  refine RW.fin (fun τ => τ 0 = .int .i64 idx ∧ τ 1 = .int .i64 tm ∧ τ 2 = .slice X l.length c ∧ τ 3 = .int .i64 last ∧ τ 4 = .int .i64 first ∧ τ 5 = .bool ok ∧ τ 12 = .bool false ∧ τ 13 = .pointer (some ⟨b4, 0, none⟩) ∧ τ 14 = .int .i64 (joinA 0 0 (ts es5) idx tm (ts l)) ∧ τ 15 = .int .i64 (joinF 0 0 (ts es5) idx tm (ts l)) ∧ τ 16 = .bool (joinO 0 0 (ts es5) idx tm) ∧ τ 21 = .bool false) ⟨up rfl (up rfl (up rfl (up rfl (up rfl (up rfl (up rfl (up rfl (up rfl (up rfl (up rfl (up rfl hs0))))))))))), up rfl (up rfl (up rfl (up rfl (up rfl (up rfl (up rfl (up rfl (up rfl (up rfl (up rfl (up rfl hs1))))))))))), up rfl (up rfl (up rfl (up rfl (up rfl (up rfl (up rfl (up rfl (up rfl (up rfl (up rfl (up rfl hs2))))))))))), up rfl (up rfl (up rfl (up rfl (up rfl (up rfl (up rfl (up rfl (up rfl (up rfl (up rfl (up rfl hs3))))))))))), up rfl (up rfl (up rfl (up rfl (up rfl (up rfl (up rfl (up rfl (up rfl (up rfl (up rfl (up rfl hs4))))))))))), up rfl (up rfl (up rfl (up rfl (up rfl (up rfl (up rfl (up rfl (up rfl (up rfl (up rfl (up rfl hs5))))))))))), up rfl (up rfl (up rfl (up rfl (up rfl (up rfl (up rfl (up rfl (up rfl (up rfl (up rfl (up rfl hs12))))))))))), up rfl (up rfl (up rfl (up rfl (up rfl (up rfl (up rfl (up rfl (up rfl (up rfl (up rfl (up rfl hs13))))))))))), up rfl (up rfl tp), up rfl tp, tp, up rfl (up rfl (up rfl (up rfl (up rfl (up rfl (up rfl (up rfl (up rfl (up rfl (up rfl (up rfl hs21)))))))))))⟩ ?_
  rintro τ ⟨hs0, hs1, hs2, hs3, hs4, hs5, hs12, hs13, hs14, hs15, hs16, hs21⟩
  refine CW.seq ?_
  refine CW.cut (fun τ => τ 0 = .int .i64 idx ∧ τ 1 = .int .i64 tm ∧ τ 2 = .slice X l.length c ∧ τ 3 = .int .i64 last ∧ τ 4 = .int .i64 first ∧ τ 5 = .bool ok ∧ τ 12 = .bool ((((joinA 0 0 (ts es5) idx tm (ts l)) == last) && ((joinF 0 0 (ts es5) idx tm (ts l)) == first)) && ((joinO 0 0 (ts es5) idx tm) == ok)) ∧ τ 13 = .pointer (some ⟨b4, 0, none⟩) ∧ τ 14 = .int .i64 (joinA 0 0 (ts es5) idx tm (ts l)) ∧ τ 15 = .int .i64 (joinF 0 0 (ts es5) idx tm (ts l)) ∧ τ 16 = .bool (joinO 0 0 (ts es5) idx tm) ∧ τ 21 = .bool false) ?_ ?_
  · refine CW.region ?_
    refine RW.soft Wd.a (v := .int .i64 (joinA 0 0 (ts es5) idx tm (ts l))) (by exact E.move (AF_ev rfl hs14)) ?_
    refine RW.soft Wd.a (v := .int .i64 last) (by exact E.move (AF_ev rfl (up rfl hs3))) ?_
    refine RW.soft Wd.a (v := .bool ((joinA 0 0 (ts es5) idx tm (ts l)) == last)) (by exact E.eql (k := .i64) (a := joinA 0 0 (ts es5) idx tm (ts l)) (b := last) (AF_ev rfl (up rfl tp)) (AF_ev rfl tp)) ?_
    refine RW.soft Wd.a (v := .bool ((joinA 0 0 (ts es5) idx tm (ts l)) == last)) (by exact E.move (AF_ev rfl tp)) ?_
    refine Or.elim (Bool.eq_false_or_eq_true ((joinA 0 0 (ts es5) idx tm (ts l)) == last)) (fun hg7 => ?_) (fun hg7 => ?_)
    · have hg7_ := hg7
      try simp only [decide_eq_true_eq, decide_eq_false_iff_not, Bool.and_eq_true, Bool.or_eq_true, Bool.and_eq_false_iff, Bool.or_eq_false_iff, Bool.not_eq_true', Bool.not_eq_false', beq_iff_eq, beq_eq_false_iff_ne, bne_iff_ne, bne_eq_false_iff_eq, ne_eq, Int.not_lt, Int.not_le, gt_iff_lt, ge_iff_le] at hg7_
      refine RW.soft (by exact Wd.yes (x := 34) rfl (AF_ev rfl (Eq.trans tp (congrArg Value.bool hg7)))) (v := .int .i64 (joinF 0 0 (ts es5) idx tm (ts l))) (by exact E.move (AF_ev rfl (up rfl (up rfl (up rfl (up rfl hs15)))))) ?_
      refine RW.soft (by exact Wd.yes (x := 34) rfl (AF_ev rfl (up rfl (Eq.trans tp (congrArg Value.bool hg7))))) (v := .int .i64 first) (by exact E.move (AF_ev rfl (up rfl (up rfl (up rfl (up rfl (up rfl hs4))))))) ?_
      refine RW.soft (by exact Wd.yes (x := 34) rfl (AF_ev rfl (up rfl (up rfl (Eq.trans tp (congrArg Value.bool hg7)))))) (v := .bool ((joinF 0 0 (ts es5) idx tm (ts l)) == first)) (by exact E.eql (k := .i64) (a := joinF 0 0 (ts es5) idx tm (ts l)) (b := first) (AF_ev rfl (up rfl tp)) (AF_ev rfl tp)) ?_
      refine RW.soft Wd.a (v := .bool ((joinF 0 0 (ts es5) idx tm (ts l)) == first)) (by exact E.pickT (AF_ev rfl (up rfl (up rfl (up rfl (Eq.trans tp (congrArg Value.bool hg7)))))) (AF_ev rfl tp)) ?_
      refine RW.soft Wd.a (v := .bool ((joinF 0 0 (ts es5) idx tm (ts l)) == first)) (by exact E.move (AF_ev rfl tp)) ?_
      refine Or.elim (Bool.eq_false_or_eq_true ((joinF 0 0 (ts es5) idx tm (ts l)) == first)) (fun hg8 => ?_) (fun hg8 => ?_)
      · have hg8_ := hg8
        try simp only [decide_eq_true_eq, decide_eq_false_iff_not, Bool.and_eq_true, Bool.or_eq_true, Bool.and_eq_false_iff, Bool.or_eq_false_iff, Bool.not_eq_true', Bool.not_eq_false', beq_iff_eq, beq_eq_false_iff_ne, bne_iff_ne, bne_eq_false_iff_eq, ne_eq, Int.not_lt, Int.not_le, gt_iff_lt, ge_iff_le] at hg8_
        refine RW.soft (by exact Wd.yes (x := 39) rfl (AF_ev rfl (Eq.trans tp (congrArg Value.bool hg8)))) (v := .bool (joinO 0 0 (ts es5) idx tm)) (by exact E.move (AF_ev rfl (up rfl (up rfl (up rfl (up rfl (up rfl (up rfl (up rfl (up rfl (up rfl hs16))))))))))) ?_
        refine RW.soft (by exact Wd.yes (x := 39) rfl (AF_ev rfl (up rfl (Eq.trans tp (congrArg Value.bool hg8))))) (v := .bool ok) (by exact E.move (AF_ev rfl (up rfl (up rfl (up rfl (up rfl (up rfl (up rfl (up rfl (up rfl (up rfl (up rfl hs5)))))))))))) ?_
        refine RW.soft (by exact Wd.yes (x := 39) rfl (AF_ev rfl (up rfl (up rfl (Eq.trans tp (congrArg Value.bool hg8)))))) (v := .bool ((joinO 0 0 (ts es5) idx tm) == ok)) (by exact E.eqlB Try.underlying4 (AF_ev rfl (up rfl tp)) (AF_ev rfl tp)) ?_
        refine RW.soft Wd.a (v := .bool ((joinO 0 0 (ts es5) idx tm) == ok)) (by exact E.pickT (AF_ev rfl (up rfl (up rfl (up rfl (Eq.trans tp (congrArg Value.bool hg8)))))) (AF_ev rfl tp)) ?_
        refine RW.soft Wd.a (v := .bool ((joinO 0 0 (ts es5) idx tm) == ok)) (by exact E.assign (AF_ev rfl tp)) ?_
        refine RW.nil ⟨rfl, rfl, up rfl (up rfl (up rfl (up rfl (up rfl (up rfl (up rfl (up rfl (up rfl (up rfl (up rfl (up rfl (up rfl (up rfl hs0))))))))))))), up rfl (up rfl (up rfl (up rfl (up rfl (up rfl (up rfl (up rfl (up rfl (up rfl (up rfl (up rfl (up rfl (up rfl hs1))))))))))))), up rfl (up rfl (up rfl (up rfl (up rfl (up rfl (up rfl (up rfl (up rfl (up rfl (up rfl (up rfl (up rfl (up rfl hs2))))))))))))), up rfl (up rfl (up rfl (up rfl (up rfl (up rfl (up rfl (up rfl (up rfl (up rfl (up rfl (up rfl (up rfl (up rfl hs3))))))))))))), up rfl (up rfl (up rfl (up rfl (up rfl (up rfl (up rfl (up rfl (up rfl (up rfl (up rfl (up rfl (up rfl (up rfl hs4))))))))))))), up rfl (up rfl (up rfl (up rfl (up rfl (up rfl (up rfl (up rfl (up rfl (up rfl (up rfl (up rfl (up rfl (up rfl hs5))))))))))))), (bool_eq (a := (joinO 0 0 (ts es5) idx tm) == ok) tp (by simp only [hg7, hg8, Bool.true_and, Bool.false_and, Bool.true_or, Bool.false_or])), up rfl (up rfl (up rfl (up rfl (up rfl (up rfl (up rfl (up rfl (up rfl (up rfl (up rfl (up rfl (up rfl (up rfl hs13))))))))))))), up rfl (up rfl (up rfl (up rfl (up rfl (up rfl (up rfl (up rfl (up rfl (up rfl (up rfl (up rfl (up rfl (up rfl hs14))))))))))))), up rfl (up rfl (up rfl (up rfl (up rfl (up rfl (up rfl (up rfl (up rfl (up rfl (up rfl (up rfl (up rfl (up rfl hs15))))))))))))), up rfl (up rfl (up rfl (up rfl (up rfl (up rfl (up rfl (up rfl (up rfl (up rfl (up rfl (up rfl (up rfl (up rfl hs16))))))))))))), up rfl (up rfl (up rfl (up rfl (up rfl (up rfl (up rfl (up rfl (up rfl (up rfl (up rfl (up rfl (up rfl (up rfl hs21)))))))))))))⟩
      · have hg8_ := hg8
        try simp only [decide_eq_true_eq, decide_eq_false_iff_not, Bool.and_eq_true, Bool.or_eq_true, Bool.and_eq_false_iff, Bool.or_eq_false_iff, Bool.not_eq_true', Bool.not_eq_false', beq_iff_eq, beq_eq_false_iff_ne, bne_iff_ne, bne_eq_false_iff_eq, ne_eq, Int.not_lt, Int.not_le, gt_iff_lt, ge_iff_le] at hg8_
        refine RW.pass (by exact Wd.no (x := 39) (b := false) rfl (AF_ev rfl (Eq.trans tp (congrArg Value.bool hg8))) rfl) ?_
        refine RW.pass (by exact Wd.no (x := 39) (b := false) rfl (AF_ev rfl (up rfl (Eq.trans tp (congrArg Value.bool hg8)))) rfl) ?_
        refine RW.pass (by exact Wd.no (x := 39) (b := false) rfl (AF_ev rfl (up rfl (up rfl (Eq.trans tp (congrArg Value.bool hg8))))) rfl) ?_
        refine RW.soft Wd.a (v := .bool false) (by exact E.pickF (AF_ev rfl (up rfl (up rfl (up rfl (Eq.trans tp (congrArg Value.bool hg8)))))) rfl) ?_
        refine RW.soft Wd.a (v := .bool false) (by exact E.assign (AF_ev rfl tp)) ?_
        refine RW.nil ⟨rfl, rfl, up rfl (up rfl (up rfl (up rfl (up rfl (up rfl (up rfl (up rfl (up rfl (up rfl (up rfl (up rfl (up rfl (up rfl hs0))))))))))))), up rfl (up rfl (up rfl (up rfl (up rfl (up rfl (up rfl (up rfl (up rfl (up rfl (up rfl (up rfl (up rfl (up rfl hs1))))))))))))), up rfl (up rfl (up rfl (up rfl (up rfl (up rfl (up rfl (up rfl (up rfl (up rfl (up rfl (up rfl (up rfl (up rfl hs2))))))))))))), up rfl (up rfl (up rfl (up rfl (up rfl (up rfl (up rfl (up rfl (up rfl (up rfl (up rfl (up rfl (up rfl (up rfl hs3))))))))))))), up rfl (up rfl (up rfl (up rfl (up rfl (up rfl (up rfl (up rfl (up rfl (up rfl (up rfl (up rfl (up rfl (up rfl hs4))))))))))))), up rfl (up rfl (up rfl (up rfl (up rfl (up rfl (up rfl (up rfl (up rfl (up rfl (up rfl (up rfl (up rfl (up rfl hs5))))))))))))), (bool_eq (a := false) tp (by simp only [hg7, hg8, Bool.true_and, Bool.false_and, Bool.true_or, Bool.false_or])), up rfl (up rfl (up rfl (up rfl (up rfl (up rfl (up rfl (up rfl (up rfl (up rfl (up rfl (up rfl (up rfl (up rfl hs13))))))))))))), up rfl (up rfl (up rfl (up rfl (up rfl (up rfl (up rfl (up rfl (up rfl (up rfl (up rfl (up rfl (up rfl (up rfl hs14))))))))))))), up rfl (up rfl (up rfl (up rfl (up rfl (up rfl (up rfl (up rfl (up rfl (up rfl (up rfl (up rfl (up rfl (up rfl hs15))))))))))))), up rfl (up rfl (up rfl (up rfl (up rfl (up rfl (up rfl (up rfl (up rfl (up rfl (up rfl (up rfl (up rfl (up rfl hs16))))))))))))), up rfl (up rfl (up rfl (up rfl (up rfl (up rfl (up rfl (up rfl (up rfl (up rfl (up rfl (up rfl (up rfl (up rfl hs21)))))))))))))⟩
    · have hg7_ := hg7
      try simp only [decide_eq_true_eq, decide_eq_false_iff_not, Bool.and_eq_true, Bool.or_eq_true, Bool.and_eq_false_iff, Bool.or_eq_false_iff, Bool.not_eq_true', Bool.not_eq_false', beq_iff_eq, beq_eq_false_iff_ne, bne_iff_ne, bne_eq_false_iff_eq, ne_eq, Int.not_lt, Int.not_le, gt_iff_lt, ge_iff_le] at hg7_
      refine RW.pass (by exact Wd.no (x := 34) (b := false) rfl (AF_ev rfl (Eq.trans tp (congrArg Value.bool hg7))) rfl) ?_
      refine RW.pass (by exact Wd.no (x := 34) (b := false) rfl (AF_ev rfl (up rfl (Eq.trans tp (congrArg Value.bool hg7)))) rfl) ?_
      refine RW.pass (by exact Wd.no (x := 34) (b := false) rfl (AF_ev rfl (up rfl (up rfl (Eq.trans tp (congrArg Value.bool hg7))))) rfl) ?_
      refine RW.soft Wd.a (v := .bool false) (by exact E.pickF (AF_ev rfl (up rfl (up rfl (up rfl (Eq.trans tp (congrArg Value.bool hg7)))))) rfl) ?_
      refine RW.soft Wd.a (v := .bool false) (by exact E.move (AF_ev rfl tp)) ?_
      refine RW.pass (by exact Wd.no (x := 39) (b := false) rfl (AF_ev rfl tp) rfl) ?_
      refine RW.pass (by exact Wd.no (x := 39) (b := false) rfl (AF_ev rfl (up rfl tp)) rfl) ?_
      refine RW.pass (by exact Wd.no (x := 39) (b := false) rfl (AF_ev rfl (up rfl (up rfl tp))) rfl) ?_
      refine RW.soft Wd.a (v := .bool false) (by exact E.pickF (AF_ev rfl (up rfl (up rfl (up rfl tp)))) rfl) ?_
      refine RW.soft Wd.a (v := .bool false) (by exact E.assign (AF_ev rfl tp)) ?_
      refine RW.nil ⟨rfl, rfl, up rfl (up rfl (up rfl (up rfl (up rfl (up rfl (up rfl (up rfl (up rfl (up rfl (up rfl (up rfl (up rfl (up rfl hs0))))))))))))), up rfl (up rfl (up rfl (up rfl (up rfl (up rfl (up rfl (up rfl (up rfl (up rfl (up rfl (up rfl (up rfl (up rfl hs1))))))))))))), up rfl (up rfl (up rfl (up rfl (up rfl (up rfl (up rfl (up rfl (up rfl (up rfl (up rfl (up rfl (up rfl (up rfl hs2))))))))))))), up rfl (up rfl (up rfl (up rfl (up rfl (up rfl (up rfl (up rfl (up rfl (up rfl (up rfl (up rfl (up rfl (up rfl hs3))))))))))))), up rfl (up rfl (up rfl (up rfl (up rfl (up rfl (up rfl (up rfl (up rfl (up rfl (up rfl (up rfl (up rfl (up rfl hs4))))))))))))), up rfl (up rfl (up rfl (up rfl (up rfl (up rfl (up rfl (up rfl (up rfl (up rfl (up rfl (up rfl (up rfl (up rfl hs5))))))))))))), (bool_eq (a := false) tp (by simp only [hg7, Bool.true_and, Bool.false_and, Bool.true_or, Bool.false_or])), up rfl (up rfl (up rfl (up rfl (up rfl (up rfl (up rfl (up rfl (up rfl (up rfl (up rfl (up rfl (up rfl (up rfl hs13))))))))))))), up rfl (up rfl (up rfl (up rfl (up rfl (up rfl (up rfl (up rfl (up rfl (up rfl (up rfl (up rfl (up rfl (up rfl hs14))))))))))))), up rfl (up rfl (up rfl (up rfl (up rfl (up rfl (up rfl (up rfl (up rfl (up rfl (up rfl (up rfl (up rfl (up rfl hs15))))))))))))), up rfl (up rfl (up rfl (up rfl (up rfl (up rfl (up rfl (up rfl (up rfl (up rfl (up rfl (up rfl (up rfl (up rfl hs16))))))))))))), up rfl (up rfl (up rfl (up rfl (up rfl (up rfl (up rfl (up rfl (up rfl (up rfl (up rfl (up rfl (up rfl (up rfl hs21)))))))))))))⟩
  rintro τ ⟨hs0, hs1, hs2, hs3, hs4, hs5, hs12, hs13, hs14, hs15, hs16, hs21⟩
  refine CW.ret ?_
  refine ret1 (v := .bool ((((joinA 0 0 (ts es5) idx tm (ts l)) == last) && ((joinF 0 0 (ts es5) idx tm (ts l)) == first)) && ((joinO 0 0 (ts es5) idx tm) == ok))) rfl (by exact (.tmp (AF_ev rfl hs12) .nil)) ?_
  have hst := hst.take (.there .here)
  have hst := (hst.take (.there .here)).drop
  have hst := (hst.take (.there .here)).drop
  have hst := (hst.take (.there .here)).drop
  exact ⟨p, hp0, by rw [htses5], hst⟩

theorem ent_joins_true {p : Pers} {w : World} {R : List Assn} {p0 : Pers} {A : Assn} {X : Option Addr} {c : Nat} {l : List Ent} {idx tm last first : Int} {ok : Bool} (hv : (((joinA 0 0 [1, 1, 2] idx tm (ts l) == last) && (joinF 0 0 [1, 1, 2] idx tm (ts l) == first)) && (joinO 0 0 [1, 1, 2] idx tm == ok)) = true) (hp0 : p0.le p) (hidx : -9223372036854775808 ≤ idx ∧ idx ≤ 9223372036854775807) (hA : Tells p A 4 (.slice X l.length c) l.length (flat l)) (hE : EsOk p l) (hl : l.length ≤ 1000) (hst : St p w (A :: R)) :
    Calls Try.prog 65 #[.int .i64 idx, .int .i64 tm, .slice X l.length c, .int .i64 last, .int .i64 first, .bool ok] w fun e w => ∃ q, p0.le q ∧ e = .returned (.bool true) ∧ St q w (A :: R) := by
  have h := ent_joins hp0 idx tm last first ok hidx hA hE hl hst
  rw [hv] at h; exact h

theorem ent_shown {p : Pers} {w : World} {R : List Assn} {p0 : Pers} (hp0 : p0.le p) (hst : St p w (R)) :
    Calls Try.prog 24 #[] w fun e w => ∃ q, p0.le q ∧ e = .returned (.bool true) ∧ St q w R := by
  refine enter Try.func24 rfl (by simp) (n := 24) rfl fun τ hτ => ?_
  clear hτ
  refine CW.seq ?_
  refine CW.region ?_
  refine RW.soft Wd.a (v := .bool false) (by exact E.assign rfl) ?_
  refine RW.fin (fun τ => τ 0 = .bool false) tp ?_
  rintro τ hs0
  refine CW.seq ?_
  refine CW.region ?_
  refine RW.hard Wd.a ?_
  refine H.buildSlice (e := 3) (cs := #[.int .i64 3]) (vs := #[(0, .int .i64 3)]) (bld1 rfl) (fun _ => by kernel_rfl) hst fun b1 w hst => ?_
  have hst := hst.ownNew (n := 1) (cap := 1) (sz := 1) (xs := iv [3]) (by omega) (by simp [maxLen]) rfl rfl
  refine RW.hard Wd.a ?_
  refine H.call0 Try.func54 nm54 rfl (map1 (AF_ev rfl tp)) (Calls.mono (ent_ofC (us := [3]) rfl rfl Own.tells (by simp) hst) ?_)
  rintro _ w ⟨vX2, rfl, hst⟩
  obtain ⟨X2, c3, rfl, hcX2, hmX2, hlX2, hbX2⟩ := hst.shape
  refine ⟨_, rfl, ?_⟩
  show RW _ _ _ _ _ _ _
  refine RW.hard Wd.a ?_
  refine H.call0 Try.func65 nm65 rfl (map6 rfl rfl (AF_ev rfl tp) rfl rfl rfl) (Calls.mono (ent_joins_true (idx := 3) (tm := 2) (last := 4) (first := 4) (ok := true) (by decide) p.le_refl  (by omega) Own.tells (mkE_ok [3]) (by simp) hst) ?_)
  rintro _ w ⟨p, hle, rfl, hst⟩
  have hp0 := hp0.le hle
  refine ⟨_, rfl, ?_⟩
  show RW _ _ _ _ _ _ _
  refine RW.soft Wd.a (v := .bool true) (by exact E.move (AF_ev rfl tp)) ?_
  refine RW.hard (by exact Wd.yes (x := 4) rfl (AF_ev rfl tp)) ?_
  refine H.buildSlice (e := 3) (cs := #[.int .i64 2]) (vs := #[(0, .int .i64 2)]) (bld1 rfl) (fun _ => by kernel_rfl) hst fun b4 w hst => ?_
  have hst := hst.ownNew (n := 1) (cap := 1) (sz := 1) (xs := iv [2]) (by omega) (by simp [maxLen]) rfl rfl
  refine RW.hard (by exact Wd.yes (x := 4) rfl (AF_ev rfl (up rfl tp))) ?_
  refine H.call0 Try.func54 nm54 rfl (map1 (AF_ev rfl tp)) (Calls.mono (ent_ofC (us := [2]) rfl rfl Own.tells (by simp) hst) ?_)
  rintro _ w ⟨vX5, rfl, hst⟩
  obtain ⟨X5, c6, rfl, hcX5, hmX5, hlX5, hbX5⟩ := hst.shape
  refine ⟨_, rfl, ?_⟩
  show RW _ _ _ _ _ _ _
  refine RW.hard (by exact Wd.yes (x := 4) rfl (AF_ev rfl (up rfl (up rfl tp)))) ?_
  refine H.call0 Try.func65 nm65 rfl (map6 rfl rfl (AF_ev rfl tp) rfl rfl rfl) (Calls.mono (ent_joins_true (idx := 2) (tm := 1) (last := 3) (first := 0) (ok := true) (by decide) p.le_refl  (by omega) Own.tells (mkE_ok [2]) (by simp) hst) ?_)
  rintro _ w ⟨p, hle, rfl, hst⟩
  have hp0 := hp0.le hle
  refine ⟨_, rfl, ?_⟩
  show RW _ _ _ _ _ _ _
  refine RW.soft Wd.a (v := .bool true) (by exact E.pickT (AF_ev rfl (up rfl (up rfl (up rfl tp)))) (AF_ev rfl tp)) ?_
  refine RW.soft Wd.a (v := .bool true) (by exact E.move (AF_ev rfl tp)) ?_
  refine RW.hard (by exact Wd.yes (x := 9) rfl (AF_ev rfl tp)) ?_
  refine H.buildSlice (e := 3) (cs := #[.int .i64 3]) (vs := #[(0, .int .i64 3)]) (bld1 rfl) (fun _ => by kernel_rfl) hst fun b7 w hst => ?_
  have hst := hst.ownNew (n := 1) (cap := 1) (sz := 1) (xs := iv [3]) (by omega) (by simp [maxLen]) rfl rfl
  refine RW.hard (by exact Wd.yes (x := 9) rfl (AF_ev rfl (up rfl tp))) ?_
  refine H.call0 Try.func54 nm54 rfl (map1 (AF_ev rfl tp)) (Calls.mono (ent_ofC (us := [3]) rfl rfl Own.tells (by simp) hst) ?_)
  rintro _ w ⟨vX8, rfl, hst⟩
  obtain ⟨X8, c9, rfl, hcX8, hmX8, hlX8, hbX8⟩ := hst.shape
  refine ⟨_, rfl, ?_⟩
  show RW _ _ _ _ _ _ _
  refine RW.hard (by exact Wd.yes (x := 9) rfl (AF_ev rfl (up rfl (up rfl tp)))) ?_
  refine H.call0 Try.func65 nm65 rfl (map6 rfl rfl (AF_ev rfl tp) rfl rfl rfl) (Calls.mono (ent_joins_true (idx := 2) (tm := 1) (last := 3) (first := 3) (ok := true) (by decide) p.le_refl  (by omega) Own.tells (mkE_ok [3]) (by simp) hst) ?_)
  rintro _ w ⟨p, hle, rfl, hst⟩
  have hp0 := hp0.le hle
  refine ⟨_, rfl, ?_⟩
  show RW _ _ _ _ _ _ _
  refine RW.soft Wd.a (v := .bool true) (by exact E.pickT (AF_ev rfl (up rfl (up rfl (up rfl tp)))) (AF_ev rfl tp)) ?_
  refine RW.soft Wd.a (v := .bool true) (by exact E.move (AF_ev rfl tp)) ?_
  refine RW.hard (by exact Wd.yes (x := 14) rfl (AF_ev rfl tp)) ?_
  refine H.buildSlice (e := 3) (cs := #[.int .i64 3]) (vs := #[(0, .int .i64 3)]) (bld1 rfl) (fun _ => by kernel_rfl) hst fun b10 w hst => ?_
  have hst := hst.ownNew (n := 1) (cap := 1) (sz := 1) (xs := iv [3]) (by omega) (by simp [maxLen]) rfl rfl
  refine RW.hard (by exact Wd.yes (x := 14) rfl (AF_ev rfl (up rfl tp))) ?_
  refine H.call0 Try.func54 nm54 rfl (map1 (AF_ev rfl tp)) (Calls.mono (ent_ofC (us := [3]) rfl rfl Own.tells (by simp) hst) ?_)
  rintro _ w ⟨vX11, rfl, hst⟩
  obtain ⟨X11, c12, rfl, hcX11, hmX11, hlX11, hbX11⟩ := hst.shape
  refine ⟨_, rfl, ?_⟩
  show RW _ _ _ _ _ _ _
  refine RW.hard (by exact Wd.yes (x := 14) rfl (AF_ev rfl (up rfl (up rfl tp)))) ?_
  refine H.call0 Try.func65 nm65 rfl (map6 rfl rfl (AF_ev rfl tp) rfl rfl rfl) (Calls.mono (ent_joins_true (idx := 5) (tm := 2) (last := 3) (first := 0) (ok := false) (by decide) p.le_refl  (by omega) Own.tells (mkE_ok [3]) (by simp) hst) ?_)
  rintro _ w ⟨p, hle, rfl, hst⟩
  have hp0 := hp0.le hle
  refine ⟨_, rfl, ?_⟩
  show RW _ _ _ _ _ _ _
  refine RW.soft Wd.a (v := .bool true) (by exact E.pickT (AF_ev rfl (up rfl (up rfl (up rfl tp)))) (AF_ev rfl tp)) ?_
  refine RW.soft Wd.a (v := .bool true) (by exact E.move (AF_ev rfl tp)) ?_
  refine RW.hard (by exact Wd.yes (x := 19) rfl (AF_ev rfl tp)) ?_
  refine H.buildSlice (e := 3) (cs := #[.int .i64 3]) (vs := #[(0, .int .i64 3)]) (bld1 rfl) (fun _ => by kernel_rfl) hst fun b13 w hst => ?_
  have hst := hst.ownNew (n := 1) (cap := 1) (sz := 1) (xs := iv [3]) (by omega) (by simp [maxLen]) rfl rfl
  refine RW.hard (by exact Wd.yes (x := 19) rfl (AF_ev rfl (up rfl tp))) ?_
  refine H.call0 Try.func54 nm54 rfl (map1 (AF_ev rfl tp)) (Calls.mono (ent_ofC (us := [3]) rfl rfl Own.tells (by simp) hst) ?_)
  rintro _ w ⟨vX14, rfl, hst⟩
  obtain ⟨X14, c15, rfl, hcX14, hmX14, hlX14, hbX14⟩ := hst.shape
  refine ⟨_, rfl, ?_⟩
  show RW _ _ _ _ _ _ _
  refine RW.hard (by exact Wd.yes (x := 19) rfl (AF_ev rfl (up rfl (up rfl tp)))) ?_
  refine H.call0 Try.func65 nm65 rfl (map6 rfl rfl (AF_ev rfl tp) rfl rfl rfl) (Calls.mono (ent_joins_true (idx := 2) (tm := 2) (last := 0) (first := 0) (ok := false) (by decide) p.le_refl  (by omega) Own.tells (mkE_ok [3]) (by simp) hst) ?_)
  rintro _ w ⟨p, hle, rfl, hst⟩
  have hp0 := hp0.le hle
  refine ⟨_, rfl, ?_⟩
  show RW _ _ _ _ _ _ _
  refine RW.soft Wd.a (v := .bool true) (by exact E.pickT (AF_ev rfl (up rfl (up rfl (up rfl tp)))) (AF_ev rfl tp)) ?_
  refine RW.soft Wd.a (v := .bool true) (by exact E.assign (AF_ev rfl tp)) ?_
  refine RW.fin (fun τ => τ 0 = .bool true) tp ?_
  rintro τ hs0
  refine CW.ret ?_
  refine ret1 (v := .bool true) rfl (by exact (.tmp (AF_ev rfl hs0) .nil)) ?_
  have hst := hst.drop
  have hst := hst.drop
  have hst := hst.drop
  have hst := hst.drop
  have hst := hst.drop
  have hst := hst.drop
  have hst := hst.drop
  have hst := hst.drop
  have hst := hst.drop
  have hst := hst.drop
  exact ⟨p, hp0, rfl, hst⟩
end Go.Proofs.Ytdlcjoonhojpfaa
