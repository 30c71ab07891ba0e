/- The calls of the package entries, walked through operation by operation. -/
import Derived.Test.YtdlcjoonhojpfaaE0
import Derived.Test.YtdlcjoonhojpfaaT1
import Derived.Test.YtdlcjoonhojpfaaE1
import Derived.Test.YtdlcjoonhojpfaaE2
import Derived.Test.YtdlcjoonhojpfaaE3
import Derived.Test.YtdlcjoonhojpfaaE4
import Derived.Test.YtdlcjoonhojpfaaE5
import Derived.Test.YtdlcjoonhojpfaaE6
import Derived.Test.YtdlcjoonhojpfaaE9
import Derived.Test.YtdlcjoonhojpfaaE10
import Derived.Test.YtdlcjoonhojpfaaE11
import Derived.Test.YtdlcjoonhojpfaaE14
import Derived.Test.YtdlcjoonhojpfaaE15
import Derived.Test.YtdlcjoonhojpfaaE16
import Derived.Test.YtdlcjoonhojpfaaE22
import Derived.Test.YtdlcjoonhojpfaaE23
import Derived.Test.YtdlcjoonhojpfaaE24
import Derived.Test.YtdlcjoonhojpfaaE25
import Derived.Test.YtdlcjoonhojpfaaE26
import Derived.Test.YtdlcjoonhojpfaaE27
import Derived.Test.YtdlcjoonhojpfaaE28
import Derived.Test.YtdlcjoonhojpfaaE29
import Derived.Test.YtdlcjoonhojpfaaE30
namespace Go.Proofs.Ytdlcjoonhojpfaa
open Go.RowKit Go.SL Go.E17
attribute [local irreducible] Go.SL.RW Go.SL.CW Go.SL.RD Go.SL.Hd Go.SL.St
set_option linter.unusedVariables false
set_option linter.unusedSimpArgs false



/-- a call on a log that comes in -/
structure LOp where
  kd : Int
  ix : Int
  tm : Int
  Z : Option Addr
  d : Nat
  z : List Ent
def LOp.enc (o : LOp) : List Value := [.int .i64 o.kd, .int .i64 o.ix, .int .i64 o.tm, .slice o.Z o.z.length o.d]
theorem LOp.enc_len (o : LOp) : o.enc.length = 4 := rfl
def LOk (p : Pers) (o : LOp) : Prop := ((-9223372036854775808 ≤ o.kd ∧ o.kd ≤ 9223372036854775807) ∧ (-9223372036854775808 ≤ o.ix ∧ o.ix ≤ 9223372036854775807) ∧ (-9223372036854775808 ≤ o.tm ∧ o.tm ≤ 9223372036854775807)) ∧ o.z.length ≤ 9223372036854775807 ∧ Las p 4 (.slice o.Z o.z.length o.d) o.z.length (flat o.z) ∧ EsLas p o.z
def LsOk (p : Pers) (os : List LOp) : Prop := ∀ o ∈ os, LOk p o
theorem LsOk.le {p q : Pers} {os : List LOp} (h : LsOk p os) (l : p.le q) : LsOk q os := fun o ho => ⟨(h o ho).1, (h o ho).2.1, (h o ho).2.2.1.le l, (h o ho).2.2.2.le l⟩
theorem fromL_all {α : Type} {i : Int} {es : List α} (hi : 0 ≤ i) (hn : es.length ≤ 2000) : fromL i es 0 2000 = es := by
  unfold fromL
  have h1 : (max 0 (i + 1) - (i + 1)).toNat = 0 := by omega
  rw [h1, List.drop_zero]
  split
  · rename_i h
    have : es.length = 0 := by omega
    exact (List.eq_nil_of_length_eq_zero this).symm
  · rw [List.take_of_length_le (by omega)]

theorem ent_Base_far {p : Pers} {w : World} {R : List Assn} {b : Nat} {i t : Int} {es : List Ent} (k u : Int) (hk : i ≤ k ∧ 1099511627776 < k) (hst : St p w (LogB p b i t es :: R)) :
    Calls Try.prog 37 #[.pointer (some ⟨b, 0, none⟩), .int .i64 k, .int .i64 u] w fun e w => e = .returned (.int .i64 1) ∧ St p w (LogB p b i t es :: R) := by
  obtain ⟨X, c, hi, hn, hE, hcc, hX, hst⟩ := logOpen hst
  refine enter Try.func37 rfl (by simp) (n := 66) rfl fun τ hτ => ?_
  have hs0 : τ 0 = .pointer (some ⟨b, 0, none⟩) := hτ 0 (by simp)
  have hs1 : τ 1 = .int .i64 k := hτ 1 (by simp)
  have hs2 : τ 2 = .int .i64 u := hτ 2 (by simp)
  clear hτ
  refine CW.seq ?_
  refine CW.region ?_
  refine RW.soft Wd.a (v := .int .i64 0) (by exact E.assign rfl) ?_
  refine RW.fin (fun τ => τ 0 = .pointer (some ⟨b, 0, none⟩) ∧ τ 1 = .int .i64 k ∧ τ 2 = .int .i64 u ∧ τ 6 = .int .i64 0) ⟨up rfl hs0, up rfl hs1, up rfl hs2, tp⟩ ?_
  rintro τ ⟨hs0, hs1, hs2, hs6⟩
  refine CW.seq ?_
  refine CW.seq ?_
  refine CW.region ?_
  refine RW.soft Wd.a (v := .int .i64 k) (by exact E.move (AF_ev rfl hs1)) ?_
  refine RW.soft Wd.a (v := .pointer (some ⟨b, 0, none⟩)) (by exact E.move (AF_ev rfl (up rfl hs0))) ?_
  refine RW.soft Wd.a (v := .pointer (some ⟨b, 0, none⟩)) (by exact E.nilCheck (a := ⟨b, 0, none⟩) (AF_ev rfl tp)) ?_
  refine RW.soft Wd.a (v := .pointer (some ⟨b, 0, none⟩)) (by exact E.fieldAddr (b := b) (o := 0) (f := { name := "index", type := 3, offset := 0, embedded := false, tag := "", pkgPath := "strongroom/entries", byteOffset := 0 }) (AF_ev rfl tp) Try.underlying122 rfl sz3 rfl) ?_
  refine RW.soft Wd.a (v := .int .i64 i) (by exact E.load (a := ⟨b, 0, none⟩) Try.underlying3 rfl (AF_ev rfl tp) (hst.cell .here rfl)) ?_
  refine RW.soft Wd.a (v := .bool false) (by exact E.b (a := decide (k < i)) (E.lss (k := .i64) (a := k) (b := i) (AF_ev rfl (up rfl (up rfl (up rfl (up rfl tp))))) (AF_ev rfl tp)) (decide_eq_false (by omega))) ?_
  refine RW.soft Wd.a (v := .bool false) (by exact E.move (AF_ev rfl tp)) ?_
  refine RW.soft (by exact Wd.yes (x := 15) rfl (AF_ev rfl tp)) (v := .int .i64 k) (by exact E.move (AF_ev rfl (up rfl (up rfl (up rfl (up rfl (up rfl (up rfl (up rfl hs1))))))))) ?_
  refine RW.soft (by exact Wd.yes (x := 15) rfl (AF_ev rfl (up rfl tp))) (v := .bool true) (by exact E.b (a := decide (k > 1099511627776)) (E.gtr (k := .i64) (a := k) (b := 1099511627776) (AF_ev rfl tp) rfl) (decide_eq_true (by omega))) ?_
  refine RW.soft Wd.a (v := .bool true) (by exact E.pickF (AF_ev rfl (up rfl (up rfl tp))) (AF_ev rfl tp)) ?_
  refine RW.fin (fun τ => τ 0 = .pointer (some ⟨b, 0, none⟩) ∧ τ 1 = .int .i64 k ∧ τ 2 = .int .i64 u ∧ τ 6 = .int .i64 0 ∧ τ 18 = .bool true) ⟨up rfl (up rfl (up rfl (up rfl (up rfl (up rfl (up rfl (up rfl (up rfl (up rfl hs0))))))))), up rfl (up rfl (up rfl (up rfl (up rfl (up rfl (up rfl (up rfl (up rfl (up rfl hs1))))))))), up rfl (up rfl (up rfl (up rfl (up rfl (up rfl (up rfl (up rfl (up rfl (up rfl hs2))))))))), up rfl (up rfl (up rfl (up rfl (up rfl (up rfl (up rfl (up rfl (up rfl (up rfl hs6))))))))), tp⟩ ?_
  rintro τ ⟨hs0, hs1, hs2, hs6, hs18⟩
  refine CW.condT (AF_ev rfl hs18) ?_
  refine CW.seq ?_
  refine CW.region ?_
  refine RW.soft Wd.a (v := .int .i64 1) (by exact E.assign rfl) ?_
  refine RW.fin (fun τ => τ 0 = .pointer (some ⟨b, 0, none⟩) ∧ τ 1 = .int .i64 k ∧ τ 2 = .int .i64 u ∧ τ 6 = .int .i64 1 ∧ τ 18 = .bool true) ⟨up rfl hs0, up rfl hs1, up rfl hs2, tp, up rfl hs18⟩ ?_
  rintro τ ⟨hs0, hs1, hs2, hs6, hs18⟩
  refine CW.ret ?_
  refine Th.r ?_
  refine ret1 (v := .int .i64 1) rfl (by exact (.tmp (AF_ev rfl hs6) .nil)) ?_
  have hst := hst.take (.there .here)
  have hst := hst.take (.there .here)
  exact ⟨rfl, logClose hi hn hE hst⟩

theorem ent_Base_drop {p : Pers} {w : World} {R : List Assn} {b : Nat} {i t : Int} {es : List Ent} (k u : Int) (hst : St p w (LogB p b i t es :: R)) :
    Calls Try.prog 37 #[.pointer (some ⟨b, 0, none⟩), .int .i64 k, .int .i64 u] w fun e w => ∃ r, e = .returned (.int .i64 r) ∧ St p w R := by
  by_cases h1 : k < i
  · exact Calls.mono (ent_Base_no k u h1 hst) (by rintro _ w ⟨rfl, s⟩; exact ⟨_, rfl, s.drop⟩)
  · by_cases h2 : k ≤ 1099511627776
    · exact Calls.mono (ent_Base_yes k u ⟨by omega, h2⟩ hst) (by rintro _ w ⟨rfl, s⟩; exact ⟨_, rfl, s.drop⟩)
    · exact Calls.mono (ent_Base_far k u ⟨by omega, by omega⟩ hst) (by rintro _ w ⟨rfl, s⟩; exact ⟨_, rfl, s.drop⟩)
theorem ref_NewC {p : Pers} {w : World} {R : List Assn} {A : Assn} {X : Option Addr} {c : Nat} {l : List Ent} {i' : Int} (i t : Int) (hA : Tells p A 4 (.slice X l.length c) l.length (flat l)) (hE : EsOk p l) (hl : l.length ≤ 1000000) (hi : -9223372036854775808 ≤ i ∧ i ≤ 9223372036854775807) (hi' : max 0 (min i 1099511627776) = i') (hst : St p w (A :: R)) :
    Calls Try.prog 51 #[.int .i64 i, .int .i64 t, .slice X l.length c] w fun e w => ∃ b, e = .returned (.pointer (some ⟨b, 0, none⟩)) ∧ St p w (RefB p b i' t l :: A :: R) := by
  subst hi'; exact ref_New i t hA hE hl hi hst
end Go.Proofs.Ytdlcjoonhojpfaa
