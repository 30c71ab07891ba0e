/- The calls of the package entries, walked through operation by operation. -/
import Derived.Test.YtdlcjoonhojpfaaE0
import Derived.Test.YtdlcjoonhojpfaaT1
import Derived.Test.YtdlcjoonhojpfaaE1
import Derived.Test.YtdlcjoonhojpfaaE2
import Derived.Test.YtdlcjoonhojpfaaE3
import Derived.Test.YtdlcjoonhojpfaaE4
import Derived.Test.YtdlcjoonhojpfaaE5
namespace Go.Proofs.Ytdlcjoonhojpfaa
open Go.RowKit Go.SL Go.E17
attribute [local irreducible] Go.SL.RW Go.SL.CW Go.SL.RD Go.SL.Hd Go.SL.St
set_option linter.unusedVariables false
set_option linter.unusedSimpArgs false

theorem nm24 : (Try.f24.name == "runtime.NumGoroutine") = false := by kernel_rfl
theorem nm26 : (Try.f26.name == "runtime.NumGoroutine") = false := by kernel_rfl
theorem nm33 : (Try.f33.name == "runtime.NumGoroutine") = false := by kernel_rfl

theorem ent_LastL {p : Pers} {w : World} {R : List Assn} {b : Nat} {i t : Int} {es : List Ent} {v : Int} (hv : i + ((es.length : Nat) : Int) = v) (hst : St p w (LogB p b i t es :: R)) :
    Calls Try.prog 30 #[.pointer (some ⟨b, 0, none⟩)] w fun e w => e = .returned (.int .i64 v) ∧ St p w (LogB p b i t es :: R) := by
  obtain ⟨X, c, hi, hn, hE, hcc, hX, s⟩ := logOpen hst
  exact Calls.mono (ent_Last hi hn s) (by rintro _ w ⟨rfl, s⟩; exact ⟨by rw [hv], logClose hi hn hE s⟩)

theorem ent_FirstL {p : Pers} {w : World} {R : List Assn} {b : Nat} {i t : Int} {es : List Ent}  (hst : St p w (LogB p b i t es :: R)) :
    Calls Try.prog 31 #[.pointer (some ⟨b, 0, none⟩)] w fun e w => e = .returned (.int .i64 (i + 1)) ∧ St p w (LogB p b i t es :: R) := by
  obtain ⟨X, c, hi, hn, hE, hcc, hX, s⟩ := logOpen hst
  exact Calls.mono (ent_First hi hn s) (by rintro _ w ⟨rfl, s⟩; exact ⟨rfl, logClose hi hn hE s⟩)

theorem ent_TermL {p : Pers} {w : World} {R : List Assn} {b : Nat} {i t : Int} {es : List Ent} {v u : Int} (k : Int) (hk : -9223372036854775808 ≤ k ∧ k ≤ 9223372036854775807) (hv : termT i t (ts es) k = v) (hu : termE i (ts es) k = u) (hst : St p w (LogB p b i t es :: R)) :
    Calls Try.prog 32 #[.pointer (some ⟨b, 0, none⟩), .int .i64 k] w fun e w => e = .returned (.tuple #[.int .i64 v, .int .i64 u]) ∧ St p w (LogB p b i t es :: R) := by
  obtain ⟨X, c, hi, hn, hE, hcc, hX, s⟩ := logOpen hst
  exact Calls.mono (ent_Term hi hn hX k hk s) (by rintro _ w ⟨rfl, s⟩; exact ⟨by rw [hv, hu], logClose hi hn hE s⟩)

theorem ent_BehindL {p : Pers} {w : World} {R : List Assn} {b : Nat} {i t : Int} {es : List Ent} {v : Bool} (k u : Int) (hv : behB i t es k u = v) (hst : St p w (LogB p b i t es :: R)) :
    Calls Try.prog 33 #[.pointer (some ⟨b, 0, none⟩), .int .i64 k, .int .i64 u] w fun e w => e = .returned (.bool v) ∧ St p w (LogB p b i t es :: R) := by
  obtain ⟨X, c, hi, hn, hE, hcc, hX, s⟩ := logOpen hst
  exact Calls.mono (ent_Behind hi hn hX k u s) (by rintro _ w ⟨rfl, s⟩; exact ⟨by rw [hv], logClose hi hn hE s⟩)

def behN (i t k u : Int) : Bool := decide (u > t) || (u == t && decide (k ≥ i))
theorem behB_nil {i t k u : Int} : behB i t [] k u = behN i t k u := by
  unfold behB behN; simp only [List.length_nil, Int.natCast_zero, Int.add_zero, termT_base]
theorem behN_other {a t b u : Int} (h : behN a t b u = false) : behN b u a t = true := by
  unfold behN at h ⊢
  rw [Bool.or_eq_false_iff, decide_eq_false_iff_not, Bool.and_eq_false_iff, beq_eq_false_iff_ne, decide_eq_false_iff_not] at h
  rw [Bool.or_eq_true, decide_eq_true_eq, Bool.and_eq_true, beq_iff_eq, decide_eq_true_eq]
  omega
theorem behN_self {a t : Int} : behN a t a t = true := by unfold behN; simp
theorem behN_both {a t b u : Int} (h : behN a t b u = true) (h2 : behN b u a t = true) : a = b ∧ t = u := by
  unfold behN at h h2
  rw [Bool.or_eq_true, decide_eq_true_eq, Bool.and_eq_true, beq_iff_eq, decide_eq_true_eq] at h h2
  omega
theorem behN_one {a t b u : Int} (h : behN a t b u = false ∨ behN b u a t = false) (e : a = b) : t ≠ u := by
  rintro rfl; subst e
  rw [behN_self] at h; simp at h

end Go.Proofs.Ytdlcjoonhojpfaa
