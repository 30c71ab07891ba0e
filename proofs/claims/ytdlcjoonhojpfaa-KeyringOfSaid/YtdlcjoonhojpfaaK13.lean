/- A call on keys that comes in; what it does with keys. -/
import Derived.Test.YtdlcjoonhojpfaaK11
import Derived.Test.YtdlcjoonhojpfaaK3
namespace Go.K13
open Go.RowKit Go.SL
set_option linter.unusedVariables false
set_option linter.unusedSimpArgs false
structure OpM where
  kd : Int
  id : Int
  n : Int
  m : K32
def OpM.enc (o : OpM) : List Value := [.int .i64 o.kd, .int .i64 o.id, .int .i64 o.n] ++ bk o.m
theorem OpM.enc_len (o : OpM) : o.enc.length = 35 := by simp [OpM.enc, bk_len]
theorem OpM.at_m (o : OpM) {j : Nat} {u : Value} (h : (bk o.m)[j]? = some u) : o.enc[3 + j]? = some u := by
  rw [OpM.enc, List.getElem?_append_right (by simp only [List.length_cons, List.length_nil]; omega)]
  simpa [Nat.add_sub_cancel_left] using h
theorem OpM.one (o : OpM) : ∀ u ∈ o.enc, u.oneCell' = true := by
  intro u hu
  rw [OpM.enc, List.mem_append] at hu
  rcases hu with h | h
  · simp at h; rcases h with rfl | rfl | rfl <;> rfl
  · exact bk_one _ u h
theorem OpM.ones (l : List OpM) : ∀ u ∈ l.flatMap OpM.enc, u.oneCell' = true := by
  intro u hu
  obtain ⟨a, _, h⟩ := List.mem_flatMap.1 hu
  exact a.one u h
def I64 (n : Int) : Prop := -9223372036854775808 ≤ n ∧ n ≤ 9223372036854775807
def OpM.Ok (o : OpM) : Prop := I64 o.kd ∧ I64 o.id ∧ I64 o.n
def opStep (ks : RK) (o : OpM) : RK :=
  if kindF o.kd 8 = 0 then (kCreate ks o.m).2.2 else if kindF o.kd 8 = 1 then (kRotate ks o.id o.m).2.2 else if kindF o.kd 8 = 2 then (kSwitch ks o.id (Int.tmod o.n 2 == 0)).2 else
  if kindF o.kd 8 = 3 then (kDestroy ks o.id o.n).2 else if kindF o.kd 8 = 4 ∨ kindF o.kd 8 = 5 then (kUse ks o.id).2.2.2.2 else ks
def pairK (a b : K32) : List Value := bk a ++ bk b
theorem pair_at0 (a b : K32) {j : Nat} {u : Value} (h : (bk a)[j]? = some u) : (bk a ++ bk b)[j]? = some u := by
  rw [List.getElem?_append_left (List.getElem?_eq_some_iff.1 h).1]; exact h
theorem pair_at1 (a b : K32) {j : Nat} {u : Value} (h : (bk b)[j]? = some u) : (bk a ++ bk b)[32 + j]? = some u := by
  rw [List.getElem?_append_right (by rw [bk_len]; omega), bk_len, Nat.add_sub_cancel_left]; exact h
end Go.K13
