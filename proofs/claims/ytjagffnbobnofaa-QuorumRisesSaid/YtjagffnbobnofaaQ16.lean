/- Members that bits name; what lasts. -/
import Derived.Test.YtjagffnbobnofaaQ14
namespace Go.Q18
open Go.RowKit Go.SL
set_option linter.unusedVariables false
set_option linter.unusedSimpArgs false
theorem made_mem {bits n : Int} (h : n ∈ madeR bits) : 1 ≤ n ∧ n ≤ 7 := by
  unfold madeR at h
  split at h
  · rw [List.mem_singleton.1 h]; omega
  · have := upL_mem.1 h; omega
theorem made_pos (bits : Int) : 0 < (madeR bits).length := by
  unfold madeR
  split
  · simp
  · omega
theorem made_le (bits : Int) : (madeR bits).length ≤ 7 := by
  unfold madeR
  split
  · simp
  · exact upL_le _ _
theorem made_rises (bits : Int) : (madeR bits).Pairwise (· < ·) := by
  unfold madeR
  split
  · simp
  · exact upL_sorted _ _
theorem made_ok (bits : Int) : checkI (madeR bits) = 0 :=
  check_of (ok_of_rises (made_rises bits) fun n h => by have := made_mem h; omega) (List.length_pos_iff.1 (made_pos bits))
/-- a row of ints that lasts -/
def LI (p : Pers) (v : Value) (zs : List Int) : Prop := Las p 1 v zs.length (zs.flatMap ienc)
theorem LI.le {p q : Pers} {v : Value} {zs : List Int} (h : LI p v zs) (l : p.le q) : LI q v zs := Las.le h l
theorem LI.tells {p : Pers} {v : Value} {zs : List Int} (h : LI p v zs) : TI p Emp v zs := fun w H s => Las.src h s
theorem LI.take {p : Pers} {X : Option Addr} {c k : Nat} {zs : List Int} (h : LI p (.slice X zs.length c) zs) (hk : k ≤ zs.length) : LI p (.slice X k c) (zs.take k) := by
  obtain ⟨hl, X', c', he, hc, h2⟩ := h
  cases he
  have hk2 : (zs.take k).length = k := by rw [List.length_take]; omega
  refine ⟨by rw [ienc_flen, Nat.mul_one], X, c, by rw [hk2], by omega, ?_⟩
  rcases h2 with h0 | ⟨b, o, cur, e, fr, rfl, hp, hcell⟩
  · exact .inl (by omega)
  · refine .inr ⟨b, o, cur, e, fr, rfl, hp, fun j u hu => hcell j u ?_⟩
    rw [← ienc_take, List.getElem?_take] at hu
    split at hu
    · exact hu
    · cases hu
theorem keepI {p : Pers} {w : World} {H : List Assn} {v : Value} {n : Nat} {zs : List Int} (hn : n = zs.length) (s : St p w (Own 3 1 v n (zs.flatMap ienc) :: H)) : ∃ q, p.le q ∧ LI q v zs ∧ St q w H := by
  subst hn; exact s.ownKeep
end Go.Q18
namespace Go.Q18
open Go.RowKit Go.SL
theorem chg_le (zs : List Int) (id : Int) : (chgR zs id).length ≤ 7 := by
  unfold chgR
  split
  · exact upL_le _ _
  · simp
theorem take_le (zs : List Int) : (zs.take 30).length ≤ 30 := by rw [List.length_take]; omega
theorem most_same (a n : Nat) : (decide (((a : Nat) : Int) > ((n : Nat) : Int) / 2) == decide (2 * ((a : Nat) : Int) > ((n : Nat) : Int))) = true := by
  rw [beq_iff_eq, decide_eq_decide]; omega
theorem Fit.take {ys : List Int} (h : Fit ys) (k : Nat) : Fit (ys.take k) := fun n hn => h n (List.mem_of_mem_take hn)
end Go.Q18
