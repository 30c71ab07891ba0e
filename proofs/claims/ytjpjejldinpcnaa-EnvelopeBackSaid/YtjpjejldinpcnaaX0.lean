/- slices.Clone of bytes, walked through operation by operation. -/
import Derived.Test.YtjpjejldinpcnaaProg
import Derived.Test.YtjpjejldinpcnaaAW
namespace Go.Proofs.Ytjpjejldinpcnaa
open Go.RowKit Go.SL
attribute [local irreducible] Go.SL.RW Go.SL.CW Go.SL.RD Go.SL.Hd Go.SL.St
set_option linter.unusedVariables false
set_option linter.unusedSimpArgs false

theorem inf5 : (Try.prog.info? 5).map (fun i => (i.zero, i.size, i.bytes)) = some (some (.int .u8 0), 1, 1) := by kernel_rfl

theorem clone_bytes {p : Pers} {w : World} {R : List Assn} {A : Assn} {X : Option Addr} {m c : Nat} {xs : List Value} (hA : ∀ w H, St p w (A :: H) → SL.Src w 1 (.slice X m c) m xs) (h1 : ∀ u ∈ xs, u.oneCell' = true) (hm : m * 1 ≤ 140737488355328) (hst : St p w (A :: R)) :
    Calls Try.prog 80 #[.slice X m c] w fun e w => ∃ v, e = .returned v ∧ (isNil v = true ↔ X.isNone = true) ∧ St p w (SL.Own 5 1 v m xs :: A :: R) := by
  refine enter Try.func80 rfl (by simp) (n := 8) rfl fun τ hτ => ?_
  have hs0 : τ 0 = .slice X m c := hτ 0 (by simp)
  clear hτ
  refine CW.seq ?_
  refine CW.region ?_
  refine RW.soft Wd.a (v := .slice none 0 0) (by exact E.assign rfl) ?_
  refine RW.fin (fun τ => τ 0 = .slice X m c ∧ τ 2 = .slice none 0 0) ⟨up rfl hs0, tp⟩ ?_
  rintro τ ⟨hs0, hs2⟩
  refine CW.seq ?_
  refine CW.seq ?_
  refine CW.region ?_
  refine RW.soft Wd.a (v := .slice X m c) (by exact E.move (AF_ev rfl hs0)) ?_
  refine RW.soft Wd.a (v := .bool X.isNone) (by exact E.eqlS (p := X) (l := m) (c := c) Try.underlying25 (AF_ev rfl tp) rfl) ?_
  refine RW.fin (fun τ => τ 0 = .slice X m c ∧ τ 2 = .slice none 0 0 ∧ τ 4 = .bool X.isNone) ⟨up rfl (up rfl hs0), up rfl (up rfl hs2), tp⟩ ?_
  rintro τ ⟨hs0, hs2, hs4⟩
  refine CW.cond (AF_ev rfl hs4) (fun hc1 => ?_) (fun hc1 => ?_)
  · have hc1_ := hc1
    try simp only [decide_eq_true_eq, decide_eq_false_iff_not, Bool.and_eq_true, Bool.or_eq_true, Bool.and_eq_false_iff, Bool.or_eq_false_iff, Bool.not_eq_true', Bool.not_eq_false', beq_iff_eq, beq_eq_false_iff_ne, bne_iff_ne, bne_eq_false_iff_eq, ne_eq, Int.not_lt, Int.not_le, gt_iff_lt, ge_iff_le] at hc1_
    refine CW.seq ?_
    refine CW.region ?_
    refine RW.soft Wd.a (v := .slice none 0 0) (by exact E.assign rfl) ?_
    refine RW.fin (fun τ => τ 0 = .slice X m c ∧ τ 2 = .slice none 0 0 ∧ τ 4 = .bool true) ⟨up rfl hs0, tp, up rfl (Eq.trans hs4 (congrArg Value.bool hc1))⟩ ?_
    rintro τ ⟨hs0, hs2, hs4⟩
    refine CW.ret ?_
    refine Th.r ?_
    refine ret1 (v := .slice none 0 0) rfl (by exact (.tmp (AF_ev rfl hs2) .nil)) ?_
    obtain rfl := Option.isNone_iff_eq_none.1 hc1
    obtain ⟨rfl, -, rfl⟩ := (hA _ _ hst).nil0
    exact ⟨_, rfl, by simp [isNil], hst.ownNil none⟩
  · have hc1_ := hc1
    try simp only [decide_eq_true_eq, decide_eq_false_iff_not, Bool.and_eq_true, Bool.or_eq_true, Bool.and_eq_false_iff, Bool.or_eq_false_iff, Bool.not_eq_true', Bool.not_eq_false', beq_iff_eq, beq_eq_false_iff_ne, bne_iff_ne, bne_eq_false_iff_eq, ne_eq, Int.not_lt, Int.not_le, gt_iff_lt, ge_iff_le] at hc1_
    refine CW.skip ?_
    refine Th.n ?_
    refine CW.seq ?_
    have hmx : m ≤ 140737488355328 := Nat.le_trans (Nat.le_mul_of_pos_right m (by omega)) hm
    refine CW.region ?_
    refine RW.hard Wd.a ?_
    refine H.buildSlice (e := 5) (cs := #[]) (vs := #[]) (by simp) (fun _ => by kernel_rfl) hst fun b2 w hst => ?_
    refine RW.soft Wd.a (v := .slice X m c) (by exact E.move (AF_ev rfl (up rfl hs0))) ?_
    have hst := hst.ownNew (n := 0) (cap := 0) (sz := 1) (xs := []) (by omega) (by simp [maxLen]) rfl rfl
    refine RW.hard Wd.a ?_
    refine H.append2 (n2 := m) (xs2 := xs) (by first | rfl | simp) (by first | rfl | simp) (m := m) (news := xs) (s0 := .slice (some ⟨b2, 0, none⟩) 0 0) (x0 := .slice X m c) Try.underlying25 inf5 rfl (AF_ev rfl (up rfl tp)) (AF_ev rfl tp) hst .here (hA _ _ (hst.take (.there .here))) h1 (by omega) (by simp only [maxLen]; omega) ?_
    intro vX3 w hnilX3 hst
    obtain ⟨X3, c4, rfl, hcX3, hmX3, hlX3, hbX3⟩ := hst.shape
    refine RW.soft Wd.a (v := .slice X3 m c4) (by exact E.assign (AF_ev rfl tp)) ?_
    refine RW.fin (fun τ => τ 0 = .slice X m c ∧ τ 2 = .slice X3 m c4 ∧ τ 4 = .bool false) ⟨up rfl (up rfl (up rfl (up rfl hs0))), tp, up rfl (up rfl (up rfl (up rfl (Eq.trans hs4 (congrArg Value.bool hc1)))))⟩ ?_
    rintro τ ⟨hs0, hs2, hs4⟩
    refine CW.ret ?_
    refine ret1 (v := .slice X3 m c4) rfl (by exact (.tmp (AF_ev rfl hs2) .nil)) ?_
    have hst := hst.take (.there .here)
    have hst := hst.take (.there .here)
    exact ⟨_, rfl, ⟨fun h => by have q := (hnilX3.1 h).1; simp [isNil] at q, fun h => by rw [hc1] at h; cases h⟩, hst⟩
end Go.Proofs.Ytjpjejldinpcnaa
