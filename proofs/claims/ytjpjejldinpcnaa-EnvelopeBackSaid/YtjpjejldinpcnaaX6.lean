/- Functions that were walked through by a program: what each comes to, as a plain function, and the proof. -/
import Derived.Test.YtjpjejldinpcnaaX5
namespace Go.Proofs.Ytjpjejldinpcnaa
open Go.RowKit Go.SL
attribute [local irreducible] Go.SL.RW Go.SL.CW Go.SL.RD Go.SL.Hd Go.SL.St
set_option linter.unusedVariables false
set_option linter.unusedSimpArgs false
set_option maxRecDepth 20000
set_option maxHeartbeats 4000000

theorem nm54 : (Try.f54.name == "runtime.NumGoroutine") = false := by kernel_rfl
theorem nm55 : (Try.f55.name == "runtime.NumGoroutine") = false := by kernel_rfl
theorem nm56 : (Try.f56.name == "runtime.NumGoroutine") = false := by kernel_rfl
theorem nm81 : (Try.f81.name == "runtime.NumGoroutine") = false := by kernel_rfl
theorem sz25 : (Try.prog.info? 25).map (·.size) = some 1 := by kernel_rfl

def Concat_l2 (slices : List (List (BitVec 8)))  : Nat → List (BitVec 8) → Nat → Option (List (BitVec 8))
  | 0, _, _ => none
  | k21 + 1, s16, i19 =>
    bif decide (((i19 : Nat) : Int) < ((slices.length : Nat) : Int)) then
      if i19 < slices.length then
        lt_ (slices.getD i19 []) fun l24 =>
        if l24.length ≤ 1000000 then
          if s16.length + l24.length ≤ 1000000 then
            lt_ (s16 ++ l24) fun s29 =>
            Concat_l2 slices k21 s29 (i19 + 1)
          else none
        else none
      else none
    else
      some (s16)
theorem Concat_l2_pos {slices : List (List (BitVec 8))}  {fu_ : Nat} {s16 : List (BitVec 8)} {i19 : Nat} {r : List (BitVec 8)} (h : Concat_l2 slices fu_ s16 i19 = some r) : ∃ j, fu_ = j + 1 := by
  cases fu_ with
  | zero => cases (show (none : Option (List (BitVec 8))) = some r from h)
  | succ j => exact ⟨j, rfl⟩
def Concat_l1 (slices : List (List (BitVec 8)))  : Nat → Int → Nat → Option (List (BitVec 8))
  | 0, _, _ => none
  | k6 + 1, s3, i4 =>
    bif decide (((i4 : Nat) : Int) < ((slices.length : Nat) : Int)) then
      if i4 < slices.length then
        lt_ (slices.getD i4 []) fun l9 =>
        if l9.length ≤ 1000000 then
          bif decide ((w64 (s3 + ((l9.length : Nat) : Int))) < 0) then
            none
          else
            Concat_l1 slices k6 (w64 (s3 + ((l9.length : Nat) : Int))) (i4 + 1)
        else none
      else none
    else
      (Grow0 s3).bind fun r14 =>
      Concat_l2 slices 1099511627776 r14 0
theorem Concat_l1_pos {slices : List (List (BitVec 8))}  {fu_ : Nat} {s3 : Int} {i4 : Nat} {r : List (BitVec 8)} (h : Concat_l1 slices fu_ s3 i4 = some r) : ∃ j, fu_ = j + 1 := by
  cases fu_ with
  | zero => cases (show (none : Option (List (BitVec 8))) = some r from h)
  | succ j => exact ⟨j, rfl⟩
def Concat (slices : List (List (BitVec 8))) : Option (List (BitVec 8)) :=
  Concat_l1 slices 1099511627776 0 0
theorem Concat_C {p : Pers} {w : World} {R : List Assn} {A : Assn} {g_slices c_slices : Nat} (L_slices : List SlM) (slices : List (List (BitVec 8))) (hb_slices : slices = L_slices.map SlM.ns) (hm_slices : slices.length ≤ 1000000) (hL_slices : ∀ s ∈ L_slices, s.tells p A) (r : List (BitVec 8)) (hF : Concat slices = some r) (hst : St p w (SL.Own 25 1 (.slice (some ⟨g_slices, 0, none⟩) slices.length c_slices) slices.length (L_slices.flatMap SlM.enc) :: A :: R)) :
    Calls Try.prog 55 #[.slice (some ⟨g_slices, 0, none⟩) slices.length c_slices] w fun e w => ∃ (X0 : Option Addr) (c0 : Nat), e = .returned (.slice X0 r.length c0) ∧ r.length ≤ 1000000 ∧ St p w (SL.Own 5 1 (.slice X0 r.length c0) r.length (r.map bu8) :: SL.Own 25 1 (.slice (some ⟨g_slices, 0, none⟩) slices.length c_slices) slices.length (L_slices.flatMap SlM.enc) :: A :: R) := by
  unfold Concat at hF
  refine enter Try.func55 rfl (by simp) (n := 36) rfl fun τ hτ => ?_
  have hs0 : τ 0 = .slice (some ⟨g_slices, 0, none⟩) slices.length c_slices := hτ 0 (by simp)
  clear hτ
  refine CW.seq ?_
  refine CW.region ?_
  refine RW.soft Wd.a (v := .slice none 0 0) (by exact E.assign rfl) ?_
  refine RW.fin (fun τ => τ 0 = .slice (some ⟨g_slices, 0, none⟩) slices.length c_slices ∧ τ 2 = .slice none 0 0) ⟨up rfl hs0, tp⟩ ?_
  rintro τ ⟨hs0, hs2⟩
  refine CW.seq ?_
  refine CW.region ?_
  refine RW.soft Wd.a (v := .int .i64 0) (by exact E.assign rfl) ?_
  refine RW.fin (fun τ => τ 0 = .slice (some ⟨g_slices, 0, none⟩) slices.length c_slices ∧ τ 2 = .slice none 0 0 ∧ τ 3 = .int .i64 0) ⟨up rfl hs0, up rfl hs2, tp⟩ ?_
  rintro τ ⟨hs0, hs2, hs3⟩
  refine CW.seq ?_
  refine CW.seq ?_
  refine CW.region ?_
  refine RW.soft Wd.a (v := .slice (some ⟨g_slices, 0, none⟩) slices.length c_slices) (by exact E.move (AF_ev rfl hs0)) ?_
  refine RW.soft Wd.a (v := .int .i64 ((slices.length : Nat) : Int)) (by exact E.lenS (p := (some ⟨g_slices, 0, none⟩)) (l := slices.length) (c := c_slices) Try.underlying57 (AF_ev rfl tp)) ?_
  refine RW.soft Wd.a (v := .int .i64 0) (by exact E.move rfl) ?_
  refine RW.fin (fun τ => τ 0 = .slice (some ⟨g_slices, 0, none⟩) slices.length c_slices ∧ τ 2 = .slice none 0 0 ∧ τ 3 = .int .i64 0 ∧ τ 9 = .slice (some ⟨g_slices, 0, none⟩) slices.length c_slices ∧ τ 10 = .int .i64 ((slices.length : Nat) : Int) ∧ τ 11 = .int .i64 0) ⟨up rfl (up rfl (up rfl hs0)), up rfl (up rfl (up rfl hs2)), up rfl (up rfl (up rfl hs3)), up rfl (up rfl tp), up rfl tp, tp⟩ ?_
  rintro τ ⟨hs0, hs2, hs3, hs9, hs10, hs11⟩
  refine CW.block ?_
  refine CW.loop (fun (k5 : Nat) (τ : Fr) (w : World) => ∃ (s3 : Int) (i4 : Nat), (-9223372036854775808 ≤ s3 ∧ s3 ≤ 9223372036854775807) ∧ Concat_l1 slices k5 s3 i4 = some r ∧ τ 3 = .int .i64 s3 ∧ τ 11 = .int .i64 ((i4 : Nat) : Int) ∧ τ 0 = .slice (some ⟨g_slices, 0, none⟩) slices.length c_slices ∧ τ 2 = .slice none 0 0 ∧ τ 9 = .slice (some ⟨g_slices, 0, none⟩) slices.length c_slices ∧ τ 10 = .int .i64 ((slices.length : Nat) : Int) ∧ St p w (SL.Own 25 1 (.slice (some ⟨g_slices, 0, none⟩) slices.length c_slices) slices.length (L_slices.flatMap SlM.enc) :: A :: R)) 1099511627776 ?_ ?_
  · skip
    have hst := hst.take (.there .here)
    have hst := hst.take (.there .here)
    exact ⟨0, 0, (by omega), hF, hs3, (int_eq (a := 0) hs11 (by omega)), hs0, hs2, hs9, hs10, hst⟩
  clear hst hF
  rintro k5 τ w ⟨s3, i4, hr_s3, hF, hs3, hs11, hs0, hs2, hs9, hs10, hst⟩
  obtain ⟨k6, rfl⟩ := Concat_l1_pos hF
  rw [Concat_l1] at hF
  refine CW.seq ?_
  refine CW.region ?_
  refine RW.soft Wd.a (v := .bool (decide (((i4 : Nat) : Int) < ((slices.length : Nat) : Int)))) (by exact E.lss (k := .i64) (a := ((i4 : Nat) : Int)) (b := ((slices.length : Nat) : Int)) (AF_ev rfl hs11) (AF_ev rfl hs10)) ?_
  refine RW.fin (fun τ => τ 0 = .slice (some ⟨g_slices, 0, none⟩) slices.length c_slices ∧ τ 2 = .slice none 0 0 ∧ τ 3 = .int .i64 s3 ∧ τ 9 = .slice (some ⟨g_slices, 0, none⟩) slices.length c_slices ∧ τ 10 = .int .i64 ((slices.length : Nat) : Int) ∧ τ 11 = .int .i64 ((i4 : Nat) : Int) ∧ τ 12 = .bool (decide (((i4 : Nat) : Int) < ((slices.length : Nat) : Int)))) ⟨up rfl hs0, up rfl hs2, up rfl hs3, up rfl hs9, up rfl hs10, up rfl hs11, tp⟩ ?_
  rintro τ ⟨hs0, hs2, hs3, hs9, hs10, hs11, hs12⟩
  refine CW.seq ?_
  refine CW.cond (AF_ev rfl hs12) (fun hc7 => ?_) (fun hc7 => ?_)
  · have hF := ct hc7 hF
    have hc7_ := hc7
    try simp only [decide_eq_true_eq] at hc7_
    refine CW.skip ?_
    refine Th.n ?_
    refine CW.seq ?_
    refine CW.block ?_
    refine CW.seq ?_
    refine CW.region ?_
    obtain ⟨hg8, hF⟩ := pl hF
    refine RW.soft Wd.a (v := .pointer (some ⟨g_slices, i4, none⟩)) (by exact E.indexAddr (b := g_slices) (o := 0) (l := slices.length) (c := c_slices) (i := ((i4 : Nat) : Int)) Try.underlying57 sz25 (AF_ev rfl hs9) (AF_ev rfl hs11) (by omega) (by omega) (by omega)) ?_
    obtain ⟨l9, h_l9, hF⟩ := lp hF
    obtain ⟨X10, c11, hx_l9⟩ := ss_at hb_slices (by omega) h_l9
    obtain ⟨hg12, hF⟩ := pl hF
    refine RW.soft Wd.a (v := .slice X10 l9.length c11) (by exact E.load (a := ⟨g_slices, i4, none⟩) Try.underlying25 rfl (AF_ev rfl tp) (hst.ocell .here (ss_get hx_l9))) ?_
    refine RW.soft Wd.a (v := .slice X10 l9.length c11) (by exact E.assign (AF_ev rfl tp)) ?_
    refine RW.fin (fun τ => τ 0 = .slice (some ⟨g_slices, 0, none⟩) slices.length c_slices ∧ τ 2 = .slice none 0 0 ∧ τ 3 = .int .i64 s3 ∧ τ 5 = .slice X10 l9.length c11 ∧ τ 9 = .slice (some ⟨g_slices, 0, none⟩) slices.length c_slices ∧ τ 10 = .int .i64 ((slices.length : Nat) : Int) ∧ τ 11 = .int .i64 ((i4 : Nat) : Int) ∧ τ 12 = .bool true) ⟨up rfl (up rfl (up rfl hs0)), up rfl (up rfl (up rfl hs2)), up rfl (up rfl (up rfl hs3)), tp, up rfl (up rfl (up rfl hs9)), up rfl (up rfl (up rfl hs10)), up rfl (up rfl (up rfl hs11)), up rfl (up rfl (up rfl (Eq.trans hs12 (congrArg Value.bool hc7))))⟩ ?_
    rintro τ ⟨hs0, hs2, hs3, hs5, hs9, hs10, hs11, hs12⟩
    refine CW.seq ?_
    refine CW.region ?_
    refine RW.soft Wd.a (v := .int .i64 s3) (by exact E.move (AF_ev rfl hs3)) ?_
    refine RW.soft Wd.a (v := .slice X10 l9.length c11) (by exact E.move (AF_ev rfl (up rfl hs5))) ?_
    refine RW.soft Wd.a (v := .int .i64 ((l9.length : Nat) : Int)) (by exact E.lenS (p := X10) (l := l9.length) (c := c11) Try.underlying25 (AF_ev rfl tp)) ?_
    refine RW.soft Wd.a (v := .int .i64 (w64 (s3 + ((l9.length : Nat) : Int)))) (by exact E.add (k := .i64) (a := s3) (b := ((l9.length : Nat) : Int)) (AF_ev rfl (up rfl (up rfl tp))) (AF_ev rfl tp) rfl) ?_
    refine RW.soft Wd.a (v := .int .i64 (w64 (s3 + ((l9.length : Nat) : Int)))) (by exact E.assign (AF_ev rfl tp)) ?_
    refine RW.fin (fun τ => τ 0 = .slice (some ⟨g_slices, 0, none⟩) slices.length c_slices ∧ τ 2 = .slice none 0 0 ∧ τ 3 = .int .i64 (w64 (s3 + ((l9.length : Nat) : Int))) ∧ τ 5 = .slice X10 l9.length c11 ∧ τ 9 = .slice (some ⟨g_slices, 0, none⟩) slices.length c_slices ∧ τ 10 = .int .i64 ((slices.length : Nat) : Int) ∧ τ 11 = .int .i64 ((i4 : Nat) : Int) ∧ τ 12 = .bool true) ⟨up rfl (up rfl (up rfl (up rfl (up rfl hs0)))), up rfl (up rfl (up rfl (up rfl (up rfl hs2)))), tp, up rfl (up rfl (up rfl (up rfl (up rfl hs5)))), up rfl (up rfl (up rfl (up rfl (up rfl hs9)))), up rfl (up rfl (up rfl (up rfl (up rfl hs10)))), up rfl (up rfl (up rfl (up rfl (up rfl hs11)))), up rfl (up rfl (up rfl (up rfl (up rfl hs12))))⟩ ?_
    rintro τ ⟨hs0, hs2, hs3, hs5, hs9, hs10, hs11, hs12⟩
    refine CW.seq ?_
    refine CW.region ?_
    refine RW.soft Wd.a (v := .int .i64 (w64 (s3 + ((l9.length : Nat) : Int)))) (by exact E.move (AF_ev rfl hs3)) ?_
    refine RW.soft Wd.a (v := .bool (decide ((w64 (s3 + ((l9.length : Nat) : Int))) < 0))) (by exact E.lss (k := .i64) (a := w64 (s3 + ((l9.length : Nat) : Int))) (b := 0) (AF_ev rfl tp) rfl) ?_
    refine RW.fin (fun τ => τ 0 = .slice (some ⟨g_slices, 0, none⟩) slices.length c_slices ∧ τ 2 = .slice none 0 0 ∧ τ 3 = .int .i64 (w64 (s3 + ((l9.length : Nat) : Int))) ∧ τ 5 = .slice X10 l9.length c11 ∧ τ 9 = .slice (some ⟨g_slices, 0, none⟩) slices.length c_slices ∧ τ 10 = .int .i64 ((slices.length : Nat) : Int) ∧ τ 11 = .int .i64 ((i4 : Nat) : Int) ∧ τ 12 = .bool true ∧ τ 20 = .bool (decide ((w64 (s3 + ((l9.length : Nat) : Int))) < 0))) ⟨up rfl (up rfl hs0), up rfl (up rfl hs2), up rfl (up rfl hs3), up rfl (up rfl hs5), up rfl (up rfl hs9), up rfl (up rfl hs10), up rfl (up rfl hs11), up rfl (up rfl hs12), tp⟩ ?_
    rintro τ ⟨hs0, hs2, hs3, hs5, hs9, hs10, hs11, hs12, hs20⟩
    refine CW.cond (AF_ev rfl hs20) (fun hc13 => ?_) (fun hc13 => ?_)
    · have hF := ct hc13 hF
      have hc13_ := hc13
      try simp only [decide_eq_true_eq] at hc13_
      refine CW.region ?_
      cases hF
    · have hF := cf hc13 hF
      have hc13_ := hc13
      try simp only [decide_eq_false_iff_not, Int.not_lt, Int.not_le, gt_iff_lt, ge_iff_le] at hc13_
      refine CW.skip ?_
      refine Bl.n ?_
      refine Th.n ?_
      refine CW.region ?_
      refine RW.soft Wd.a (v := .int .i64 (((i4 : Nat) : Int) + 1)) (by exact E.add (k := .i64) (a := ((i4 : Nat) : Int)) (b := 1) (AF_ev rfl hs11) rfl (show IntKind.i64.wrap (((i4 : Nat) : Int) + 1) = ((i4 : Nat) : Int) + 1 from (by rw [IntWalk.i64_in _ (by omega)]))) ?_
      refine RW.soft Wd.a (v := .int .i64 (((i4 : Nat) : Int) + 1)) (by exact E.move (AF_ev rfl tp)) ?_
      refine RW.nil ?_
      refine Th.n ?_
      have hst := hst.take (.there .here)
      have hst := hst.take (.there .here)
      exact ⟨k6, Nat.lt_succ_self _, (w64 (s3 + ((l9.length : Nat) : Int))), (i4 + 1), (w64_rng _), hF, up rfl (up rfl hs3), (int_eq (a := ((i4 : Nat) : Int) + 1) tp (by omega)), up rfl (up rfl hs0), up rfl (up rfl hs2), up rfl (up rfl hs9), up rfl (up rfl hs10), hst⟩
  · have hF := cf hc7 hF
    have hc7_ := hc7
    try simp only [decide_eq_false_iff_not, Int.not_lt, Int.not_le, gt_iff_lt, ge_iff_le] at hc7_
    refine CW.exit ?_
    refine Th.x ?_
    refine Th.x ?_
    refine Bl.x ?_
    refine Th.n ?_
    refine CW.seq ?_
    refine CW.region ?_
    refine RW.soft Wd.a (v := .int .i64 s3) (by exact E.move (AF_ev rfl hs3)) ?_
    obtain ⟨r14, h_r14, hF⟩ := bd hF
    refine RW.hard Wd.a ?_
    refine H.call0 Try.func81 nm81 rfl (map2 rfl (AF_ev rfl tp)) (Calls.mono (Grow0_C s3 (by omega) r14 h_r14 hst) ?_)
    rintro _ w ⟨Xq15_0, cq15_0, rfl, hm_q15_0, hst⟩
    refine ⟨_, rfl, ?_⟩
    show RW _ _ _ _ _ _ _
    refine RW.soft Wd.a (v := .slice Xq15_0 r14.length cq15_0) (by exact E.assign (AF_ev rfl tp)) ?_
    refine RW.fin (fun τ => τ 0 = .slice (some ⟨g_slices, 0, none⟩) slices.length c_slices ∧ τ 2 = .slice none 0 0 ∧ τ 3 = .int .i64 s3 ∧ τ 6 = .slice Xq15_0 r14.length cq15_0 ∧ τ 9 = .slice (some ⟨g_slices, 0, none⟩) slices.length c_slices ∧ τ 10 = .int .i64 ((slices.length : Nat) : Int) ∧ τ 11 = .int .i64 ((i4 : Nat) : Int) ∧ τ 12 = .bool false) ⟨up rfl (up rfl (up rfl hs0)), up rfl (up rfl (up rfl hs2)), up rfl (up rfl (up rfl hs3)), tp, up rfl (up rfl (up rfl hs9)), up rfl (up rfl (up rfl hs10)), up rfl (up rfl (up rfl hs11)), up rfl (up rfl (up rfl (Eq.trans hs12 (congrArg Value.bool hc7))))⟩ ?_
    rintro τ ⟨hs0, hs2, hs3, hs6, hs9, hs10, hs11, hs12⟩
    refine CW.seq ?_
    refine CW.seq ?_
    refine CW.region ?_
    refine RW.soft Wd.a (v := .slice (some ⟨g_slices, 0, none⟩) slices.length c_slices) (by exact E.move (AF_ev rfl hs0)) ?_
    refine RW.soft Wd.a (v := .int .i64 ((slices.length : Nat) : Int)) (by exact E.lenS (p := (some ⟨g_slices, 0, none⟩)) (l := slices.length) (c := c_slices) Try.underlying57 (AF_ev rfl tp)) ?_
    refine RW.soft Wd.a (v := .int .i64 0) (by exact E.move rfl) ?_
    refine RW.fin (fun τ => τ 0 = .slice (some ⟨g_slices, 0, none⟩) slices.length c_slices ∧ τ 2 = .slice none 0 0 ∧ τ 3 = .int .i64 s3 ∧ τ 6 = .slice Xq15_0 r14.length cq15_0 ∧ τ 9 = .slice (some ⟨g_slices, 0, none⟩) slices.length c_slices ∧ τ 10 = .int .i64 ((slices.length : Nat) : Int) ∧ τ 11 = .int .i64 ((i4 : Nat) : Int) ∧ τ 12 = .bool false ∧ τ 25 = .slice (some ⟨g_slices, 0, none⟩) slices.length c_slices ∧ τ 26 = .int .i64 ((slices.length : Nat) : Int) ∧ τ 27 = .int .i64 0) ⟨up rfl (up rfl (up rfl hs0)), up rfl (up rfl (up rfl hs2)), up rfl (up rfl (up rfl hs3)), up rfl (up rfl (up rfl hs6)), up rfl (up rfl (up rfl hs9)), up rfl (up rfl (up rfl hs10)), up rfl (up rfl (up rfl hs11)), up rfl (up rfl (up rfl hs12)), up rfl (up rfl tp), up rfl tp, tp⟩ ?_
    rintro τ ⟨hs0, hs2, hs3, hs6, hs9, hs10, hs11, hs12, hs25, hs26, hs27⟩
    refine CW.block ?_
    refine CW.loop (fun (k20 : Nat) (τ : Fr) (w : World) => ∃ (s16 : List (BitVec 8)) (X17 : Option Addr) (c18 : Nat) (i19 : Nat), s16.length ≤ 1000000 ∧ Concat_l2 slices k20 s16 i19 = some r ∧ τ 6 = .slice X17 s16.length c18 ∧ τ 27 = .int .i64 ((i19 : Nat) : Int) ∧ τ 2 = .slice none 0 0 ∧ τ 25 = .slice (some ⟨g_slices, 0, none⟩) slices.length c_slices ∧ τ 26 = .int .i64 ((slices.length : Nat) : Int) ∧ St p w (SL.Own 5 1 (.slice X17 s16.length c18) s16.length (s16.map bu8) :: SL.Own 25 1 (.slice (some ⟨g_slices, 0, none⟩) slices.length c_slices) slices.length (L_slices.flatMap SlM.enc) :: A :: R)) 1099511627776 ?_ ?_
    · skip
      have hst := hst.take (.there (.there .here))
      have hst := hst.take (.there (.there .here))
      have hst := hst.take (.there (.there .here))
      exact ⟨r14, Xq15_0, cq15_0, 0, (by first | omega | (simp; done) | (simp; omega)), hF, hs6, (int_eq (a := 0) hs27 (by omega)), hs2, hs25, hs26, hst⟩
    clear hst hF
    rintro k20 τ w ⟨s16, X17, c18, i19, hm_s16, hF, hs6, hs27, hs2, hs25, hs26, hst⟩
    obtain ⟨k21, rfl⟩ := Concat_l2_pos hF
    rw [Concat_l2] at hF
    refine CW.seq ?_
    refine CW.region ?_
    refine RW.soft Wd.a (v := .bool (decide (((i19 : Nat) : Int) < ((slices.length : Nat) : Int)))) (by exact E.lss (k := .i64) (a := ((i19 : Nat) : Int)) (b := ((slices.length : Nat) : Int)) (AF_ev rfl hs27) (AF_ev rfl hs26)) ?_
    refine RW.fin (fun τ => τ 2 = .slice none 0 0 ∧ τ 6 = .slice X17 s16.length c18 ∧ τ 25 = .slice (some ⟨g_slices, 0, none⟩) slices.length c_slices ∧ τ 26 = .int .i64 ((slices.length : Nat) : Int) ∧ τ 27 = .int .i64 ((i19 : Nat) : Int) ∧ τ 28 = .bool (decide (((i19 : Nat) : Int) < ((slices.length : Nat) : Int)))) ⟨up rfl hs2, up rfl hs6, up rfl hs25, up rfl hs26, up rfl hs27, tp⟩ ?_
    rintro τ ⟨hs2, hs6, hs25, hs26, hs27, hs28⟩
    refine CW.seq ?_
    refine CW.cond (AF_ev rfl hs28) (fun hc22 => ?_) (fun hc22 => ?_)
    · have hF := ct hc22 hF
      have hc22_ := hc22
      try simp only [decide_eq_true_eq] at hc22_
      refine CW.skip ?_
      refine Th.n ?_
      refine CW.seq ?_
      refine CW.block ?_
      refine CW.seq ?_
      refine CW.region ?_
      obtain ⟨hg23, hF⟩ := pl hF
      refine RW.soft Wd.a (v := .pointer (some ⟨g_slices, i19, none⟩)) (by exact E.indexAddr (b := g_slices) (o := 0) (l := slices.length) (c := c_slices) (i := ((i19 : Nat) : Int)) Try.underlying57 sz25 (AF_ev rfl hs25) (AF_ev rfl hs27) (by omega) (by omega) (by omega)) ?_
      obtain ⟨l24, h_l24, hF⟩ := lp hF
      obtain ⟨X25, c26, hx_l24⟩ := ss_at hb_slices (by omega) h_l24
      obtain ⟨hg27, hF⟩ := pl hF
      refine RW.soft Wd.a (v := .slice X25 l24.length c26) (by exact E.load (a := ⟨g_slices, i19, none⟩) Try.underlying25 rfl (AF_ev rfl tp) (hst.ocell (.there .here) (ss_get hx_l24))) ?_
      refine RW.soft Wd.a (v := .slice X25 l24.length c26) (by exact E.assign (AF_ev rfl tp)) ?_
      refine RW.fin (fun τ => τ 2 = .slice none 0 0 ∧ τ 6 = .slice X17 s16.length c18 ∧ τ 8 = .slice X25 l24.length c26 ∧ τ 25 = .slice (some ⟨g_slices, 0, none⟩) slices.length c_slices ∧ τ 26 = .int .i64 ((slices.length : Nat) : Int) ∧ τ 27 = .int .i64 ((i19 : Nat) : Int) ∧ τ 28 = .bool true) ⟨up rfl (up rfl (up rfl hs2)), up rfl (up rfl (up rfl hs6)), tp, up rfl (up rfl (up rfl hs25)), up rfl (up rfl (up rfl hs26)), up rfl (up rfl (up rfl hs27)), up rfl (up rfl (up rfl (Eq.trans hs28 (congrArg Value.bool hc22))))⟩ ?_
      rintro τ ⟨hs2, hs6, hs8, hs25, hs26, hs27, hs28⟩
      refine CW.region ?_
      refine RW.soft Wd.a (v := .slice X17 s16.length c18) (by exact E.move (AF_ev rfl hs6)) ?_
      refine RW.soft Wd.a (v := .slice X25 l24.length c26) (by exact E.move (AF_ev rfl (up rfl hs8))) ?_
      obtain ⟨hg28, hF⟩ := pl hF
      obtain ⟨s29, h_s29, hF⟩ := lp hF
      refine RW.hard Wd.a ?_
      refine H.append (m := l24.length) (news := (l24.map bu8)) (s0 := .slice X17 s16.length c18) (x0 := .slice X25 l24.length c26) Try.underlying25 inf5 rfl (AF_ev rfl (up rfl tp)) (AF_ev rfl tp) hst .here (hL_slices _ (List.mem_of_getElem? hx_l24) _ _ (hst.take (.there (.there .here)))) (ones_map (fun _ => rfl)) (by omega) (by simp only [maxLen]; omega) ?_
      intro vX30 w _ hst
      have hl_s29 : s29.length = s16.length + l24.length := by rw [h_s29, List.length_append]; first | done | rfl | omega | (simp; done) | (simp; omega)
      rw [show ((s16.map bu8) ++ (l24.map bu8)) = (s29.map bu8) from by rw [h_s29, List.map_append]; first | done | rfl, ← hl_s29] at hst
      obtain ⟨X30, c31, rfl, hcX30, hmX30, hlX30, hbX30⟩ := hst.shape
      clear hlX30
      refine RW.soft Wd.a (v := .slice X30 s29.length c31) (by exact E.assign (AF_ev rfl tp)) ?_
      refine RW.nil ?_
      refine Bl.n ?_
      refine Th.n ?_
      refine CW.region ?_
      refine RW.soft Wd.a (v := .int .i64 (((i19 : Nat) : Int) + 1)) (by exact E.add (k := .i64) (a := ((i19 : Nat) : Int)) (b := 1) (AF_ev rfl (up rfl (up rfl (up rfl (up rfl hs27))))) rfl (show IntKind.i64.wrap (((i19 : Nat) : Int) + 1) = ((i19 : Nat) : Int) + 1 from (by rw [IntWalk.i64_in _ (by omega)]))) ?_
      refine RW.soft Wd.a (v := .int .i64 (((i19 : Nat) : Int) + 1)) (by exact E.move (AF_ev rfl tp)) ?_
      refine RW.nil ?_
      refine Th.n ?_
      have hst := hst.take (.there (.there .here))
      have hst := hst.take (.there (.there .here))
      have hst := hst.take (.there (.there .here))
      exact ⟨k21, Nat.lt_succ_self _, s29, X30, c31, (i19 + 1), (by first | omega | (simp; done) | (simp; omega)), hF, up rfl (up rfl tp), (int_eq (a := ((i19 : Nat) : Int) + 1) tp (by omega)), up rfl (up rfl (up rfl (up rfl (up rfl (up rfl hs2))))), up rfl (up rfl (up rfl (up rfl (up rfl (up rfl hs25))))), up rfl (up rfl (up rfl (up rfl (up rfl (up rfl hs26))))), hst⟩
    · have hF := cf hc22 hF
      have hc22_ := hc22
      try simp only [decide_eq_false_iff_not, Int.not_lt, Int.not_le, gt_iff_lt, ge_iff_le] at hc22_
      refine CW.exit ?_
      refine Th.x ?_
      refine Th.x ?_
      refine Bl.x ?_
      refine Th.n ?_
      refine CW.seq ?_
      refine CW.region ?_
      refine RW.soft Wd.a (v := .slice X17 s16.length c18) (by exact E.move (AF_ev rfl hs6)) ?_
      refine RW.soft Wd.a (v := .slice X17 s16.length c18) (by exact E.assign (AF_ev rfl tp)) ?_
      refine RW.fin (fun τ => τ 2 = .slice X17 s16.length c18 ∧ τ 6 = .slice X17 s16.length c18 ∧ τ 25 = .slice (some ⟨g_slices, 0, none⟩) slices.length c_slices ∧ τ 26 = .int .i64 ((slices.length : Nat) : Int) ∧ τ 27 = .int .i64 ((i19 : Nat) : Int) ∧ τ 28 = .bool false) ⟨tp, up rfl (up rfl hs6), up rfl (up rfl hs25), up rfl (up rfl hs26), up rfl (up rfl hs27), up rfl (up rfl (Eq.trans hs28 (congrArg Value.bool hc22)))⟩ ?_
      rintro τ ⟨hs2, hs6, hs25, hs26, hs27, hs28⟩
      refine CW.ret ?_
      refine ret1 (v := .slice X17 s16.length c18) rfl (by exact (.tmp (AF_ev rfl hs2) .nil)) ?_
      have hst := hst.take (.there (.there .here))
      have hst := hst.take (.there (.there .here))
      have hst := hst.take (.there (.there .here))
      rw [somE hF]
      exact ⟨X17, c18, rfl, (by (try dsimp only); first | omega | (simp; done) | (simp; omega)), hst⟩

def Blob (id : Int) (version : Int) (n : List (BitVec 8)) (sealed : List (BitVec 8)) : Option (List (BitVec 8)) :=
  (Put ([] : List (BitVec 8)) id).bind fun r2 =>
  (Put r2.1 version).bind fun r4 =>
  (Concat ([r4.1, n, sealed] : List (List (BitVec 8)))).bind fun r7 =>
  some (r7)
theorem Blob_C {p : Pers} {w : World} {R : List Assn} {A : Assn} (id : Int) (hr_id : -9223372036854775808 ≤ id ∧ id ≤ 9223372036854775807) (version : Int) (hr_version : -9223372036854775808 ≤ version ∧ version ≤ 9223372036854775807) (n : List (BitVec 8)) (hl_n : n.length = 12) {X_sealed : Option Addr} {c_sealed : Nat} (sealed : List (BitVec 8)) (hm_sealed : sealed.length ≤ 1000000) (hS_sealed : ∀ w H, St p w (A :: H) → SL.Src w 1 (.slice X_sealed sealed.length c_sealed) sealed.length (sealed.map bu8)) (r : List (BitVec 8)) (hF : Blob id version n sealed = some r) (hst : St p w (A :: R)) :
    Calls Try.prog 12 #[.int .i64 id, .int .i64 version, .agg ((n.map bu8)).toArray, .slice X_sealed sealed.length c_sealed] w fun e w => ∃ (X0 : Option Addr) (c0 : Nat), e = .returned (.slice X0 r.length c0) ∧ r.length ≤ 1000000 ∧ St p w (SL.Own 5 1 (.slice X0 r.length c0) r.length (r.map bu8) :: A :: R) := by
  unfold Blob at hF
  refine enter Try.func12 rfl (by simp) (n := 27) rfl fun τ hτ => ?_
  have hs0 : τ 0 = .int .i64 id := hτ 0 (by simp)
  have hs1 : τ 1 = .int .i64 version := hτ 1 (by simp)
  have hs2 : τ 2 = .agg ((n.map bu8)).toArray := hτ 2 (by simp)
  have hs3 : τ 3 = .slice X_sealed sealed.length c_sealed := hτ 3 (by simp)
  clear hτ
  refine CW.seq ?_
  refine CW.region ?_
  refine RW.hard Wd.a ?_
  refine H.box (v := .agg ((n.map bu8)).toArray) (AF_ev rfl hs2) hst fun b1 w hst => ?_
  refine RW.soft Wd.a (v := .slice none 0 0) (by exact E.assign rfl) ?_
  refine RW.fin (fun τ => τ 0 = .int .i64 id ∧ τ 1 = .int .i64 version ∧ τ 2 = .agg ((n.map bu8)).toArray ∧ τ 3 = .slice X_sealed sealed.length c_sealed ∧ τ 6 = .pointer (some ⟨b1, 0, none⟩) ∧ τ 8 = .slice none 0 0) ⟨up rfl (up rfl hs0), up rfl (up rfl hs1), up rfl (up rfl hs2), up rfl (up rfl hs3), up rfl tp, tp⟩ ?_
  rintro τ ⟨hs0, hs1, hs2, hs3, hs6, hs8⟩
  refine CW.seq ?_
  refine CW.region ?_
  refine RW.soft Wd.a (v := .int .i64 id) (by exact E.move (AF_ev rfl hs0)) ?_
  obtain ⟨r2, h_r2, hF⟩ := bd hF
  have hst := hst.emp
  refine RW.hard Wd.a ?_
  refine H.call0 Try.func54 nm54 rfl (map2 rfl (AF_ev rfl tp)) (Calls.mono (Put_C (A := Emp) ([] : List (BitVec 8)) (by first | omega | (simp; done)) (fun w H s => Src.nil) id (by omega) r2 h_r2 hst) ?_)
  rintro _ w ⟨Xq3_0, cq3_0, rfl, hm_q3_0, hr_q3_1, hst⟩
  refine ⟨_, rfl, ?_⟩
  show RW _ _ _ _ _ _ _
  refine RW.soft Wd.a (v := .tuple #[.slice Xq3_0 r2.1.length cq3_0, .int .i64 r2.2]) (by exact E.move (AF_ev rfl tp)) ?_
  refine RW.soft Wd.a (v := .slice Xq3_0 r2.1.length cq3_0) (by exact E.extract (vs := #[.slice Xq3_0 r2.1.length cq3_0, .int .i64 r2.2]) (AF_ev rfl tp) rfl) ?_
  refine RW.soft Wd.a (v := .int .i64 r2.2) (by exact E.extract (vs := #[.slice Xq3_0 r2.1.length cq3_0, .int .i64 r2.2]) (AF_ev rfl (up rfl tp)) rfl) ?_
  refine RW.soft Wd.a (v := .slice Xq3_0 r2.1.length cq3_0) (by exact E.assign (AF_ev rfl (up rfl tp))) ?_
  refine RW.soft Wd.a (v := .int .i64 r2.2) (by exact E.assign (AF_ev rfl (up rfl tp))) ?_
  refine RW.fin (fun τ => τ 0 = .int .i64 id ∧ τ 1 = .int .i64 version ∧ τ 2 = .agg ((n.map bu8)).toArray ∧ τ 3 = .slice X_sealed sealed.length c_sealed ∧ τ 6 = .pointer (some ⟨b1, 0, none⟩) ∧ τ 8 = .slice none 0 0 ∧ τ 9 = .slice Xq3_0 r2.1.length cq3_0) ⟨up rfl (up rfl (up rfl (up rfl (up rfl (up rfl (up rfl hs0)))))), up rfl (up rfl (up rfl (up rfl (up rfl (up rfl (up rfl hs1)))))), up rfl (up rfl (up rfl (up rfl (up rfl (up rfl (up rfl hs2)))))), up rfl (up rfl (up rfl (up rfl (up rfl (up rfl (up rfl hs3)))))), up rfl (up rfl (up rfl (up rfl (up rfl (up rfl (up rfl hs6)))))), up rfl (up rfl (up rfl (up rfl (up rfl (up rfl (up rfl hs8)))))), up rfl tp⟩ ?_
  rintro τ ⟨hs0, hs1, hs2, hs3, hs6, hs8, hs9⟩
  refine CW.seq ?_
  refine CW.region ?_
  refine RW.soft Wd.a (v := .slice Xq3_0 r2.1.length cq3_0) (by exact E.move (AF_ev rfl hs9)) ?_
  refine RW.soft Wd.a (v := .int .i64 version) (by exact E.move (AF_ev rfl (up rfl hs1))) ?_
  obtain ⟨r4, h_r4, hF⟩ := bd hF
  refine RW.hard Wd.a ?_
  refine H.call0 Try.func54 nm54 rfl (map2 (AF_ev rfl (up rfl tp)) (AF_ev rfl tp)) (Calls.mono (Put_C (A := SL.Own 5 1 (.slice Xq3_0 r2.1.length cq3_0) r2.1.length (r2.1.map bu8)) r2.1 (by first | omega | (simp; done)) (fun w H s => (Own.src s)) version (by omega) r4 h_r4 hst) ?_)
  rintro _ w ⟨Xq5_0, cq5_0, rfl, hm_q5_0, hr_q5_1, hst⟩
  refine ⟨_, rfl, ?_⟩
  show RW _ _ _ _ _ _ _
  refine RW.soft Wd.a (v := .tuple #[.slice Xq5_0 r4.1.length cq5_0, .int .i64 r4.2]) (by exact E.move (AF_ev rfl tp)) ?_
  refine RW.soft Wd.a (v := .slice Xq5_0 r4.1.length cq5_0) (by exact E.extract (vs := #[.slice Xq5_0 r4.1.length cq5_0, .int .i64 r4.2]) (AF_ev rfl tp) rfl) ?_
  refine RW.soft Wd.a (v := .int .i64 r4.2) (by exact E.extract (vs := #[.slice Xq5_0 r4.1.length cq5_0, .int .i64 r4.2]) (AF_ev rfl (up rfl tp)) rfl) ?_
  refine RW.soft Wd.a (v := .slice Xq5_0 r4.1.length cq5_0) (by exact E.assign (AF_ev rfl (up rfl tp))) ?_
  refine RW.fin (fun τ => τ 0 = .int .i64 id ∧ τ 1 = .int .i64 version ∧ τ 2 = .agg ((n.map bu8)).toArray ∧ τ 3 = .slice X_sealed sealed.length c_sealed ∧ τ 6 = .pointer (some ⟨b1, 0, none⟩) ∧ τ 8 = .slice none 0 0 ∧ τ 9 = .slice Xq5_0 r4.1.length cq5_0) ⟨up rfl (up rfl (up rfl (up rfl (up rfl (up rfl (up rfl hs0)))))), up rfl (up rfl (up rfl (up rfl (up rfl (up rfl (up rfl hs1)))))), up rfl (up rfl (up rfl (up rfl (up rfl (up rfl (up rfl hs2)))))), up rfl (up rfl (up rfl (up rfl (up rfl (up rfl (up rfl hs3)))))), up rfl (up rfl (up rfl (up rfl (up rfl (up rfl (up rfl hs6)))))), up rfl (up rfl (up rfl (up rfl (up rfl (up rfl (up rfl hs8)))))), tp⟩ ?_
  rintro τ ⟨hs0, hs1, hs2, hs3, hs6, hs8, hs9⟩
  refine CW.seq ?_
  refine CW.region ?_
  refine RW.soft Wd.a (v := .slice Xq5_0 r4.1.length cq5_0) (by exact E.move (AF_ev rfl hs9)) ?_
  refine RW.soft Wd.a (v := .slice (some ⟨b1, 0, none⟩) 12 12) (by exact E.v (run_sliceArr (b := b1) (o := 0) (N := 12) (i := 0) (j := 12) Try.underlying24 sz5 _ (AF_ev rfl (up rfl hs6)) rfl rfl (by omega) (by omega)) (by first | rfl | simp)) ?_
  refine RW.soft Wd.a (v := .slice X_sealed sealed.length c_sealed) (by exact E.move (AF_ev rfl (up rfl (up rfl hs3)))) ?_
  refine RW.hard Wd.a ?_
  refine H.buildSlice (e := 25) (cs := #[.slice Xq5_0 r4.1.length cq5_0, .slice (some ⟨b1, 0, none⟩) 12 12, .slice X_sealed sealed.length c_sealed]) (vs := #[(0, .slice Xq5_0 r4.1.length cq5_0), (1, .slice (some ⟨b1, 0, none⟩) 12 12), (2, .slice X_sealed sealed.length c_sealed)]) (bld3 (AF_ev rfl (up rfl (up rfl tp))) (AF_ev rfl (up rfl tp)) (AF_ev rfl tp)) (fun _ => by kernel_rfl) hst fun b6 w hst => ?_
  have hst := hst.ownNew (n := 3) (cap := 3) (sz := 1) (xs := ([⟨Xq5_0, cq5_0, r4.1⟩, ⟨(some ⟨b1, 0, none⟩), 12, n⟩, ⟨X_sealed, c_sealed, sealed⟩] : List SlM).flatMap SlM.enc) (by omega) (by simp [maxLen]) rfl (by simp only [List.flatMap_cons, List.flatMap_nil, SlM.enc, List.cons_append, List.nil_append, show n.length = 12 from by first | omega | (exact rfl)]; rfl)
  obtain ⟨r7, h_r7, hF⟩ := bd hF
  have hst := hst.take (.there (.there (.there (.there (.there .here)))))
  have hst := hst.take (.there (.there (.there (.there (.there .here)))))
  have hst := hst.take (.there (.there (.there .here)))
  have hst := St.join (l := [SL.Own 5 1 (.slice Xq5_0 r4.1.length cq5_0) r4.1.length (r4.1.map bu8), pt b1 (.cells ((n.map bu8)).toArray 24), A]) hst
  have hst := hst.take (.there .here)
  refine RW.hard Wd.a ?_
  refine H.call0 Try.func55 nm55 rfl (map1 (AF_ev rfl tp)) (Calls.mono (Concat_C (A := (all [SL.Own 5 1 (.slice Xq5_0 r4.1.length cq5_0) r4.1.length (r4.1.map bu8), pt b1 (.cells ((n.map bu8)).toArray 24), A])) ([⟨Xq5_0, cq5_0, r4.1⟩, ⟨(some ⟨b1, 0, none⟩), 12, n⟩, ⟨X_sealed, c_sealed, sealed⟩] : List SlM) ([r4.1, n, sealed] : List (List (BitVec 8))) rfl (by simp) (ss_cons (fun w H s => by have s := (show St _ _ (SL.Own 5 1 (.slice Xq5_0 r4.1.length cq5_0) r4.1.length (r4.1.map bu8) :: pt b1 (.cells ((n.map bu8)).toArray 24) :: A :: H) from St.split s); exact SL.Src.cast (show SL.Src w 1 (.slice Xq5_0 r4.1.length cq5_0) r4.1.length ((r4.1.map bu8)) from (Own.src (s.take .here))) (by first | rfl | omega | (dsimp only; omega) | (simp; done)) rfl rfl) (ss_cons (fun w H s => by have s := (show St _ _ (SL.Own 5 1 (.slice Xq5_0 r4.1.length cq5_0) r4.1.length (r4.1.map bu8) :: pt b1 (.cells ((n.map bu8)).toArray 24) :: A :: H) from St.split s); exact SL.Src.cast (show SL.Src w 1 (.slice (some ⟨b1, 0, none⟩) 12 12) 12 ((n.map bu8)) from (Src.ofL (s.take (.there .here)) ((List.length_map _).trans hl_n) (by first | omega | (simp; done)) allF)) (by first | rfl | omega | (dsimp only; omega) | (simp; done)) rfl rfl) (ss_cons (fun w H s => by have s := (show St _ _ (SL.Own 5 1 (.slice Xq5_0 r4.1.length cq5_0) r4.1.length (r4.1.map bu8) :: pt b1 (.cells ((n.map bu8)).toArray 24) :: A :: H) from St.split s); exact SL.Src.cast (show SL.Src w 1 (.slice X_sealed sealed.length c_sealed) sealed.length ((sealed.map bu8)) from (hS_sealed _ _ (s.take (.there (.there .here))))) (by first | rfl | omega | (dsimp only; omega) | (simp; done)) rfl rfl) ss_nil))) r7 h_r7 hst) ?_)
  rintro _ w ⟨Xq8_0, cq8_0, rfl, hm_q8_0, hst⟩
  have hst := (show St p w (SL.Own 5 1 (.slice Xq5_0 r4.1.length cq5_0) r4.1.length (r4.1.map bu8) :: pt b1 (.cells ((n.map bu8)).toArray 24) :: A :: SL.Own 5 1 (.slice Xq8_0 r7.length cq8_0) r7.length (r7.map bu8) :: SL.Own 25 1 (.slice (some ⟨b6, 0, none⟩) 3 3) 3 (([⟨Xq5_0, cq5_0, r4.1⟩, ⟨(some ⟨b1, 0, none⟩), 12, n⟩, ⟨X_sealed, c_sealed, sealed⟩] : List SlM).flatMap SlM.enc) :: _) from (hst.take (.there (.there .here))).split)
  refine ⟨_, rfl, ?_⟩
  show RW _ _ _ _ _ _ _
  refine RW.soft Wd.a (v := .slice Xq8_0 r7.length cq8_0) (by exact E.assign (AF_ev rfl tp)) ?_
  refine RW.fin (fun τ => τ 0 = .int .i64 id ∧ τ 1 = .int .i64 version ∧ τ 2 = .agg ((n.map bu8)).toArray ∧ τ 3 = .slice X_sealed sealed.length c_sealed ∧ τ 6 = .pointer (some ⟨b1, 0, none⟩) ∧ τ 8 = .slice Xq8_0 r7.length cq8_0 ∧ τ 9 = .slice Xq5_0 r4.1.length cq5_0) ⟨up rfl (up rfl (up rfl (up rfl (up rfl (up rfl hs0))))), up rfl (up rfl (up rfl (up rfl (up rfl (up rfl hs1))))), up rfl (up rfl (up rfl (up rfl (up rfl (up rfl hs2))))), up rfl (up rfl (up rfl (up rfl (up rfl (up rfl hs3))))), up rfl (up rfl (up rfl (up rfl (up rfl (up rfl hs6))))), tp, up rfl (up rfl (up rfl (up rfl (up rfl (up rfl hs9)))))⟩ ?_
  rintro τ ⟨hs0, hs1, hs2, hs3, hs6, hs8, hs9⟩
  refine CW.ret ?_
  refine ret1 (v := .slice Xq8_0 r7.length cq8_0) rfl (by exact (.tmp (AF_ev rfl hs8) .nil)) ?_
  have hst := hst.take (.there (.there .here))
  have hst := hst.take (.there (.there (.there .here)))
  have hst := (hst.take (.there (.there .here))).drop
  have hst := (hst.take (.there (.there .here))).drop
  have hst := (hst.take (.there (.there .here))).drop
  have hst := (hst.take (.there (.there .here))).drop
  have hst := (hst.take (.there (.there .here))).drop
  rw [somE hF]
  exact ⟨Xq8_0, cq8_0, rfl, (by (try dsimp only); first | omega | (simp; done) | (simp; omega)), hst⟩

def Read_j1 (r2 : Int × List (BitVec 8) × Int) (r4 : Int × List (BitVec 8) × Int)  (j6 : Bool) : Option (Int × Int × List (BitVec 8) × List (BitVec 8) × Int) :=
  bif j6 then
    some (0, 0, (List.replicate 12 0#8), ([] : List (BitVec 8)), 140)
  else
    lt_ (ov (List.replicate 12 0#8) 0 (r4.2.1.take 12)) fun m12 =>
    if 12 ≤ r4.2.1.length then
      lt_ (sl 12 (r4.2.1.length - 12) r4.2.1) fun t15 =>
      if 0 < r4.2.1.length then
        if 12 < r4.2.1.length then
          some (r2.1, r4.1, m12, t15, 0)
        else none
      else none
    else none
def Read (blob : List (BitVec 8)) : Option (Int × Int × List (BitVec 8) × List (BitVec 8) × Int) :=
  (Take blob).bind fun r2 =>
  (Take r2.2.1).bind fun r4 =>
  bif r2.2.2 != 0 then
    Read_j1 r2 r4 true
  else
    bif r4.2.2 != 0 then
      Read_j1 r2 r4 true
    else
      bif decide ((min r2.1 r4.1) < 1) then
        Read_j1 r2 r4 true
      else
        bif decide (((r4.2.1.length : Nat) : Int) < 28) then
          Read_j1 r2 r4 true
        else
          Read_j1 r2 r4 (decide (((r4.2.1.length : Nat) : Int) > 92))
theorem Read_C {p : Pers} {w : World} {R : List Assn} {A : Assn} {X_blob : Option Addr} {c_blob : Nat} (blob : List (BitVec 8)) (hm_blob : blob.length ≤ 1000000) (hS_blob : ∀ w H, St p w (A :: H) → SL.Src w 1 (.slice X_blob blob.length c_blob) blob.length (blob.map bu8)) (r : Int × Int × List (BitVec 8) × List (BitVec 8) × Int) (hF : Read blob = some r) (hst : St p w (A :: R)) :
    Calls Try.prog 13 #[.slice X_blob blob.length c_blob] w fun e w => ∃ (X3 : Option Addr) (c3 : Nat), e = .returned (.tuple #[.int .i64 r.1, .int .i64 r.2.1, .agg ((r.2.2.1.map bu8)).toArray, .slice X3 r.2.2.2.1.length c3, .int .i64 r.2.2.2.2]) ∧ (-9223372036854775808 ≤ r.1 ∧ r.1 ≤ 9223372036854775807) ∧ (-9223372036854775808 ≤ r.2.1 ∧ r.2.1 ≤ 9223372036854775807) ∧ r.2.2.1.length = 12 ∧ r.2.2.2.1.length ≤ 1000000 ∧ (-9223372036854775808 ≤ r.2.2.2.2 ∧ r.2.2.2.2 ≤ 9223372036854775807) ∧ St p w (Tel (.slice X3 r.2.2.2.1.length c3) r.2.2.2.1 :: A :: R) := by
  unfold Read at hF
  refine enter Try.func13 rfl (by simp) (n := 52) rfl fun τ hτ => ?_
  have hs0 : τ 0 = .slice X_blob blob.length c_blob := hτ 0 (by simp)
  clear hτ
  refine CW.seq ?_
  refine CW.region ?_
  refine RW.soft Wd.a (v := .int .i64 0) (by exact E.assign rfl) ?_
  refine RW.soft Wd.a (v := .int .i64 0) (by exact E.assign rfl) ?_
  refine RW.hard Wd.a ?_
  refine H.alloc zs24 hst fun b1 w hst => ?_
  refine RW.soft Wd.a (v := .slice none 0 0) (by exact E.assign rfl) ?_
  refine RW.soft Wd.a (v := .int .i64 0) (by exact E.assign rfl) ?_
  refine RW.fin (fun τ => τ 0 = .slice X_blob blob.length c_blob ∧ τ 2 = .int .i64 0 ∧ τ 3 = .int .i64 0 ∧ τ 4 = .pointer (some ⟨b1, 0, none⟩) ∧ τ 5 = .slice none 0 0 ∧ τ 6 = .int .i64 0) ⟨up rfl (up rfl (up rfl (up rfl (up rfl hs0)))), up rfl (up rfl (up rfl (up rfl tp))), up rfl (up rfl (up rfl tp)), up rfl (up rfl tp), up rfl tp, tp⟩ ?_
  rintro τ ⟨hs0, hs2, hs3, hs4, hs5, hs6⟩
  refine CW.seq ?_
  refine CW.region ?_
  refine RW.soft Wd.a (v := .slice X_blob blob.length c_blob) (by exact E.move (AF_ev rfl hs0)) ?_
  obtain ⟨r2, h_r2, hF⟩ := bd hF
  have hst := hst.take (.there .here)
  refine RW.hard Wd.a ?_
  refine H.call0 Try.func56 nm56 rfl (map1 (AF_ev rfl tp)) (Calls.mono (Take_C (A := A) blob (by first | omega | (simp; done)) (fun w H s => (hS_blob _ _ s)) r2 h_r2 hst) ?_)
  rintro _ w ⟨Xq3_1, cq3_1, rfl, hr_q3_0, hm_q3_1, hr_q3_2, hst⟩
  refine ⟨_, rfl, ?_⟩
  show RW _ _ _ _ _ _ _
  refine RW.soft Wd.a (v := .tuple #[.int .i64 r2.1, .slice Xq3_1 r2.2.1.length cq3_1, .int .i64 r2.2.2]) (by exact E.move (AF_ev rfl tp)) ?_
  refine RW.soft Wd.a (v := .int .i64 r2.1) (by exact E.extract (vs := #[.int .i64 r2.1, .slice Xq3_1 r2.2.1.length cq3_1, .int .i64 r2.2.2]) (AF_ev rfl tp) rfl) ?_
  refine RW.soft Wd.a (v := .slice Xq3_1 r2.2.1.length cq3_1) (by exact E.extract (vs := #[.int .i64 r2.1, .slice Xq3_1 r2.2.1.length cq3_1, .int .i64 r2.2.2]) (AF_ev rfl (up rfl tp)) rfl) ?_
  refine RW.soft Wd.a (v := .int .i64 r2.2.2) (by exact E.extract (vs := #[.int .i64 r2.1, .slice Xq3_1 r2.2.1.length cq3_1, .int .i64 r2.2.2]) (AF_ev rfl (up rfl (up rfl tp))) rfl) ?_
  refine RW.soft Wd.a (v := .int .i64 r2.1) (by exact E.assign (AF_ev rfl (up rfl (up rfl tp)))) ?_
  refine RW.soft Wd.a (v := .slice Xq3_1 r2.2.1.length cq3_1) (by exact E.assign (AF_ev rfl (up rfl (up rfl tp)))) ?_
  refine RW.soft Wd.a (v := .int .i64 r2.2.2) (by exact E.assign (AF_ev rfl (up rfl (up rfl tp)))) ?_
  refine RW.fin (fun τ => τ 0 = .slice X_blob blob.length c_blob ∧ τ 2 = .int .i64 r2.1 ∧ τ 3 = .int .i64 0 ∧ τ 4 = .pointer (some ⟨b1, 0, none⟩) ∧ τ 5 = .slice none 0 0 ∧ τ 6 = .int .i64 r2.2.2 ∧ τ 7 = .slice Xq3_1 r2.2.1.length cq3_1) ⟨up rfl (up rfl (up rfl (up rfl (up rfl (up rfl (up rfl (up rfl (up rfl hs0)))))))), up rfl (up rfl tp), up rfl (up rfl (up rfl (up rfl (up rfl (up rfl (up rfl (up rfl (up rfl hs3)))))))), up rfl (up rfl (up rfl (up rfl (up rfl (up rfl (up rfl (up rfl (up rfl hs4)))))))), up rfl (up rfl (up rfl (up rfl (up rfl (up rfl (up rfl (up rfl (up rfl hs5)))))))), tp, up rfl tp⟩ ?_
  rintro τ ⟨hs0, hs2, hs3, hs4, hs5, hs6, hs7⟩
  refine CW.seq ?_
  refine CW.region ?_
  refine RW.soft Wd.a (v := .slice Xq3_1 r2.2.1.length cq3_1) (by exact E.move (AF_ev rfl hs7)) ?_
  obtain ⟨r4, h_r4, hF⟩ := bd hF
  refine RW.hard Wd.a ?_
  refine H.call0 Try.func56 nm56 rfl (map1 (AF_ev rfl tp)) (Calls.mono (Take_C (A := SL.Own 5 1 (.slice Xq3_1 r2.2.1.length cq3_1) r2.2.1.length (r2.2.1.map bu8)) r2.2.1 (by first | omega | (simp; done)) (fun w H s => (Own.src s)) r4 h_r4 hst) ?_)
  rintro _ w ⟨Xq5_1, cq5_1, rfl, hr_q5_0, hm_q5_1, hr_q5_2, hst⟩
  refine ⟨_, rfl, ?_⟩
  show RW _ _ _ _ _ _ _
  refine RW.soft Wd.a (v := .tuple #[.int .i64 r4.1, .slice Xq5_1 r4.2.1.length cq5_1, .int .i64 r4.2.2]) (by exact E.move (AF_ev rfl tp)) ?_
  refine RW.soft Wd.a (v := .int .i64 r4.1) (by exact E.extract (vs := #[.int .i64 r4.1, .slice Xq5_1 r4.2.1.length cq5_1, .int .i64 r4.2.2]) (AF_ev rfl tp) rfl) ?_
  refine RW.soft Wd.a (v := .slice Xq5_1 r4.2.1.length cq5_1) (by exact E.extract (vs := #[.int .i64 r4.1, .slice Xq5_1 r4.2.1.length cq5_1, .int .i64 r4.2.2]) (AF_ev rfl (up rfl tp)) rfl) ?_
  refine RW.soft Wd.a (v := .int .i64 r4.2.2) (by exact E.extract (vs := #[.int .i64 r4.1, .slice Xq5_1 r4.2.1.length cq5_1, .int .i64 r4.2.2]) (AF_ev rfl (up rfl (up rfl tp))) rfl) ?_
  refine RW.soft Wd.a (v := .int .i64 r4.1) (by exact E.assign (AF_ev rfl (up rfl (up rfl tp)))) ?_
  refine RW.soft Wd.a (v := .slice Xq5_1 r4.2.1.length cq5_1) (by exact E.assign (AF_ev rfl (up rfl (up rfl tp)))) ?_
  refine RW.soft Wd.a (v := .int .i64 r4.2.2) (by exact E.assign (AF_ev rfl (up rfl (up rfl tp)))) ?_
  refine RW.fin (fun τ => τ 0 = .slice X_blob blob.length c_blob ∧ τ 2 = .int .i64 r2.1 ∧ τ 3 = .int .i64 r4.1 ∧ τ 4 = .pointer (some ⟨b1, 0, none⟩) ∧ τ 5 = .slice none 0 0 ∧ τ 6 = .int .i64 r2.2.2 ∧ τ 7 = .slice Xq5_1 r4.2.1.length cq5_1 ∧ τ 8 = .int .i64 r4.2.2) ⟨up rfl (up rfl (up rfl (up rfl (up rfl (up rfl (up rfl (up rfl (up rfl hs0)))))))), up rfl (up rfl (up rfl (up rfl (up rfl (up rfl (up rfl (up rfl (up rfl hs2)))))))), up rfl (up rfl tp), up rfl (up rfl (up rfl (up rfl (up rfl (up rfl (up rfl (up rfl (up rfl hs4)))))))), up rfl (up rfl (up rfl (up rfl (up rfl (up rfl (up rfl (up rfl (up rfl hs5)))))))), up rfl (up rfl (up rfl (up rfl (up rfl (up rfl (up rfl (up rfl (up rfl hs6)))))))), up rfl tp, tp⟩ ?_
  rintro τ ⟨hs0, hs2, hs3, hs4, hs5, hs6, hs7, hs8⟩
  refine CW.seq ?_
  refine CW.seqJ (fun τ w => ∃ (j6 : Bool), Read_j1 r2 r4 j6 = some r ∧ τ 2 = .int .i64 r2.1 ∧ τ 3 = .int .i64 r4.1 ∧ τ 4 = .pointer (some ⟨b1, 0, none⟩) ∧ τ 5 = .slice none 0 0 ∧ τ 6 = .int .i64 r2.2.2 ∧ τ 7 = .slice Xq5_1 r4.2.1.length cq5_1 ∧ τ 42 = .bool j6 ∧ St p w (A :: pt b1 (.cells (((List.replicate 12 0#8).map bu8)).toArray 24) :: SL.Own 5 1 (.slice Xq5_1 r4.2.1.length cq5_1) r4.2.1.length (r4.2.1.map bu8) :: R)) ?_ ?_
  · skip
    refine CW.region ?_
    refine RW.soft Wd.a (v := .int .i64 r2.2.2) (by exact E.move (AF_ev rfl hs6)) ?_
    refine RW.soft Wd.a (v := .bool (r2.2.2 != 0)) (by exact E.neq (k := .i64) (a := r2.2.2) (b := 0) (AF_ev rfl tp) rfl) ?_
    refine RW.soft Wd.a (v := .bool (r2.2.2 != 0)) (by exact E.move (AF_ev rfl tp)) ?_
    refine Or.elim (Bool.eq_false_or_eq_true (r2.2.2 != 0)) (fun hw7 => ?_) (fun hw7 => ?_)
    · have hF := ct hw7 hF
      have hw7_ := hw7
      try simp only [bne_iff_ne, ne_eq] at hw7_
      refine RW.pass (by exact Wd.no (x := 23) (b := true) rfl (AF_ev rfl (Eq.trans tp (congrArg Value.bool hw7))) rfl) ?_
      refine RW.pass (by exact Wd.no (x := 23) (b := true) rfl (AF_ev rfl (up rfl (Eq.trans tp (congrArg Value.bool hw7)))) rfl) ?_
      refine RW.soft Wd.a (v := .bool true) (by exact E.pickT (AF_ev rfl (up rfl (up rfl (Eq.trans tp (congrArg Value.bool hw7))))) rfl) ?_
      refine RW.soft Wd.a (v := .bool true) (by exact E.move (AF_ev rfl tp)) ?_
      refine RW.pass (by exact Wd.no (x := 27) (b := true) rfl (AF_ev rfl tp) rfl) ?_
      refine RW.pass (by exact Wd.no (x := 27) (b := true) rfl (AF_ev rfl (up rfl tp)) rfl) ?_
      refine RW.pass (by exact Wd.no (x := 27) (b := true) rfl (AF_ev rfl (up rfl (up rfl tp))) rfl) ?_
      refine RW.pass (by exact Wd.no (x := 27) (b := true) rfl (AF_ev rfl (up rfl (up rfl (up rfl tp)))) rfl) ?_
      refine RW.soft Wd.a (v := .bool true) (by exact E.pickT (AF_ev rfl (up rfl (up rfl (up rfl (up rfl tp))))) rfl) ?_
      refine RW.soft Wd.a (v := .bool true) (by exact E.move (AF_ev rfl tp)) ?_
      refine RW.pass (by exact Wd.no (x := 33) (b := true) rfl (AF_ev rfl tp) rfl) ?_
      refine RW.pass (by exact Wd.no (x := 33) (b := true) rfl (AF_ev rfl (up rfl tp)) rfl) ?_
      refine RW.pass (by exact Wd.no (x := 33) (b := true) rfl (AF_ev rfl (up rfl (up rfl tp))) rfl) ?_
      refine RW.soft Wd.a (v := .bool true) (by exact E.pickT (AF_ev rfl (up rfl (up rfl (up rfl tp)))) rfl) ?_
      refine RW.soft Wd.a (v := .bool true) (by exact E.move (AF_ev rfl tp)) ?_
      refine RW.pass (by exact Wd.no (x := 38) (b := true) rfl (AF_ev rfl tp) rfl) ?_
      refine RW.pass (by exact Wd.no (x := 38) (b := true) rfl (AF_ev rfl (up rfl tp)) rfl) ?_
      refine RW.pass (by exact Wd.no (x := 38) (b := true) rfl (AF_ev rfl (up rfl (up rfl tp))) rfl) ?_
      refine RW.soft Wd.a (v := .bool true) (by exact E.pickT (AF_ev rfl (up rfl (up rfl (up rfl tp)))) rfl) ?_
      refine RW.nil ?_
      refine Th.n ?_
      have hst := hst.take (.there (.there (.there .here)))
      have hst := hst.take (.there (.there (.there .here)))
      have hst := (hst.take (.there (.there (.there .here)))).drop
      exact ⟨true, hF, up rfl (up rfl (up rfl (up rfl (up rfl (up rfl (up rfl (up rfl (up rfl (up rfl (up rfl (up rfl (up rfl (up rfl (up rfl (up rfl (up rfl (up rfl (up rfl (up rfl (up rfl (up rfl hs2))))))))))))))))))))), up rfl (up rfl (up rfl (up rfl (up rfl (up rfl (up rfl (up rfl (up rfl (up rfl (up rfl (up rfl (up rfl (up rfl (up rfl (up rfl (up rfl (up rfl (up rfl (up rfl (up rfl (up rfl hs3))))))))))))))))))))), up rfl (up rfl (up rfl (up rfl (up rfl (up rfl (up rfl (up rfl (up rfl (up rfl (up rfl (up rfl (up rfl (up rfl (up rfl (up rfl (up rfl (up rfl (up rfl (up rfl (up rfl (up rfl hs4))))))))))))))))))))), up rfl (up rfl (up rfl (up rfl (up rfl (up rfl (up rfl (up rfl (up rfl (up rfl (up rfl (up rfl (up rfl (up rfl (up rfl (up rfl (up rfl (up rfl (up rfl (up rfl (up rfl (up rfl hs5))))))))))))))))))))), up rfl (up rfl (up rfl (up rfl (up rfl (up rfl (up rfl (up rfl (up rfl (up rfl (up rfl (up rfl (up rfl (up rfl (up rfl (up rfl (up rfl (up rfl (up rfl (up rfl (up rfl (up rfl hs6))))))))))))))))))))), up rfl (up rfl (up rfl (up rfl (up rfl (up rfl (up rfl (up rfl (up rfl (up rfl (up rfl (up rfl (up rfl (up rfl (up rfl (up rfl (up rfl (up rfl (up rfl (up rfl (up rfl (up rfl hs7))))))))))))))))))))), tp, hst⟩
    · have hF := cf hw7 hF
      have hw7_ := hw7
      try simp only [bne_eq_false_iff_eq] at hw7_
      refine RW.soft (by exact Wd.yes (x := 23) rfl (AF_ev rfl (Eq.trans tp (congrArg Value.bool hw7)))) (v := .int .i64 r4.2.2) (by exact E.move (AF_ev rfl (up rfl (up rfl (up rfl hs8))))) ?_
      refine RW.soft (by exact Wd.yes (x := 23) rfl (AF_ev rfl (up rfl (Eq.trans tp (congrArg Value.bool hw7))))) (v := .bool (r4.2.2 != 0)) (by exact E.neq (k := .i64) (a := r4.2.2) (b := 0) (AF_ev rfl tp) rfl) ?_
      refine RW.soft Wd.a (v := .bool (r4.2.2 != 0)) (by exact E.pickF (AF_ev rfl (up rfl (up rfl (Eq.trans tp (congrArg Value.bool hw7))))) (AF_ev rfl tp)) ?_
      refine RW.soft Wd.a (v := .bool (r4.2.2 != 0)) (by exact E.move (AF_ev rfl tp)) ?_
      refine Or.elim (Bool.eq_false_or_eq_true (r4.2.2 != 0)) (fun hw8 => ?_) (fun hw8 => ?_)
      · have hF := ct hw8 hF
        have hw8_ := hw8
        try simp only [bne_iff_ne, ne_eq] at hw8_
        refine RW.pass (by exact Wd.no (x := 27) (b := true) rfl (AF_ev rfl (Eq.trans tp (congrArg Value.bool hw8))) rfl) ?_
        refine RW.pass (by exact Wd.no (x := 27) (b := true) rfl (AF_ev rfl (up rfl (Eq.trans tp (congrArg Value.bool hw8)))) rfl) ?_
        refine RW.pass (by exact Wd.no (x := 27) (b := true) rfl (AF_ev rfl (up rfl (up rfl (Eq.trans tp (congrArg Value.bool hw8))))) rfl) ?_
        refine RW.pass (by exact Wd.no (x := 27) (b := true) rfl (AF_ev rfl (up rfl (up rfl (up rfl (Eq.trans tp (congrArg Value.bool hw8)))))) rfl) ?_
        refine RW.soft Wd.a (v := .bool true) (by exact E.pickT (AF_ev rfl (up rfl (up rfl (up rfl (up rfl (Eq.trans tp (congrArg Value.bool hw8))))))) rfl) ?_
        refine RW.soft Wd.a (v := .bool true) (by exact E.move (AF_ev rfl tp)) ?_
        refine RW.pass (by exact Wd.no (x := 33) (b := true) rfl (AF_ev rfl tp) rfl) ?_
        refine RW.pass (by exact Wd.no (x := 33) (b := true) rfl (AF_ev rfl (up rfl tp)) rfl) ?_
        refine RW.pass (by exact Wd.no (x := 33) (b := true) rfl (AF_ev rfl (up rfl (up rfl tp))) rfl) ?_
        refine RW.soft Wd.a (v := .bool true) (by exact E.pickT (AF_ev rfl (up rfl (up rfl (up rfl tp)))) rfl) ?_
        refine RW.soft Wd.a (v := .bool true) (by exact E.move (AF_ev rfl tp)) ?_
        refine RW.pass (by exact Wd.no (x := 38) (b := true) rfl (AF_ev rfl tp) rfl) ?_
        refine RW.pass (by exact Wd.no (x := 38) (b := true) rfl (AF_ev rfl (up rfl tp)) rfl) ?_
        refine RW.pass (by exact Wd.no (x := 38) (b := true) rfl (AF_ev rfl (up rfl (up rfl tp))) rfl) ?_
        refine RW.soft Wd.a (v := .bool true) (by exact E.pickT (AF_ev rfl (up rfl (up rfl (up rfl tp)))) rfl) ?_
        refine RW.nil ?_
        refine Th.n ?_
        have hst := hst.take (.there (.there (.there .here)))
        have hst := hst.take (.there (.there (.there .here)))
        have hst := (hst.take (.there (.there (.there .here)))).drop
        exact ⟨true, hF, up rfl (up rfl (up rfl (up rfl (up rfl (up rfl (up rfl (up rfl (up rfl (up rfl (up rfl (up rfl (up rfl (up rfl (up rfl (up rfl (up rfl (up rfl (up rfl (up rfl (up rfl (up rfl hs2))))))))))))))))))))), up rfl (up rfl (up rfl (up rfl (up rfl (up rfl (up rfl (up rfl (up rfl (up rfl (up rfl (up rfl (up rfl (up rfl (up rfl (up rfl (up rfl (up rfl (up rfl (up rfl (up rfl (up rfl hs3))))))))))))))))))))), up rfl (up rfl (up rfl (up rfl (up rfl (up rfl (up rfl (up rfl (up rfl (up rfl (up rfl (up rfl (up rfl (up rfl (up rfl (up rfl (up rfl (up rfl (up rfl (up rfl (up rfl (up rfl hs4))))))))))))))))))))), up rfl (up rfl (up rfl (up rfl (up rfl (up rfl (up rfl (up rfl (up rfl (up rfl (up rfl (up rfl (up rfl (up rfl (up rfl (up rfl (up rfl (up rfl (up rfl (up rfl (up rfl (up rfl hs5))))))))))))))))))))), up rfl (up rfl (up rfl (up rfl (up rfl (up rfl (up rfl (up rfl (up rfl (up rfl (up rfl (up rfl (up rfl (up rfl (up rfl (up rfl (up rfl (up rfl (up rfl (up rfl (up rfl (up rfl hs6))))))))))))))))))))), up rfl (up rfl (up rfl (up rfl (up rfl (up rfl (up rfl (up rfl (up rfl (up rfl (up rfl (up rfl (up rfl (up rfl (up rfl (up rfl (up rfl (up rfl (up rfl (up rfl (up rfl (up rfl hs7))))))))))))))))))))), tp, hst⟩
      · have hF := cf hw8 hF
        have hw8_ := hw8
        try simp only [bne_eq_false_iff_eq] at hw8_
        refine RW.soft (by exact Wd.yes (x := 27) rfl (AF_ev rfl (Eq.trans tp (congrArg Value.bool hw8)))) (v := .int .i64 r2.1) (by exact E.move (AF_ev rfl (up rfl (up rfl (up rfl (up rfl (up rfl (up rfl (up rfl hs2))))))))) ?_
        refine RW.soft (by exact Wd.yes (x := 27) rfl (AF_ev rfl (up rfl (Eq.trans tp (congrArg Value.bool hw8))))) (v := .int .i64 r4.1) (by exact E.move (AF_ev rfl (up rfl (up rfl (up rfl (up rfl (up rfl (up rfl (up rfl (up rfl hs3)))))))))) ?_
        refine RW.soft (by exact Wd.yes (x := 27) rfl (AF_ev rfl (up rfl (up rfl (Eq.trans tp (congrArg Value.bool hw8)))))) (v := .int .i64 (min r2.1 r4.1)) (by exact E.min (k := .i64) (a := r2.1) (b := r4.1) (AF_ev rfl (up rfl tp)) (AF_ev rfl tp) (by rw [Int.min_def]; split <;> split <;> omega)) ?_
        refine RW.soft (by exact Wd.yes (x := 27) rfl (AF_ev rfl (up rfl (up rfl (up rfl (Eq.trans tp (congrArg Value.bool hw8))))))) (v := .bool (decide ((min r2.1 r4.1) < 1))) (by exact E.lss (k := .i64) (a := min r2.1 r4.1) (b := 1) (AF_ev rfl tp) rfl) ?_
        refine RW.soft Wd.a (v := .bool (decide ((min r2.1 r4.1) < 1))) (by exact E.pickF (AF_ev rfl (up rfl (up rfl (up rfl (up rfl (Eq.trans tp (congrArg Value.bool hw8))))))) (AF_ev rfl tp)) ?_
        refine RW.soft Wd.a (v := .bool (decide ((min r2.1 r4.1) < 1))) (by exact E.move (AF_ev rfl tp)) ?_
        refine Or.elim (Bool.eq_false_or_eq_true (decide ((min r2.1 r4.1) < 1))) (fun hw9 => ?_) (fun hw9 => ?_)
        · have hF := ct hw9 hF
          have hw9_ := hw9
          try simp only [decide_eq_true_eq] at hw9_
          refine RW.pass (by exact Wd.no (x := 33) (b := true) rfl (AF_ev rfl (Eq.trans tp (congrArg Value.bool hw9))) rfl) ?_
          refine RW.pass (by exact Wd.no (x := 33) (b := true) rfl (AF_ev rfl (up rfl (Eq.trans tp (congrArg Value.bool hw9)))) rfl) ?_
          refine RW.pass (by exact Wd.no (x := 33) (b := true) rfl (AF_ev rfl (up rfl (up rfl (Eq.trans tp (congrArg Value.bool hw9))))) rfl) ?_
          refine RW.soft Wd.a (v := .bool true) (by exact E.pickT (AF_ev rfl (up rfl (up rfl (up rfl (Eq.trans tp (congrArg Value.bool hw9)))))) rfl) ?_
          refine RW.soft Wd.a (v := .bool true) (by exact E.move (AF_ev rfl tp)) ?_
          refine RW.pass (by exact Wd.no (x := 38) (b := true) rfl (AF_ev rfl tp) rfl) ?_
          refine RW.pass (by exact Wd.no (x := 38) (b := true) rfl (AF_ev rfl (up rfl tp)) rfl) ?_
          refine RW.pass (by exact Wd.no (x := 38) (b := true) rfl (AF_ev rfl (up rfl (up rfl tp))) rfl) ?_
          refine RW.soft Wd.a (v := .bool true) (by exact E.pickT (AF_ev rfl (up rfl (up rfl (up rfl tp)))) rfl) ?_
          refine RW.nil ?_
          refine Th.n ?_
          have hst := hst.take (.there (.there (.there .here)))
          have hst := hst.take (.there (.there (.there .here)))
          have hst := (hst.take (.there (.there (.there .here)))).drop
          exact ⟨true, hF, up rfl (up rfl (up rfl (up rfl (up rfl (up rfl (up rfl (up rfl (up rfl (up rfl (up rfl (up rfl (up rfl (up rfl (up rfl (up rfl (up rfl (up rfl (up rfl (up rfl (up rfl (up rfl hs2))))))))))))))))))))), up rfl (up rfl (up rfl (up rfl (up rfl (up rfl (up rfl (up rfl (up rfl (up rfl (up rfl (up rfl (up rfl (up rfl (up rfl (up rfl (up rfl (up rfl (up rfl (up rfl (up rfl (up rfl hs3))))))))))))))))))))), up rfl (up rfl (up rfl (up rfl (up rfl (up rfl (up rfl (up rfl (up rfl (up rfl (up rfl (up rfl (up rfl (up rfl (up rfl (up rfl (up rfl (up rfl (up rfl (up rfl (up rfl (up rfl hs4))))))))))))))))))))), up rfl (up rfl (up rfl (up rfl (up rfl (up rfl (up rfl (up rfl (up rfl (up rfl (up rfl (up rfl (up rfl (up rfl (up rfl (up rfl (up rfl (up rfl (up rfl (up rfl (up rfl (up rfl hs5))))))))))))))))))))), up rfl (up rfl (up rfl (up rfl (up rfl (up rfl (up rfl (up rfl (up rfl (up rfl (up rfl (up rfl (up rfl (up rfl (up rfl (up rfl (up rfl (up rfl (up rfl (up rfl (up rfl (up rfl hs6))))))))))))))))))))), up rfl (up rfl (up rfl (up rfl (up rfl (up rfl (up rfl (up rfl (up rfl (up rfl (up rfl (up rfl (up rfl (up rfl (up rfl (up rfl (up rfl (up rfl (up rfl (up rfl (up rfl (up rfl hs7))))))))))))))))))))), tp, hst⟩
        · have hF := cf hw9 hF
          have hw9_ := hw9
          try simp only [decide_eq_false_iff_not, Int.not_lt, Int.not_le, gt_iff_lt, ge_iff_le] at hw9_
          refine RW.soft (by exact Wd.yes (x := 33) rfl (AF_ev rfl (Eq.trans tp (congrArg Value.bool hw9)))) (v := .slice Xq5_1 r4.2.1.length cq5_1) (by exact E.move (AF_ev rfl (up rfl (up rfl (up rfl (up rfl (up rfl (up rfl (up rfl (up rfl (up rfl (up rfl (up rfl (up rfl (up rfl hs7))))))))))))))) ?_
          refine RW.soft (by exact Wd.yes (x := 33) rfl (AF_ev rfl (up rfl (Eq.trans tp (congrArg Value.bool hw9))))) (v := .int .i64 ((r4.2.1.length : Nat) : Int)) (by exact E.lenS (p := Xq5_1) (l := r4.2.1.length) (c := cq5_1) Try.underlying25 (AF_ev rfl tp)) ?_
          refine RW.soft (by exact Wd.yes (x := 33) rfl (AF_ev rfl (up rfl (up rfl (Eq.trans tp (congrArg Value.bool hw9)))))) (v := .bool (decide (((r4.2.1.length : Nat) : Int) < 28))) (by exact E.lss (k := .i64) (a := ((r4.2.1.length : Nat) : Int)) (b := 28) (AF_ev rfl tp) rfl) ?_
          refine RW.soft Wd.a (v := .bool (decide (((r4.2.1.length : Nat) : Int) < 28))) (by exact E.pickF (AF_ev rfl (up rfl (up rfl (up rfl (Eq.trans tp (congrArg Value.bool hw9)))))) (AF_ev rfl tp)) ?_
          refine RW.soft Wd.a (v := .bool (decide (((r4.2.1.length : Nat) : Int) < 28))) (by exact E.move (AF_ev rfl tp)) ?_
          refine Or.elim (Bool.eq_false_or_eq_true (decide (((r4.2.1.length : Nat) : Int) < 28))) (fun hw10 => ?_) (fun hw10 => ?_)
          · have hF := ct hw10 hF
            have hw10_ := hw10
            try simp only [decide_eq_true_eq] at hw10_
            refine RW.pass (by exact Wd.no (x := 38) (b := true) rfl (AF_ev rfl (Eq.trans tp (congrArg Value.bool hw10))) rfl) ?_
            refine RW.pass (by exact Wd.no (x := 38) (b := true) rfl (AF_ev rfl (up rfl (Eq.trans tp (congrArg Value.bool hw10)))) rfl) ?_
            refine RW.pass (by exact Wd.no (x := 38) (b := true) rfl (AF_ev rfl (up rfl (up rfl (Eq.trans tp (congrArg Value.bool hw10))))) rfl) ?_
            refine RW.soft Wd.a (v := .bool true) (by exact E.pickT (AF_ev rfl (up rfl (up rfl (up rfl (Eq.trans tp (congrArg Value.bool hw10)))))) rfl) ?_
            refine RW.nil ?_
            refine Th.n ?_
            have hst := hst.take (.there (.there (.there .here)))
            have hst := hst.take (.there (.there (.there .here)))
            have hst := (hst.take (.there (.there (.there .here)))).drop
            exact ⟨true, hF, up rfl (up rfl (up rfl (up rfl (up rfl (up rfl (up rfl (up rfl (up rfl (up rfl (up rfl (up rfl (up rfl (up rfl (up rfl (up rfl (up rfl (up rfl (up rfl (up rfl (up rfl (up rfl hs2))))))))))))))))))))), up rfl (up rfl (up rfl (up rfl (up rfl (up rfl (up rfl (up rfl (up rfl (up rfl (up rfl (up rfl (up rfl (up rfl (up rfl (up rfl (up rfl (up rfl (up rfl (up rfl (up rfl (up rfl hs3))))))))))))))))))))), up rfl (up rfl (up rfl (up rfl (up rfl (up rfl (up rfl (up rfl (up rfl (up rfl (up rfl (up rfl (up rfl (up rfl (up rfl (up rfl (up rfl (up rfl (up rfl (up rfl (up rfl (up rfl hs4))))))))))))))))))))), up rfl (up rfl (up rfl (up rfl (up rfl (up rfl (up rfl (up rfl (up rfl (up rfl (up rfl (up rfl (up rfl (up rfl (up rfl (up rfl (up rfl (up rfl (up rfl (up rfl (up rfl (up rfl hs5))))))))))))))))))))), up rfl (up rfl (up rfl (up rfl (up rfl (up rfl (up rfl (up rfl (up rfl (up rfl (up rfl (up rfl (up rfl (up rfl (up rfl (up rfl (up rfl (up rfl (up rfl (up rfl (up rfl (up rfl hs6))))))))))))))))))))), up rfl (up rfl (up rfl (up rfl (up rfl (up rfl (up rfl (up rfl (up rfl (up rfl (up rfl (up rfl (up rfl (up rfl (up rfl (up rfl (up rfl (up rfl (up rfl (up rfl (up rfl (up rfl hs7))))))))))))))))))))), tp, hst⟩
          · have hF := cf hw10 hF
            have hw10_ := hw10
            try simp only [decide_eq_false_iff_not, Int.not_lt, Int.not_le, gt_iff_lt, ge_iff_le] at hw10_
            refine RW.soft (by exact Wd.yes (x := 38) rfl (AF_ev rfl (Eq.trans tp (congrArg Value.bool hw10)))) (v := .slice Xq5_1 r4.2.1.length cq5_1) (by exact E.move (AF_ev rfl (up rfl (up rfl (up rfl (up rfl (up rfl (up rfl (up rfl (up rfl (up rfl (up rfl (up rfl (up rfl (up rfl (up rfl (up rfl (up rfl (up rfl (up rfl hs7)))))))))))))))))))) ?_
            refine RW.soft (by exact Wd.yes (x := 38) rfl (AF_ev rfl (up rfl (Eq.trans tp (congrArg Value.bool hw10))))) (v := .int .i64 ((r4.2.1.length : Nat) : Int)) (by exact E.lenS (p := Xq5_1) (l := r4.2.1.length) (c := cq5_1) Try.underlying25 (AF_ev rfl tp)) ?_
            refine RW.soft (by exact Wd.yes (x := 38) rfl (AF_ev rfl (up rfl (up rfl (Eq.trans tp (congrArg Value.bool hw10)))))) (v := .bool (decide (((r4.2.1.length : Nat) : Int) > 92))) (by exact E.gtr (k := .i64) (a := ((r4.2.1.length : Nat) : Int)) (b := 92) (AF_ev rfl tp) rfl) ?_
            refine RW.soft Wd.a (v := .bool (decide (((r4.2.1.length : Nat) : Int) > 92))) (by exact E.pickF (AF_ev rfl (up rfl (up rfl (up rfl (Eq.trans tp (congrArg Value.bool hw10)))))) (AF_ev rfl tp)) ?_
            refine RW.nil ?_
            refine Th.n ?_
            have hst := hst.take (.there (.there (.there .here)))
            have hst := hst.take (.there (.there (.there .here)))
            have hst := (hst.take (.there (.there (.there .here)))).drop
            exact ⟨(decide (((r4.2.1.length : Nat) : Int) > 92)), hF, up rfl (up rfl (up rfl (up rfl (up rfl (up rfl (up rfl (up rfl (up rfl (up rfl (up rfl (up rfl (up rfl (up rfl (up rfl (up rfl (up rfl (up rfl (up rfl (up rfl (up rfl (up rfl hs2))))))))))))))))))))), up rfl (up rfl (up rfl (up rfl (up rfl (up rfl (up rfl (up rfl (up rfl (up rfl (up rfl (up rfl (up rfl (up rfl (up rfl (up rfl (up rfl (up rfl (up rfl (up rfl (up rfl (up rfl hs3))))))))))))))))))))), up rfl (up rfl (up rfl (up rfl (up rfl (up rfl (up rfl (up rfl (up rfl (up rfl (up rfl (up rfl (up rfl (up rfl (up rfl (up rfl (up rfl (up rfl (up rfl (up rfl (up rfl (up rfl hs4))))))))))))))))))))), up rfl (up rfl (up rfl (up rfl (up rfl (up rfl (up rfl (up rfl (up rfl (up rfl (up rfl (up rfl (up rfl (up rfl (up rfl (up rfl (up rfl (up rfl (up rfl (up rfl (up rfl (up rfl hs5))))))))))))))))))))), up rfl (up rfl (up rfl (up rfl (up rfl (up rfl (up rfl (up rfl (up rfl (up rfl (up rfl (up rfl (up rfl (up rfl (up rfl (up rfl (up rfl (up rfl (up rfl (up rfl (up rfl (up rfl hs6))))))))))))))))))))), up rfl (up rfl (up rfl (up rfl (up rfl (up rfl (up rfl (up rfl (up rfl (up rfl (up rfl (up rfl (up rfl (up rfl (up rfl (up rfl (up rfl (up rfl (up rfl (up rfl (up rfl (up rfl hs7))))))))))))))))))))), tp, hst⟩
  rintro τ w ⟨j6, hF, hs2, hs3, hs4, hs5, hs6, hs7, hs42, hst⟩
  unfold Read_j1 at hF
  refine CW.cond (AF_ev rfl hs42) (fun hc11 => ?_) (fun hc11 => ?_)
  · have hF := ct hc11 hF
    refine CW.seq ?_
    refine CW.region ?_
    refine RW.soft Wd.a (v := .agg (((List.replicate 12 0#8).map bu8)).toArray) (by exact E.build (vs := #[]) (by simp) (by kernel_rfl)) ?_
    refine RW.soft Wd.a (v := .int .i64 0) (by exact E.assign rfl) ?_
    refine RW.soft Wd.a (v := .int .i64 0) (by exact E.assign rfl) ?_
    refine RW.hard Wd.a ?_
    refine H.storeL (b := b1) (o := 0) (m := 12) (v := .agg (((List.replicate 12 0#8).map bu8)).toArray) (ys := ((List.replicate 12 0#8).map bu8)) (L' := ((List.replicate 12 0#8).map bu8)) (AF_ev rfl (up rfl (up rfl (up rfl hs4)))) (AF_ev rfl (up rfl (up rfl tp))) hst (.there .here) sz24 rfl ((List.length_map _).trans (List.length_replicate)) (ones_map (fun _ => rfl)) (putW (Eq.trans (show ((List.replicate 12 0#8).map bu8).length = 12 from ((List.length_map _).trans (List.length_replicate))) (Eq.symm (show ((List.replicate 12 0#8).map bu8).length = 12 from ((List.length_map _).trans (List.length_replicate)))))) fun w hst => ?_
    refine RW.soft Wd.a (v := .slice none 0 0) (by exact E.assign rfl) ?_
    refine RW.soft Wd.a (v := .int .i64 140) (by exact E.assign rfl) ?_
    refine RW.fin (fun τ => τ 2 = .int .i64 0 ∧ τ 3 = .int .i64 0 ∧ τ 4 = .pointer (some ⟨b1, 0, none⟩) ∧ τ 5 = .slice none 0 0 ∧ τ 6 = .int .i64 140 ∧ τ 7 = .slice Xq5_1 r4.2.1.length cq5_1 ∧ τ 42 = .bool true) ⟨up rfl (up rfl (u0 (up rfl tp))), up rfl (up rfl (u0 tp)), up rfl (up rfl (u0 (up rfl (up rfl (up rfl hs4))))), up rfl tp, tp, up rfl (up rfl (u0 (up rfl (up rfl (up rfl hs7))))), up rfl (up rfl (u0 (up rfl (up rfl (up rfl (Eq.trans hs42 (congrArg Value.bool hc11)))))))⟩ ?_
    rintro τ ⟨hs2, hs3, hs4, hs5, hs6, hs7, hs42⟩
    refine CW.ret ?_
    refine Th.r ?_
    refine retN (rs := [.tmp 2, .tmp 3, .cell 4 24, .tmp 5, .tmp 6]) (vs := [.int .i64 0, .int .i64 0, .agg (((List.replicate 12 0#8).map bu8)).toArray, .slice none 0 0, .int .i64 140]) rfl (by exact (.tmp (AF_ev rfl hs2) (.tmp (AF_ev rfl hs3) (.cell (AF_ev rfl hs4) (hst.blockAt (.there .here)) Try.underlying24 rfl (by rw [List.size_toArray, show (((List.replicate 12 0#8).map bu8)).length = 12 from ((List.length_map _).trans (List.length_replicate))]; exact sz24) (.tmp (AF_ev rfl hs5) (.tmp (AF_ev rfl hs6) .nil)))))) (by simp) ?_
    have hst := Tel.nil 0 hst
    have hst := hst.take (.there .here)
    have hst := hst.take (.there .here)
    have hst := (hst.take (.there (.there .here))).drop
    have hst := (hst.take (.there (.there .here))).drop
    rw [somE hF]
    exact ⟨none, 0, rfl, (by (try dsimp only); first | omega | exact (by omega)), (by (try dsimp only); first | omega | exact (by omega)), (List.length_replicate), (by (try dsimp only); simp), (by (try dsimp only); first | omega | exact (by omega)), hst⟩
  · have hF := cf hc11 hF
    refine CW.skip ?_
    refine Th.n ?_
    refine CW.seq ?_
    refine CW.region ?_
    refine RW.soft Wd.a (v := .slice (some ⟨b1, 0, none⟩) 12 12) (by exact E.v (run_sliceArr (b := b1) (o := 0) (N := 12) (i := 0) (j := 12) Try.underlying24 sz5 _ (AF_ev rfl hs4) rfl rfl (by omega) (by omega)) (by first | rfl | simp)) ?_
    refine RW.soft Wd.a (v := .slice Xq5_1 r4.2.1.length cq5_1) (by exact E.move (AF_ev rfl (up rfl hs7))) ?_
    obtain ⟨m12, h_m12, hF⟩ := lp hF
    have hl_m12 : m12.length = 12 := by rw [h_m12]; exact ov_len (List.length_replicate) (by rw [List.length_take]; omega)
    refine RW.hard Wd.a ?_
    refine H.copyL (b := b1) (o := 0) (dLen := 12) (dCap := 12) (m := r4.2.1.length) (L' := (m12.map bu8)) (src := (r4.2.1.map bu8)) Try.underlying25 sz5 (AF_ev rfl (up rfl tp)) (AF_ev rfl tp) hst (.there .here) (Own.src (hst.take (.there (.there .here)))) (ones_map (fun _ => rfl)) (by rw [show (((List.replicate 12 0#8).map bu8)).length = 12 from ((List.length_map _).trans (List.length_replicate))]; omega) (by rw [h_m12, ← List.map_take]; exact putA (by rw [List.length_take, (List.length_replicate)]; omega)) fun w hst => ?_
    refine RW.fin (fun τ => τ 2 = .int .i64 r2.1 ∧ τ 3 = .int .i64 r4.1 ∧ τ 4 = .pointer (some ⟨b1, 0, none⟩) ∧ τ 5 = .slice none 0 0 ∧ τ 6 = .int .i64 r2.2.2 ∧ τ 7 = .slice Xq5_1 r4.2.1.length cq5_1 ∧ τ 42 = .bool false) ⟨up rfl (up rfl (up rfl hs2)), up rfl (up rfl (up rfl hs3)), up rfl (up rfl (up rfl hs4)), up rfl (up rfl (up rfl hs5)), up rfl (up rfl (up rfl hs6)), up rfl (up rfl (up rfl hs7)), up rfl (up rfl (up rfl (Eq.trans hs42 (congrArg Value.bool hc11))))⟩ ?_
    rintro τ ⟨hs2, hs3, hs4, hs5, hs6, hs7, hs42⟩
    refine CW.seq ?_
    obtain ⟨hg13, hF⟩ := pl hF
    have hcap_cq5_1 : r4.2.1.length ≤ cq5_1 := (show SL.Src w 1 (.slice Xq5_1 r4.2.1.length cq5_1) r4.2.1.length (r4.2.1.map bu8) from (Own.src (hst.take (.there (.there .here))))).len.2.1
    obtain ⟨t15, h_t15, hF⟩ := lp hF
    have hl_t15 : t15.length = r4.2.1.length - 12 := by rw [h_t15]; exact sl_len rfl (by omega)
    obtain ⟨hg16, hF⟩ := pl hF
    obtain ⟨b17, rfl⟩ := (St.ownAt (hst.take (.there (.there .here))) (by omega))
    obtain ⟨hg19, hF⟩ := pl hF
    obtain ⟨c21, hc_c21⟩ : ∃ z, z = cq5_1 - 12 := ⟨_, rfl⟩
    refine CW.regionE [2] (fun w => (∀ j_ v_, ((m12.map bu8) : List Value)[j_]? = some v_ → w.cell? ⟨b1, 0 + j_, none⟩ = some v_)) mixed ?_
    have hst := hst.drew
    generalize w.drew = w at hst ⊢
    have hS : (∀ j_ v_, ((m12.map bu8) : List Value)[j_]? = some v_ → w.cell? ⟨b1, 0 + j_, none⟩ = some v_) := (St.cellsOf hst (.there .here) allF)
    refine RE.takeF 0 rfl (by kernel_rfl) Wd.a (v := .int .i64 r2.1) (fun w => by exact E.move (AF_ev rfl hs2)) ?_
    refine RE.takeF 1 rfl (by kernel_rfl) Wd.a (v := .int .i64 r4.1) (fun w => by exact E.move (AF_ev rfl (up rfl hs3))) ?_
    refine RE.take 2 rfl (by kernel_rfl) Wd.a (v := .agg ((m12.map bu8)).toArray) (fun w hS => by exact E.loadN (b := b1) (o := 0) (cs := (m12.map bu8)) Try.underlying24 rfl sz24 (AF_ev rfl (up rfl (up rfl hs4))) ((List.length_map _).trans hl_m12) hS) hS ?_
    refine RE.takeF 3 rfl (by kernel_rfl) Wd.a (v := .slice (some ⟨b17, 0, none⟩) r4.2.1.length cq5_1) (fun w => by exact E.move (AF_ev rfl (up rfl (up rfl (up rfl hs7))))) ?_
    refine RE.takeF 4 rfl (by kernel_rfl) Wd.a (v := .slice (some ⟨b17, 12, none⟩) t15.length c21) (fun w => by exact E.v (run_slice (X := (some ⟨b17, 0, none⟩)) (m := r4.2.1.length) (c := cq5_1) (i := 12) (j := r4.2.1.length) (k := cq5_1) Try.underlying25 sz5 _ (AF_ev rfl tp) rfl ⟨rfl, rfl⟩ rfl (by omega) (by omega) (by omega)) (by first | (rw [sbA_some (by omega), hc_c21, Nat.mul_one, hl_t15]; done) | (rw [sbA_some (by omega), hc_c21, Nat.mul_one, Nat.zero_add, hl_t15]; done) | (rw [sbA_some (by omega), hc_c21, Nat.mul_one, hl_t15]; rfl))) ?_
    refine RE.takeF 5 rfl (by kernel_rfl) Wd.a (v := .int .i64 r2.1) (fun w => by exact E.assign (AF_ev rfl (up rfl (up rfl (up rfl (up rfl tp)))))) ?_
    refine RE.takeF 6 rfl (by kernel_rfl) Wd.a (v := .int .i64 r4.1) (fun w => by exact E.assign (AF_ev rfl (up rfl (up rfl (up rfl (up rfl tp)))))) ?_
    refine RE.only 7 rfl (by kernel_rfl) Wd.a ?_
    refine H.storeL (b := b1) (o := 0) (m := 12) (v := .agg ((m12.map bu8)).toArray) (ys := (m12.map bu8)) (L' := (m12.map bu8)) (AF_ev rfl (up rfl (up rfl (up rfl (up rfl (up rfl (up rfl (up rfl hs4)))))))) (AF_ev rfl (up rfl (up rfl (up rfl (up rfl tp))))) hst (.there .here) sz24 rfl ((List.length_map _).trans hl_m12) (ones_map (fun _ => rfl)) (putW (Eq.trans (show (m12.map bu8).length = 12 from ((List.length_map _).trans hl_m12)) (Eq.symm (show (m12.map bu8).length = 12 from ((List.length_map _).trans hl_m12))))) fun w hst => ?_
    refine ⟨fun h => Bool.noConfusion ((show needs _ _ _ = false by kernel_rfl).symm.trans h), ?_⟩
    refine RE.only 8 rfl (by kernel_rfl) Wd.a (Hd.value (v := .slice (some ⟨b17, 12, none⟩) t15.length c21) (by exact E.assign (AF_ev rfl (u0 (up rfl (up rfl tp))))) ⟨fun h => Bool.noConfusion ((show needs _ _ _ = false by kernel_rfl).symm.trans h), ?_⟩)
    refine RE.only 9 rfl (by kernel_rfl) Wd.a (Hd.value (v := .int .i64 0) (by exact E.assign rfl) ⟨fun h => Bool.noConfusion ((show needs _ _ _ = false by kernel_rfl).symm.trans h), ?_⟩)
    refine RE.fin (by kernel_rfl) (fun τ => τ 2 = .int .i64 r2.1 ∧ τ 3 = .int .i64 r4.1 ∧ τ 4 = .pointer (some ⟨b1, 0, none⟩) ∧ τ 5 = .slice (some ⟨b17, 12, none⟩) t15.length c21 ∧ τ 6 = .int .i64 0 ∧ τ 7 = .slice (some ⟨b17, 0, none⟩) r4.2.1.length cq5_1 ∧ τ 42 = .bool false) ⟨up rfl (up rfl (u0 (up rfl tp))), up rfl (up rfl (u0 tp)), up rfl (up rfl (u0 (up rfl (up rfl (up rfl (up rfl (up rfl (up rfl (up rfl hs4))))))))), up rfl tp, tp, up rfl (up rfl (u0 (up rfl (up rfl (up rfl (up rfl (up rfl (up rfl (up rfl hs7))))))))), up rfl (up rfl (u0 (up rfl (up rfl (up rfl (up rfl (up rfl (up rfl (up rfl hs42)))))))))⟩ ?_
    rintro τ ⟨hs2, hs3, hs4, hs5, hs6, hs7, hs42⟩
    refine CW.ret ?_
    refine retN (rs := [.tmp 2, .tmp 3, .cell 4 24, .tmp 5, .tmp 6]) (vs := [.int .i64 r2.1, .int .i64 r4.1, .agg ((m12.map bu8)).toArray, .slice (some ⟨b17, 12, none⟩) t15.length c21, .int .i64 0]) rfl (by exact (.tmp (AF_ev rfl hs2) (.tmp (AF_ev rfl hs3) (.cell (AF_ev rfl hs4) (hst.blockAt (.there .here)) Try.underlying24 rfl (by rw [List.size_toArray, show ((m12.map bu8)).length = 12 from ((List.length_map _).trans hl_m12)]; exact sz24) (.tmp (AF_ev rfl hs5) (.tmp (AF_ev rfl hs6) .nil)))))) (by simp) ?_
    have hst := hst.take (.there (.there .here))
    have hst := Tel.make (v := .slice (some ⟨b17, 12, none⟩) t15.length c21) (xs := t15) hst (fun p w H s => SL.Src.cast (show SL.Src w 1 (.slice (some ⟨b17, 12, none⟩) t15.length c21) t15.length (t15.map bu8) from (Src.part (o0 := 0) (Own.src s) (o := 12) (n := t15.length) (c2 := c21) (by omega) (by omega) (by rw [hl_t15, h_t15, map_sl]))) (by omega) rfl rfl)
    have hst := hst.take (.there .here)
    have hst := hst.take (.there .here)
    have hst := (hst.take (.there (.there .here))).drop
    rw [somE hF]
    exact ⟨(some ⟨b17, 12, none⟩), c21, rfl, (by (try dsimp only); first | omega | exact (by omega)), (by (try dsimp only); first | omega | exact (by omega)), hl_m12, (by (try dsimp only); omega), (by (try dsimp only); first | omega | exact (by omega)), hst⟩
end Go.Proofs.Ytjpjejldinpcnaa
