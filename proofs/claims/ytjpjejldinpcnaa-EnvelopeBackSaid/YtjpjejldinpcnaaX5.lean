/- Functions that were walked through by a program: what each comes to, as a plain function, and the proof. -/
import Derived.Test.YtjpjejldinpcnaaX3
namespace Go.Proofs.Ytjpjejldinpcnaa
open Go.RowKit Go.SL
attribute [local irreducible] Go.SL.RW Go.SL.CW Go.SL.RD Go.SL.Hd Go.SL.St
set_option linter.unusedVariables false
set_option linter.unusedSimpArgs false
set_option maxRecDepth 20000
set_option maxHeartbeats 4000000

theorem nm57 : (Try.f57.name == "runtime.NumGoroutine") = false := by kernel_rfl
theorem nm58 : (Try.f58.name == "runtime.NumGoroutine") = false := by kernel_rfl
theorem nm83 : (Try.f83.name == "runtime.NumGoroutine") = false := by kernel_rfl
theorem zs24 : (Try.prog.info? 24).bind (·.zero) = some (.agg (((List.replicate 12 0#8).map bu8)).toArray) := by kernel_rfl

def RNeeds_l1   : Nat → Int → Int → Option (Int)
  | 0, _, _ => none
  | k6 + 1, s3, s4 =>
    bif decide (s3 > 0) then
      RNeeds_l1 k6 (s3 / 256) (w64 (s4 + 1))
    else
      some (s4)
theorem RNeeds_l1_pos   {fu_ : Nat} {s3 : Int} {s4 : Int} {r : Int} (h : RNeeds_l1 fu_ s3 s4 = some r) : ∃ j, fu_ = j + 1 := by
  cases fu_ with
  | zero => cases (show (none : Option (Int)) = some r from h)
  | succ j => exact ⟨j, rfl⟩
def RNeeds (n : Int) : Option (Int) :=
  RNeeds_l1 1099511627776 n 0
theorem RNeeds_C {p : Pers} {w : World} {R : List Assn}  (n : Int) (hr_n : -9223372036854775808 ≤ n ∧ n ≤ 9223372036854775807) (r : Int) (hF : RNeeds n = some r) (hst : St p w (R)) :
    Calls Try.prog 83 #[.int .i64 n] w fun e w => e = .returned (.int .i64 r) ∧ (-9223372036854775808 ≤ r ∧ r ≤ 9223372036854775807) ∧ St p w (R) := by
  unfold RNeeds at hF
  refine enter Try.func83 rfl (by simp) (n := 11) rfl fun τ hτ => ?_
  have hs0 : τ 0 = .int .i64 n := hτ 0 (by simp)
  clear hτ
  refine CW.seq ?_
  refine CW.region ?_
  refine RW.soft Wd.a (v := .int .i64 0) (by exact E.assign rfl) ?_
  refine RW.fin (fun τ => τ 0 = .int .i64 n ∧ τ 2 = .int .i64 0) ⟨up rfl hs0, tp⟩ ?_
  rintro τ ⟨hs0, hs2⟩
  refine CW.seq ?_
  refine CW.region ?_
  refine RW.soft Wd.a (v := .int .i64 0) (by exact E.assign rfl) ?_
  refine RW.fin (fun τ => τ 0 = .int .i64 n ∧ τ 2 = .int .i64 0 ∧ τ 3 = .int .i64 0) ⟨up rfl hs0, up rfl hs2, tp⟩ ?_
  rintro τ ⟨hs0, hs2, hs3⟩
  refine CW.seq ?_
  refine CW.block ?_
  refine CW.loop (fun (k5 : Nat) (τ : Fr) (w : World) => ∃ (s3 : Int) (s4 : Int), (-9223372036854775808 ≤ s3 ∧ s3 ≤ 9223372036854775807) ∧ (-9223372036854775808 ≤ s4 ∧ s4 ≤ 9223372036854775807) ∧ RNeeds_l1 k5 s3 s4 = some r ∧ τ 0 = .int .i64 s3 ∧ τ 3 = .int .i64 s4 ∧ τ 2 = .int .i64 0 ∧ St p w (R)) 1099511627776 ?_ ?_
  · skip
    exact ⟨n, 0, (by omega), (by omega), hF, hs0, hs3, hs2, hst⟩
  clear hst hF
  rintro k5 τ w ⟨s3, s4, hr_s3, hr_s4, hF, hs0, hs3, hs2, hst⟩
  obtain ⟨k6, rfl⟩ := RNeeds_l1_pos hF
  rw [RNeeds_l1] at hF
  refine CW.seq ?_
  refine CW.seq ?_
  refine CW.region ?_
  refine RW.soft Wd.a (v := .int .i64 s3) (by exact E.move (AF_ev rfl hs0)) ?_
  refine RW.soft Wd.a (v := .bool (decide (s3 > 0))) (by exact E.gtr (k := .i64) (a := s3) (b := 0) (AF_ev rfl tp) rfl) ?_
  refine RW.fin (fun τ => τ 0 = .int .i64 s3 ∧ τ 2 = .int .i64 0 ∧ τ 3 = .int .i64 s4 ∧ τ 5 = .bool (decide (s3 > 0))) ⟨up rfl (up rfl hs0), up rfl (up rfl hs2), up rfl (up rfl hs3), tp⟩ ?_
  rintro τ ⟨hs0, hs2, hs3, hs5⟩
  refine CW.cond (AF_ev rfl hs5) (fun hc7 => ?_) (fun hc7 => ?_)
  · have hF := ct hc7 hF
    have hc7_ := hc7
    try simp only [decide_eq_true_eq, gt_iff_lt, ge_iff_le] at hc7_
    refine CW.skip ?_
    refine Th.n ?_
    refine CW.block ?_
    refine CW.seq ?_
    refine CW.region ?_
    refine RW.soft Wd.a (v := .int .i64 s3) (by exact E.move (AF_ev rfl hs0)) ?_
    refine RW.soft Wd.a (v := .int .i64 (s3 / 256)) (by exact E.quo (k := .i64) (a := s3) (b := 256) (AF_ev rfl tp) rfl (by omega) (by rw [Int.tdiv_eq_ediv_of_nonneg (by omega)]; exact (show IntKind.i64.wrap (s3 / 256) = s3 / 256 from by rw [IntWalk.i64_in _ (by omega)]))) ?_
    refine RW.soft Wd.a (v := .int .i64 (s3 / 256)) (by exact E.assign (AF_ev rfl tp)) ?_
    refine RW.fin (fun τ => τ 0 = .int .i64 (s3 / 256) ∧ τ 2 = .int .i64 0 ∧ τ 3 = .int .i64 s4 ∧ τ 5 = .bool true) ⟨tp, up rfl (up rfl (up rfl hs2)), up rfl (up rfl (up rfl hs3)), up rfl (up rfl (up rfl (Eq.trans hs5 (congrArg Value.bool hc7))))⟩ ?_
    rintro τ ⟨hs0, hs2, hs3, hs5⟩
    refine CW.region ?_
    refine RW.soft Wd.a (v := .int .i64 s4) (by exact E.move (AF_ev rfl hs3)) ?_
    refine RW.soft Wd.a (v := .int .i64 (w64 (s4 + 1))) (by exact E.add (k := .i64) (a := s4) (b := 1) (AF_ev rfl tp) rfl rfl) ?_
    refine RW.soft Wd.a (v := .int .i64 (w64 (s4 + 1))) (by exact E.assign (AF_ev rfl tp)) ?_
    refine RW.nil ?_
    refine Bl.n ?_
    refine Th.n ?_
    exact ⟨k6, Nat.lt_succ_self _, (s3 / 256), (w64 (s4 + 1)), (by omega), (w64_rng _), hF, up rfl (up rfl (up rfl hs0)), tp, up rfl (up rfl (up rfl hs2)), hst⟩
  · have hF := cf hc7 hF
    have hc7_ := hc7
    try simp only [decide_eq_false_iff_not, Int.not_lt, Int.not_le, gt_iff_lt, ge_iff_le] at hc7_
    refine CW.exit ?_
    refine Th.x ?_
    refine Th.x ?_
    refine Bl.x ?_
    refine Th.n ?_
    refine CW.seq ?_
    refine CW.region ?_
    refine RW.soft Wd.a (v := .int .i64 s4) (by exact E.move (AF_ev rfl hs3)) ?_
    refine RW.soft Wd.a (v := .int .i64 s4) (by exact E.assign (AF_ev rfl tp)) ?_
    refine RW.fin (fun τ => τ 0 = .int .i64 s3 ∧ τ 2 = .int .i64 s4 ∧ τ 3 = .int .i64 s4 ∧ τ 5 = .bool false) ⟨up rfl (up rfl hs0), tp, up rfl (up rfl hs3), up rfl (up rfl (Eq.trans hs5 (congrArg Value.bool hc7)))⟩ ?_
    rintro τ ⟨hs0, hs2, hs3, hs5⟩
    refine CW.ret ?_
    refine ret1 (v := .int .i64 s4) rfl (by exact (.tmp (AF_ev rfl hs2) .nil)) ?_
    rw [somE hF]
    exact ⟨rfl, (by (try dsimp only); first | omega | exact (by omega)), hst⟩

def RPut_l1 (n : Int)  : Nat → List (BitVec 8) → Int → Option (List (BitVec 8) × Int)
  | 0, _, _ => none
  | k19 + 1, s14, s17 =>
    bif decide (s17 ≥ 0) then
      if 0 ≤ w64 (8 * s17) then
        lt_ (BitVec.ofInt 8 (ishr64 n ((w64 (8 * s17)).toNat))) fun u22 =>
        if s14.length + 1 ≤ 1000000 then
          lt_ (s14 ++ ([u22] : List (BitVec 8))) fun s25 =>
          RPut_l1 n k19 s25 (w64 (s17 - 1))
        else none
      else none
    else
      some (s14, 0)
theorem RPut_l1_pos {n : Int}  {fu_ : Nat} {s14 : List (BitVec 8)} {s17 : Int} {r : List (BitVec 8) × Int} (h : RPut_l1 n fu_ s14 s17 = some r) : ∃ j, fu_ = j + 1 := by
  cases fu_ with
  | zero => cases (show (none : Option (List (BitVec 8) × Int)) = some r from h)
  | succ j => exact ⟨j, rfl⟩
def RPut (b : List (BitVec 8)) (n : Int) : Option (List (BitVec 8) × Int) :=
  bif decide (n < 0) then
    some (([] : List (BitVec 8)), 1)
  else
    (RNeeds n).bind fun r2 =>
    if 0 + b.length ≤ 1000000 then
      lt_ (([] : List (BitVec 8)) ++ b) fun s6 =>
      if s6.length + 1 ≤ 1000000 then
        lt_ (s6 ++ ([BitVec.ofInt 8 r2] : List (BitVec 8))) fun s11 =>
        RPut_l1 n 1099511627776 s11 (w64 (r2 - 1))
      else none
    else none
theorem RPut_C {p : Pers} {w : World} {R : List Assn} {A : Assn} {X_b : Option Addr} {c_b : Nat} (b : List (BitVec 8)) (hm_b : b.length ≤ 1000000) (hS_b : ∀ w H, St p w (A :: H) → SL.Src w 1 (.slice X_b b.length c_b) b.length (b.map bu8)) (n : Int) (hr_n : -9223372036854775808 ≤ n ∧ n ≤ 9223372036854775807) (r : List (BitVec 8) × Int) (hF : RPut b n = some r) (hst : St p w (A :: R)) :
    Calls Try.prog 57 #[.slice X_b b.length c_b, .int .i64 n] w fun e w => ∃ (X0 : Option Addr) (c0 : Nat), e = .returned (.tuple #[.slice X0 r.1.length c0, .int .i64 r.2]) ∧ r.1.length ≤ 1000000 ∧ (-9223372036854775808 ≤ r.2 ∧ r.2 ≤ 9223372036854775807) ∧ St p w (SL.Own 5 1 (.slice X0 r.1.length c0) r.1.length (r.1.map bu8) :: A :: R) := by
  unfold RPut at hF
  refine enter Try.func57 rfl (by simp) (n := 35) rfl fun τ hτ => ?_
  have hs0 : τ 0 = .slice X_b b.length c_b := hτ 0 (by simp)
  have hs1 : τ 1 = .int .i64 n := hτ 1 (by simp)
  clear hτ
  refine CW.seq ?_
  refine CW.region ?_
  refine RW.soft Wd.a (v := .slice none 0 0) (by exact E.assign rfl) ?_
  refine RW.soft Wd.a (v := .int .i64 0) (by exact E.assign rfl) ?_
  refine RW.fin (fun τ => τ 0 = .slice X_b b.length c_b ∧ τ 1 = .int .i64 n ∧ τ 4 = .slice none 0 0 ∧ τ 5 = .int .i64 0) ⟨up rfl (up rfl hs0), up rfl (up rfl hs1), up rfl tp, tp⟩ ?_
  rintro τ ⟨hs0, hs1, hs4, hs5⟩
  refine CW.seq ?_
  refine CW.seq ?_
  refine CW.region ?_
  refine RW.soft Wd.a (v := .int .i64 n) (by exact E.move (AF_ev rfl hs1)) ?_
  refine RW.soft Wd.a (v := .bool (decide (n < 0))) (by exact E.lss (k := .i64) (a := n) (b := 0) (AF_ev rfl tp) rfl) ?_
  refine RW.fin (fun τ => τ 0 = .slice X_b b.length c_b ∧ τ 1 = .int .i64 n ∧ τ 4 = .slice none 0 0 ∧ τ 5 = .int .i64 0 ∧ τ 10 = .bool (decide (n < 0))) ⟨up rfl (up rfl hs0), up rfl (up rfl hs1), up rfl (up rfl hs4), up rfl (up rfl hs5), tp⟩ ?_
  rintro τ ⟨hs0, hs1, hs4, hs5, hs10⟩
  refine CW.cond (AF_ev rfl hs10) (fun hc1 => ?_) (fun hc1 => ?_)
  · have hF := ct hc1 hF
    have hc1_ := hc1
    try simp only [decide_eq_true_eq] at hc1_
    refine CW.seq ?_
    refine CW.region ?_
    refine RW.soft Wd.a (v := .slice none 0 0) (by exact E.assign rfl) ?_
    refine RW.soft Wd.a (v := .int .i64 1) (by exact E.assign rfl) ?_
    refine RW.fin (fun τ => τ 0 = .slice X_b b.length c_b ∧ τ 1 = .int .i64 n ∧ τ 4 = .slice none 0 0 ∧ τ 5 = .int .i64 1 ∧ τ 10 = .bool true) ⟨up rfl (up rfl hs0), up rfl (up rfl hs1), up rfl tp, tp, up rfl (up rfl (Eq.trans hs10 (congrArg Value.bool hc1)))⟩ ?_
    rintro τ ⟨hs0, hs1, hs4, hs5, hs10⟩
    refine CW.ret ?_
    refine Th.r ?_
    refine retN (rs := [.tmp 4, .tmp 5]) (vs := [.slice none 0 0, .int .i64 1]) rfl (by exact (.tmp (AF_ev rfl hs4) (.tmp (AF_ev rfl hs5) .nil))) (by simp) ?_
    have hst := hst.ownNil (e := 5) (sz := 1) none
    have hst := hst.take (.there .here)
    have hst := hst.take (.there .here)
    rw [somE hF]
    exact ⟨none, 0, rfl, (by (try dsimp only); first | omega | (simp; done) | (simp; omega)), (by (try dsimp only); first | omega | exact (by omega)), hst⟩
  · have hF := cf hc1 hF
    have hc1_ := hc1
    try simp only [decide_eq_false_iff_not, Int.not_lt, Int.not_le, gt_iff_lt, ge_iff_le] at hc1_
    refine CW.skip ?_
    refine Th.n ?_
    refine CW.seq ?_
    refine CW.region ?_
    refine RW.soft Wd.a (v := .int .i64 n) (by exact E.move (AF_ev rfl hs1)) ?_
    obtain ⟨r2, h_r2, hF⟩ := bd hF
    refine RW.hard Wd.a ?_
    refine H.call0 Try.func83 nm83 rfl (map1 (AF_ev rfl tp)) (Calls.mono (RNeeds_C n (by omega) r2 h_r2 hst) ?_)
    rintro _ w ⟨rfl, hr_q3_0, hst⟩
    refine ⟨_, rfl, ?_⟩
    show RW _ _ _ _ _ _ _
    refine RW.soft Wd.a (v := .int .i64 r2) (by exact E.assign (AF_ev rfl tp)) ?_
    refine RW.fin (fun τ => τ 0 = .slice X_b b.length c_b ∧ τ 1 = .int .i64 n ∧ τ 4 = .slice none 0 0 ∧ τ 5 = .int .i64 0 ∧ τ 6 = .int .i64 r2 ∧ τ 10 = .bool false) ⟨up rfl (up rfl (up rfl hs0)), up rfl (up rfl (up rfl hs1)), up rfl (up rfl (up rfl hs4)), up rfl (up rfl (up rfl hs5)), tp, up rfl (up rfl (up rfl (Eq.trans hs10 (congrArg Value.bool hc1))))⟩ ?_
    rintro τ ⟨hs0, hs1, hs4, hs5, hs6, hs10⟩
    refine CW.seq ?_
    refine CW.region ?_
    refine RW.hard Wd.a ?_
    refine H.buildSlice (e := 5) (cs := ((([] : List (BitVec 8)).map bu8)).toArray) (vs := #[]) (by simp) (fun _ => by kernel_rfl) hst fun b4 w hst => ?_
    refine RW.soft Wd.a (v := .slice X_b b.length c_b) (by exact E.move (AF_ev rfl (up rfl hs0))) ?_
    have hst := hst.ownNew (n := 0) (cap := 0) (sz := 1) (xs := (([] : List (BitVec 8)).map bu8)) (by omega) (by simp [maxLen]) (by rw [List.size_toArray]; exact ((List.length_map _).trans (show ([] : List (BitVec 8)).length = 0 from rfl))) (by rw [List.take_of_length_le (by rw [show ((([] : List (BitVec 8)).map bu8)).length = 0 from ((List.length_map _).trans (show ([] : List (BitVec 8)).length = 0 from rfl))]; omega)])
    obtain ⟨hg5, hF⟩ := pl hF
    obtain ⟨s6, h_s6, hF⟩ := lp hF
    refine RW.hard Wd.a ?_
    refine H.append (m := b.length) (news := (b.map bu8)) (s0 := .slice (some ⟨b4, 0, none⟩) 0 0) (x0 := .slice X_b b.length c_b) Try.underlying25 inf5 rfl (AF_ev rfl (up rfl tp)) (AF_ev rfl tp) hst .here (hS_b _ _ (hst.take (.there .here))) (ones_map (fun _ => rfl)) (by omega) (by simp only [maxLen]; omega) ?_
    intro vX7 w _ hst
    have hl_s6 : s6.length = 0 + b.length := by rw [h_s6, List.length_append]; first | done | rfl | omega | (simp; done) | (simp; omega)
    rw [show ((([] : List (BitVec 8)).map bu8) ++ (b.map bu8)) = (s6.map bu8) from by rw [h_s6, List.map_append]; first | done | rfl, ← hl_s6] at hst
    obtain ⟨X7, c8, rfl, hcX7, hmX7, hlX7, hbX7⟩ := hst.shape
    clear hlX7
    refine RW.soft Wd.a (v := .int .i64 r2) (by exact E.move (AF_ev rfl (up rfl (up rfl (up rfl hs6))))) ?_
    refine RW.soft Wd.a (v := .int .u8 ((BitVec.ofInt 8 r2).toNat : Int)) (by exact E.cvIU (z := r2) (by rw [Try.underlying3]; rfl) Try.underlying5 UK.u8 (AF_ev rfl tp)) ?_
    refine RW.hard Wd.a ?_
    refine H.buildSlice (e := 5) (cs := ((([BitVec.ofInt 8 r2] : List (BitVec 8)).map bu8)).toArray) (vs := #[(0, .int .u8 ((BitVec.ofInt 8 r2).toNat : Int))]) (bld1 (AF_ev rfl tp)) (fun _ => by kernel_rfl) hst fun b9 w hst => ?_
    obtain ⟨hg10, hF⟩ := pl hF
    obtain ⟨s11, h_s11, hF⟩ := lp hF
    refine RW.hard Wd.a ?_
    refine H.append (m := 1) (news := (([BitVec.ofInt 8 r2] : List (BitVec 8)).map bu8)) (s0 := .slice X7 s6.length c8) (x0 := .slice (some ⟨b9, 0, none⟩) 1 1) Try.underlying25 inf5 rfl (AF_ev rfl (up rfl (up rfl (up rfl tp)))) (AF_ev rfl tp) hst (.there .here) (Src.ofL (hst.take .here) ((List.length_map _).trans (show ([BitVec.ofInt 8 r2] : List (BitVec 8)).length = 1 from rfl)) (by first | omega | (simp; done)) allF) (ones_map (fun _ => rfl)) (by omega) (by simp only [maxLen]; omega) ?_
    intro vX12 w _ hst
    have hl_s11 : s11.length = s6.length + 1 := by rw [h_s11, List.length_append]; first | done | rfl | omega | (simp; done) | (simp; omega)
    rw [show ((s6.map bu8) ++ (([BitVec.ofInt 8 r2] : List (BitVec 8)).map bu8)) = (s11.map bu8) from by rw [h_s11, List.map_append]; first | done | rfl, ← hl_s11] at hst
    obtain ⟨X12, c13, rfl, hcX12, hmX12, hlX12, hbX12⟩ := hst.shape
    clear hlX12
    refine RW.soft Wd.a (v := .slice X12 s11.length c13) (by exact E.assign (AF_ev rfl tp)) ?_
    refine RW.fin (fun τ => τ 0 = .slice X_b b.length c_b ∧ τ 1 = .int .i64 n ∧ τ 4 = .slice none 0 0 ∧ τ 5 = .int .i64 0 ∧ τ 6 = .int .i64 r2 ∧ τ 7 = .slice X12 s11.length c13 ∧ τ 10 = .bool false) ⟨up rfl (up rfl (up rfl (up rfl (up rfl (up rfl (up rfl (up rfl hs0))))))), up rfl (up rfl (up rfl (up rfl (up rfl (up rfl (up rfl (up rfl hs1))))))), up rfl (up rfl (up rfl (up rfl (up rfl (up rfl (up rfl (up rfl hs4))))))), up rfl (up rfl (up rfl (up rfl (up rfl (up rfl (up rfl (up rfl hs5))))))), up rfl (up rfl (up rfl (up rfl (up rfl (up rfl (up rfl (up rfl hs6))))))), tp, up rfl (up rfl (up rfl (up rfl (up rfl (up rfl (up rfl (up rfl hs10)))))))⟩ ?_
    rintro τ ⟨hs0, hs1, hs4, hs5, hs6, hs7, hs10⟩
    refine CW.seq ?_
    refine CW.seq ?_
    refine CW.region ?_
    refine RW.soft Wd.a (v := .int .i64 r2) (by exact E.move (AF_ev rfl hs6)) ?_
    refine RW.soft Wd.a (v := .int .i64 (w64 (r2 - 1))) (by exact E.sub (k := .i64) (a := r2) (b := 1) (AF_ev rfl tp) rfl rfl) ?_
    refine RW.soft Wd.a (v := .int .i64 (w64 (r2 - 1))) (by exact E.assign (AF_ev rfl tp)) ?_
    refine RW.fin (fun τ => τ 0 = .slice X_b b.length c_b ∧ τ 1 = .int .i64 n ∧ τ 4 = .slice none 0 0 ∧ τ 5 = .int .i64 0 ∧ τ 6 = .int .i64 r2 ∧ τ 7 = .slice X12 s11.length c13 ∧ τ 8 = .int .i64 (w64 (r2 - 1)) ∧ τ 10 = .bool false) ⟨up rfl (up rfl (up rfl hs0)), up rfl (up rfl (up rfl hs1)), up rfl (up rfl (up rfl hs4)), up rfl (up rfl (up rfl hs5)), up rfl (up rfl (up rfl hs6)), up rfl (up rfl (up rfl hs7)), tp, up rfl (up rfl (up rfl hs10))⟩ ?_
    rintro τ ⟨hs0, hs1, hs4, hs5, hs6, hs7, hs8, hs10⟩
    refine CW.block ?_
    refine CW.loop (fun (k18 : Nat) (τ : Fr) (w : World) => ∃ (s14 : List (BitVec 8)) (X15 : Option Addr) (c16 : Nat) (s17 : Int), s14.length ≤ 1000000 ∧ (-9223372036854775808 ≤ s17 ∧ s17 ≤ 9223372036854775807) ∧ RPut_l1 n k18 s14 s17 = some r ∧ τ 7 = .slice X15 s14.length c16 ∧ τ 8 = .int .i64 s17 ∧ τ 1 = .int .i64 n ∧ τ 4 = .slice none 0 0 ∧ τ 5 = .int .i64 0 ∧ St p w (SL.Own 5 1 (.slice X15 s14.length c16) s14.length (s14.map bu8) :: A :: R)) 1099511627776 ?_ ?_
    · skip
      have hst := hst.take (.there (.there .here))
      have hst := hst.take (.there .here)
      have hst := (hst.take (.there (.there .here))).drop
      exact ⟨s11, X12, c13, (w64 (r2 - 1)), (by first | omega | (simp; done) | (simp; omega)), (w64_rng _), hF, hs7, hs8, hs1, hs4, hs5, hst⟩
    clear hst hF
    rintro k18 τ w ⟨s14, X15, c16, s17, hm_s14, hr_s17, hF, hs7, hs8, hs1, hs4, hs5, hst⟩
    obtain ⟨k19, rfl⟩ := RPut_l1_pos hF
    rw [RPut_l1] at hF
    refine CW.seq ?_
    refine CW.seq ?_
    refine CW.region ?_
    refine RW.soft Wd.a (v := .int .i64 s17) (by exact E.move (AF_ev rfl hs8)) ?_
    refine RW.soft Wd.a (v := .bool (decide (s17 ≥ 0))) (by exact E.geq (k := .i64) (a := s17) (b := 0) (AF_ev rfl tp) rfl) ?_
    refine RW.fin (fun τ => τ 1 = .int .i64 n ∧ τ 4 = .slice none 0 0 ∧ τ 5 = .int .i64 0 ∧ τ 7 = .slice X15 s14.length c16 ∧ τ 8 = .int .i64 s17 ∧ τ 23 = .bool (decide (s17 ≥ 0))) ⟨up rfl (up rfl hs1), up rfl (up rfl hs4), up rfl (up rfl hs5), up rfl (up rfl hs7), up rfl (up rfl hs8), tp⟩ ?_
    rintro τ ⟨hs1, hs4, hs5, hs7, hs8, hs23⟩
    refine CW.cond (AF_ev rfl hs23) (fun hc20 => ?_) (fun hc20 => ?_)
    · have hF := ct hc20 hF
      have hc20_ := hc20
      try simp only [decide_eq_true_eq, gt_iff_lt, ge_iff_le] at hc20_
      refine CW.skip ?_
      refine Th.n ?_
      refine CW.seq ?_
      refine CW.block ?_
      refine CW.region ?_
      refine RW.soft Wd.a (v := .slice X15 s14.length c16) (by exact E.move (AF_ev rfl hs7)) ?_
      refine RW.soft Wd.a (v := .int .i64 n) (by exact E.move (AF_ev rfl (up rfl hs1))) ?_
      refine RW.soft Wd.a (v := .int .i64 s17) (by exact E.move (AF_ev rfl (up rfl (up rfl hs8)))) ?_
      refine RW.soft Wd.a (v := .int .i64 (w64 (8 * s17))) (by exact E.mul (k := .i64) (a := 8) (b := s17) rfl (AF_ev rfl tp) rfl) ?_
      obtain ⟨hg21, hF⟩ := pl hF
      refine RW.soft Wd.a (v := .int .i64 (ishr64 n ((w64 (8 * s17)).toNat))) (by exact E.ishr (i := n) (d := (w64 (8 * s17)).toNat) (AF_ev rfl (up rfl (up rfl tp))) (AF_ev rfl tp) (by omega)) ?_
      obtain ⟨u22, h_u22, hF⟩ := lp hF
      refine RW.soft Wd.a (v := .int .u8 ((u22).toNat : Int)) (by exact E.v (E.cvIU (z := ishr64 n ((w64 (8 * s17)).toNat)) (by rw [Try.underlying3]; rfl) Try.underlying5 UK.u8 (AF_ev rfl tp)) (by first | (rw [h_u22]; done) | (rw [h_u22]; rfl))) ?_
      refine RW.hard Wd.a ?_
      refine H.buildSlice (e := 5) (cs := ((([u22] : List (BitVec 8)).map bu8)).toArray) (vs := #[(0, .int .u8 ((u22).toNat : Int))]) (bld1 (AF_ev rfl tp)) (fun _ => by kernel_rfl) hst fun b23 w hst => ?_
      obtain ⟨hg24, hF⟩ := pl hF
      obtain ⟨s25, h_s25, hF⟩ := lp hF
      refine RW.hard Wd.a ?_
      refine H.append (m := 1) (news := (([u22] : List (BitVec 8)).map bu8)) (s0 := .slice X15 s14.length c16) (x0 := .slice (some ⟨b23, 0, none⟩) 1 1) Try.underlying25 inf5 rfl (AF_ev rfl (up rfl (up rfl (up rfl (up rfl (up rfl (up rfl tp))))))) (AF_ev rfl tp) hst (.there .here) (Src.ofL (hst.take .here) ((List.length_map _).trans (show ([u22] : List (BitVec 8)).length = 1 from rfl)) (by first | omega | (simp; done)) allF) (ones_map (fun _ => rfl)) (by omega) (by simp only [maxLen]; omega) ?_
      intro vX26 w _ hst
      have hl_s25 : s25.length = s14.length + 1 := by rw [h_s25, List.length_append]; first | done | rfl | omega | (simp; done) | (simp; omega)
      rw [show ((s14.map bu8) ++ (([u22] : List (BitVec 8)).map bu8)) = (s25.map bu8) from by rw [h_s25, List.map_append]; first | done | rfl, ← hl_s25] at hst
      obtain ⟨X26, c27, rfl, hcX26, hmX26, hlX26, hbX26⟩ := hst.shape
      clear hlX26
      refine RW.soft Wd.a (v := .slice X26 s25.length c27) (by exact E.assign (AF_ev rfl tp)) ?_
      refine RW.nil ?_
      refine Bl.n ?_
      refine Th.n ?_
      refine CW.region ?_
      refine RW.soft Wd.a (v := .int .i64 s17) (by exact E.move (AF_ev rfl (up rfl (up rfl (up rfl (up rfl (up rfl (up rfl (up rfl (up rfl (up rfl hs8))))))))))) ?_
      refine RW.soft Wd.a (v := .int .i64 (w64 (s17 - 1))) (by exact E.sub (k := .i64) (a := s17) (b := 1) (AF_ev rfl tp) rfl rfl) ?_
      refine RW.soft Wd.a (v := .int .i64 (w64 (s17 - 1))) (by exact E.assign (AF_ev rfl tp)) ?_
      refine RW.nil ?_
      refine Th.n ?_
      have hst := hst.take (.there (.there .here))
      have hst := hst.take (.there .here)
      have hst := (hst.take (.there (.there .here))).drop
      exact ⟨k19, Nat.lt_succ_self _, s25, X26, c27, (w64 (s17 - 1)), (by first | omega | (simp; done) | (simp; omega)), (w64_rng _), hF, up rfl (up rfl (up rfl tp)), tp, up rfl (up rfl (up rfl (up rfl (up rfl (up rfl (up rfl (up rfl (up rfl (up rfl (up rfl (up rfl hs1))))))))))), up rfl (up rfl (up rfl (up rfl (up rfl (up rfl (up rfl (up rfl (up rfl (up rfl (up rfl (up rfl hs4))))))))))), up rfl (up rfl (up rfl (up rfl (up rfl (up rfl (up rfl (up rfl (up rfl (up rfl (up rfl (up rfl hs5))))))))))), hst⟩
    · have hF := cf hc20 hF
      have hc20_ := hc20
      try simp only [decide_eq_false_iff_not, Int.not_lt, Int.not_le, gt_iff_lt, ge_iff_le] at hc20_
      refine CW.exit ?_
      refine Th.x ?_
      refine Th.x ?_
      refine Bl.x ?_
      refine Th.n ?_
      refine CW.seq ?_
      refine CW.region ?_
      refine RW.soft Wd.a (v := .slice X15 s14.length c16) (by exact E.move (AF_ev rfl hs7)) ?_
      refine RW.soft Wd.a (v := .slice X15 s14.length c16) (by exact E.assign (AF_ev rfl tp)) ?_
      refine RW.soft Wd.a (v := .int .i64 0) (by exact E.assign rfl) ?_
      refine RW.fin (fun τ => τ 1 = .int .i64 n ∧ τ 4 = .slice X15 s14.length c16 ∧ τ 5 = .int .i64 0 ∧ τ 7 = .slice X15 s14.length c16 ∧ τ 8 = .int .i64 s17 ∧ τ 23 = .bool false) ⟨up rfl (up rfl (up rfl hs1)), up rfl tp, tp, up rfl (up rfl (up rfl hs7)), up rfl (up rfl (up rfl hs8)), up rfl (up rfl (up rfl (Eq.trans hs23 (congrArg Value.bool hc20))))⟩ ?_
      rintro τ ⟨hs1, hs4, hs5, hs7, hs8, hs23⟩
      refine CW.ret ?_
      refine retN (rs := [.tmp 4, .tmp 5]) (vs := [.slice X15 s14.length c16, .int .i64 0]) rfl (by exact (.tmp (AF_ev rfl hs4) (.tmp (AF_ev rfl hs5) .nil))) (by simp) ?_
      have hst := hst.take (.there .here)
      have hst := hst.take (.there .here)
      rw [somE hF]
      exact ⟨X15, c16, rfl, (by (try dsimp only); first | omega | (simp; done) | (simp; omega)), (by (try dsimp only); first | omega | exact (by omega)), hst⟩

def RTake_l2 (b : List (BitVec 8))  : Nat → Int → Nat → Option (Int × List (BitVec 8) × Int)
  | 0, _, _ => none
  | k21 + 1, s18, i19 =>
    bif decide (((i19 : Nat) : Int) ≤ (((b.getD 0 0#8).toNat : Nat) : Int)) then
      if i19 < b.length then
        lt_ (ior64 (ishl64 s18 8) (((b.getD i19 0#8).toNat : Nat) : Int)) fun z24 =>
        RTake_l2 b k21 z24 (i19 + 1)
      else none
    else
      if ((((b.getD 0 0#8).toNat : Nat) : Int) + 1).toNat ≤ b.length then
        lt_ (sl (((((b.getD 0 0#8).toNat : Nat) : Int) + 1).toNat) (b.length - (((((b.getD 0 0#8).toNat : Nat) : Int) + 1).toNat)) b) fun t28 =>
        if 0 + t28.length ≤ 1000000 then
          lt_ (([] : List (BitVec 8)) ++ t28) fun s32 =>
          some (s18, s32, 0)
        else none
      else none
theorem RTake_l2_pos {b : List (BitVec 8)}  {fu_ : Nat} {s18 : Int} {i19 : Nat} {r : Int × List (BitVec 8) × Int} (h : RTake_l2 b fu_ s18 i19 = some r) : ∃ j, fu_ = j + 1 := by
  cases fu_ with
  | zero => cases (show (none : Option (Int × List (BitVec 8) × Int)) = some r from h)
  | succ j => exact ⟨j, rfl⟩
def RTake_j1 (b : List (BitVec 8))  (j7 : Bool) : Option (Int × List (BitVec 8) × Int) :=
  bif j7 then
    some (0, ([] : List (BitVec 8)), 80)
  else
    RTake_l2 b 1099511627776 0 1
def RTake (b : List (BitVec 8)) : Option (Int × List (BitVec 8) × Int) :=
  bif ((b.length : Nat) : Int) == 0 then
    some (0, ([] : List (BitVec 8)), 3)
  else
    if 0 < b.length then
      bif decide ((((b.getD 0 0#8).toNat : Nat) : Int) > 8) then
        some (0, ([] : List (BitVec 8)), 80)
      else
        bif decide (((b.length : Nat) : Int) ≤ (((b.getD 0 0#8).toNat : Nat) : Int)) then
          some (0, ([] : List (BitVec 8)), 3)
        else
          bif decide ((((b.getD 0 0#8).toNat : Nat) : Int) > 0) then
            if 1 < b.length then
              bif (b.getD 1 0#8) == (0#8) then
                RTake_j1 b true
              else
                bif (((b.getD 0 0#8).toNat : Nat) : Int) == 8 then
                  if 1 < b.length then
                    RTake_j1 b (decide ((b.getD 1 0#8).toNat > (127#8).toNat))
                  else none
                else
                  RTake_j1 b false
            else none
          else
            bif (((b.getD 0 0#8).toNat : Nat) : Int) == 8 then
              if 1 < b.length then
                RTake_j1 b (decide ((b.getD 1 0#8).toNat > (127#8).toNat))
              else none
            else
              RTake_j1 b false
    else none
def RBlob (id : Int) (version : Int) (n : List (BitVec 8)) (sealed : List (BitVec 8)) : Option (List (BitVec 8)) :=
  (RPut ([] : List (BitVec 8)) id).bind fun r2 =>
  (RPut r2.1 version).bind fun r4 =>
  if r4.1.length + 12 ≤ 1000000 then
    lt_ (r4.1 ++ n) fun s7 =>
    if s7.length + sealed.length ≤ 1000000 then
      lt_ (s7 ++ sealed) fun s11 =>
      some (s11)
    else none
  else none
theorem RBlob_C {p : Pers} {w : World} {R : List Assn} {A : Assn} (id : Int) (hr_id : -9223372036854775808 ≤ id ∧ id ≤ 9223372036854775807) (version : Int) (hr_version : -9223372036854775808 ≤ version ∧ version ≤ 9223372036854775807) (n : List (BitVec 8)) (hl_n : n.length = 12) {X_sealed : Option Addr} {c_sealed : Nat} (sealed : List (BitVec 8)) (hm_sealed : sealed.length ≤ 1000000) (hS_sealed : ∀ w H, St p w (A :: H) → SL.Src w 1 (.slice X_sealed sealed.length c_sealed) sealed.length (sealed.map bu8)) (r : List (BitVec 8)) (hF : RBlob id version n sealed = some r) (hst : St p w (A :: R)) :
    Calls Try.prog 14 #[.int .i64 id, .int .i64 version, .agg ((n.map bu8)).toArray, .slice X_sealed sealed.length c_sealed] w fun e w => ∃ (X0 : Option Addr) (c0 : Nat), e = .returned (.slice X0 r.length c0) ∧ r.length ≤ 1000000 ∧ St p w (SL.Own 5 1 (.slice X0 r.length c0) r.length (r.map bu8) :: A :: R) := by
  unfold RBlob at hF
  refine enter Try.func14 rfl (by simp) (n := 27) rfl fun τ hτ => ?_
  have hs0 : τ 0 = .int .i64 id := hτ 0 (by simp)
  have hs1 : τ 1 = .int .i64 version := hτ 1 (by simp)
  have hs2 : τ 2 = .agg ((n.map bu8)).toArray := hτ 2 (by simp)
  have hs3 : τ 3 = .slice X_sealed sealed.length c_sealed := hτ 3 (by simp)
  clear hτ
  refine CW.seq ?_
  refine CW.region ?_
  refine RW.hard Wd.a ?_
  refine H.box (v := .agg ((n.map bu8)).toArray) (AF_ev rfl hs2) hst fun b1 w hst => ?_
  refine RW.soft Wd.a (v := .slice none 0 0) (by exact E.assign rfl) ?_
  refine RW.fin (fun τ => τ 0 = .int .i64 id ∧ τ 1 = .int .i64 version ∧ τ 2 = .agg ((n.map bu8)).toArray ∧ τ 3 = .slice X_sealed sealed.length c_sealed ∧ τ 6 = .pointer (some ⟨b1, 0, none⟩) ∧ τ 8 = .slice none 0 0) ⟨up rfl (up rfl hs0), up rfl (up rfl hs1), up rfl (up rfl hs2), up rfl (up rfl hs3), up rfl tp, tp⟩ ?_
  rintro τ ⟨hs0, hs1, hs2, hs3, hs6, hs8⟩
  refine CW.seq ?_
  refine CW.region ?_
  refine RW.soft Wd.a (v := .int .i64 id) (by exact E.move (AF_ev rfl hs0)) ?_
  obtain ⟨r2, h_r2, hF⟩ := bd hF
  have hst := hst.emp
  refine RW.hard Wd.a ?_
  refine H.call0 Try.func57 nm57 rfl (map2 rfl (AF_ev rfl tp)) (Calls.mono (RPut_C (A := Emp) ([] : List (BitVec 8)) (by first | omega | (simp; done)) (fun w H s => Src.nil) id (by omega) r2 h_r2 hst) ?_)
  rintro _ w ⟨Xq3_0, cq3_0, rfl, hm_q3_0, hr_q3_1, hst⟩
  refine ⟨_, rfl, ?_⟩
  show RW _ _ _ _ _ _ _
  refine RW.soft Wd.a (v := .tuple #[.slice Xq3_0 r2.1.length cq3_0, .int .i64 r2.2]) (by exact E.move (AF_ev rfl tp)) ?_
  refine RW.soft Wd.a (v := .slice Xq3_0 r2.1.length cq3_0) (by exact E.extract (vs := #[.slice Xq3_0 r2.1.length cq3_0, .int .i64 r2.2]) (AF_ev rfl tp) rfl) ?_
  refine RW.soft Wd.a (v := .int .i64 r2.2) (by exact E.extract (vs := #[.slice Xq3_0 r2.1.length cq3_0, .int .i64 r2.2]) (AF_ev rfl (up rfl tp)) rfl) ?_
  refine RW.soft Wd.a (v := .slice Xq3_0 r2.1.length cq3_0) (by exact E.assign (AF_ev rfl (up rfl tp))) ?_
  refine RW.soft Wd.a (v := .int .i64 r2.2) (by exact E.assign (AF_ev rfl (up rfl tp))) ?_
  refine RW.fin (fun τ => τ 0 = .int .i64 id ∧ τ 1 = .int .i64 version ∧ τ 2 = .agg ((n.map bu8)).toArray ∧ τ 3 = .slice X_sealed sealed.length c_sealed ∧ τ 6 = .pointer (some ⟨b1, 0, none⟩) ∧ τ 8 = .slice none 0 0 ∧ τ 9 = .slice Xq3_0 r2.1.length cq3_0) ⟨up rfl (up rfl (up rfl (up rfl (up rfl (up rfl (up rfl hs0)))))), up rfl (up rfl (up rfl (up rfl (up rfl (up rfl (up rfl hs1)))))), up rfl (up rfl (up rfl (up rfl (up rfl (up rfl (up rfl hs2)))))), up rfl (up rfl (up rfl (up rfl (up rfl (up rfl (up rfl hs3)))))), up rfl (up rfl (up rfl (up rfl (up rfl (up rfl (up rfl hs6)))))), up rfl (up rfl (up rfl (up rfl (up rfl (up rfl (up rfl hs8)))))), up rfl tp⟩ ?_
  rintro τ ⟨hs0, hs1, hs2, hs3, hs6, hs8, hs9⟩
  refine CW.seq ?_
  refine CW.region ?_
  refine RW.soft Wd.a (v := .slice Xq3_0 r2.1.length cq3_0) (by exact E.move (AF_ev rfl hs9)) ?_
  refine RW.soft Wd.a (v := .int .i64 version) (by exact E.move (AF_ev rfl (up rfl hs1))) ?_
  obtain ⟨r4, h_r4, hF⟩ := bd hF
  refine RW.hard Wd.a ?_
  refine H.call0 Try.func57 nm57 rfl (map2 (AF_ev rfl (up rfl tp)) (AF_ev rfl tp)) (Calls.mono (RPut_C (A := SL.Own 5 1 (.slice Xq3_0 r2.1.length cq3_0) r2.1.length (r2.1.map bu8)) r2.1 (by first | omega | (simp; done)) (fun w H s => (Own.src s)) version (by omega) r4 h_r4 hst) ?_)
  rintro _ w ⟨Xq5_0, cq5_0, rfl, hm_q5_0, hr_q5_1, hst⟩
  refine ⟨_, rfl, ?_⟩
  show RW _ _ _ _ _ _ _
  refine RW.soft Wd.a (v := .tuple #[.slice Xq5_0 r4.1.length cq5_0, .int .i64 r4.2]) (by exact E.move (AF_ev rfl tp)) ?_
  refine RW.soft Wd.a (v := .slice Xq5_0 r4.1.length cq5_0) (by exact E.extract (vs := #[.slice Xq5_0 r4.1.length cq5_0, .int .i64 r4.2]) (AF_ev rfl tp) rfl) ?_
  refine RW.soft Wd.a (v := .int .i64 r4.2) (by exact E.extract (vs := #[.slice Xq5_0 r4.1.length cq5_0, .int .i64 r4.2]) (AF_ev rfl (up rfl tp)) rfl) ?_
  refine RW.soft Wd.a (v := .slice Xq5_0 r4.1.length cq5_0) (by exact E.assign (AF_ev rfl (up rfl tp))) ?_
  refine RW.fin (fun τ => τ 0 = .int .i64 id ∧ τ 1 = .int .i64 version ∧ τ 2 = .agg ((n.map bu8)).toArray ∧ τ 3 = .slice X_sealed sealed.length c_sealed ∧ τ 6 = .pointer (some ⟨b1, 0, none⟩) ∧ τ 8 = .slice none 0 0 ∧ τ 9 = .slice Xq5_0 r4.1.length cq5_0) ⟨up rfl (up rfl (up rfl (up rfl (up rfl (up rfl (up rfl hs0)))))), up rfl (up rfl (up rfl (up rfl (up rfl (up rfl (up rfl hs1)))))), up rfl (up rfl (up rfl (up rfl (up rfl (up rfl (up rfl hs2)))))), up rfl (up rfl (up rfl (up rfl (up rfl (up rfl (up rfl hs3)))))), up rfl (up rfl (up rfl (up rfl (up rfl (up rfl (up rfl hs6)))))), up rfl (up rfl (up rfl (up rfl (up rfl (up rfl (up rfl hs8)))))), tp⟩ ?_
  rintro τ ⟨hs0, hs1, hs2, hs3, hs6, hs8, hs9⟩
  refine CW.seq ?_
  refine CW.region ?_
  refine RW.soft Wd.a (v := .slice Xq5_0 r4.1.length cq5_0) (by exact E.move (AF_ev rfl hs9)) ?_
  refine RW.soft Wd.a (v := .slice (some ⟨b1, 0, none⟩) 12 12) (by exact E.v (run_sliceArr (b := b1) (o := 0) (N := 12) (i := 0) (j := 12) Try.underlying24 sz5 _ (AF_ev rfl (up rfl hs6)) rfl rfl (by omega) (by omega)) (by first | rfl | simp)) ?_
  obtain ⟨hg6, hF⟩ := pl hF
  obtain ⟨s7, h_s7, hF⟩ := lp hF
  refine RW.hard Wd.a ?_
  refine H.append (m := 12) (news := (n.map bu8)) (s0 := .slice Xq5_0 r4.1.length cq5_0) (x0 := .slice (some ⟨b1, 0, none⟩) 12 12) Try.underlying25 inf5 rfl (AF_ev rfl (up rfl tp)) (AF_ev rfl tp) hst .here (Src.ofL (hst.take (.there (.there (.there .here)))) ((List.length_map _).trans hl_n) (by first | omega | (simp; done)) allF) (ones_map (fun _ => rfl)) (by omega) (by simp only [maxLen]; omega) ?_
  intro vX8 w _ hst
  have hl_s7 : s7.length = r4.1.length + 12 := by rw [h_s7, List.length_append]; first | done | rfl | omega | (simp; done) | (simp; omega)
  rw [show ((r4.1.map bu8) ++ (n.map bu8)) = (s7.map bu8) from by rw [h_s7, List.map_append]; first | done | rfl, ← hl_s7] at hst
  obtain ⟨X8, c9, rfl, hcX8, hmX8, hlX8, hbX8⟩ := hst.shape
  clear hlX8
  refine RW.soft Wd.a (v := .slice X_sealed sealed.length c_sealed) (by exact E.move (AF_ev rfl (up rfl (up rfl (up rfl hs3))))) ?_
  obtain ⟨hg10, hF⟩ := pl hF
  obtain ⟨s11, h_s11, hF⟩ := lp hF
  refine RW.hard Wd.a ?_
  refine H.append (m := sealed.length) (news := (sealed.map bu8)) (s0 := .slice X8 s7.length c9) (x0 := .slice X_sealed sealed.length c_sealed) Try.underlying25 inf5 rfl (AF_ev rfl (up rfl tp)) (AF_ev rfl tp) hst .here (hS_sealed _ _ (hst.take (.there (.there (.there (.there .here)))))) (ones_map (fun _ => rfl)) (by omega) (by simp only [maxLen]; omega) ?_
  intro vX12 w _ hst
  have hl_s11 : s11.length = s7.length + sealed.length := by rw [h_s11, List.length_append]; first | done | rfl | omega | (simp; done) | (simp; omega)
  rw [show ((s7.map bu8) ++ (sealed.map bu8)) = (s11.map bu8) from by rw [h_s11, List.map_append]; first | done | rfl, ← hl_s11] at hst
  obtain ⟨X12, c13, rfl, hcX12, hmX12, hlX12, hbX12⟩ := hst.shape
  clear hlX12
  refine RW.soft Wd.a (v := .slice X12 s11.length c13) (by exact E.assign (AF_ev rfl tp)) ?_
  refine RW.fin (fun τ => τ 0 = .int .i64 id ∧ τ 1 = .int .i64 version ∧ τ 2 = .agg ((n.map bu8)).toArray ∧ τ 3 = .slice X_sealed sealed.length c_sealed ∧ τ 6 = .pointer (some ⟨b1, 0, none⟩) ∧ τ 8 = .slice X12 s11.length c13 ∧ τ 9 = .slice Xq5_0 r4.1.length cq5_0) ⟨up rfl (up rfl (up rfl (up rfl (up rfl (up rfl hs0))))), up rfl (up rfl (up rfl (up rfl (up rfl (up rfl hs1))))), up rfl (up rfl (up rfl (up rfl (up rfl (up rfl hs2))))), up rfl (up rfl (up rfl (up rfl (up rfl (up rfl hs3))))), up rfl (up rfl (up rfl (up rfl (up rfl (up rfl hs6))))), tp, up rfl (up rfl (up rfl (up rfl (up rfl (up rfl hs9)))))⟩ ?_
  rintro τ ⟨hs0, hs1, hs2, hs3, hs6, hs8, hs9⟩
  refine CW.ret ?_
  refine ret1 (v := .slice X12 s11.length c13) rfl (by exact (.tmp (AF_ev rfl hs8) .nil)) ?_
  have hst := hst.take (.there (.there (.there (.there .here))))
  have hst := hst.take (.there .here)
  have hst := (hst.take (.there (.there .here))).drop
  have hst := (hst.take (.there (.there .here))).drop
  have hst := (hst.take (.there (.there .here))).drop
  rw [somE hF]
  exact ⟨X12, c13, rfl, (by (try dsimp only); first | omega | (simp; done) | (simp; omega)), hst⟩

def RRead_l2 (r3 : Int × List (BitVec 8) × Int) (r5 : Int × List (BitVec 8) × Int)  : Nat → Nat → List (BitVec 8) → Option (Int × Int × List (BitVec 8) × List (BitVec 8) × Int)
  | 0, _, _ => none
  | k19 + 1, i16, m17 =>
    bif decide (((i16 : Nat) : Int) < 12) then
      if i16 < r5.2.1.length then
        lt_ (m17.set i16 (r5.2.1.getD i16 0#8)) fun m24 =>
        RRead_l2 r3 r5 k19 (i16 + 1) m24
      else none
    else
      if 12 ≤ r5.2.1.length then
        lt_ (sl 12 (r5.2.1.length - 12) r5.2.1) fun t27 =>
        if 0 < r5.2.1.length then
          if 12 < r5.2.1.length then
            if 0 + t27.length ≤ 1000000 then
              lt_ (([] : List (BitVec 8)) ++ t27) fun s36 =>
              some (r3.1, r5.1, m17, s36, 0)
            else none
          else none
        else none
      else none
theorem RRead_l2_pos {r3 : Int × List (BitVec 8) × Int} {r5 : Int × List (BitVec 8) × Int}  {fu_ : Nat} {i16 : Nat} {m17 : List (BitVec 8)} {r : Int × Int × List (BitVec 8) × List (BitVec 8) × Int} (h : RRead_l2 r3 r5 fu_ i16 m17 = some r) : ∃ j, fu_ = j + 1 := by
  cases fu_ with
  | zero => cases (show (none : Option (Int × Int × List (BitVec 8) × List (BitVec 8) × Int)) = some r from h)
  | succ j => exact ⟨j, rfl⟩
def RRead_j1 (r3 : Int × List (BitVec 8) × Int) (r5 : Int × List (BitVec 8) × Int)  (j7 : Bool) : Option (Int × Int × List (BitVec 8) × List (BitVec 8) × Int) :=
  bif j7 then
    some (0, 0, (List.replicate 12 0#8), ([] : List (BitVec 8)), 140)
  else
    RRead_l2 r3 r5 1099511627776 0 (List.replicate 12 0#8)
def RRead (t : List (BitVec 8)) : Option (Int × Int × List (BitVec 8) × List (BitVec 8) × Int) :=
  (RTake t).bind fun r3 =>
  (RTake r3.2.1).bind fun r5 =>
  bif r3.2.2 != 0 then
    RRead_j1 r3 r5 true
  else
    bif r5.2.2 != 0 then
      RRead_j1 r3 r5 true
    else
      bif decide (r3.1 < 1) then
        RRead_j1 r3 r5 true
      else
        bif decide (r5.1 < 1) then
          RRead_j1 r3 r5 true
        else
          bif decide (((r5.2.1.length : Nat) : Int) < 28) then
            RRead_j1 r3 r5 true
          else
            RRead_j1 r3 r5 (decide (((r5.2.1.length : Nat) : Int) > 92))
end Go.Proofs.Ytjpjejldinpcnaa
