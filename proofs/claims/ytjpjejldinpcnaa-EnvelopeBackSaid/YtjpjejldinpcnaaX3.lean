/- Functions that were walked through by a program: what each comes to, as a plain function, and the proof. -/
import Derived.Test.YtjpjejldinpcnaaX2
namespace Go.Proofs.Ytjpjejldinpcnaa
open Go.RowKit Go.SL
attribute [local irreducible] Go.SL.RW Go.SL.CW Go.SL.RD Go.SL.Hd Go.SL.St
set_option linter.unusedVariables false
set_option linter.unusedSimpArgs false
set_option maxRecDepth 20000
set_option maxHeartbeats 4000000

theorem nm63 : (Try.f63.name == "runtime.NumGoroutine") = false := by kernel_rfl
theorem nm64 : (Try.f64.name == "runtime.NumGoroutine") = false := by kernel_rfl
theorem nm79 : (Try.f79.name == "runtime.NumGoroutine") = false := by kernel_rfl
theorem nm80 : (Try.f80.name == "runtime.NumGoroutine") = false := by kernel_rfl
theorem nm82 : (Try.f82.name == "runtime.NumGoroutine") = false := by kernel_rfl
theorem nm84 : (Try.f84.name == "runtime.NumGoroutine") = false := by kernel_rfl
theorem nm85 : (Try.f85.name == "runtime.NumGoroutine") = false := by kernel_rfl
theorem nm86 : (Try.f86.name == "runtime.NumGoroutine") = false := by kernel_rfl
theorem nm87 : (Try.f87.name == "runtime.NumGoroutine") = false := by kernel_rfl
theorem nm88 : (Try.f88.name == "runtime.NumGoroutine") = false := by kernel_rfl
theorem nm90 : (Try.f90.name == "runtime.NumGoroutine") = false := by kernel_rfl
theorem sz3 : (Try.prog.info? 3).map (·.size) = some 1 := by kernel_rfl
theorem sz24 : (Try.prog.info? 24).map (·.size) = some 12 := by kernel_rfl
theorem sz34 : (Try.prog.info? 34).map (·.size) = some 32 := by kernel_rfl
theorem sz141 : (Try.prog.info? 141).map (·.size) = some 240 := by kernel_rfl
theorem zs141 : (Try.prog.info? 141).bind (·.zero) = some (.agg (((List.replicate 240 0#8).map bu8)).toArray) := by kernel_rfl

def Grow0_j1   (j2 : List (BitVec 8)) : Option (List (BitVec 8)) :=
  some (j2)
def Grow0 (n : Int) : Option (List (BitVec 8)) :=
  bif decide (n < 0) then
    none
  else
    bif decide ((w64 (n - 0)) > 0) then
      if 0 + (w64 (n - 0)).toNat ≤ 1000000 then
        lt_ (([]) ++ List.replicate ((w64 (n - 0)).toNat) 0#8) fun s7 =>
        if 0 ≤ s7.length then
          lt_ (sl 0 (0) s7) fun t12 =>
          Grow0_j1 t12
        else none
      else none
    else
      Grow0_j1 ([])
theorem Grow0_C {p : Pers} {w : World} {R : List Assn}  (n : Int) (hr_n : -9223372036854775808 ≤ n ∧ n ≤ 9223372036854775807) (r : List (BitVec 8)) (hF : Grow0 n = some r) (hst : St p w (R)) :
    Calls Try.prog 81 #[.slice none 0 0, .int .i64 n] w fun e w => ∃ (X0 : Option Addr) (c0 : Nat), e = .returned (.slice X0 r.length c0) ∧ r.length ≤ 1000000 ∧ St p w (SL.Own 5 1 (.slice X0 r.length c0) r.length (r.map bu8) :: R) := by
  unfold Grow0 at hF
  refine enter Try.func81 rfl (by simp) (n := 27) rfl fun τ hτ => ?_
  have hs0 : τ 0 = .slice none 0 0 := hτ 0 (by simp)
  have hs1 : τ 1 = .int .i64 n := hτ 1 (by simp)
  clear hτ
  refine CW.seq ?_
  refine CW.region ?_
  refine RW.soft Wd.a (v := .slice none 0 0) (by exact E.assign rfl) ?_
  refine RW.fin (fun τ => τ 0 = .slice none 0 0 ∧ τ 1 = .int .i64 n ∧ τ 4 = .slice none 0 0) ⟨up rfl hs0, up rfl hs1, tp⟩ ?_
  rintro τ ⟨hs0, hs1, hs4⟩
  refine CW.seq ?_
  refine CW.seq ?_
  refine CW.region ?_
  refine RW.soft Wd.a (v := .int .i64 n) (by exact E.move (AF_ev rfl hs1)) ?_
  refine RW.soft Wd.a (v := .bool (decide (n < 0))) (by exact E.lss (k := .i64) (a := n) (b := 0) (AF_ev rfl tp) rfl) ?_
  refine RW.fin (fun τ => τ 0 = .slice none 0 0 ∧ τ 1 = .int .i64 n ∧ τ 4 = .slice none 0 0 ∧ τ 6 = .bool (decide (n < 0))) ⟨up rfl (up rfl hs0), up rfl (up rfl hs1), up rfl (up rfl hs4), tp⟩ ?_
  rintro τ ⟨hs0, hs1, hs4, hs6⟩
  refine CW.cond (AF_ev rfl hs6) (fun hc1 => ?_) (fun hc1 => ?_)
  · have hF := ct hc1 hF
    have hc1_ := hc1
    try simp only [decide_eq_true_eq] at hc1_
    refine CW.region ?_
    cases hF
  · have hF := cf hc1 hF
    have hc1_ := hc1
    try simp only [decide_eq_false_iff_not, Int.not_lt, Int.not_le, gt_iff_lt, ge_iff_le] at hc1_
    refine CW.skip ?_
    refine Th.n ?_
    refine CW.seqJ (fun τ w => ∃ (j2 : List (BitVec 8)) (X3 : Option Addr) (c4 : Nat), j2.length ≤ 1000000 ∧ Grow0_j1 j2 = some r ∧ τ 0 = .slice X3 j2.length c4 ∧ τ 4 = .slice none 0 0 ∧ St p w (SL.Own 5 1 (.slice X3 j2.length c4) j2.length (j2.map bu8) :: R)) ?_ ?_
    · skip
      refine CW.seq ?_
      refine CW.region ?_
      refine RW.soft Wd.a (v := .int .i64 n) (by exact E.move (AF_ev rfl hs1)) ?_
      refine RW.soft Wd.a (v := .slice none 0 0) (by exact E.move (AF_ev rfl (up rfl hs0))) ?_
      refine RW.soft Wd.a (v := .int .i64 0) (by exact E.capS (p := none) (l := 0) (c := 0) Try.underlying25 (AF_ev rfl tp)) ?_
      refine RW.soft Wd.a (v := .slice none 0 0) (by exact E.move (AF_ev rfl (up rfl (up rfl (up rfl hs0))))) ?_
      refine RW.soft Wd.a (v := .int .i64 0) (by exact E.lenS (p := none) (l := 0) (c := 0) Try.underlying25 (AF_ev rfl tp)) ?_
      refine RW.soft Wd.a (v := .int .i64 0) (by exact E.sub (k := .i64) (a := 0) (b := 0) (AF_ev rfl (up rfl (up rfl tp))) (AF_ev rfl tp) rfl) ?_
      refine RW.soft Wd.a (v := .int .i64 (w64 (n - 0))) (by exact E.sub (k := .i64) (a := n) (b := 0) (AF_ev rfl (up rfl (up rfl (up rfl (up rfl (up rfl tp)))))) (AF_ev rfl tp) rfl) ?_
      refine RW.soft Wd.a (v := .int .i64 (w64 (n - 0))) (by exact E.assign (AF_ev rfl tp)) ?_
      refine RW.fin (fun τ => τ 0 = .slice none 0 0 ∧ τ 1 = .int .i64 (w64 (n - 0)) ∧ τ 4 = .slice none 0 0 ∧ τ 6 = .bool false) ⟨up rfl (up rfl (up rfl (up rfl (up rfl (up rfl (up rfl (up rfl hs0))))))), tp, up rfl (up rfl (up rfl (up rfl (up rfl (up rfl (up rfl (up rfl hs4))))))), up rfl (up rfl (up rfl (up rfl (up rfl (up rfl (up rfl (up rfl (Eq.trans hs6 (congrArg Value.bool hc1)))))))))⟩ ?_
      rintro τ ⟨hs0, hs1, hs4, hs6⟩
      refine CW.seq ?_
      refine CW.region ?_
      refine RW.soft Wd.a (v := .int .i64 (w64 (n - 0))) (by exact E.move (AF_ev rfl hs1)) ?_
      refine RW.soft Wd.a (v := .bool (decide ((w64 (n - 0)) > 0))) (by exact E.gtr (k := .i64) (a := w64 (n - 0)) (b := 0) (AF_ev rfl tp) rfl) ?_
      refine RW.fin (fun τ => τ 0 = .slice none 0 0 ∧ τ 1 = .int .i64 (w64 (n - 0)) ∧ τ 4 = .slice none 0 0 ∧ τ 6 = .bool false ∧ τ 16 = .bool (decide ((w64 (n - 0)) > 0))) ⟨up rfl (up rfl hs0), up rfl (up rfl hs1), up rfl (up rfl hs4), up rfl (up rfl hs6), tp⟩ ?_
      rintro τ ⟨hs0, hs1, hs4, hs6, hs16⟩
      refine CW.cond (AF_ev rfl hs16) (fun hc5 => ?_) (fun hc5 => ?_)
      · have hF := ct hc5 hF
        have hc5_ := hc5
        try simp only [decide_eq_true_eq, gt_iff_lt, ge_iff_le] at hc5_
        refine CW.region ?_
        refine RW.soft Wd.a (v := .slice none 0 0) (by exact E.move (AF_ev rfl hs0)) ?_
        refine RW.soft Wd.a (v := .slice none 0 0) (by exact E.move (AF_ev rfl (up rfl hs0))) ?_
        refine RW.soft Wd.a (v := .int .i64 0) (by exact E.capS (p := none) (l := 0) (c := 0) Try.underlying25 (AF_ev rfl tp)) ?_
        refine RW.soft Wd.a (v := .slice none 0 0) (by exact E.sliceN Try.underlying25 (by rw [← Option.isSome_map, sz5]; rfl) (AF_ev rfl (up rfl (up rfl tp))) trivial (AF_ev rfl tp)) ?_
        refine RW.soft Wd.a (v := .int .i64 (w64 (n - 0))) (by exact E.move (AF_ev rfl (up rfl (up rfl (up rfl (up rfl hs1)))))) ?_
        have hst := hst.ownNil (e := 5) (sz := 1) none
        obtain ⟨hg6, hF⟩ := pl hF
        obtain ⟨s7, h_s7, hF⟩ := lp hF
        refine RW.hard Wd.a ?_
        refine H.appendZ (m := (w64 (n - 0)).toNat) (s0 := .slice none 0 0) Try.underlying25 Try.underlying3 inf5 rfl rfl (AF_ev rfl (up rfl tp)) (AF_ev rfl tp) (by omega) hst .here (by omega) (by omega) (by omega) ?_
        intro vX8 w hst
        have hl_s7 : s7.length = 0 + (w64 (n - 0)).toNat := by rw [h_s7, List.length_append, List.length_replicate]; rfl
        rw [show ([] ++ List.replicate ((w64 (n - 0)).toNat) (.int .u8 0)) = (s7.map bu8) from by rw [h_s7, List.map_append, List.map_replicate]; first | rfl | simp, ← hl_s7] at hst
        obtain ⟨X8, c9, rfl, hcX8, hmX8, hlX8, hbX8⟩ := hst.shape
        clear hlX8
        refine RW.soft Wd.a (v := .slice none 0 0) (by exact E.move (AF_ev rfl (up rfl (up rfl (up rfl (up rfl (up rfl (up rfl hs0)))))))) ?_
        refine RW.soft Wd.a (v := .int .i64 0) (by exact E.lenS (p := none) (l := 0) (c := 0) Try.underlying25 (AF_ev rfl tp)) ?_
        obtain ⟨hg10, hF⟩ := pl hF
        have hcap_c9 : s7.length ≤ c9 := (show SL.Src w 1 (.slice X8 s7.length c9) s7.length (s7.map bu8) from (Own.src (hst.take .here))).len.2.1
        obtain ⟨t12, h_t12, hF⟩ := lp hF
        have hl_t12 : t12.length = 0 := by rw [h_t12]; exact sl_len rfl (by omega)
        obtain ⟨c14, hc_c14⟩ : ∃ z, z = c9 := ⟨_, rfl⟩
        obtain ⟨X13, hX_X13⟩ : ∃ z, z = sbA X8 c9 0 1 := ⟨_, rfl⟩
        have hst := Own.shrink hst (j := t12.length) (by omega)
        rw [show ((s7.map bu8)).take t12.length = (t12.map bu8) from by rw [h_t12, ← List.map_take]; simp [sl]] at hst
        refine RW.soft Wd.a (v := .slice X8 t12.length c9) (by exact E.v (run_slice (X := X8) (m := s7.length) (c := c9) (i := 0) (j := 0) (k := c9) Try.underlying25 sz5 _ (AF_ev rfl (up rfl (up rfl tp))) rfl (AF_ev rfl tp) rfl (by omega) (by omega) (by omega)) (by rw [sbA_zero]; first | (rw [hl_t12]; rfl) | (congr 1; omega))) ?_
        refine RW.soft Wd.a (v := .slice X8 t12.length c9) (by exact E.assign (AF_ev rfl tp)) ?_
        refine RW.nil ?_
        refine Th.n ?_
        exact ⟨t12, X8, c9, (by first | omega | (simp; done) | (simp; omega)), hF, tp, up rfl (up rfl (up rfl (up rfl (up rfl (up rfl (up rfl (up rfl (up rfl (up rfl hs4))))))))), hst⟩
      · have hF := cf hc5 hF
        have hc5_ := hc5
        try simp only [decide_eq_false_iff_not, Int.not_lt, Int.not_le, gt_iff_lt, ge_iff_le] at hc5_
        refine CW.skip ?_
        refine Th.n ?_
        have hst := hst.ownNil (e := 5) (sz := 1) none
        exact ⟨([]), none, 0, (by first | omega | (simp; done) | (simp; omega)), hF, hs0, hs4, hst⟩
    rintro τ w ⟨j2, X3, c4, hm_j2, hF, hs0, hs4, hst⟩
    unfold Grow0_j1 at hF
    refine CW.seq ?_
    refine CW.region ?_
    refine RW.soft Wd.a (v := .slice X3 j2.length c4) (by exact E.move (AF_ev rfl hs0)) ?_
    refine RW.soft Wd.a (v := .slice X3 j2.length c4) (by exact E.assign (AF_ev rfl tp)) ?_
    refine RW.fin (fun τ => τ 0 = .slice X3 j2.length c4 ∧ τ 4 = .slice X3 j2.length c4) ⟨up rfl (up rfl hs0), tp⟩ ?_
    rintro τ ⟨hs0, hs4⟩
    refine CW.ret ?_
    refine ret1 (v := .slice X3 j2.length c4) rfl (by exact (.tmp (AF_ev rfl hs4) .nil)) ?_
    rw [somE hF]
    exact ⟨X3, c4, rfl, (by (try dsimp only); first | omega | (simp; done) | (simp; omega)), hst⟩

def GXor_j2 (r' : List (BitVec 8)) (i12 : Nat) (rc_GXor_l1 : Nat → List (BitVec 8) → List (BitVec 8) → List (BitVec 8) → Option (List (BitVec 8))) (j19 : List (BitVec 8)) (j20 : List (BitVec 8)) (j21 : Bool) (j22 : Bool) (m23 : List (BitVec 8)) : Option (List (BitVec 8)) :=
  rc_GXor_l1 (i12 + 1) j20 m23 j19
def GXor_l5 (r' : List (BitVec 8)) (i12 : Nat) (j24 : List (BitVec 8)) (j27 : Bool) (r36 : List (BitVec 8) × List (BitVec 8)) (t41 : List (BitVec 8)) (rc_GXor_l1 : Nat → List (BitVec 8) → List (BitVec 8) → List (BitVec 8) → Option (List (BitVec 8))) : Nat → Nat → List (BitVec 8) → Option (List (BitVec 8))
  | 0, _, _ => none
  | k52 + 1, i49, m50 =>
    bif decide (((i49 : Nat) : Int) < ((t41.length : Nat) : Int)) then
      if i49 < t41.length then
        if i49 < 16 then
          lt_ ((m50.getD (i12 + i49) 0#8) ^^^ (r36.1.getD i49 0#8)) fun u56 =>
          if i49 < t41.length then
            lt_ (m50.set (i12 + i49) u56) fun m58 =>
            GXor_l5 r' i12 j24 j27 r36 t41 rc_GXor_l1 k52 (i49 + 1) m58
          else none
        else none
      else none
    else
      GXor_j2 r' i12 rc_GXor_l1 r36.2 j24 j27 true m50
theorem GXor_l5_pos {r' : List (BitVec 8)} {i12 : Nat} {j24 : List (BitVec 8)} {j27 : Bool} {r36 : List (BitVec 8) × List (BitVec 8)} {t41 : List (BitVec 8)} {rc_GXor_l1 : Nat → List (BitVec 8) → List (BitVec 8) → List (BitVec 8) → Option (List (BitVec 8))} {fu_ : Nat} {i49 : Nat} {m50 : List (BitVec 8)} {r : List (BitVec 8)} (h : GXor_l5 r' i12 j24 j27 r36 t41 rc_GXor_l1 fu_ i49 m50 = some r) : ∃ j, fu_ = j + 1 := by
  cases fu_ with
  | zero => cases (show (none : Option (List (BitVec 8))) = some r from h)
  | succ j => exact ⟨j, rfl⟩
def GXor_j3 (r' : List (BitVec 8)) (i12 : Nat) (m14 : List (BitVec 8)) (m15 : List (BitVec 8)) (rc_GXor_l1 : Nat → List (BitVec 8) → List (BitVec 8) → List (BitVec 8) → Option (List (BitVec 8))) (j24 : List (BitVec 8)) (j25 : Bool) (j26 : Bool) (j27 : Bool) : Option (List (BitVec 8)) :=
  bif (((i12 : Nat) : Int) % 16) == 0 then
    (Encr m15 j24).bind fun r36 =>
    if i12 ≤ (min (((i12 : Nat) : Int) + 16) ((r'.length : Nat) : Int)).toNat ∧ (min (((i12 : Nat) : Int) + 16) ((r'.length : Nat) : Int)).toNat ≤ r'.length then
      lt_ (sl i12 ((min (((i12 : Nat) : Int) + 16) ((r'.length : Nat) : Int)).toNat - i12) m14) fun t41 =>
      if 0 < r'.length then
        if i12 < (min (((i12 : Nat) : Int) + 16) ((r'.length : Nat) : Int)).toNat then
          GXor_l5 r' i12 j24 j27 r36 t41 rc_GXor_l1 1099511627776 0 m14
        else none
      else none
    else none
  else
    GXor_j2 r' i12 rc_GXor_l1 m15 j24 j27 false m14
def GXor_j4 (r' : List (BitVec 8)) (i12 : Nat) (m13 : List (BitVec 8)) (m14 : List (BitVec 8)) (m15 : List (BitVec 8)) (rc_GXor_l1 : Nat → List (BitVec 8) → List (BitVec 8) → List (BitVec 8) → Option (List (BitVec 8))) (j28 : Bool) (j29 : Bool) (j30 : Bool) : Option (List (BitVec 8)) :=
  bif j30 then
    (Next m13).bind fun r33 =>
    GXor_j3 r' i12 m14 m15 rc_GXor_l1 r33 j28 j29 true
  else
    GXor_j3 r' i12 m14 m15 rc_GXor_l1 m13 j28 j29 false
def GXor_l1 (r' : List (BitVec 8))  : Nat → Nat → List (BitVec 8) → List (BitVec 8) → List (BitVec 8) → Option (List (BitVec 8))
  | 0, _, _, _, _ => none
  | k17 + 1, i12, m13, m14, m15 =>
    bif decide (((i12 : Nat) : Int) < ((r'.length : Nat) : Int)) then
      bif (((i12 : Nat) : Int) % 16) == 0 then
        GXor_j4 r' i12 m13 m14 m15 (fun (i12_ : Nat) (m13_ : List (BitVec 8)) (m14_ : List (BitVec 8)) (m15_ : List (BitVec 8)) => GXor_l1 r' k17 i12_ m13_ m14_ m15_) true true (decide (((i12 : Nat) : Int) > 0))
      else
        GXor_j4 r' i12 m13 m14 m15 (fun (i12_ : Nat) (m13_ : List (BitVec 8)) (m14_ : List (BitVec 8)) (m15_ : List (BitVec 8)) => GXor_l1 r' k17 i12_ m13_ m14_ m15_) false false false
    else
      some (m14)
theorem GXor_l1_pos {r' : List (BitVec 8)}  {fu_ : Nat} {i12 : Nat} {m13 : List (BitVec 8)} {m14 : List (BitVec 8)} {m15 : List (BitVec 8)} {r : List (BitVec 8)} (h : GXor_l1 r' fu_ i12 m13 m14 m15 = some r) : ∃ j, fu_ = j + 1 := by
  cases fu_ with
  | zero => cases (show (none : Option (List (BitVec 8))) = some r from h)
  | succ j => exact ⟨j, rfl⟩
def GXor (t : List (BitVec 8)) (o : List (BitVec 8)) (A' : BitVec 32) (r' : List (BitVec 8)) : Option (List (BitVec 8)) :=
  (Expand t).bind fun r3 =>
  (Counter o A').bind fun r8 =>
  GXor_l1 r' 1099511627776 0 r8 r' r3
theorem GXor_C {p : Pers} {w : World} {R : List Assn} {A : Assn} (t : List (BitVec 8)) (hl_t : t.length = 32) (o : List (BitVec 8)) (hl_o : o.length = 12) (A' : BitVec 32) {X_r' : Option Addr} {c_r' : Nat} (r' : List (BitVec 8)) (hm_r' : r'.length ≤ 1000000) (hS_r' : ∀ w H, St p w (A :: H) → SL.Src w 1 (.slice X_r' r'.length c_r') r'.length (r'.map bu8)) (r : List (BitVec 8)) (hF : GXor t o A' r' = some r) (hst : St p w (A :: R)) :
    Calls Try.prog 63 #[.agg ((t.map bu8)).toArray, .agg ((o.map bu8)).toArray, .int .u32 ((A').toNat : Int), .slice X_r' r'.length c_r'] w fun e w => ∃ (X0 : Option Addr) (c0 : Nat), e = .returned (.slice X0 r.length c0) ∧ r.length ≤ 1000000 ∧ St p w (SL.Own 5 1 (.slice X0 r.length c0) r.length (r.map bu8) :: A :: R) := by
  unfold GXor at hF
  refine enter Try.func63 rfl (by simp) (n := 67) rfl fun τ hτ => ?_
  have hs0 : τ 0 = .agg ((t.map bu8)).toArray := hτ 0 (by simp)
  have hs1 : τ 1 = .agg ((o.map bu8)).toArray := hτ 1 (by simp)
  have hs2 : τ 2 = .int .u32 ((A').toNat : Int) := hτ 2 (by simp)
  have hs3 : τ 3 = .slice X_r' r'.length c_r' := hτ 3 (by simp)
  clear hτ
  refine CW.seq ?_
  refine CW.region ?_
  refine RW.hard Wd.a ?_
  refine H.box (v := .agg ((t.map bu8)).toArray) (AF_ev rfl hs0) hst fun b1 w hst => ?_
  refine RW.hard Wd.a ?_
  refine H.box (v := .agg ((o.map bu8)).toArray) (AF_ev rfl (up rfl hs1)) hst fun b2 w hst => ?_
  refine RW.soft Wd.a (v := .slice none 0 0) (by exact E.assign rfl) ?_
  refine RW.fin (fun τ => τ 0 = .agg ((t.map bu8)).toArray ∧ τ 1 = .agg ((o.map bu8)).toArray ∧ τ 2 = .int .u32 ((A').toNat : Int) ∧ τ 3 = .slice X_r' r'.length c_r' ∧ τ 4 = .pointer (some ⟨b1, 0, none⟩) ∧ τ 5 = .pointer (some ⟨b2, 0, none⟩) ∧ τ 8 = .slice none 0 0) ⟨up rfl (up rfl (up rfl hs0)), up rfl (up rfl (up rfl hs1)), up rfl (up rfl (up rfl hs2)), up rfl (up rfl (up rfl hs3)), up rfl (up rfl tp), up rfl tp, tp⟩ ?_
  rintro τ ⟨hs0, hs1, hs2, hs3, hs4, hs5, hs8⟩
  refine CW.seq ?_
  refine CW.region ?_
  refine RW.soft Wd.a (v := .agg ((t.map bu8)).toArray) (by exact E.loadN (b := b1) (o := 0) (cs := (t.map bu8)) Try.underlying34 rfl sz34 (AF_ev rfl hs4) ((List.length_map _).trans hl_t) (St.cellsOf hst (.there .here) allF)) ?_
  obtain ⟨r3, h_r3, hF⟩ := bd hF
  refine RW.hard Wd.a ?_
  refine H.call0 Try.func84 nm84 rfl (map1 (AF_ev rfl tp)) (Calls.mono (Expand_C t hl_t r3 h_r3 hst) ?_)
  rintro _ w ⟨rfl, hl_q4_0, hst⟩
  refine ⟨_, rfl, ?_⟩
  show RW _ _ _ _ _ _ _
  refine RW.hard Wd.a ?_
  refine H.alloc zs141 hst fun b5 w hst => ?_
  refine RW.hard Wd.a ?_
  refine H.storeL (b := b5) (o := 0) (m := 240) (v := .agg ((r3.map bu8)).toArray) (ys := (r3.map bu8)) (L' := (r3.map bu8)) (AF_ev rfl tp) (AF_ev rfl (up rfl tp)) hst .here sz141 rfl ((List.length_map _).trans hl_q4_0) (ones_map (fun _ => rfl)) (putW (Eq.trans (show (r3.map bu8).length = 240 from ((List.length_map _).trans hl_q4_0)) (Eq.symm (show ((List.replicate 240 0#8).map bu8).length = 240 from ((List.length_map _).trans (List.length_replicate)))))) fun w hst => ?_
  refine RW.fin (fun τ => τ 0 = .agg ((t.map bu8)).toArray ∧ τ 1 = .agg ((o.map bu8)).toArray ∧ τ 2 = .int .u32 ((A').toNat : Int) ∧ τ 3 = .slice X_r' r'.length c_r' ∧ τ 4 = .pointer (some ⟨b1, 0, none⟩) ∧ τ 5 = .pointer (some ⟨b2, 0, none⟩) ∧ τ 8 = .slice none 0 0 ∧ τ 9 = .pointer (some ⟨b5, 0, none⟩)) ⟨u0 (up rfl (up rfl (up rfl hs0))), u0 (up rfl (up rfl (up rfl hs1))), u0 (up rfl (up rfl (up rfl hs2))), u0 (up rfl (up rfl (up rfl hs3))), u0 (up rfl (up rfl (up rfl hs4))), u0 (up rfl (up rfl (up rfl hs5))), u0 (up rfl (up rfl (up rfl hs8))), u0 tp⟩ ?_
  rintro τ ⟨hs0, hs1, hs2, hs3, hs4, hs5, hs8, hs9⟩
  refine CW.seq ?_
  refine CW.region ?_
  refine RW.soft Wd.a (v := .slice X_r' r'.length c_r') (by exact E.move (AF_ev rfl hs3)) ?_
  have hst := hst.take (.there (.there (.there .here)))
  refine RW.hard Wd.a ?_
  refine H.call0 Try.func80 nm80 rfl (map1 (AF_ev rfl tp)) (Calls.mono (clone_bytes (fun w H s => (hS_r' _ _ s)) (ones_map (fun _ => rfl)) (by omega) hst) ?_)
  rintro _ w ⟨vX6, rfl, hnX6, hst⟩
  obtain ⟨X6, c7, rfl, hcX6, hmX6, hlX6, hbX6⟩ := hst.shape
  clear hlX6
  refine ⟨_, rfl, ?_⟩
  show RW _ _ _ _ _ _ _
  refine RW.soft Wd.a (v := .slice X6 r'.length c7) (by exact E.assign (AF_ev rfl tp)) ?_
  refine RW.fin (fun τ => τ 0 = .agg ((t.map bu8)).toArray ∧ τ 1 = .agg ((o.map bu8)).toArray ∧ τ 2 = .int .u32 ((A').toNat : Int) ∧ τ 3 = .slice X_r' r'.length c_r' ∧ τ 4 = .pointer (some ⟨b1, 0, none⟩) ∧ τ 5 = .pointer (some ⟨b2, 0, none⟩) ∧ τ 8 = .slice none 0 0 ∧ τ 9 = .pointer (some ⟨b5, 0, none⟩) ∧ τ 10 = .slice X6 r'.length c7) ⟨up rfl (up rfl (up rfl hs0)), up rfl (up rfl (up rfl hs1)), up rfl (up rfl (up rfl hs2)), up rfl (up rfl (up rfl hs3)), up rfl (up rfl (up rfl hs4)), up rfl (up rfl (up rfl hs5)), up rfl (up rfl (up rfl hs8)), up rfl (up rfl (up rfl hs9)), tp⟩ ?_
  rintro τ ⟨hs0, hs1, hs2, hs3, hs4, hs5, hs8, hs9, hs10⟩
  refine CW.seq ?_
  refine CW.region ?_
  refine RW.soft Wd.a (v := .agg ((o.map bu8)).toArray) (by exact E.loadN (b := b2) (o := 0) (cs := (o.map bu8)) Try.underlying24 rfl sz24 (AF_ev rfl hs5) ((List.length_map _).trans hl_o) (St.cellsOf hst (.there (.there (.there .here))) allF)) ?_
  refine RW.soft Wd.a (v := .int .u32 ((A').toNat : Int)) (by exact E.move (AF_ev rfl (up rfl hs2))) ?_
  obtain ⟨r8, h_r8, hF⟩ := bd hF
  refine RW.hard Wd.a ?_
  refine H.call0 Try.func85 nm85 rfl (map2 (AF_ev rfl (up rfl tp)) (AF_ev rfl tp)) (Calls.mono (Counter_C o hl_o A' r8 h_r8 hst) ?_)
  rintro _ w ⟨rfl, hl_q9_0, hst⟩
  refine ⟨_, rfl, ?_⟩
  show RW _ _ _ _ _ _ _
  refine RW.hard Wd.a ?_
  refine H.alloc zs119 hst fun b10 w hst => ?_
  refine RW.hard Wd.a ?_
  refine H.storeL (b := b10) (o := 0) (m := 16) (v := .agg ((r8.map bu8)).toArray) (ys := (r8.map bu8)) (L' := (r8.map bu8)) (AF_ev rfl tp) (AF_ev rfl (up rfl tp)) hst .here sz119 rfl ((List.length_map _).trans hl_q9_0) (ones_map (fun _ => rfl)) (putW (Eq.trans (show (r8.map bu8).length = 16 from ((List.length_map _).trans hl_q9_0)) (Eq.symm (show ((List.replicate 16 0#8).map bu8).length = 16 from ((List.length_map _).trans (List.length_replicate)))))) fun w hst => ?_
  refine RW.fin (fun τ => τ 0 = .agg ((t.map bu8)).toArray ∧ τ 1 = .agg ((o.map bu8)).toArray ∧ τ 2 = .int .u32 ((A').toNat : Int) ∧ τ 3 = .slice X_r' r'.length c_r' ∧ τ 4 = .pointer (some ⟨b1, 0, none⟩) ∧ τ 5 = .pointer (some ⟨b2, 0, none⟩) ∧ τ 8 = .slice none 0 0 ∧ τ 9 = .pointer (some ⟨b5, 0, none⟩) ∧ τ 10 = .slice X6 r'.length c7 ∧ τ 11 = .pointer (some ⟨b10, 0, none⟩)) ⟨u0 (up rfl (up rfl (up rfl (up rfl hs0)))), u0 (up rfl (up rfl (up rfl (up rfl hs1)))), u0 (up rfl (up rfl (up rfl (up rfl hs2)))), u0 (up rfl (up rfl (up rfl (up rfl hs3)))), u0 (up rfl (up rfl (up rfl (up rfl hs4)))), u0 (up rfl (up rfl (up rfl (up rfl hs5)))), u0 (up rfl (up rfl (up rfl (up rfl hs8)))), u0 (up rfl (up rfl (up rfl (up rfl hs9)))), u0 (up rfl (up rfl (up rfl (up rfl hs10)))), u0 tp⟩ ?_
  rintro τ ⟨hs0, hs1, hs2, hs3, hs4, hs5, hs8, hs9, hs10, hs11⟩
  refine CW.seq ?_
  refine CW.seq ?_
  refine CW.region ?_
  refine RW.soft Wd.a (v := .slice X6 r'.length c7) (by exact E.move (AF_ev rfl hs10)) ?_
  refine RW.soft Wd.a (v := .int .i64 ((r'.length : Nat) : Int)) (by exact E.lenS (p := X6) (l := r'.length) (c := c7) Try.underlying25 (AF_ev rfl tp)) ?_
  refine RW.soft Wd.a (v := .int .i64 0) (by exact E.move rfl) ?_
  refine RW.fin (fun τ => τ 0 = .agg ((t.map bu8)).toArray ∧ τ 1 = .agg ((o.map bu8)).toArray ∧ τ 2 = .int .u32 ((A').toNat : Int) ∧ τ 3 = .slice X_r' r'.length c_r' ∧ τ 4 = .pointer (some ⟨b1, 0, none⟩) ∧ τ 5 = .pointer (some ⟨b2, 0, none⟩) ∧ τ 8 = .slice none 0 0 ∧ τ 9 = .pointer (some ⟨b5, 0, none⟩) ∧ τ 10 = .slice X6 r'.length c7 ∧ τ 11 = .pointer (some ⟨b10, 0, none⟩) ∧ τ 24 = .int .i64 ((r'.length : Nat) : Int) ∧ τ 25 = .int .i64 0) ⟨up rfl (up rfl (up rfl hs0)), up rfl (up rfl (up rfl hs1)), up rfl (up rfl (up rfl hs2)), up rfl (up rfl (up rfl hs3)), up rfl (up rfl (up rfl hs4)), up rfl (up rfl (up rfl hs5)), up rfl (up rfl (up rfl hs8)), up rfl (up rfl (up rfl hs9)), up rfl (up rfl (up rfl hs10)), up rfl (up rfl (up rfl hs11)), up rfl tp, tp⟩ ?_
  rintro τ ⟨hs0, hs1, hs2, hs3, hs4, hs5, hs8, hs9, hs10, hs11, hs24, hs25⟩
  refine CW.block ?_
  refine CW.loop (fun (k16 : Nat) (τ : Fr) (w : World) => ∃ (i12 : Nat) (m13 : List (BitVec 8)) (m14 : List (BitVec 8)) (m15 : List (BitVec 8)), m13.length = 16 ∧ m14.length = r'.length ∧ m15.length = 240 ∧ GXor_l1 r' k16 i12 m13 m14 m15 = some r ∧ τ 25 = .int .i64 ((i12 : Nat) : Int) ∧ τ 8 = .slice none 0 0 ∧ τ 9 = .pointer (some ⟨b5, 0, none⟩) ∧ τ 10 = .slice X6 r'.length c7 ∧ τ 11 = .pointer (some ⟨b10, 0, none⟩) ∧ τ 24 = .int .i64 ((r'.length : Nat) : Int) ∧ St p w (pt b10 (.cells ((m13.map bu8)).toArray 119) :: SL.Own 5 1 (.slice X6 r'.length c7) r'.length (m14.map bu8) :: A :: pt b5 (.cells ((m15.map bu8)).toArray 141) :: R)) 1099511627776 ?_ ?_
  · skip
    have hst := hst.take (.there (.there (.there .here)))
    have hst := hst.take (.there (.there (.there .here)))
    have hst := hst.take (.there (.there (.there .here)))
    have hst := hst.take (.there (.there (.there .here)))
    have hst := (hst.take (.there (.there (.there (.there .here))))).drop
    have hst := (hst.take (.there (.there (.there (.there .here))))).drop
    exact ⟨0, r8, r', r3, hl_q9_0, (by first | rfl | omega), hl_q4_0, hF, (int_eq (a := 0) hs25 (by omega)), hs8, hs9, hs10, hs11, hs24, hst⟩
  clear hst hF
  rintro k16 τ w ⟨i12, m13, m14, m15, hl_m13, hl_m14, hl_m15, hF, hs25, hs8, hs9, hs10, hs11, hs24, hst⟩
  obtain ⟨k17, rfl⟩ := GXor_l1_pos hF
  rw [GXor_l1] at hF
  refine CW.seq ?_
  refine CW.region ?_
  refine RW.soft Wd.a (v := .bool (decide (((i12 : Nat) : Int) < ((r'.length : Nat) : Int)))) (by exact E.lss (k := .i64) (a := ((i12 : Nat) : Int)) (b := ((r'.length : Nat) : Int)) (AF_ev rfl hs25) (AF_ev rfl hs24)) ?_
  refine RW.fin (fun τ => τ 8 = .slice none 0 0 ∧ τ 9 = .pointer (some ⟨b5, 0, none⟩) ∧ τ 10 = .slice X6 r'.length c7 ∧ τ 11 = .pointer (some ⟨b10, 0, none⟩) ∧ τ 24 = .int .i64 ((r'.length : Nat) : Int) ∧ τ 25 = .int .i64 ((i12 : Nat) : Int) ∧ τ 26 = .bool (decide (((i12 : Nat) : Int) < ((r'.length : Nat) : Int)))) ⟨up rfl hs8, up rfl hs9, up rfl hs10, up rfl hs11, up rfl hs24, up rfl hs25, tp⟩ ?_
  rintro τ ⟨hs8, hs9, hs10, hs11, hs24, hs25, hs26⟩
  refine CW.seq ?_
  refine CW.cond (AF_ev rfl hs26) (fun hc18 => ?_) (fun hc18 => ?_)
  · have hF := ct hc18 hF
    have hc18_ := hc18
    try simp only [decide_eq_true_eq] at hc18_
    refine CW.skip ?_
    refine Th.n ?_
    refine CW.seqJ (fun τ w => ∃ (j19 : List (BitVec 8)) (j20 : List (BitVec 8)) (j21 : Bool) (j22 : Bool) (m23 : List (BitVec 8)), j19.length = 240 ∧ j20.length = 16 ∧ m23.length = r'.length ∧ GXor_j2 r' i12 (fun (i12_ : Nat) (m13_ : List (BitVec 8)) (m14_ : List (BitVec 8)) (m15_ : List (BitVec 8)) => GXor_l1 r' k17 i12_ m13_ m14_ m15_) j19 j20 j21 j22 m23 = some r ∧ τ 8 = .slice none 0 0 ∧ τ 9 = .pointer (some ⟨b5, 0, none⟩) ∧ τ 10 = .slice X6 r'.length c7 ∧ τ 11 = .pointer (some ⟨b10, 0, none⟩) ∧ τ 12 = .int .i64 ((i12 : Nat) : Int) ∧ τ 24 = .int .i64 ((r'.length : Nat) : Int) ∧ τ 25 = .int .i64 ((i12 : Nat) : Int) ∧ τ 26 = .bool true ∧ τ 34 = .bool j21 ∧ τ 39 = .bool j22 ∧ St p w (pt b5 (.cells ((j19.map bu8)).toArray 141) :: pt b10 (.cells ((j20.map bu8)).toArray 119) :: A :: SL.Own 5 1 (.slice X6 r'.length c7) r'.length (m23.map bu8) :: R)) ?_ ?_
    · skip
      refine CW.block ?_
      refine CW.seq ?_
      refine CW.region ?_
      refine RW.soft Wd.a (v := .int .i64 ((i12 : Nat) : Int)) (by exact E.move (AF_ev rfl hs25)) ?_
      refine RW.soft Wd.a (v := .int .i64 ((i12 : Nat) : Int)) (by exact E.assign (AF_ev rfl tp)) ?_
      refine RW.fin (fun τ => τ 8 = .slice none 0 0 ∧ τ 9 = .pointer (some ⟨b5, 0, none⟩) ∧ τ 10 = .slice X6 r'.length c7 ∧ τ 11 = .pointer (some ⟨b10, 0, none⟩) ∧ τ 12 = .int .i64 ((i12 : Nat) : Int) ∧ τ 24 = .int .i64 ((r'.length : Nat) : Int) ∧ τ 25 = .int .i64 ((i12 : Nat) : Int) ∧ τ 26 = .bool true) ⟨up rfl (up rfl hs8), up rfl (up rfl hs9), up rfl (up rfl hs10), up rfl (up rfl hs11), tp, up rfl (up rfl hs24), up rfl (up rfl hs25), up rfl (up rfl (Eq.trans hs26 (congrArg Value.bool hc18)))⟩ ?_
      rintro τ ⟨hs8, hs9, hs10, hs11, hs12, hs24, hs25, hs26⟩
      refine CW.seqJ (fun τ w => ∃ (j24 : List (BitVec 8)) (j25 : Bool) (j26 : Bool) (j27 : Bool), j24.length = 16 ∧ GXor_j3 r' i12 m14 m15 (fun (i12_ : Nat) (m13_ : List (BitVec 8)) (m14_ : List (BitVec 8)) (m15_ : List (BitVec 8)) => GXor_l1 r' k17 i12_ m13_ m14_ m15_) j24 j25 j26 j27 = some r ∧ τ 8 = .slice none 0 0 ∧ τ 9 = .pointer (some ⟨b5, 0, none⟩) ∧ τ 10 = .slice X6 r'.length c7 ∧ τ 11 = .pointer (some ⟨b10, 0, none⟩) ∧ τ 12 = .int .i64 ((i12 : Nat) : Int) ∧ τ 24 = .int .i64 ((r'.length : Nat) : Int) ∧ τ 25 = .int .i64 ((i12 : Nat) : Int) ∧ τ 26 = .bool true ∧ τ 28 = .int .i64 ((i12 : Nat) : Int) ∧ τ 29 = .int .i64 (((i12 : Nat) : Int) % 16) ∧ τ 30 = .bool j25 ∧ τ 31 = .bool j26 ∧ τ 34 = .bool j27 ∧ St p w (pt b10 (.cells ((j24.map bu8)).toArray 119) :: A :: pt b5 (.cells ((m15.map bu8)).toArray 141) :: SL.Own 5 1 (.slice X6 r'.length c7) r'.length (m14.map bu8) :: R)) ?_ ?_
      · skip
        refine CW.seqJ (fun τ w => ∃ (j28 : Bool) (j29 : Bool) (j30 : Bool), GXor_j4 r' i12 m13 m14 m15 (fun (i12_ : Nat) (m13_ : List (BitVec 8)) (m14_ : List (BitVec 8)) (m15_ : List (BitVec 8)) => GXor_l1 r' k17 i12_ m13_ m14_ m15_) j28 j29 j30 = some r ∧ τ 8 = .slice none 0 0 ∧ τ 9 = .pointer (some ⟨b5, 0, none⟩) ∧ τ 10 = .slice X6 r'.length c7 ∧ τ 11 = .pointer (some ⟨b10, 0, none⟩) ∧ τ 12 = .int .i64 ((i12 : Nat) : Int) ∧ τ 24 = .int .i64 ((r'.length : Nat) : Int) ∧ τ 25 = .int .i64 ((i12 : Nat) : Int) ∧ τ 26 = .bool true ∧ τ 28 = .int .i64 ((i12 : Nat) : Int) ∧ τ 29 = .int .i64 (((i12 : Nat) : Int) % 16) ∧ τ 30 = .bool j28 ∧ τ 31 = .bool j29 ∧ τ 34 = .bool j30 ∧ St p w (pt b10 (.cells ((m13.map bu8)).toArray 119) :: A :: pt b5 (.cells ((m15.map bu8)).toArray 141) :: SL.Own 5 1 (.slice X6 r'.length c7) r'.length (m14.map bu8) :: R)) ?_ ?_
        · skip
          refine CW.region ?_
          refine RW.soft Wd.a (v := .int .i64 ((i12 : Nat) : Int)) (by exact E.move (AF_ev rfl hs12)) ?_
          refine RW.soft Wd.a (v := .int .i64 (((i12 : Nat) : Int) % 16)) (by exact E.rem (k := .i64) (a := ((i12 : Nat) : Int)) (b := 16) (AF_ev rfl tp) rfl (by omega) (by exact Int.tmod_eq_emod_of_nonneg (by omega))) ?_
          refine RW.soft Wd.a (v := .bool ((((i12 : Nat) : Int) % 16) == 0)) (by exact E.eql (k := .i64) (a := ((i12 : Nat) : Int) % 16) (b := 0) (AF_ev rfl tp) rfl) ?_
          refine RW.soft Wd.a (v := .bool ((((i12 : Nat) : Int) % 16) == 0)) (by exact E.move (AF_ev rfl tp)) ?_
          refine Or.elim (Bool.eq_false_or_eq_true ((((i12 : Nat) : Int) % 16) == 0)) (fun hw31 => ?_) (fun hw31 => ?_)
          · have hF := ct hw31 hF
            have hw31_ := hw31
            try simp only [beq_iff_eq] at hw31_
            refine RW.soft (by exact Wd.yes (x := 31) rfl (AF_ev rfl (Eq.trans tp (congrArg Value.bool hw31)))) (v := .int .i64 ((i12 : Nat) : Int)) (by exact E.move (AF_ev rfl (up rfl (up rfl (up rfl (up rfl hs12)))))) ?_
            refine RW.soft (by exact Wd.yes (x := 31) rfl (AF_ev rfl (up rfl (Eq.trans tp (congrArg Value.bool hw31))))) (v := .bool (decide (((i12 : Nat) : Int) > 0))) (by exact E.gtr (k := .i64) (a := ((i12 : Nat) : Int)) (b := 0) (AF_ev rfl tp) rfl) ?_
            refine RW.soft Wd.a (v := .bool (decide (((i12 : Nat) : Int) > 0))) (by exact E.pickT (AF_ev rfl (up rfl (up rfl (Eq.trans tp (congrArg Value.bool hw31))))) (AF_ev rfl tp)) ?_
            refine RW.nil ?_
            refine Th.n ?_
            have hst := hst.take (.there .here)
            have hst := hst.take (.there (.there (.there .here)))
            have hst := hst.take (.there (.there (.there .here)))
            have hst := hst.take (.there (.there (.there .here)))
            exact ⟨true, true, (decide (((i12 : Nat) : Int) > 0)), hF, up rfl (up rfl (up rfl (up rfl (up rfl (up rfl (up rfl hs8)))))), up rfl (up rfl (up rfl (up rfl (up rfl (up rfl (up rfl hs9)))))), up rfl (up rfl (up rfl (up rfl (up rfl (up rfl (up rfl hs10)))))), up rfl (up rfl (up rfl (up rfl (up rfl (up rfl (up rfl hs11)))))), up rfl (up rfl (up rfl (up rfl (up rfl (up rfl (up rfl hs12)))))), up rfl (up rfl (up rfl (up rfl (up rfl (up rfl (up rfl hs24)))))), up rfl (up rfl (up rfl (up rfl (up rfl (up rfl (up rfl hs25)))))), up rfl (up rfl (up rfl (up rfl (up rfl (up rfl (up rfl hs26)))))), up rfl (up rfl (up rfl (up rfl (up rfl (up rfl tp))))), up rfl (up rfl (up rfl (up rfl (up rfl tp)))), up rfl (up rfl (up rfl (up rfl (Eq.trans tp (congrArg Value.bool hw31))))), up rfl (up rfl (up rfl (Eq.trans tp (congrArg Value.bool hw31)))), tp, hst⟩
          · have hF := cf hw31 hF
            have hw31_ := hw31
            try simp only [beq_eq_false_iff_ne, ne_eq] at hw31_
            refine RW.pass (by exact Wd.no (x := 31) (b := false) rfl (AF_ev rfl (Eq.trans tp (congrArg Value.bool hw31))) rfl) ?_
            refine RW.pass (by exact Wd.no (x := 31) (b := false) rfl (AF_ev rfl (up rfl (Eq.trans tp (congrArg Value.bool hw31)))) rfl) ?_
            refine RW.soft Wd.a (v := .bool false) (by exact E.pickF (AF_ev rfl (up rfl (up rfl (Eq.trans tp (congrArg Value.bool hw31))))) rfl) ?_
            refine RW.nil ?_
            refine Th.n ?_
            have hst := hst.take (.there .here)
            have hst := hst.take (.there (.there (.there .here)))
            have hst := hst.take (.there (.there (.there .here)))
            have hst := hst.take (.there (.there (.there .here)))
            exact ⟨false, false, false, hF, up rfl (up rfl (up rfl (up rfl (up rfl (up rfl (up rfl hs8)))))), up rfl (up rfl (up rfl (up rfl (up rfl (up rfl (up rfl hs9)))))), up rfl (up rfl (up rfl (up rfl (up rfl (up rfl (up rfl hs10)))))), up rfl (up rfl (up rfl (up rfl (up rfl (up rfl (up rfl hs11)))))), up rfl (up rfl (up rfl (up rfl (up rfl (up rfl (up rfl hs12)))))), up rfl (up rfl (up rfl (up rfl (up rfl (up rfl (up rfl hs24)))))), up rfl (up rfl (up rfl (up rfl (up rfl (up rfl (up rfl hs25)))))), up rfl (up rfl (up rfl (up rfl (up rfl (up rfl (up rfl hs26)))))), up rfl (up rfl (up rfl (up rfl (up rfl (up rfl tp))))), up rfl (up rfl (up rfl (up rfl (up rfl tp)))), up rfl (up rfl (up rfl (up rfl (Eq.trans tp (congrArg Value.bool hw31))))), up rfl (up rfl (up rfl (Eq.trans tp (congrArg Value.bool hw31)))), tp, hst⟩
        rintro τ w ⟨j28, j29, j30, hF, hs8, hs9, hs10, hs11, hs12, hs24, hs25, hs26, hs28, hs29, hs30, hs31, hs34, hst⟩
        unfold GXor_j4 at hF
        refine CW.cond (AF_ev rfl hs34) (fun hc32 => ?_) (fun hc32 => ?_)
        · have hF := ct hc32 hF
          refine CW.region ?_
          refine RW.soft Wd.a (v := .agg ((m13.map bu8)).toArray) (by exact E.loadN (b := b10) (o := 0) (cs := (m13.map bu8)) Try.underlying119 rfl sz119 (AF_ev rfl hs11) ((List.length_map _).trans hl_m13) (St.cellsOf hst .here allF)) ?_
          obtain ⟨r33, h_r33, hF⟩ := bd hF
          refine RW.hard Wd.a ?_
          refine H.call0 Try.func86 nm86 rfl (map1 (AF_ev rfl tp)) (Calls.mono (Next_C m13 hl_m13 r33 h_r33 hst) ?_)
          rintro _ w ⟨rfl, hl_q34_0, hst⟩
          refine ⟨_, rfl, ?_⟩
          show RW _ _ _ _ _ _ _
          refine RW.hard Wd.a ?_
          refine H.storeL (b := b10) (o := 0) (m := 16) (v := .agg ((r33.map bu8)).toArray) (ys := (r33.map bu8)) (L' := (r33.map bu8)) (AF_ev rfl (up rfl (up rfl hs11))) (AF_ev rfl tp) hst .here sz119 rfl ((List.length_map _).trans hl_q34_0) (ones_map (fun _ => rfl)) (putW (Eq.trans (show (r33.map bu8).length = 16 from ((List.length_map _).trans hl_q34_0)) (Eq.symm (show (m13.map bu8).length = 16 from ((List.length_map _).trans hl_m13))))) fun w hst => ?_
          refine RW.nil ?_
          refine Th.n ?_
          have hst := hst.take (.there (.there (.there .here)))
          have hst := hst.take (.there (.there (.there .here)))
          have hst := hst.take (.there (.there (.there .here)))
          have hst := hst.take (.there (.there (.there .here)))
          exact ⟨r33, j28, j29, true, hl_q34_0, hF, u0 (up rfl (up rfl hs8)), u0 (up rfl (up rfl hs9)), u0 (up rfl (up rfl hs10)), u0 (up rfl (up rfl hs11)), u0 (up rfl (up rfl hs12)), u0 (up rfl (up rfl hs24)), u0 (up rfl (up rfl hs25)), u0 (up rfl (up rfl hs26)), u0 (up rfl (up rfl hs28)), u0 (up rfl (up rfl hs29)), u0 (up rfl (up rfl hs30)), u0 (up rfl (up rfl hs31)), u0 (up rfl (up rfl (Eq.trans hs34 (congrArg Value.bool hc32)))), hst⟩
        · have hF := cf hc32 hF
          refine CW.skip ?_
          refine Th.n ?_
          have hst := hst.take (.there (.there (.there .here)))
          have hst := hst.take (.there (.there (.there .here)))
          have hst := hst.take (.there (.there (.there .here)))
          have hst := hst.take (.there (.there (.there .here)))
          exact ⟨m13, j28, j29, false, hl_m13, hF, hs8, hs9, hs10, hs11, hs12, hs24, hs25, hs26, hs28, hs29, hs30, hs31, (Eq.trans hs34 (congrArg Value.bool hc32)), hst⟩
      rintro τ w ⟨j24, j25, j26, j27, hl_j24, hF, hs8, hs9, hs10, hs11, hs12, hs24, hs25, hs26, hs28, hs29, hs30, hs31, hs34, hst⟩
      unfold GXor_j3 at hF
      refine CW.seq ?_
      refine CW.region ?_
      refine RW.soft Wd.a (v := .int .i64 ((i12 : Nat) : Int)) (by exact E.move (AF_ev rfl hs12)) ?_
      refine RW.soft Wd.a (v := .int .i64 (((i12 : Nat) : Int) % 16)) (by exact E.rem (k := .i64) (a := ((i12 : Nat) : Int)) (b := 16) (AF_ev rfl tp) rfl (by omega) (by exact Int.tmod_eq_emod_of_nonneg (by omega))) ?_
      refine RW.soft Wd.a (v := .bool ((((i12 : Nat) : Int) % 16) == 0)) (by exact E.eql (k := .i64) (a := ((i12 : Nat) : Int) % 16) (b := 0) (AF_ev rfl tp) rfl) ?_
      refine RW.fin (fun τ => τ 8 = .slice none 0 0 ∧ τ 9 = .pointer (some ⟨b5, 0, none⟩) ∧ τ 10 = .slice X6 r'.length c7 ∧ τ 11 = .pointer (some ⟨b10, 0, none⟩) ∧ τ 12 = .int .i64 ((i12 : Nat) : Int) ∧ τ 24 = .int .i64 ((r'.length : Nat) : Int) ∧ τ 25 = .int .i64 ((i12 : Nat) : Int) ∧ τ 26 = .bool true ∧ τ 34 = .bool j27 ∧ τ 39 = .bool ((((i12 : Nat) : Int) % 16) == 0)) ⟨up rfl (up rfl (up rfl hs8)), up rfl (up rfl (up rfl hs9)), up rfl (up rfl (up rfl hs10)), up rfl (up rfl (up rfl hs11)), up rfl (up rfl (up rfl hs12)), up rfl (up rfl (up rfl hs24)), up rfl (up rfl (up rfl hs25)), up rfl (up rfl (up rfl hs26)), up rfl (up rfl (up rfl hs34)), tp⟩ ?_
      rintro τ ⟨hs8, hs9, hs10, hs11, hs12, hs24, hs25, hs26, hs34, hs39⟩
      refine CW.cond (AF_ev rfl hs39) (fun hc35 => ?_) (fun hc35 => ?_)
      · have hF := ct hc35 hF
        have hc35_ := hc35
        try simp only [beq_iff_eq] at hc35_
        refine CW.seq ?_
        refine CW.region ?_
        refine RW.soft Wd.a (v := .agg ((j24.map bu8)).toArray) (by exact E.loadN (b := b10) (o := 0) (cs := (j24.map bu8)) Try.underlying119 rfl sz119 (AF_ev rfl hs11) ((List.length_map _).trans hl_j24) (St.cellsOf hst .here allF)) ?_
        obtain ⟨r36, h_r36, hF⟩ := bd hF
        have hst := hst.take (.there (.there .here))
        refine RW.hard Wd.a ?_
        refine H.call0 Try.func87 nm87 rfl (map2 (AF_ev rfl (up rfl hs9)) (AF_ev rfl tp)) (Calls.mono (Encr_C m15 hl_m15 j24 hl_j24 r36 h_r36 hst) ?_)
        rintro _ w ⟨rfl, hl_q37_0, hl_q37_1, hst⟩
        refine ⟨_, rfl, ?_⟩
        show RW _ _ _ _ _ _ _
        refine RW.hard Wd.a ?_
        refine H.alloc zs119 hst fun b38 w hst => ?_
        refine RW.hard Wd.a ?_
        refine H.storeL (b := b38) (o := 0) (m := 16) (v := .agg ((r36.1.map bu8)).toArray) (ys := (r36.1.map bu8)) (L' := (r36.1.map bu8)) (AF_ev rfl tp) (AF_ev rfl (up rfl tp)) hst .here sz119 rfl ((List.length_map _).trans hl_q37_0) (ones_map (fun _ => rfl)) (putW (Eq.trans (show (r36.1.map bu8).length = 16 from ((List.length_map _).trans hl_q37_0)) (Eq.symm (show ((List.replicate 16 0#8).map bu8).length = 16 from ((List.length_map _).trans (List.length_replicate)))))) fun w hst => ?_
        refine RW.fin (fun τ => τ 8 = .slice none 0 0 ∧ τ 9 = .pointer (some ⟨b5, 0, none⟩) ∧ τ 10 = .slice X6 r'.length c7 ∧ τ 11 = .pointer (some ⟨b10, 0, none⟩) ∧ τ 12 = .int .i64 ((i12 : Nat) : Int) ∧ τ 13 = .pointer (some ⟨b38, 0, none⟩) ∧ τ 24 = .int .i64 ((r'.length : Nat) : Int) ∧ τ 25 = .int .i64 ((i12 : Nat) : Int) ∧ τ 26 = .bool true ∧ τ 34 = .bool j27 ∧ τ 39 = .bool true) ⟨u0 (up rfl (up rfl (up rfl hs8))), u0 (up rfl (up rfl (up rfl hs9))), u0 (up rfl (up rfl (up rfl hs10))), u0 (up rfl (up rfl (up rfl hs11))), u0 (up rfl (up rfl (up rfl hs12))), u0 tp, u0 (up rfl (up rfl (up rfl hs24))), u0 (up rfl (up rfl (up rfl hs25))), u0 (up rfl (up rfl (up rfl hs26))), u0 (up rfl (up rfl (up rfl hs34))), u0 (up rfl (up rfl (up rfl (Eq.trans hs39 (congrArg Value.bool hc35)))))⟩ ?_
        rintro τ ⟨hs8, hs9, hs10, hs11, hs12, hs13, hs24, hs25, hs26, hs34, hs39⟩
        refine CW.seq ?_
        refine CW.region ?_
        refine RW.soft Wd.a (v := .slice X6 r'.length c7) (by exact E.move (AF_ev rfl hs10)) ?_
        refine RW.soft Wd.a (v := .int .i64 ((i12 : Nat) : Int)) (by exact E.move (AF_ev rfl (up rfl hs12))) ?_
        refine RW.soft Wd.a (v := .int .i64 ((i12 : Nat) : Int)) (by exact E.move (AF_ev rfl (up rfl (up rfl hs12)))) ?_
        refine RW.soft Wd.a (v := .int .i64 (((i12 : Nat) : Int) + 16)) (by exact E.add (k := .i64) (a := ((i12 : Nat) : Int)) (b := 16) (AF_ev rfl tp) rfl (show IntKind.i64.wrap (((i12 : Nat) : Int) + 16) = ((i12 : Nat) : Int) + 16 from (by rw [IntWalk.i64_in _ (by omega)]))) ?_
        refine RW.soft Wd.a (v := .slice X6 r'.length c7) (by exact E.move (AF_ev rfl (up rfl (up rfl (up rfl (up rfl hs10)))))) ?_
        refine RW.soft Wd.a (v := .int .i64 ((r'.length : Nat) : Int)) (by exact E.lenS (p := X6) (l := r'.length) (c := c7) Try.underlying25 (AF_ev rfl tp)) ?_
        refine RW.soft Wd.a (v := .int .i64 (min (((i12 : Nat) : Int) + 16) ((r'.length : Nat) : Int))) (by exact E.min (k := .i64) (a := ((i12 : Nat) : Int) + 16) (b := ((r'.length : Nat) : Int)) (AF_ev rfl (up rfl (up rfl tp))) (AF_ev rfl tp) (by rw [Int.min_def]; split <;> split <;> omega)) ?_
        obtain ⟨hg39, hF⟩ := pl hF
        have hcap_c7 : r'.length ≤ c7 := (show SL.Src w 1 (.slice X6 r'.length c7) r'.length (m14.map bu8) from (Own.src (hst.take (.there (.there (.there (.there .here))))))).len.2.1
        obtain ⟨t41, h_t41, hF⟩ := lp hF
        have hl_t41 : t41.length = (min (((i12 : Nat) : Int) + 16) ((r'.length : Nat) : Int)).toNat - i12 := by rw [h_t41]; exact sl_len rfl (by omega)
        obtain ⟨hg42, hF⟩ := pl hF
        obtain ⟨b43, rfl⟩ := (St.ownAt (hst.take (.there (.there (.there (.there .here))))) (by omega))
        obtain ⟨hg45, hF⟩ := pl hF
        obtain ⟨c47, hc_c47⟩ : ∃ z, z = c7 - i12 := ⟨_, rfl⟩
        refine RW.soft Wd.a (v := .slice (some ⟨b43, i12, none⟩) t41.length c47) (by exact E.v (run_slice (X := (some ⟨b43, 0, none⟩)) (m := r'.length) (c := c7) (i := i12) (j := (min (((i12 : Nat) : Int) + 16) ((r'.length : Nat) : Int)).toNat) (k := c7) Try.underlying25 sz5 _ (AF_ev rfl (up rfl (up rfl (up rfl (up rfl (up rfl (up rfl tp))))))) (AF_ev rfl (up rfl (up rfl (up rfl (up rfl (up rfl tp)))))) (int_eq (a := min (((i12 : Nat) : Int) + 16) ((r'.length : Nat) : Int)) (AF_ev rfl tp) (by omega)) rfl (by omega) (by omega) (by omega)) (by first | (rw [sbA_some (by omega), hc_c47, Nat.mul_one, hl_t41]; done) | (rw [sbA_some (by omega), hc_c47, Nat.mul_one, Nat.zero_add, hl_t41]; done) | (rw [sbA_some (by omega), hc_c47, Nat.mul_one, hl_t41]; rfl))) ?_
        refine RW.soft Wd.a (v := .slice (some ⟨b43, i12, none⟩) t41.length c47) (by exact E.assign (AF_ev rfl tp)) ?_
        refine RW.fin (fun τ => τ 8 = .slice none 0 0 ∧ τ 9 = .pointer (some ⟨b5, 0, none⟩) ∧ τ 10 = .slice (some ⟨b43, 0, none⟩) r'.length c7 ∧ τ 11 = .pointer (some ⟨b10, 0, none⟩) ∧ τ 12 = .int .i64 ((i12 : Nat) : Int) ∧ τ 13 = .pointer (some ⟨b38, 0, none⟩) ∧ τ 14 = .slice (some ⟨b43, i12, none⟩) t41.length c47 ∧ τ 24 = .int .i64 ((r'.length : Nat) : Int) ∧ τ 25 = .int .i64 ((i12 : Nat) : Int) ∧ τ 26 = .bool true ∧ τ 34 = .bool j27 ∧ τ 39 = .bool true) ⟨up rfl (up rfl (up rfl (up rfl (up rfl (up rfl (up rfl (up rfl (up rfl hs8)))))))), up rfl (up rfl (up rfl (up rfl (up rfl (up rfl (up rfl (up rfl (up rfl hs9)))))))), up rfl (up rfl (up rfl (up rfl (up rfl (up rfl (up rfl (up rfl (up rfl hs10)))))))), up rfl (up rfl (up rfl (up rfl (up rfl (up rfl (up rfl (up rfl (up rfl hs11)))))))), up rfl (up rfl (up rfl (up rfl (up rfl (up rfl (up rfl (up rfl (up rfl hs12)))))))), up rfl (up rfl (up rfl (up rfl (up rfl (up rfl (up rfl (up rfl (up rfl hs13)))))))), tp, up rfl (up rfl (up rfl (up rfl (up rfl (up rfl (up rfl (up rfl (up rfl hs24)))))))), up rfl (up rfl (up rfl (up rfl (up rfl (up rfl (up rfl (up rfl (up rfl hs25)))))))), up rfl (up rfl (up rfl (up rfl (up rfl (up rfl (up rfl (up rfl (up rfl hs26)))))))), up rfl (up rfl (up rfl (up rfl (up rfl (up rfl (up rfl (up rfl (up rfl hs34)))))))), up rfl (up rfl (up rfl (up rfl (up rfl (up rfl (up rfl (up rfl (up rfl hs39))))))))⟩ ?_
        rintro τ ⟨hs8, hs9, hs10, hs11, hs12, hs13, hs14, hs24, hs25, hs26, hs34, hs39⟩
        refine CW.seq ?_
        refine CW.region ?_
        refine RW.soft Wd.a (v := .slice (some ⟨b43, i12, none⟩) t41.length c47) (by exact E.move (AF_ev rfl hs14)) ?_
        refine RW.soft Wd.a (v := .int .i64 ((t41.length : Nat) : Int)) (by exact E.lenS (p := (some ⟨b43, i12, none⟩)) (l := t41.length) (c := c47) Try.underlying25 (AF_ev rfl tp)) ?_
        refine RW.soft Wd.a (v := .int .i64 0) (by exact E.move rfl) ?_
        refine RW.fin (fun τ => τ 8 = .slice none 0 0 ∧ τ 9 = .pointer (some ⟨b5, 0, none⟩) ∧ τ 10 = .slice (some ⟨b43, 0, none⟩) r'.length c7 ∧ τ 11 = .pointer (some ⟨b10, 0, none⟩) ∧ τ 12 = .int .i64 ((i12 : Nat) : Int) ∧ τ 13 = .pointer (some ⟨b38, 0, none⟩) ∧ τ 14 = .slice (some ⟨b43, i12, none⟩) t41.length c47 ∧ τ 24 = .int .i64 ((r'.length : Nat) : Int) ∧ τ 25 = .int .i64 ((i12 : Nat) : Int) ∧ τ 26 = .bool true ∧ τ 34 = .bool j27 ∧ τ 39 = .bool true ∧ τ 51 = .int .i64 ((t41.length : Nat) : Int) ∧ τ 52 = .int .i64 0) ⟨up rfl (up rfl (up rfl hs8)), up rfl (up rfl (up rfl hs9)), up rfl (up rfl (up rfl hs10)), up rfl (up rfl (up rfl hs11)), up rfl (up rfl (up rfl hs12)), up rfl (up rfl (up rfl hs13)), up rfl (up rfl (up rfl hs14)), up rfl (up rfl (up rfl hs24)), up rfl (up rfl (up rfl hs25)), up rfl (up rfl (up rfl hs26)), up rfl (up rfl (up rfl hs34)), up rfl (up rfl (up rfl hs39)), up rfl tp, tp⟩ ?_
        rintro τ ⟨hs8, hs9, hs10, hs11, hs12, hs13, hs14, hs24, hs25, hs26, hs34, hs39, hs51, hs52⟩
        refine CW.block ?_
        refine CW.loop (fun (k51 : Nat) (τ : Fr) (w : World) => ∃ (i49 : Nat) (m50 : List (BitVec 8)), m50.length = r'.length ∧ GXor_l5 r' i12 j24 j27 r36 t41 (fun (i12_ : Nat) (m13_ : List (BitVec 8)) (m14_ : List (BitVec 8)) (m15_ : List (BitVec 8)) => GXor_l1 r' k17 i12_ m13_ m14_ m15_) k51 i49 m50 = some r ∧ τ 52 = .int .i64 ((i49 : Nat) : Int) ∧ τ 8 = .slice none 0 0 ∧ τ 9 = .pointer (some ⟨b5, 0, none⟩) ∧ τ 10 = .slice (some ⟨b43, 0, none⟩) r'.length c7 ∧ τ 11 = .pointer (some ⟨b10, 0, none⟩) ∧ τ 12 = .int .i64 ((i12 : Nat) : Int) ∧ τ 13 = .pointer (some ⟨b38, 0, none⟩) ∧ τ 14 = .slice (some ⟨b43, i12, none⟩) t41.length c47 ∧ τ 24 = .int .i64 ((r'.length : Nat) : Int) ∧ τ 25 = .int .i64 ((i12 : Nat) : Int) ∧ τ 26 = .bool true ∧ τ 34 = .bool j27 ∧ τ 39 = .bool true ∧ τ 51 = .int .i64 ((t41.length : Nat) : Int) ∧ St p w (pt b38 (.cells ((r36.1.map bu8)).toArray 119) :: pt b5 (.cells ((r36.2.map bu8)).toArray 141) :: pt b10 (.cells ((j24.map bu8)).toArray 119) :: A :: SL.Own 5 1 (.slice (some ⟨b43, 0, none⟩) r'.length c7) r'.length (m50.map bu8) :: R)) 1099511627776 ?_ ?_
        · skip
          have hst := hst.take (.there (.there (.there (.there .here))))
          have hst := hst.take (.there (.there (.there (.there .here))))
          have hst := hst.take (.there (.there (.there (.there .here))))
          have hst := hst.take (.there (.there (.there (.there .here))))
          have hst := hst.take (.there (.there (.there (.there .here))))
          exact ⟨0, m14, (by first | rfl | omega), hF, (int_eq (a := 0) hs52 (by omega)), hs8, hs9, hs10, hs11, hs12, hs13, hs14, hs24, hs25, hs26, hs34, hs39, hs51, hst⟩
        clear hst hF
        rintro k51 τ w ⟨i49, m50, hl_m50, hF, hs52, hs8, hs9, hs10, hs11, hs12, hs13, hs14, hs24, hs25, hs26, hs34, hs39, hs51, hst⟩
        obtain ⟨k52, rfl⟩ := GXor_l5_pos hF
        rw [GXor_l5] at hF
        refine CW.seq ?_
        refine CW.region ?_
        refine RW.soft Wd.a (v := .bool (decide (((i49 : Nat) : Int) < ((t41.length : Nat) : Int)))) (by exact E.lss (k := .i64) (a := ((i49 : Nat) : Int)) (b := ((t41.length : Nat) : Int)) (AF_ev rfl hs52) (AF_ev rfl hs51)) ?_
        refine RW.fin (fun τ => τ 8 = .slice none 0 0 ∧ τ 9 = .pointer (some ⟨b5, 0, none⟩) ∧ τ 10 = .slice (some ⟨b43, 0, none⟩) r'.length c7 ∧ τ 11 = .pointer (some ⟨b10, 0, none⟩) ∧ τ 12 = .int .i64 ((i12 : Nat) : Int) ∧ τ 13 = .pointer (some ⟨b38, 0, none⟩) ∧ τ 14 = .slice (some ⟨b43, i12, none⟩) t41.length c47 ∧ τ 24 = .int .i64 ((r'.length : Nat) : Int) ∧ τ 25 = .int .i64 ((i12 : Nat) : Int) ∧ τ 26 = .bool true ∧ τ 34 = .bool j27 ∧ τ 39 = .bool true ∧ τ 51 = .int .i64 ((t41.length : Nat) : Int) ∧ τ 52 = .int .i64 ((i49 : Nat) : Int) ∧ τ 53 = .bool (decide (((i49 : Nat) : Int) < ((t41.length : Nat) : Int)))) ⟨up rfl hs8, up rfl hs9, up rfl hs10, up rfl hs11, up rfl hs12, up rfl hs13, up rfl hs14, up rfl hs24, up rfl hs25, up rfl hs26, up rfl hs34, up rfl hs39, up rfl hs51, up rfl hs52, tp⟩ ?_
        rintro τ ⟨hs8, hs9, hs10, hs11, hs12, hs13, hs14, hs24, hs25, hs26, hs34, hs39, hs51, hs52, hs53⟩
        refine CW.seq ?_
        refine CW.cond (AF_ev rfl hs53) (fun hc53 => ?_) (fun hc53 => ?_)
        · have hF := ct hc53 hF
          have hc53_ := hc53
          try simp only [decide_eq_true_eq] at hc53_
          refine CW.skip ?_
          refine Th.n ?_
          refine CW.seq ?_
          refine CW.block ?_
          refine CW.seq ?_
          refine CW.region ?_
          refine RW.soft Wd.a (v := .int .i64 ((i49 : Nat) : Int)) (by exact E.move (AF_ev rfl hs52)) ?_
          refine RW.soft Wd.a (v := .int .i64 ((i49 : Nat) : Int)) (by exact E.assign (AF_ev rfl tp)) ?_
          refine RW.fin (fun τ => τ 8 = .slice none 0 0 ∧ τ 9 = .pointer (some ⟨b5, 0, none⟩) ∧ τ 10 = .slice (some ⟨b43, 0, none⟩) r'.length c7 ∧ τ 11 = .pointer (some ⟨b10, 0, none⟩) ∧ τ 12 = .int .i64 ((i12 : Nat) : Int) ∧ τ 13 = .pointer (some ⟨b38, 0, none⟩) ∧ τ 14 = .slice (some ⟨b43, i12, none⟩) t41.length c47 ∧ τ 15 = .int .i64 ((i49 : Nat) : Int) ∧ τ 24 = .int .i64 ((r'.length : Nat) : Int) ∧ τ 25 = .int .i64 ((i12 : Nat) : Int) ∧ τ 26 = .bool true ∧ τ 34 = .bool j27 ∧ τ 39 = .bool true ∧ τ 51 = .int .i64 ((t41.length : Nat) : Int) ∧ τ 52 = .int .i64 ((i49 : Nat) : Int) ∧ τ 53 = .bool true) ⟨up rfl (up rfl hs8), up rfl (up rfl hs9), up rfl (up rfl hs10), up rfl (up rfl hs11), up rfl (up rfl hs12), up rfl (up rfl hs13), up rfl (up rfl hs14), tp, up rfl (up rfl hs24), up rfl (up rfl hs25), up rfl (up rfl hs26), up rfl (up rfl hs34), up rfl (up rfl hs39), up rfl (up rfl hs51), up rfl (up rfl hs52), up rfl (up rfl (Eq.trans hs53 (congrArg Value.bool hc53)))⟩ ?_
          rintro τ ⟨hs8, hs9, hs10, hs11, hs12, hs13, hs14, hs15, hs24, hs25, hs26, hs34, hs39, hs51, hs52, hs53⟩
          obtain ⟨hg54, hF⟩ := pl hF
          obtain ⟨hg55, hF⟩ := pl hF
          obtain ⟨u56, h_u56, hF⟩ := lp hF
          obtain ⟨hg57, hF⟩ := pl hF
          obtain ⟨m58, h_m58, hF⟩ := lp hF
          have hl_m58 : m58.length = m50.length := by rw [h_m58, List.length_set]
          refine CW.regionE [3, 6] (fun w => w.cell? ⟨b43, i12 + i49, none⟩ = some (.int .u8 ((m50.getD (i12 + i49) 0#8).toNat : Int)) ∧ w.cell? ⟨b38, i49, none⟩ = some (.int .u8 ((r36.1.getD i49 0#8).toNat : Int))) mixed ?_
          have hst := hst.drew
          generalize w.drew = w at hst ⊢
          have hS : w.cell? ⟨b43, i12 + i49, none⟩ = some (.int .u8 ((m50.getD (i12 + i49) 0#8).toNat : Int)) ∧ w.cell? ⟨b38, i49, none⟩ = some (.int .u8 ((r36.1.getD i49 0#8).toNat : Int)) := ⟨(hst.ocell (.there (.there (.there (.there .here)))) (getF (f := bu8) (d := 0#8) (by omega))), (hst.cellL .here (getF (f := bu8) (d := 0#8) (by rw [hl_q37_0]; omega)))⟩
          refine RE.takeF 0 rfl (by kernel_rfl) Wd.a (v := .slice (some ⟨b43, i12, none⟩) t41.length c47) (fun w => by exact E.move (AF_ev rfl hs14)) ?_
          refine RE.takeF 1 rfl (by kernel_rfl) Wd.a (v := .int .i64 ((i49 : Nat) : Int)) (fun w => by exact E.move (AF_ev rfl (up rfl hs15))) ?_
          refine RE.takeF 2 rfl (by kernel_rfl) Wd.a (v := .pointer (some ⟨b43, i12 + i49, none⟩)) (fun w => by exact E.indexAddr (b := b43) (o := i12) (l := t41.length) (c := c47) (i := ((i49 : Nat) : Int)) Try.underlying25 sz5 (AF_ev rfl (up rfl tp)) (AF_ev rfl tp) (by omega) (by omega) (by omega)) ?_
          refine RE.take 3 rfl (by kernel_rfl) Wd.a (v := .int .u8 ((m50.getD (i12 + i49) 0#8).toNat : Int)) (fun w hS => by exact E.load (a := ⟨b43, i12 + i49, none⟩) Try.underlying5 rfl (AF_ev rfl tp) hS.1) hS ?_
          refine RE.takeF 4 rfl (by kernel_rfl) Wd.a (v := .int .i64 ((i49 : Nat) : Int)) (fun w => by exact E.move (AF_ev rfl (up rfl (up rfl (up rfl (up rfl hs15)))))) ?_
          refine RE.takeF 5 rfl (by kernel_rfl) Wd.a (v := .pointer (some ⟨b38, i49, none⟩)) (fun w => by exact E.indexAddrA (b := b38) (o := 0) (i := ((i49 : Nat) : Int)) Try.underlying119 sz5 (AF_ev rfl (up rfl (up rfl (up rfl (up rfl (up rfl hs13)))))) (AF_ev rfl tp) (by omega) (by omega) (by omega)) ?_
          refine RE.take 6 rfl (by kernel_rfl) Wd.a (v := .int .u8 ((r36.1.getD i49 0#8).toNat : Int)) (fun w hS => by exact E.load (a := ⟨b38, i49, none⟩) Try.underlying5 rfl (AF_ev rfl tp) hS.2) hS ?_
          refine RE.takeF 7 rfl (by kernel_rfl) Wd.a (v := .int .u8 ((u56).toNat : Int)) (fun w => by exact E.v (E.uxor (a := m50.getD (i12 + i49) 0#8) (b := r36.1.getD i49 0#8) UK.u8 (AF_ev rfl (up rfl (up rfl (up rfl tp)))) (AF_ev rfl tp)) (by first | (rw [h_u56]; done) | (rw [h_u56]; rfl))) ?_
          refine RE.takeF 8 rfl (by kernel_rfl) Wd.a (v := .pointer (some ⟨b43, i12 + i49, none⟩)) (fun w => by exact E.indexAddr (b := b43) (o := i12) (l := t41.length) (c := c47) (i := ((i49 : Nat) : Int)) Try.underlying25 sz5 (AF_ev rfl (up rfl (up rfl (up rfl (up rfl (up rfl (up rfl (up rfl tp)))))))) (AF_ev rfl (up rfl (up rfl (up rfl (up rfl (up rfl (up rfl tp))))))) (by omega) (by omega) (by omega)) ?_
          refine RE.only 9 rfl (by kernel_rfl) Wd.a ?_
          refine H.storeOwnL (b := b43) (o := i12 + i49) (k := r'.length) (c := c7) (m := 1) (v := .int .u8 ((u56).toNat : Int)) (ys := [bu8 u56]) (L' := (m58.map bu8)) (AF_ev rfl tp) (AF_ev rfl (up rfl tp)) hst (.there (.there (.there (.there .here)))) (by omega) sz5 rfl rfl (ones1 rfl) (by rw [h_m58]; exact putF (by omega)) fun w hst => ?_
          refine ⟨fun h => Bool.noConfusion ((show needs _ _ _ = false by kernel_rfl).symm.trans h), ?_⟩
          refine RE.done (by kernel_rfl) ?_
          refine Bl.n ?_
          refine Th.n ?_
          refine CW.region ?_
          refine RW.soft Wd.a (v := .int .i64 (((i49 : Nat) : Int) + 1)) (by exact E.add (k := .i64) (a := ((i49 : Nat) : Int)) (b := 1) (AF_ev rfl (u0 (up rfl (up rfl (up rfl (up rfl (up rfl (up rfl (up rfl (up rfl (up rfl hs52))))))))))) rfl (show IntKind.i64.wrap (((i49 : Nat) : Int) + 1) = ((i49 : Nat) : Int) + 1 from (by rw [IntWalk.i64_in _ (by omega)]))) ?_
          refine RW.soft Wd.a (v := .int .i64 (((i49 : Nat) : Int) + 1)) (by exact E.move (AF_ev rfl tp)) ?_
          refine RW.nil ?_
          refine Th.n ?_
          have hst := hst.take (.there (.there (.there (.there .here))))
          have hst := hst.take (.there (.there (.there (.there .here))))
          have hst := hst.take (.there (.there (.there (.there .here))))
          have hst := hst.take (.there (.there (.there (.there .here))))
          exact ⟨k52, Nat.lt_succ_self _, (i49 + 1), m58, (by first | rfl | omega), hF, (int_eq (a := ((i49 : Nat) : Int) + 1) tp (by omega)), up rfl (up rfl (u0 (up rfl (up rfl (up rfl (up rfl (up rfl (up rfl (up rfl (up rfl (up rfl hs8))))))))))), up rfl (up rfl (u0 (up rfl (up rfl (up rfl (up rfl (up rfl (up rfl (up rfl (up rfl (up rfl hs9))))))))))), up rfl (up rfl (u0 (up rfl (up rfl (up rfl (up rfl (up rfl (up rfl (up rfl (up rfl (up rfl hs10))))))))))), up rfl (up rfl (u0 (up rfl (up rfl (up rfl (up rfl (up rfl (up rfl (up rfl (up rfl (up rfl hs11))))))))))), up rfl (up rfl (u0 (up rfl (up rfl (up rfl (up rfl (up rfl (up rfl (up rfl (up rfl (up rfl hs12))))))))))), up rfl (up rfl (u0 (up rfl (up rfl (up rfl (up rfl (up rfl (up rfl (up rfl (up rfl (up rfl hs13))))))))))), up rfl (up rfl (u0 (up rfl (up rfl (up rfl (up rfl (up rfl (up rfl (up rfl (up rfl (up rfl hs14))))))))))), up rfl (up rfl (u0 (up rfl (up rfl (up rfl (up rfl (up rfl (up rfl (up rfl (up rfl (up rfl hs24))))))))))), up rfl (up rfl (u0 (up rfl (up rfl (up rfl (up rfl (up rfl (up rfl (up rfl (up rfl (up rfl hs25))))))))))), up rfl (up rfl (u0 (up rfl (up rfl (up rfl (up rfl (up rfl (up rfl (up rfl (up rfl (up rfl hs26))))))))))), up rfl (up rfl (u0 (up rfl (up rfl (up rfl (up rfl (up rfl (up rfl (up rfl (up rfl (up rfl hs34))))))))))), up rfl (up rfl (u0 (up rfl (up rfl (up rfl (up rfl (up rfl (up rfl (up rfl (up rfl (up rfl hs39))))))))))), up rfl (up rfl (u0 (up rfl (up rfl (up rfl (up rfl (up rfl (up rfl (up rfl (up rfl (up rfl hs51))))))))))), hst⟩
        · have hF := cf hc53 hF
          have hc53_ := hc53
          try simp only [decide_eq_false_iff_not, Int.not_lt, Int.not_le, gt_iff_lt, ge_iff_le] at hc53_
          refine CW.exit ?_
          refine Th.x ?_
          refine Th.x ?_
          refine Bl.x ?_
          refine Bl.n ?_
          refine Th.n ?_
          have hst := hst.take (.there (.there (.there (.there .here))))
          have hst := hst.take (.there (.there (.there (.there .here))))
          have hst := hst.take (.there (.there (.there (.there .here))))
          have hst := hst.take (.there (.there (.there (.there .here))))
          have hst := (hst.take (.there (.there (.there (.there .here))))).drop
          exact ⟨r36.2, j24, j27, true, m50, hl_q37_1, hl_j24, (by first | rfl | omega), hF, hs8, hs9, hs10, hs11, hs12, hs24, hs25, hs26, hs34, hs39, hst⟩
      · have hF := cf hc35 hF
        have hc35_ := hc35
        try simp only [beq_eq_false_iff_ne, ne_eq] at hc35_
        refine CW.skip ?_
        refine Bl.n ?_
        refine Th.n ?_
        have hst := hst.take (.there (.there (.there .here)))
        have hst := hst.take (.there (.there .here))
        have hst := hst.take (.there (.there .here))
        have hst := hst.take (.there (.there (.there .here)))
        exact ⟨m15, j24, j27, false, m14, hl_m15, hl_j24, (by first | rfl | omega), hF, hs8, hs9, hs10, hs11, hs12, hs24, hs25, hs26, hs34, (Eq.trans hs39 (congrArg Value.bool hc35)), hst⟩
    rintro τ w ⟨j19, j20, j21, j22, m23, hl_j19, hl_j20, hl_m23, hF, hs8, hs9, hs10, hs11, hs12, hs24, hs25, hs26, hs34, hs39, hst⟩
    unfold GXor_j2 at hF
    refine CW.region ?_
    refine RW.soft Wd.a (v := .int .i64 (((i12 : Nat) : Int) + 1)) (by exact E.add (k := .i64) (a := ((i12 : Nat) : Int)) (b := 1) (AF_ev rfl hs25) rfl (show IntKind.i64.wrap (((i12 : Nat) : Int) + 1) = ((i12 : Nat) : Int) + 1 from (by rw [IntWalk.i64_in _ (by omega)]))) ?_
    refine RW.soft Wd.a (v := .int .i64 (((i12 : Nat) : Int) + 1)) (by exact E.move (AF_ev rfl tp)) ?_
    refine RW.nil ?_
    refine Th.n ?_
    have hst := hst.take (.there (.there .here))
    have hst := hst.take (.there (.there (.there .here)))
    have hst := hst.take (.there (.there (.there .here)))
    exact ⟨k17, Nat.lt_succ_self _, (i12 + 1), j20, m23, j19, hl_j20, (by first | rfl | omega), hl_j19, hF, (int_eq (a := ((i12 : Nat) : Int) + 1) tp (by omega)), up rfl (up rfl hs8), up rfl (up rfl hs9), up rfl (up rfl hs10), up rfl (up rfl hs11), up rfl (up rfl hs24), hst⟩
  · have hF := cf hc18 hF
    have hc18_ := hc18
    try simp only [decide_eq_false_iff_not, Int.not_lt, Int.not_le, gt_iff_lt, ge_iff_le] at hc18_
    refine CW.exit ?_
    refine Th.x ?_
    refine Th.x ?_
    refine Bl.x ?_
    refine Th.n ?_
    refine CW.seq ?_
    refine CW.region ?_
    refine RW.soft Wd.a (v := .slice X6 r'.length c7) (by exact E.move (AF_ev rfl hs10)) ?_
    refine RW.soft Wd.a (v := .slice X6 r'.length c7) (by exact E.assign (AF_ev rfl tp)) ?_
    refine RW.fin (fun τ => τ 8 = .slice X6 r'.length c7 ∧ τ 9 = .pointer (some ⟨b5, 0, none⟩) ∧ τ 10 = .slice X6 r'.length c7 ∧ τ 11 = .pointer (some ⟨b10, 0, none⟩) ∧ τ 24 = .int .i64 ((r'.length : Nat) : Int) ∧ τ 25 = .int .i64 ((i12 : Nat) : Int) ∧ τ 26 = .bool false) ⟨tp, up rfl (up rfl hs9), up rfl (up rfl hs10), up rfl (up rfl hs11), up rfl (up rfl hs24), up rfl (up rfl hs25), up rfl (up rfl (Eq.trans hs26 (congrArg Value.bool hc18)))⟩ ?_
    rintro τ ⟨hs8, hs9, hs10, hs11, hs24, hs25, hs26⟩
    refine CW.ret ?_
    have hst := hst.take (.there .here)
    have hst := Own.relen hst (b := m14.length) (by omega)
    refine ret1 (v := .slice X6 m14.length c7) rfl (by exact (.tmp (AF_ev rfl (slcN hs8 (b := m14.length) (by omega))) .nil)) ?_
    have hst := hst.take (.there (.there .here))
    have hst := hst.take (.there .here)
    have hst := (hst.take (.there (.there .here))).drop
    have hst := (hst.take (.there (.there .here))).drop
    rw [somE hF]
    exact ⟨X6, c7, rfl, (by (try dsimp only); first | omega | (simp; done) | (simp; omega)), hst⟩

def GTag_l2 (n : List (BitVec 8)) (beside : List (BitVec 8)) (sealed : List (BitVec 8)) (r4 : List (BitVec 8)) (i21 : Nat) (z25 : Int) (rc_GTag_l1 : List (BitVec 8) → Nat → Option (List (BitVec 8))) : Nat → List (BitVec 8) → Nat → Option (List (BitVec 8))
  | 0, _, _ => none
  | k32 + 1, s27, i30 =>
    bif decide (((i30 : Nat) : Int) < 8) then
      lt_ (ishr64 (w64 (8 * z25)) ((56 - (8 * ((i30 : Nat) : Int))).toNat)) fun z34 =>
      if s27.length + 1 ≤ 1000000 then
        lt_ (s27 ++ ([BitVec.ofInt 8 z34] : List (BitVec 8))) fun s37 =>
        GTag_l2 n beside sealed r4 i21 z25 rc_GTag_l1 k32 s37 (i30 + 1)
      else none
    else
      rc_GTag_l1 s27 (i21 + 1)
theorem GTag_l2_pos {n : List (BitVec 8)} {beside : List (BitVec 8)} {sealed : List (BitVec 8)} {r4 : List (BitVec 8)} {i21 : Nat} {z25 : Int} {rc_GTag_l1 : List (BitVec 8) → Nat → Option (List (BitVec 8))} {fu_ : Nat} {s27 : List (BitVec 8)} {i30 : Nat} {r : List (BitVec 8)} (h : GTag_l2 n beside sealed r4 i21 z25 rc_GTag_l1 fu_ s27 i30 = some r) : ∃ j, fu_ = j + 1 := by
  cases fu_ with
  | zero => cases (show (none : Option (List (BitVec 8))) = some r from h)
  | succ j => exact ⟨j, rfl⟩
def GTag_l1 (n : List (BitVec 8)) (beside : List (BitVec 8)) (sealed : List (BitVec 8)) (r4 : List (BitVec 8))  : Nat → List (BitVec 8) → Nat → Option (List (BitVec 8))
  | 0, _, _ => none
  | k23 + 1, s18, i21 =>
    bif decide (((i21 : Nat) : Int) < 2) then
      lt_ (([((beside.length : Nat) : Int), ((sealed.length : Nat) : Int)] : List (Int)).getD i21 (0 : Int)) fun z25 =>
      if -9223372036854775808 ≤ z25 ∧ z25 ≤ 9223372036854775807 then
        GTag_l2 n beside sealed r4 i21 z25 (fun (s18_ : List (BitVec 8)) (i21_ : Nat) => GTag_l1 n beside sealed r4 k23 s18_ i21_) 1099511627776 s18 0
      else none
    else
      (Encr r4 (List.replicate 16 0#8)).bind fun r40 =>
      (Hash r40.1 s18).bind fun r42 =>
      (Counter n (1#32)).bind fun r44 =>
      (Encr r40.2 r44).bind fun r46 =>
      (BXor r42 r46.1).bind fun r48 =>
      some (r48)
theorem GTag_l1_pos {n : List (BitVec 8)} {beside : List (BitVec 8)} {sealed : List (BitVec 8)} {r4 : List (BitVec 8)}  {fu_ : Nat} {s18 : List (BitVec 8)} {i21 : Nat} {r : List (BitVec 8)} (h : GTag_l1 n beside sealed r4 fu_ s18 i21 = some r) : ∃ j, fu_ = j + 1 := by
  cases fu_ with
  | zero => cases (show (none : Option (List (BitVec 8))) = some r from h)
  | succ j => exact ⟨j, rfl⟩
def GTag (k : List (BitVec 8)) (n : List (BitVec 8)) (beside : List (BitVec 8)) (sealed : List (BitVec 8)) : Option (List (BitVec 8)) :=
  (Expand k).bind fun r4 =>
  (Pad beside).bind fun r9 =>
  if r9.length + sealed.length ≤ 1000000 then
    lt_ (r9 ++ sealed) fun s12 =>
    (Pad s12).bind fun r15 =>
    GTag_l1 n beside sealed r4 1099511627776 r15 0
  else none
theorem GTag_C {p : Pers} {w : World} {R : List Assn} {A : Assn} (k : List (BitVec 8)) (hl_k : k.length = 32) (n : List (BitVec 8)) (hl_n : n.length = 12) {X_beside : Option Addr} {c_beside : Nat} (beside : List (BitVec 8)) (hm_beside : beside.length ≤ 1000000) (hS_beside : ∀ w H, St p w (A :: H) → SL.Src w 1 (.slice X_beside beside.length c_beside) beside.length (beside.map bu8)) {X_sealed : Option Addr} {c_sealed : Nat} (sealed : List (BitVec 8)) (hm_sealed : sealed.length ≤ 1000000) (hS_sealed : ∀ w H, St p w (A :: H) → SL.Src w 1 (.slice X_sealed sealed.length c_sealed) sealed.length (sealed.map bu8)) (r : List (BitVec 8)) (hF : GTag k n beside sealed = some r) (hst : St p w (A :: R)) :
    Calls Try.prog 64 #[.agg ((k.map bu8)).toArray, .agg ((n.map bu8)).toArray, .slice X_beside beside.length c_beside, .slice X_sealed sealed.length c_sealed] w fun e w => e = .returned (.agg ((r.map bu8)).toArray) ∧ r.length = 16 ∧ St p w (A :: R) := by
  unfold GTag at hF
  refine enter Try.func64 rfl (by simp) (n := 56) rfl fun τ hτ => ?_
  have hs0 : τ 0 = .agg ((k.map bu8)).toArray := hτ 0 (by simp)
  have hs1 : τ 1 = .agg ((n.map bu8)).toArray := hτ 1 (by simp)
  have hs2 : τ 2 = .slice X_beside beside.length c_beside := hτ 2 (by simp)
  have hs3 : τ 3 = .slice X_sealed sealed.length c_sealed := hτ 3 (by simp)
  clear hτ
  refine CW.seq ?_
  refine CW.region ?_
  refine RW.hard Wd.a ?_
  refine H.box (v := .agg ((k.map bu8)).toArray) (AF_ev rfl hs0) hst fun b1 w hst => ?_
  refine RW.hard Wd.a ?_
  refine H.box (v := .agg ((n.map bu8)).toArray) (AF_ev rfl (up rfl hs1)) hst fun b2 w hst => ?_
  refine RW.hard Wd.a ?_
  refine H.alloc zs119 hst fun b3 w hst => ?_
  refine RW.fin (fun τ => τ 0 = .agg ((k.map bu8)).toArray ∧ τ 1 = .agg ((n.map bu8)).toArray ∧ τ 2 = .slice X_beside beside.length c_beside ∧ τ 3 = .slice X_sealed sealed.length c_sealed ∧ τ 4 = .pointer (some ⟨b1, 0, none⟩) ∧ τ 5 = .pointer (some ⟨b2, 0, none⟩) ∧ τ 8 = .pointer (some ⟨b3, 0, none⟩)) ⟨up rfl (up rfl (up rfl hs0)), up rfl (up rfl (up rfl hs1)), up rfl (up rfl (up rfl hs2)), up rfl (up rfl (up rfl hs3)), up rfl (up rfl tp), up rfl tp, tp⟩ ?_
  rintro τ ⟨hs0, hs1, hs2, hs3, hs4, hs5, hs8⟩
  refine CW.seq ?_
  refine CW.region ?_
  refine RW.soft Wd.a (v := .agg ((k.map bu8)).toArray) (by exact E.loadN (b := b1) (o := 0) (cs := (k.map bu8)) Try.underlying34 rfl sz34 (AF_ev rfl hs4) ((List.length_map _).trans hl_k) (St.cellsOf hst (.there (.there .here)) allF)) ?_
  obtain ⟨r4, h_r4, hF⟩ := bd hF
  refine RW.hard Wd.a ?_
  refine H.call0 Try.func84 nm84 rfl (map1 (AF_ev rfl tp)) (Calls.mono (Expand_C k hl_k r4 h_r4 hst) ?_)
  rintro _ w ⟨rfl, hl_q5_0, hst⟩
  refine ⟨_, rfl, ?_⟩
  show RW _ _ _ _ _ _ _
  refine RW.hard Wd.a ?_
  refine H.alloc zs141 hst fun b6 w hst => ?_
  refine RW.hard Wd.a ?_
  refine H.storeL (b := b6) (o := 0) (m := 240) (v := .agg ((r4.map bu8)).toArray) (ys := (r4.map bu8)) (L' := (r4.map bu8)) (AF_ev rfl tp) (AF_ev rfl (up rfl tp)) hst .here sz141 rfl ((List.length_map _).trans hl_q5_0) (ones_map (fun _ => rfl)) (putW (Eq.trans (show (r4.map bu8).length = 240 from ((List.length_map _).trans hl_q5_0)) (Eq.symm (show ((List.replicate 240 0#8).map bu8).length = 240 from ((List.length_map _).trans (List.length_replicate)))))) fun w hst => ?_
  refine RW.fin (fun τ => τ 0 = .agg ((k.map bu8)).toArray ∧ τ 1 = .agg ((n.map bu8)).toArray ∧ τ 2 = .slice X_beside beside.length c_beside ∧ τ 3 = .slice X_sealed sealed.length c_sealed ∧ τ 4 = .pointer (some ⟨b1, 0, none⟩) ∧ τ 5 = .pointer (some ⟨b2, 0, none⟩) ∧ τ 8 = .pointer (some ⟨b3, 0, none⟩) ∧ τ 9 = .pointer (some ⟨b6, 0, none⟩)) ⟨u0 (up rfl (up rfl (up rfl hs0))), u0 (up rfl (up rfl (up rfl hs1))), u0 (up rfl (up rfl (up rfl hs2))), u0 (up rfl (up rfl (up rfl hs3))), u0 (up rfl (up rfl (up rfl hs4))), u0 (up rfl (up rfl (up rfl hs5))), u0 (up rfl (up rfl (up rfl hs8))), u0 tp⟩ ?_
  rintro τ ⟨hs0, hs1, hs2, hs3, hs4, hs5, hs8, hs9⟩
  refine CW.seq ?_
  refine CW.region ?_
  refine RW.soft Wd.a (v := .slice X_beside beside.length c_beside) (by exact E.move (AF_ev rfl hs2)) ?_
  have hst := hst.take (.there (.there (.there (.there .here))))
  refine RW.hard Wd.a ?_
  refine H.call0 Try.func80 nm80 rfl (map1 (AF_ev rfl tp)) (Calls.mono (clone_bytes (fun w H s => (hS_beside _ _ s)) (ones_map (fun _ => rfl)) (by omega) hst) ?_)
  rintro _ w ⟨vX7, rfl, hnX7, hst⟩
  obtain ⟨X7, c8, rfl, hcX7, hmX7, hlX7, hbX7⟩ := hst.shape
  clear hlX7
  refine ⟨_, rfl, ?_⟩
  show RW _ _ _ _ _ _ _
  obtain ⟨r9, h_r9, hF⟩ := bd hF
  refine RW.hard Wd.a ?_
  refine H.call0 Try.func88 nm88 rfl (map1 (AF_ev rfl tp)) (Calls.mono (Pad_C beside (by first | omega | (simp; done)) r9 h_r9 hst) ?_)
  rintro _ w ⟨Xq10_0, cq10_0, rfl, hm_q10_0, hst⟩
  refine ⟨_, rfl, ?_⟩
  show RW _ _ _ _ _ _ _
  refine RW.soft Wd.a (v := .slice Xq10_0 r9.length cq10_0) (by exact E.assign (AF_ev rfl tp)) ?_
  refine RW.fin (fun τ => τ 0 = .agg ((k.map bu8)).toArray ∧ τ 1 = .agg ((n.map bu8)).toArray ∧ τ 2 = .slice X_beside beside.length c_beside ∧ τ 3 = .slice X_sealed sealed.length c_sealed ∧ τ 4 = .pointer (some ⟨b1, 0, none⟩) ∧ τ 5 = .pointer (some ⟨b2, 0, none⟩) ∧ τ 8 = .pointer (some ⟨b3, 0, none⟩) ∧ τ 9 = .pointer (some ⟨b6, 0, none⟩) ∧ τ 10 = .slice Xq10_0 r9.length cq10_0) ⟨up rfl (up rfl (up rfl (up rfl hs0))), up rfl (up rfl (up rfl (up rfl hs1))), up rfl (up rfl (up rfl (up rfl hs2))), up rfl (up rfl (up rfl (up rfl hs3))), up rfl (up rfl (up rfl (up rfl hs4))), up rfl (up rfl (up rfl (up rfl hs5))), up rfl (up rfl (up rfl (up rfl hs8))), up rfl (up rfl (up rfl (up rfl hs9))), tp⟩ ?_
  rintro τ ⟨hs0, hs1, hs2, hs3, hs4, hs5, hs8, hs9, hs10⟩
  refine CW.seq ?_
  refine CW.region ?_
  refine RW.soft Wd.a (v := .slice Xq10_0 r9.length cq10_0) (by exact E.move (AF_ev rfl hs10)) ?_
  refine RW.soft Wd.a (v := .slice X_sealed sealed.length c_sealed) (by exact E.move (AF_ev rfl (up rfl hs3))) ?_
  obtain ⟨hg11, hF⟩ := pl hF
  obtain ⟨s12, h_s12, hF⟩ := lp hF
  refine RW.hard Wd.a ?_
  refine H.append (m := sealed.length) (news := (sealed.map bu8)) (s0 := .slice Xq10_0 r9.length cq10_0) (x0 := .slice X_sealed sealed.length c_sealed) Try.underlying25 inf5 rfl (AF_ev rfl (up rfl tp)) (AF_ev rfl tp) hst .here (hS_sealed _ _ (hst.take (.there .here))) (ones_map (fun _ => rfl)) (by omega) (by simp only [maxLen]; omega) ?_
  intro vX13 w _ hst
  have hl_s12 : s12.length = r9.length + sealed.length := by rw [h_s12, List.length_append]; first | done | rfl | omega | (simp; done) | (simp; omega)
  rw [show ((r9.map bu8) ++ (sealed.map bu8)) = (s12.map bu8) from by rw [h_s12, List.map_append]; first | done | rfl, ← hl_s12] at hst
  obtain ⟨X13, c14, rfl, hcX13, hmX13, hlX13, hbX13⟩ := hst.shape
  clear hlX13
  obtain ⟨r15, h_r15, hF⟩ := bd hF
  refine RW.hard Wd.a ?_
  refine H.call0 Try.func88 nm88 rfl (map1 (AF_ev rfl tp)) (Calls.mono (Pad_C s12 (by first | omega | (simp; done)) r15 h_r15 hst) ?_)
  rintro _ w ⟨Xq16_0, cq16_0, rfl, hm_q16_0, hst⟩
  refine ⟨_, rfl, ?_⟩
  show RW _ _ _ _ _ _ _
  refine RW.soft Wd.a (v := .slice Xq16_0 r15.length cq16_0) (by exact E.assign (AF_ev rfl tp)) ?_
  refine RW.fin (fun τ => τ 0 = .agg ((k.map bu8)).toArray ∧ τ 1 = .agg ((n.map bu8)).toArray ∧ τ 2 = .slice X_beside beside.length c_beside ∧ τ 3 = .slice X_sealed sealed.length c_sealed ∧ τ 4 = .pointer (some ⟨b1, 0, none⟩) ∧ τ 5 = .pointer (some ⟨b2, 0, none⟩) ∧ τ 8 = .pointer (some ⟨b3, 0, none⟩) ∧ τ 9 = .pointer (some ⟨b6, 0, none⟩) ∧ τ 10 = .slice Xq16_0 r15.length cq16_0) ⟨up rfl (up rfl (up rfl (up rfl (up rfl hs0)))), up rfl (up rfl (up rfl (up rfl (up rfl hs1)))), up rfl (up rfl (up rfl (up rfl (up rfl hs2)))), up rfl (up rfl (up rfl (up rfl (up rfl hs3)))), up rfl (up rfl (up rfl (up rfl (up rfl hs4)))), up rfl (up rfl (up rfl (up rfl (up rfl hs5)))), up rfl (up rfl (up rfl (up rfl (up rfl hs8)))), up rfl (up rfl (up rfl (up rfl (up rfl hs9)))), tp⟩ ?_
  rintro τ ⟨hs0, hs1, hs2, hs3, hs4, hs5, hs8, hs9, hs10⟩
  refine CW.seq ?_
  refine CW.seq ?_
  refine CW.region ?_
  refine RW.soft Wd.a (v := .slice X_beside beside.length c_beside) (by exact E.move (AF_ev rfl hs2)) ?_
  refine RW.soft Wd.a (v := .int .i64 ((beside.length : Nat) : Int)) (by exact E.lenS (p := X_beside) (l := beside.length) (c := c_beside) Try.underlying25 (AF_ev rfl tp)) ?_
  refine RW.soft Wd.a (v := .slice X_sealed sealed.length c_sealed) (by exact E.move (AF_ev rfl (up rfl (up rfl hs3)))) ?_
  refine RW.soft Wd.a (v := .int .i64 ((sealed.length : Nat) : Int)) (by exact E.lenS (p := X_sealed) (l := sealed.length) (c := c_sealed) Try.underlying25 (AF_ev rfl tp)) ?_
  refine RW.hard Wd.a ?_
  refine H.buildSlice (e := 3) (cs := ((([((beside.length : Nat) : Int), ((sealed.length : Nat) : Int)] : List (Int)).map bi64)).toArray) (vs := #[(0, .int .i64 ((beside.length : Nat) : Int)), (1, .int .i64 ((sealed.length : Nat) : Int))]) (bld2 (AF_ev rfl (up rfl (up rfl tp))) (AF_ev rfl tp)) (fun _ => by kernel_rfl) hst fun b17 w hst => ?_
  refine RW.soft Wd.a (v := .int .i64 2) (by exact E.lenS (p := (some ⟨b17, 0, none⟩)) (l := 2) (c := 2) Try.underlying131 (AF_ev rfl tp)) ?_
  refine RW.soft Wd.a (v := .int .i64 0) (by exact E.move rfl) ?_
  refine RW.fin (fun τ => τ 0 = .agg ((k.map bu8)).toArray ∧ τ 1 = .agg ((n.map bu8)).toArray ∧ τ 2 = .slice X_beside beside.length c_beside ∧ τ 3 = .slice X_sealed sealed.length c_sealed ∧ τ 4 = .pointer (some ⟨b1, 0, none⟩) ∧ τ 5 = .pointer (some ⟨b2, 0, none⟩) ∧ τ 8 = .pointer (some ⟨b3, 0, none⟩) ∧ τ 9 = .pointer (some ⟨b6, 0, none⟩) ∧ τ 10 = .slice Xq16_0 r15.length cq16_0 ∧ τ 27 = .slice (some ⟨b17, 0, none⟩) 2 2 ∧ τ 28 = .int .i64 2 ∧ τ 29 = .int .i64 0) ⟨up rfl (up rfl (up rfl (up rfl (up rfl (up rfl (up rfl hs0)))))), up rfl (up rfl (up rfl (up rfl (up rfl (up rfl (up rfl hs1)))))), up rfl (up rfl (up rfl (up rfl (up rfl (up rfl (up rfl hs2)))))), up rfl (up rfl (up rfl (up rfl (up rfl (up rfl (up rfl hs3)))))), up rfl (up rfl (up rfl (up rfl (up rfl (up rfl (up rfl hs4)))))), up rfl (up rfl (up rfl (up rfl (up rfl (up rfl (up rfl hs5)))))), up rfl (up rfl (up rfl (up rfl (up rfl (up rfl (up rfl hs8)))))), up rfl (up rfl (up rfl (up rfl (up rfl (up rfl (up rfl hs9)))))), up rfl (up rfl (up rfl (up rfl (up rfl (up rfl (up rfl hs10)))))), up rfl (up rfl tp), up rfl tp, tp⟩ ?_
  rintro τ ⟨hs0, hs1, hs2, hs3, hs4, hs5, hs8, hs9, hs10, hs27, hs28, hs29⟩
  refine CW.block ?_
  refine CW.loop (fun (k22 : Nat) (τ : Fr) (w : World) => ∃ (s18 : List (BitVec 8)) (X19 : Option Addr) (c20 : Nat) (i21 : Nat), s18.length ≤ 1000000 ∧ GTag_l1 n beside sealed r4 k22 s18 i21 = some r ∧ τ 10 = .slice X19 s18.length c20 ∧ τ 29 = .int .i64 ((i21 : Nat) : Int) ∧ τ 5 = .pointer (some ⟨b2, 0, none⟩) ∧ τ 8 = .pointer (some ⟨b3, 0, none⟩) ∧ τ 9 = .pointer (some ⟨b6, 0, none⟩) ∧ τ 27 = .slice (some ⟨b17, 0, none⟩) 2 2 ∧ τ 28 = .int .i64 2 ∧ St p w (SL.Own 5 1 (.slice X19 s18.length c20) s18.length (s18.map bu8) :: pt b17 (.cells ((([((beside.length : Nat) : Int), ((sealed.length : Nat) : Int)] : List (Int)).map bi64)).toArray 3) :: A :: pt b6 (.cells ((r4.map bu8)).toArray 141) :: pt b3 (.cells (((List.replicate 16 0#8).map bu8)).toArray 119) :: pt b2 (.cells ((n.map bu8)).toArray 24) :: R)) 1099511627776 ?_ ?_
  · skip
    have hst := hst.take (.there (.there (.there (.there (.there .here)))))
    have hst := hst.take (.there (.there (.there (.there (.there .here)))))
    have hst := hst.take (.there (.there (.there (.there (.there .here)))))
    have hst := hst.take (.there (.there (.there (.there (.there .here)))))
    have hst := hst.take (.there (.there (.there (.there .here))))
    have hst := hst.take (.there (.there (.there (.there (.there .here)))))
    have hst := (hst.take (.there (.there (.there (.there (.there (.there .here))))))).drop
    exact ⟨r15, Xq16_0, cq16_0, 0, (by first | omega | (simp; done) | (simp; omega)), hF, hs10, (int_eq (a := 0) hs29 (by omega)), hs5, hs8, hs9, hs27, hs28, hst⟩
  clear hst hF
  rintro k22 τ w ⟨s18, X19, c20, i21, hm_s18, hF, hs10, hs29, hs5, hs8, hs9, hs27, hs28, hst⟩
  obtain ⟨k23, rfl⟩ := GTag_l1_pos hF
  rw [GTag_l1] at hF
  refine CW.seq ?_
  refine CW.region ?_
  refine RW.soft Wd.a (v := .bool (decide (((i21 : Nat) : Int) < 2))) (by exact E.lss (k := .i64) (a := ((i21 : Nat) : Int)) (b := 2) (AF_ev rfl hs29) (AF_ev rfl hs28)) ?_
  refine RW.fin (fun τ => τ 5 = .pointer (some ⟨b2, 0, none⟩) ∧ τ 8 = .pointer (some ⟨b3, 0, none⟩) ∧ τ 9 = .pointer (some ⟨b6, 0, none⟩) ∧ τ 10 = .slice X19 s18.length c20 ∧ τ 27 = .slice (some ⟨b17, 0, none⟩) 2 2 ∧ τ 28 = .int .i64 2 ∧ τ 29 = .int .i64 ((i21 : Nat) : Int) ∧ τ 30 = .bool (decide (((i21 : Nat) : Int) < 2))) ⟨up rfl hs5, up rfl hs8, up rfl hs9, up rfl hs10, up rfl hs27, up rfl hs28, up rfl hs29, tp⟩ ?_
  rintro τ ⟨hs5, hs8, hs9, hs10, hs27, hs28, hs29, hs30⟩
  refine CW.seq ?_
  refine CW.cond (AF_ev rfl hs30) (fun hc24 => ?_) (fun hc24 => ?_)
  · have hF := ct hc24 hF
    have hc24_ := hc24
    try simp only [decide_eq_true_eq] at hc24_
    refine CW.skip ?_
    refine Th.n ?_
    refine CW.seq ?_
    refine CW.block ?_
    refine CW.seq ?_
    refine CW.region ?_
    refine RW.soft Wd.a (v := .pointer (some ⟨b17, i21, none⟩)) (by exact E.indexAddr (b := b17) (o := 0) (l := 2) (c := 2) (i := ((i21 : Nat) : Int)) Try.underlying131 sz3 (AF_ev rfl hs27) (AF_ev rfl hs29) (by omega) (by omega) (by omega)) ?_
    obtain ⟨z25, h_z25, hF⟩ := lp hF
    obtain ⟨hg26, hF⟩ := pl hF
    refine RW.soft Wd.a (v := .int .i64 z25) (by exact E.v (E.load (a := ⟨b17, i21, none⟩) Try.underlying3 rfl (AF_ev rfl tp) (hst.cellL (.there .here) (getF (f := bi64) (d := (0 : Int)) (by rw [(show ([((beside.length : Nat) : Int), ((sealed.length : Nat) : Int)] : List (Int)).length = 2 from rfl)]; omega)))) (by rw [h_z25])) ?_
    refine RW.soft Wd.a (v := .int .i64 z25) (by exact E.assign (AF_ev rfl tp)) ?_
    refine RW.fin (fun τ => τ 5 = .pointer (some ⟨b2, 0, none⟩) ∧ τ 8 = .pointer (some ⟨b3, 0, none⟩) ∧ τ 9 = .pointer (some ⟨b6, 0, none⟩) ∧ τ 10 = .slice X19 s18.length c20 ∧ τ 12 = .int .i64 z25 ∧ τ 27 = .slice (some ⟨b17, 0, none⟩) 2 2 ∧ τ 28 = .int .i64 2 ∧ τ 29 = .int .i64 ((i21 : Nat) : Int) ∧ τ 30 = .bool true) ⟨up rfl (up rfl (up rfl hs5)), up rfl (up rfl (up rfl hs8)), up rfl (up rfl (up rfl hs9)), up rfl (up rfl (up rfl hs10)), tp, up rfl (up rfl (up rfl hs27)), up rfl (up rfl (up rfl hs28)), up rfl (up rfl (up rfl hs29)), up rfl (up rfl (up rfl (Eq.trans hs30 (congrArg Value.bool hc24))))⟩ ?_
    rintro τ ⟨hs5, hs8, hs9, hs10, hs12, hs27, hs28, hs29, hs30⟩
    refine CW.seq ?_
    refine CW.region ?_
    refine RW.soft Wd.a (v := .int .i64 0) (by exact E.move rfl) ?_
    refine RW.fin (fun τ => τ 5 = .pointer (some ⟨b2, 0, none⟩) ∧ τ 8 = .pointer (some ⟨b3, 0, none⟩) ∧ τ 9 = .pointer (some ⟨b6, 0, none⟩) ∧ τ 10 = .slice X19 s18.length c20 ∧ τ 12 = .int .i64 z25 ∧ τ 27 = .slice (some ⟨b17, 0, none⟩) 2 2 ∧ τ 28 = .int .i64 2 ∧ τ 29 = .int .i64 ((i21 : Nat) : Int) ∧ τ 30 = .bool true ∧ τ 33 = .int .i64 0) ⟨up rfl hs5, up rfl hs8, up rfl hs9, up rfl hs10, up rfl hs12, up rfl hs27, up rfl hs28, up rfl hs29, up rfl hs30, tp⟩ ?_
    rintro τ ⟨hs5, hs8, hs9, hs10, hs12, hs27, hs28, hs29, hs30, hs33⟩
    refine CW.block ?_
    refine CW.loop (fun (k31 : Nat) (τ : Fr) (w : World) => ∃ (s27 : List (BitVec 8)) (X28 : Option Addr) (c29 : Nat) (i30 : Nat), s27.length ≤ 1000000 ∧ GTag_l2 n beside sealed r4 i21 z25 (fun (s18_ : List (BitVec 8)) (i21_ : Nat) => GTag_l1 n beside sealed r4 k23 s18_ i21_) k31 s27 i30 = some r ∧ τ 10 = .slice X28 s27.length c29 ∧ τ 33 = .int .i64 ((i30 : Nat) : Int) ∧ τ 5 = .pointer (some ⟨b2, 0, none⟩) ∧ τ 8 = .pointer (some ⟨b3, 0, none⟩) ∧ τ 9 = .pointer (some ⟨b6, 0, none⟩) ∧ τ 12 = .int .i64 z25 ∧ τ 27 = .slice (some ⟨b17, 0, none⟩) 2 2 ∧ τ 28 = .int .i64 2 ∧ τ 29 = .int .i64 ((i21 : Nat) : Int) ∧ τ 30 = .bool true ∧ St p w (SL.Own 5 1 (.slice X28 s27.length c29) s27.length (s27.map bu8) :: pt b17 (.cells ((([((beside.length : Nat) : Int), ((sealed.length : Nat) : Int)] : List (Int)).map bi64)).toArray 3) :: A :: pt b6 (.cells ((r4.map bu8)).toArray 141) :: pt b3 (.cells (((List.replicate 16 0#8).map bu8)).toArray 119) :: pt b2 (.cells ((n.map bu8)).toArray 24) :: R)) 1099511627776 ?_ ?_
    · skip
      have hst := hst.take (.there (.there (.there (.there (.there .here)))))
      have hst := hst.take (.there (.there (.there (.there (.there .here)))))
      have hst := hst.take (.there (.there (.there (.there (.there .here)))))
      have hst := hst.take (.there (.there (.there (.there (.there .here)))))
      have hst := hst.take (.there (.there (.there (.there (.there .here)))))
      have hst := hst.take (.there (.there (.there (.there (.there .here)))))
      exact ⟨s18, X19, c20, 0, (by first | omega | (simp; done) | (simp; omega)), hF, hs10, (int_eq (a := 0) hs33 (by omega)), hs5, hs8, hs9, hs12, hs27, hs28, hs29, hs30, hst⟩
    clear hst hF
    rintro k31 τ w ⟨s27, X28, c29, i30, hm_s27, hF, hs10, hs33, hs5, hs8, hs9, hs12, hs27, hs28, hs29, hs30, hst⟩
    obtain ⟨k32, rfl⟩ := GTag_l2_pos hF
    rw [GTag_l2] at hF
    refine CW.seq ?_
    refine CW.region ?_
    refine RW.soft Wd.a (v := .bool (decide (((i30 : Nat) : Int) < 8))) (by exact E.lss (k := .i64) (a := ((i30 : Nat) : Int)) (b := 8) (AF_ev rfl hs33) rfl) ?_
    refine RW.fin (fun τ => τ 5 = .pointer (some ⟨b2, 0, none⟩) ∧ τ 8 = .pointer (some ⟨b3, 0, none⟩) ∧ τ 9 = .pointer (some ⟨b6, 0, none⟩) ∧ τ 10 = .slice X28 s27.length c29 ∧ τ 12 = .int .i64 z25 ∧ τ 27 = .slice (some ⟨b17, 0, none⟩) 2 2 ∧ τ 28 = .int .i64 2 ∧ τ 29 = .int .i64 ((i21 : Nat) : Int) ∧ τ 30 = .bool true ∧ τ 33 = .int .i64 ((i30 : Nat) : Int) ∧ τ 34 = .bool (decide (((i30 : Nat) : Int) < 8))) ⟨up rfl hs5, up rfl hs8, up rfl hs9, up rfl hs10, up rfl hs12, up rfl hs27, up rfl hs28, up rfl hs29, up rfl hs30, up rfl hs33, tp⟩ ?_
    rintro τ ⟨hs5, hs8, hs9, hs10, hs12, hs27, hs28, hs29, hs30, hs33, hs34⟩
    refine CW.seq ?_
    refine CW.cond (AF_ev rfl hs34) (fun hc33 => ?_) (fun hc33 => ?_)
    · have hF := ct hc33 hF
      have hc33_ := hc33
      try simp only [decide_eq_true_eq] at hc33_
      refine CW.skip ?_
      refine Th.n ?_
      refine CW.seq ?_
      refine CW.block ?_
      refine CW.seq ?_
      refine CW.region ?_
      refine RW.soft Wd.a (v := .int .i64 ((i30 : Nat) : Int)) (by exact E.move (AF_ev rfl hs33)) ?_
      refine RW.soft Wd.a (v := .int .i64 ((i30 : Nat) : Int)) (by exact E.assign (AF_ev rfl tp)) ?_
      refine RW.fin (fun τ => τ 5 = .pointer (some ⟨b2, 0, none⟩) ∧ τ 8 = .pointer (some ⟨b3, 0, none⟩) ∧ τ 9 = .pointer (some ⟨b6, 0, none⟩) ∧ τ 10 = .slice X28 s27.length c29 ∧ τ 12 = .int .i64 z25 ∧ τ 13 = .int .i64 ((i30 : Nat) : Int) ∧ τ 27 = .slice (some ⟨b17, 0, none⟩) 2 2 ∧ τ 28 = .int .i64 2 ∧ τ 29 = .int .i64 ((i21 : Nat) : Int) ∧ τ 30 = .bool true ∧ τ 33 = .int .i64 ((i30 : Nat) : Int) ∧ τ 34 = .bool true) ⟨up rfl (up rfl hs5), up rfl (up rfl hs8), up rfl (up rfl hs9), up rfl (up rfl hs10), up rfl (up rfl hs12), tp, up rfl (up rfl hs27), up rfl (up rfl hs28), up rfl (up rfl hs29), up rfl (up rfl hs30), up rfl (up rfl hs33), up rfl (up rfl (Eq.trans hs34 (congrArg Value.bool hc33)))⟩ ?_
      rintro τ ⟨hs5, hs8, hs9, hs10, hs12, hs13, hs27, hs28, hs29, hs30, hs33, hs34⟩
      refine CW.region ?_
      refine RW.soft Wd.a (v := .slice X28 s27.length c29) (by exact E.move (AF_ev rfl hs10)) ?_
      refine RW.soft Wd.a (v := .int .i64 z25) (by exact E.move (AF_ev rfl (up rfl hs12))) ?_
      refine RW.soft Wd.a (v := .int .i64 (w64 (8 * z25))) (by exact E.mul (k := .i64) (a := 8) (b := z25) rfl (AF_ev rfl tp) rfl) ?_
      refine RW.soft Wd.a (v := .int .i64 ((i30 : Nat) : Int)) (by exact E.move (AF_ev rfl (up rfl (up rfl (up rfl hs13))))) ?_
      refine RW.soft Wd.a (v := .int .i64 (8 * ((i30 : Nat) : Int))) (by exact E.mul (k := .i64) (a := 8) (b := ((i30 : Nat) : Int)) rfl (AF_ev rfl tp) (show IntKind.i64.wrap (8 * ((i30 : Nat) : Int)) = 8 * ((i30 : Nat) : Int) from (by rw [IntWalk.i64_in _ (by omega)]))) ?_
      refine RW.soft Wd.a (v := .int .i64 (56 - (8 * ((i30 : Nat) : Int)))) (by exact E.sub (k := .i64) (a := 56) (b := 8 * ((i30 : Nat) : Int)) rfl (AF_ev rfl tp) (show IntKind.i64.wrap (56 - (8 * ((i30 : Nat) : Int))) = 56 - (8 * ((i30 : Nat) : Int)) from (by rw [IntWalk.i64_in _ (by omega)]))) ?_
      obtain ⟨z34, h_z34, hF⟩ := lp hF
      have hr_z34 : -9223372036854775808 ≤ z34 ∧ z34 ≤ 9223372036854775807 := by rw [h_z34]; exact (ishr64_rng _ (w64_rng _))
      refine RW.soft Wd.a (v := .int .i64 z34) (by exact E.v (E.ishr (i := w64 (8 * z25)) (d := (56 - (8 * ((i30 : Nat) : Int))).toNat) (AF_ev rfl (up rfl (up rfl (up rfl tp)))) (AF_ev rfl tp) (by omega)) (by first | (rw [h_z34]; done) | (rw [h_z34]; rfl))) ?_
      refine RW.soft Wd.a (v := .int .u8 ((BitVec.ofInt 8 z34).toNat : Int)) (by exact E.cvIU (z := z34) (by rw [Try.underlying3]; rfl) Try.underlying5 UK.u8 (AF_ev rfl tp)) ?_
      refine RW.hard Wd.a ?_
      refine H.buildSlice (e := 5) (cs := ((([BitVec.ofInt 8 z34] : List (BitVec 8)).map bu8)).toArray) (vs := #[(0, .int .u8 ((BitVec.ofInt 8 z34).toNat : Int))]) (bld1 (AF_ev rfl tp)) (fun _ => by kernel_rfl) hst fun b35 w hst => ?_
      obtain ⟨hg36, hF⟩ := pl hF
      obtain ⟨s37, h_s37, hF⟩ := lp hF
      refine RW.hard Wd.a ?_
      refine H.append (m := 1) (news := (([BitVec.ofInt 8 z34] : List (BitVec 8)).map bu8)) (s0 := .slice X28 s27.length c29) (x0 := .slice (some ⟨b35, 0, none⟩) 1 1) Try.underlying25 inf5 rfl (AF_ev rfl (up rfl (up rfl (up rfl (up rfl (up rfl (up rfl (up rfl (up rfl tp))))))))) (AF_ev rfl tp) hst (.there .here) (Src.ofL (hst.take .here) ((List.length_map _).trans (show ([BitVec.ofInt 8 z34] : List (BitVec 8)).length = 1 from rfl)) (by first | omega | (simp; done)) allF) (ones_map (fun _ => rfl)) (by omega) (by simp only [maxLen]; omega) ?_
      intro vX38 w _ hst
      have hl_s37 : s37.length = s27.length + 1 := by rw [h_s37, List.length_append]; first | done | rfl | omega | (simp; done) | (simp; omega)
      rw [show ((s27.map bu8) ++ (([BitVec.ofInt 8 z34] : List (BitVec 8)).map bu8)) = (s37.map bu8) from by rw [h_s37, List.map_append]; first | done | rfl, ← hl_s37] at hst
      obtain ⟨X38, c39, rfl, hcX38, hmX38, hlX38, hbX38⟩ := hst.shape
      clear hlX38
      refine RW.soft Wd.a (v := .slice X38 s37.length c39) (by exact E.assign (AF_ev rfl tp)) ?_
      refine RW.nil ?_
      refine Bl.n ?_
      refine Th.n ?_
      refine CW.region ?_
      refine RW.soft Wd.a (v := .int .i64 (((i30 : Nat) : Int) + 1)) (by exact E.add (k := .i64) (a := ((i30 : Nat) : Int)) (b := 1) (AF_ev rfl (up rfl (up rfl (up rfl (up rfl (up rfl (up rfl (up rfl (up rfl (up rfl (up rfl (up rfl hs33)))))))))))) rfl (show IntKind.i64.wrap (((i30 : Nat) : Int) + 1) = ((i30 : Nat) : Int) + 1 from (by rw [IntWalk.i64_in _ (by omega)]))) ?_
      refine RW.soft Wd.a (v := .int .i64 (((i30 : Nat) : Int) + 1)) (by exact E.move (AF_ev rfl tp)) ?_
      refine RW.nil ?_
      refine Th.n ?_
      have hst := hst.take (.there (.there (.there (.there (.there (.there .here))))))
      have hst := hst.take (.there (.there (.there (.there (.there (.there .here))))))
      have hst := hst.take (.there (.there (.there (.there (.there (.there .here))))))
      have hst := hst.take (.there (.there (.there (.there (.there (.there .here))))))
      have hst := hst.take (.there (.there (.there (.there (.there (.there .here))))))
      have hst := hst.take (.there (.there (.there (.there (.there .here)))))
      have hst := (hst.take (.there (.there (.there (.there (.there (.there .here))))))).drop
      exact ⟨k32, Nat.lt_succ_self _, s37, X38, c39, (i30 + 1), (by first | omega | (simp; done) | (simp; omega)), hF, up rfl (up rfl tp), (int_eq (a := ((i30 : Nat) : Int) + 1) tp (by omega)), up rfl (up rfl (up rfl (up rfl (up rfl (up rfl (up rfl (up rfl (up rfl (up rfl (up rfl (up rfl (up rfl hs5)))))))))))), up rfl (up rfl (up rfl (up rfl (up rfl (up rfl (up rfl (up rfl (up rfl (up rfl (up rfl (up rfl (up rfl hs8)))))))))))), up rfl (up rfl (up rfl (up rfl (up rfl (up rfl (up rfl (up rfl (up rfl (up rfl (up rfl (up rfl (up rfl hs9)))))))))))), up rfl (up rfl (up rfl (up rfl (up rfl (up rfl (up rfl (up rfl (up rfl (up rfl (up rfl (up rfl (up rfl hs12)))))))))))), up rfl (up rfl (up rfl (up rfl (up rfl (up rfl (up rfl (up rfl (up rfl (up rfl (up rfl (up rfl (up rfl hs27)))))))))))), up rfl (up rfl (up rfl (up rfl (up rfl (up rfl (up rfl (up rfl (up rfl (up rfl (up rfl (up rfl (up rfl hs28)))))))))))), up rfl (up rfl (up rfl (up rfl (up rfl (up rfl (up rfl (up rfl (up rfl (up rfl (up rfl (up rfl (up rfl hs29)))))))))))), up rfl (up rfl (up rfl (up rfl (up rfl (up rfl (up rfl (up rfl (up rfl (up rfl (up rfl (up rfl (up rfl hs30)))))))))))), hst⟩
    · have hF := cf hc33 hF
      have hc33_ := hc33
      try simp only [decide_eq_false_iff_not, Int.not_lt, Int.not_le, gt_iff_lt, ge_iff_le] at hc33_
      refine CW.exit ?_
      refine Th.x ?_
      refine Th.x ?_
      refine Bl.x ?_
      refine Bl.n ?_
      refine Th.n ?_
      refine CW.region ?_
      refine RW.soft Wd.a (v := .int .i64 (((i21 : Nat) : Int) + 1)) (by exact E.add (k := .i64) (a := ((i21 : Nat) : Int)) (b := 1) (AF_ev rfl hs29) rfl (show IntKind.i64.wrap (((i21 : Nat) : Int) + 1) = ((i21 : Nat) : Int) + 1 from (by rw [IntWalk.i64_in _ (by omega)]))) ?_
      refine RW.soft Wd.a (v := .int .i64 (((i21 : Nat) : Int) + 1)) (by exact E.move (AF_ev rfl tp)) ?_
      refine RW.nil ?_
      refine Th.n ?_
      have hst := hst.take (.there (.there (.there (.there (.there .here)))))
      have hst := hst.take (.there (.there (.there (.there (.there .here)))))
      have hst := hst.take (.there (.there (.there (.there (.there .here)))))
      have hst := hst.take (.there (.there (.there (.there (.there .here)))))
      have hst := hst.take (.there (.there (.there (.there (.there .here)))))
      have hst := hst.take (.there (.there (.there (.there (.there .here)))))
      exact ⟨k23, Nat.lt_succ_self _, s27, X28, c29, (i21 + 1), (by first | omega | (simp; done) | (simp; omega)), hF, up rfl (up rfl hs10), (int_eq (a := ((i21 : Nat) : Int) + 1) tp (by omega)), up rfl (up rfl hs5), up rfl (up rfl hs8), up rfl (up rfl hs9), up rfl (up rfl hs27), up rfl (up rfl hs28), hst⟩
  · have hF := cf hc24 hF
    have hc24_ := hc24
    try simp only [decide_eq_false_iff_not, Int.not_lt, Int.not_le, gt_iff_lt, ge_iff_le] at hc24_
    refine CW.exit ?_
    refine Th.x ?_
    refine Th.x ?_
    refine Bl.x ?_
    refine Th.n ?_
    refine CW.seq ?_
    obtain ⟨r40, h_r40, hF⟩ := bd hF
    obtain ⟨r42, h_r42, hF⟩ := bd hF
    obtain ⟨r44, h_r44, hF⟩ := bd hF
    obtain ⟨r46, h_r46, hF⟩ := bd hF
    obtain ⟨r48, h_r48, hF⟩ := bd hF
    refine CW.regionE [4] (fun w => (∀ j_ v_, ((n.map bu8) : List Value)[j_]? = some v_ → w.cell? ⟨b2, 0 + j_, none⟩ = some v_)) mixed ?_
    have hst := hst.drew
    generalize w.drew = w at hst ⊢
    have hS : (∀ j_ v_, ((n.map bu8) : List Value)[j_]? = some v_ → w.cell? ⟨b2, 0 + j_, none⟩ = some v_) := (St.cellsOf hst (.there (.there (.there (.there (.there .here))))) allF)
    refine RE.takeF 0 rfl (by kernel_rfl) Wd.a (v := .agg (((List.replicate 16 0#8).map bu8)).toArray) (fun w => by exact E.build (vs := #[]) (by simp) (by kernel_rfl)) ?_
    refine RE.takeF 2 rfl (by kernel_rfl) Wd.a (v := .slice X19 s18.length c20) (fun w => by exact E.move (AF_ev rfl (up rfl hs10))) ?_
    refine RE.take 4 rfl (by kernel_rfl) Wd.a (v := .agg ((n.map bu8)).toArray) (fun w hS => by exact E.loadN (b := b2) (o := 0) (cs := (n.map bu8)) Try.underlying24 rfl sz24 (AF_ev rfl (up rfl (up rfl hs5))) ((List.length_map _).trans hl_n) hS) hS ?_
    refine RE.only 1 rfl (by kernel_rfl) Wd.a ?_
    have hst := hst.take (.there (.there (.there .here)))
    refine H.call0 Try.func87 nm87 rfl (map2 (AF_ev rfl (up rfl (up rfl (up rfl hs9)))) (AF_ev rfl (up rfl (up rfl tp)))) (Calls.mono (Encr_C r4 hl_q5_0 (List.replicate 16 0#8) (List.length_replicate) r40 h_r40 hst) ?_)
    rintro _ w ⟨rfl, hl_q55_0, hl_q55_1, hst⟩
    refine ⟨_, rfl, ?_⟩
    have hS : (∀ j_ v_, ((n.map bu8) : List Value)[j_]? = some v_ → w.cell? ⟨b2, 0 + j_, none⟩ = some v_) := (St.cellsOf hst (.there (.there (.there (.there (.there .here))))) allF)
    refine ⟨fun _ _ => hS, ?_⟩
    refine RE.only 3 rfl (by kernel_rfl) Wd.a ?_
    have hst := hst.take (.there .here)
    refine H.call0 Try.func90 nm90 rfl (map2 (AF_ev rfl tp) (AF_ev rfl (up rfl (up rfl tp)))) (Calls.mono (Hash_C (A := SL.Own 5 1 (.slice X19 s18.length c20) s18.length (s18.map bu8)) r40.1 hl_q55_0 s18 (by first | omega | (simp; done)) (fun w H s => (Own.src s)) r42 h_r42 hst) ?_)
    rintro _ w ⟨rfl, hl_q56_0, hst⟩
    refine ⟨_, rfl, ?_⟩
    have hS : (∀ j_ v_, ((n.map bu8) : List Value)[j_]? = some v_ → w.cell? ⟨b2, 0 + j_, none⟩ = some v_) := (St.cellsOf hst (.there (.there (.there (.there (.there .here))))) allF)
    refine ⟨fun _ _ => hS, ?_⟩
    refine RE.only 5 rfl (by kernel_rfl) Wd.a ?_
    refine H.call0 Try.func85 nm85 rfl (map2 (AF_ev rfl (up rfl (up rfl tp))) rfl) (Calls.mono (Counter_C n hl_n (1#32) r44 h_r44 hst) ?_)
    rintro _ w ⟨rfl, hl_q57_0, hst⟩
    refine ⟨_, rfl, ?_⟩
    refine ⟨fun h => Bool.noConfusion ((show needs _ _ _ = false by kernel_rfl).symm.trans h), ?_⟩
    refine RE.only 6 rfl (by kernel_rfl) Wd.a ?_
    have hst := hst.take (.there .here)
    refine H.call0 Try.func87 nm87 rfl (map2 (AF_ev rfl (up rfl (up rfl (up rfl (up rfl (up rfl (up rfl hs9))))))) (AF_ev rfl tp)) (Calls.mono (Encr_C r40.2 hl_q55_1 r44 hl_q57_0 r46 h_r46 hst) ?_)
    rintro _ w ⟨rfl, hl_q58_0, hl_q58_1, hst⟩
    refine ⟨_, rfl, ?_⟩
    have hS : (∀ j_ v_, ((n.map bu8) : List Value)[j_]? = some v_ → w.cell? ⟨b2, 0 + j_, none⟩ = some v_) := (St.cellsOf hst (.there (.there (.there (.there (.there .here))))) allF)
    refine ⟨fun _ _ => hS, ?_⟩
    refine RE.only 7 rfl (by kernel_rfl) Wd.a ?_
    refine H.call0 Try.func89 nm89 rfl (map2 (AF_ev rfl (up rfl (up rfl tp))) (AF_ev rfl tp)) (Calls.mono (BXor_C r42 hl_q56_0 r46.1 hl_q58_0 r48 h_r48 hst) ?_)
    rintro _ w ⟨rfl, hl_q59_0, hst⟩
    refine ⟨_, rfl, ?_⟩
    have hS : (∀ j_ v_, ((n.map bu8) : List Value)[j_]? = some v_ → w.cell? ⟨b2, 0 + j_, none⟩ = some v_) := (St.cellsOf hst (.there (.there (.there (.there (.there .here))))) allF)
    refine ⟨fun _ _ => hS, ?_⟩
    refine RE.only 8 rfl (by kernel_rfl) Wd.a ?_
    refine H.storeL (b := b3) (o := 0) (m := 16) (v := .agg ((r48.map bu8)).toArray) (ys := (r48.map bu8)) (L' := (r48.map bu8)) (AF_ev rfl (up rfl (up rfl (up rfl (up rfl (up rfl (up rfl (up rfl (up rfl hs8))))))))) (AF_ev rfl tp) hst (.there (.there (.there (.there .here)))) sz119 rfl ((List.length_map _).trans hl_q59_0) (ones_map (fun _ => rfl)) (putW (Eq.trans (show (r48.map bu8).length = 16 from ((List.length_map _).trans hl_q59_0)) (Eq.symm (show ((List.replicate 16 0#8).map bu8).length = 16 from ((List.length_map _).trans (List.length_replicate)))))) fun w hst => ?_
    refine ⟨fun h => Bool.noConfusion ((show needs _ _ _ = false by kernel_rfl).symm.trans h), ?_⟩
    refine RE.fin (by kernel_rfl) (fun τ => τ 5 = .pointer (some ⟨b2, 0, none⟩) ∧ τ 8 = .pointer (some ⟨b3, 0, none⟩) ∧ τ 9 = .pointer (some ⟨b6, 0, none⟩) ∧ τ 10 = .slice X19 s18.length c20 ∧ τ 27 = .slice (some ⟨b17, 0, none⟩) 2 2 ∧ τ 28 = .int .i64 2 ∧ τ 29 = .int .i64 ((i21 : Nat) : Int) ∧ τ 30 = .bool false) ⟨u0 (up rfl (up rfl (up rfl (up rfl (up rfl (up rfl (up rfl (up rfl hs5)))))))), u0 (up rfl (up rfl (up rfl (up rfl (up rfl (up rfl (up rfl (up rfl hs8)))))))), u0 (up rfl (up rfl (up rfl (up rfl (up rfl (up rfl (up rfl (up rfl hs9)))))))), u0 (up rfl (up rfl (up rfl (up rfl (up rfl (up rfl (up rfl (up rfl hs10)))))))), u0 (up rfl (up rfl (up rfl (up rfl (up rfl (up rfl (up rfl (up rfl hs27)))))))), u0 (up rfl (up rfl (up rfl (up rfl (up rfl (up rfl (up rfl (up rfl hs28)))))))), u0 (up rfl (up rfl (up rfl (up rfl (up rfl (up rfl (up rfl (up rfl hs29)))))))), u0 (up rfl (up rfl (up rfl (up rfl (up rfl (up rfl (up rfl (up rfl (Eq.trans hs30 (congrArg Value.bool hc24))))))))))⟩ ?_
    rintro τ ⟨hs5, hs8, hs9, hs10, hs27, hs28, hs29, hs30⟩
    refine CW.ret ?_
    refine ret1 (v := .agg ((r48.map bu8)).toArray) rfl (by exact (.cell (AF_ev rfl hs8) (hst.blockAt (.there (.there (.there (.there .here))))) Try.underlying119 rfl (by rw [List.size_toArray, show ((r48.map bu8)).length = 16 from ((List.length_map _).trans hl_q59_0)]; exact sz119) .nil)) ?_
    have hst := hst.take (.there (.there (.there .here)))
    have hst := (hst.take (.there .here)).drop
    have hst := (hst.take (.there .here)).drop
    have hst := (hst.take (.there .here)).drop
    have hst := (hst.take (.there .here)).drop
    have hst := (hst.take (.there .here)).drop
    rw [somE hF]
    exact ⟨rfl, hl_q59_0, hst⟩

def GSeal (k : List (BitVec 8)) (n : List (BitVec 8)) (beside : List (BitVec 8)) (text : List (BitVec 8)) : Option (List (BitVec 8)) :=
  (GXor k n (2#32) text).bind fun r3 =>
  (GTag k n beside r3).bind fun r5 =>
  if 0 < r5.length ∧ r3.length + r5.length ≤ 1000000 then
    lt_ (r3 ++ r5) fun s12 =>
    some (s12)
  else none
theorem GSeal_C {p : Pers} {w : World} {R : List Assn} {A : Assn} (k : List (BitVec 8)) (hl_k : k.length = 32) (n : List (BitVec 8)) (hl_n : n.length = 12) {X_beside : Option Addr} {c_beside : Nat} (beside : List (BitVec 8)) (hm_beside : beside.length ≤ 1000000) (hS_beside : ∀ w H, St p w (A :: H) → SL.Src w 1 (.slice X_beside beside.length c_beside) beside.length (beside.map bu8)) {X_text : Option Addr} {c_text : Nat} (text : List (BitVec 8)) (hm_text : text.length ≤ 1000000) (hS_text : ∀ w H, St p w (A :: H) → SL.Src w 1 (.slice X_text text.length c_text) text.length (text.map bu8)) (r : List (BitVec 8)) (hF : GSeal k n beside text = some r) (hst : St p w (A :: R)) :
    Calls Try.prog 22 #[.agg ((k.map bu8)).toArray, .agg ((n.map bu8)).toArray, .slice X_beside beside.length c_beside, .slice X_text text.length c_text] w fun e w => ∃ (X0 : Option Addr) (c0 : Nat), e = .returned (.slice X0 r.length c0) ∧ r.length ≤ 1000000 ∧ St p w (SL.Own 5 1 (.slice X0 r.length c0) r.length (r.map bu8) :: A :: R) := by
  unfold GSeal at hF
  refine enter Try.func22 rfl (by simp) (n := 28) rfl fun τ hτ => ?_
  have hs0 : τ 0 = .agg ((k.map bu8)).toArray := hτ 0 (by simp)
  have hs1 : τ 1 = .agg ((n.map bu8)).toArray := hτ 1 (by simp)
  have hs2 : τ 2 = .slice X_beside beside.length c_beside := hτ 2 (by simp)
  have hs3 : τ 3 = .slice X_text text.length c_text := hτ 3 (by simp)
  clear hτ
  refine CW.seq ?_
  refine CW.region ?_
  refine RW.hard Wd.a ?_
  refine H.box (v := .agg ((k.map bu8)).toArray) (AF_ev rfl hs0) hst fun b1 w hst => ?_
  refine RW.hard Wd.a ?_
  refine H.box (v := .agg ((n.map bu8)).toArray) (AF_ev rfl (up rfl hs1)) hst fun b2 w hst => ?_
  refine RW.soft Wd.a (v := .slice none 0 0) (by exact E.assign rfl) ?_
  refine RW.fin (fun τ => τ 0 = .agg ((k.map bu8)).toArray ∧ τ 1 = .agg ((n.map bu8)).toArray ∧ τ 2 = .slice X_beside beside.length c_beside ∧ τ 3 = .slice X_text text.length c_text ∧ τ 4 = .pointer (some ⟨b1, 0, none⟩) ∧ τ 5 = .pointer (some ⟨b2, 0, none⟩) ∧ τ 8 = .slice none 0 0) ⟨up rfl (up rfl (up rfl hs0)), up rfl (up rfl (up rfl hs1)), up rfl (up rfl (up rfl hs2)), up rfl (up rfl (up rfl hs3)), up rfl (up rfl tp), up rfl tp, tp⟩ ?_
  rintro τ ⟨hs0, hs1, hs2, hs3, hs4, hs5, hs8⟩
  refine CW.seq ?_
  refine CW.region ?_
  refine RW.soft Wd.a (v := .agg ((k.map bu8)).toArray) (by exact E.loadN (b := b1) (o := 0) (cs := (k.map bu8)) Try.underlying34 rfl sz34 (AF_ev rfl hs4) ((List.length_map _).trans hl_k) (St.cellsOf hst (.there .here) allF)) ?_
  refine RW.soft Wd.a (v := .agg ((n.map bu8)).toArray) (by exact E.loadN (b := b2) (o := 0) (cs := (n.map bu8)) Try.underlying24 rfl sz24 (AF_ev rfl (up rfl hs5)) ((List.length_map _).trans hl_n) (St.cellsOf hst .here allF)) ?_
  refine RW.soft Wd.a (v := .slice X_text text.length c_text) (by exact E.move (AF_ev rfl (up rfl (up rfl hs3)))) ?_
  obtain ⟨r3, h_r3, hF⟩ := bd hF
  have hst := hst.take (.there (.there .here))
  refine RW.hard Wd.a ?_
  refine H.call0 Try.func63 nm63 rfl (map4 (AF_ev rfl (up rfl (up rfl tp))) (AF_ev rfl (up rfl tp)) rfl (AF_ev rfl tp)) (Calls.mono (GXor_C (A := A) k hl_k n hl_n (2#32) text (by first | omega | (simp; done)) (fun w H s => (hS_text _ _ s)) r3 h_r3 hst) ?_)
  rintro _ w ⟨Xq4_0, cq4_0, rfl, hm_q4_0, hst⟩
  refine ⟨_, rfl, ?_⟩
  show RW _ _ _ _ _ _ _
  refine RW.soft Wd.a (v := .slice Xq4_0 r3.length cq4_0) (by exact E.assign (AF_ev rfl tp)) ?_
  refine RW.fin (fun τ => τ 0 = .agg ((k.map bu8)).toArray ∧ τ 1 = .agg ((n.map bu8)).toArray ∧ τ 2 = .slice X_beside beside.length c_beside ∧ τ 3 = .slice X_text text.length c_text ∧ τ 4 = .pointer (some ⟨b1, 0, none⟩) ∧ τ 5 = .pointer (some ⟨b2, 0, none⟩) ∧ τ 8 = .slice none 0 0 ∧ τ 9 = .slice Xq4_0 r3.length cq4_0) ⟨up rfl (up rfl (up rfl (up rfl (up rfl hs0)))), up rfl (up rfl (up rfl (up rfl (up rfl hs1)))), up rfl (up rfl (up rfl (up rfl (up rfl hs2)))), up rfl (up rfl (up rfl (up rfl (up rfl hs3)))), up rfl (up rfl (up rfl (up rfl (up rfl hs4)))), up rfl (up rfl (up rfl (up rfl (up rfl hs5)))), up rfl (up rfl (up rfl (up rfl (up rfl hs8)))), tp⟩ ?_
  rintro τ ⟨hs0, hs1, hs2, hs3, hs4, hs5, hs8, hs9⟩
  refine CW.seq ?_
  refine CW.region ?_
  refine RW.soft Wd.a (v := .agg ((k.map bu8)).toArray) (by exact E.loadN (b := b1) (o := 0) (cs := (k.map bu8)) Try.underlying34 rfl sz34 (AF_ev rfl hs4) ((List.length_map _).trans hl_k) (St.cellsOf hst (.there (.there (.there .here))) allF)) ?_
  refine RW.soft Wd.a (v := .agg ((n.map bu8)).toArray) (by exact E.loadN (b := b2) (o := 0) (cs := (n.map bu8)) Try.underlying24 rfl sz24 (AF_ev rfl (up rfl hs5)) ((List.length_map _).trans hl_n) (St.cellsOf hst (.there (.there .here)) allF)) ?_
  refine RW.soft Wd.a (v := .slice X_beside beside.length c_beside) (by exact E.move (AF_ev rfl (up rfl (up rfl hs2)))) ?_
  refine RW.soft Wd.a (v := .slice Xq4_0 r3.length cq4_0) (by exact E.move (AF_ev rfl (up rfl (up rfl (up rfl hs9))))) ?_
  obtain ⟨r5, h_r5, hF⟩ := bd hF
  have hst := hst.take (.there .here)
  have hst := St.join (l := [A, SL.Own 5 1 (.slice Xq4_0 r3.length cq4_0) r3.length (r3.map bu8)]) hst
  refine RW.hard Wd.a ?_
  refine H.call0 Try.func64 nm64 rfl (map4 (AF_ev rfl (up rfl (up rfl (up rfl tp)))) (AF_ev rfl (up rfl (up rfl tp))) (AF_ev rfl (up rfl tp)) (AF_ev rfl tp)) (Calls.mono (GTag_C (A := (all [A, SL.Own 5 1 (.slice Xq4_0 r3.length cq4_0) r3.length (r3.map bu8)])) k hl_k n hl_n beside (by first | omega | (simp; done)) (fun w H s => by have s := (show St _ _ (A :: SL.Own 5 1 (.slice Xq4_0 r3.length cq4_0) r3.length (r3.map bu8) :: H) from St.split s); exact (hS_beside _ _ (s.take .here))) r3 (by first | omega | (simp; done)) (fun w H s => by have s := (show St _ _ (A :: SL.Own 5 1 (.slice Xq4_0 r3.length cq4_0) r3.length (r3.map bu8) :: H) from St.split s); exact (Own.src (s.take (.there .here)))) r5 h_r5 hst) ?_)
  rintro _ w ⟨rfl, hl_q6_0, hst⟩
  have hst := (show St p w (A :: SL.Own 5 1 (.slice Xq4_0 r3.length cq4_0) r3.length (r3.map bu8) :: _) from (hst.take .here).split)
  refine ⟨_, rfl, ?_⟩
  show RW _ _ _ _ _ _ _
  refine RW.hard Wd.a ?_
  refine H.alloc zs119 hst fun b7 w hst => ?_
  refine RW.hard Wd.a ?_
  refine H.storeL (b := b7) (o := 0) (m := 16) (v := .agg ((r5.map bu8)).toArray) (ys := (r5.map bu8)) (L' := (r5.map bu8)) (AF_ev rfl tp) (AF_ev rfl (up rfl tp)) hst .here sz119 rfl ((List.length_map _).trans hl_q6_0) (ones_map (fun _ => rfl)) (putW (Eq.trans (show (r5.map bu8).length = 16 from ((List.length_map _).trans hl_q6_0)) (Eq.symm (show ((List.replicate 16 0#8).map bu8).length = 16 from ((List.length_map _).trans (List.length_replicate)))))) fun w hst => ?_
  refine RW.fin (fun τ => τ 0 = .agg ((k.map bu8)).toArray ∧ τ 1 = .agg ((n.map bu8)).toArray ∧ τ 2 = .slice X_beside beside.length c_beside ∧ τ 3 = .slice X_text text.length c_text ∧ τ 4 = .pointer (some ⟨b1, 0, none⟩) ∧ τ 5 = .pointer (some ⟨b2, 0, none⟩) ∧ τ 8 = .slice none 0 0 ∧ τ 9 = .slice Xq4_0 r3.length cq4_0 ∧ τ 10 = .pointer (some ⟨b7, 0, none⟩)) ⟨u0 (up rfl (up rfl (up rfl (up rfl (up rfl (up rfl hs0)))))), u0 (up rfl (up rfl (up rfl (up rfl (up rfl (up rfl hs1)))))), u0 (up rfl (up rfl (up rfl (up rfl (up rfl (up rfl hs2)))))), u0 (up rfl (up rfl (up rfl (up rfl (up rfl (up rfl hs3)))))), u0 (up rfl (up rfl (up rfl (up rfl (up rfl (up rfl hs4)))))), u0 (up rfl (up rfl (up rfl (up rfl (up rfl (up rfl hs5)))))), u0 (up rfl (up rfl (up rfl (up rfl (up rfl (up rfl hs8)))))), u0 (up rfl (up rfl (up rfl (up rfl (up rfl (up rfl hs9)))))), u0 tp⟩ ?_
  rintro τ ⟨hs0, hs1, hs2, hs3, hs4, hs5, hs8, hs9, hs10⟩
  refine CW.seq ?_
  have hcap_cq4_0 : r3.length ≤ cq4_0 := (show SL.Src w 1 (.slice Xq4_0 r3.length cq4_0) r3.length (r3.map bu8) from (Own.src (hst.take (.there (.there .here))))).len.2.1
  obtain ⟨c10, hc_c10⟩ : ∃ z, z = r3.length := ⟨_, rfl⟩
  obtain ⟨X9, hX_X9⟩ : ∃ z, z = sbA Xq4_0 r3.length 0 1 := ⟨_, rfl⟩
  have hS_X9 : ∀ w H, St p w (SL.Own 5 1 (.slice Xq4_0 r3.length cq4_0) r3.length (r3.map bu8) :: H) → SL.Src w 1 (.slice X9 r3.length c10) r3.length (r3.map bu8) := fun w H s => (show SL.Src w 1 (.slice X9 r3.length c10) r3.length (r3.map bu8) from by have h_ := Src.subK ((Own.src s)) (i := 0) (j := r3.length) (k := r3.length) (by omega) (by omega) (by omega) (by omega); rw [← hX_X9] at h_; exact h_.cast (by omega) (by omega) (by rw [sl, List.drop_zero, List.take_of_length_le (by simp)]))
  obtain ⟨hg11, hF⟩ := pl hF
  obtain ⟨s12, h_s12, hF⟩ := lp hF
  refine CW.regionE [] (fun w => True) mixed ?_
  have hst := hst.drew
  generalize w.drew = w at hst ⊢
  have hS : True := trivial
  refine RE.takeF 0 rfl (by kernel_rfl) Wd.a (v := .slice Xq4_0 r3.length cq4_0) (fun w => by exact E.move (AF_ev rfl hs9)) ?_
  refine RE.takeF 1 rfl (by kernel_rfl) Wd.a (v := .slice Xq4_0 r3.length cq4_0) (fun w => by exact E.move (AF_ev rfl (up rfl hs9))) ?_
  refine RE.takeF 2 rfl (by kernel_rfl) Wd.a (v := .int .i64 ((r3.length : Nat) : Int)) (fun w => by exact E.lenS (p := Xq4_0) (l := r3.length) (c := cq4_0) Try.underlying25 (AF_ev rfl tp)) ?_
  refine RE.takeF 3 rfl (by kernel_rfl) Wd.a (v := .slice Xq4_0 r3.length cq4_0) (fun w => by exact E.move (AF_ev rfl (up rfl (up rfl (up rfl hs9))))) ?_
  refine RE.takeF 4 rfl (by kernel_rfl) Wd.a (v := .int .i64 ((r3.length : Nat) : Int)) (fun w => by exact E.lenS (p := Xq4_0) (l := r3.length) (c := cq4_0) Try.underlying25 (AF_ev rfl tp)) ?_
  refine RE.takeF 5 rfl (by kernel_rfl) Wd.a (v := .slice X9 r3.length c10) (fun w => by exact E.v (run_slice (X := Xq4_0) (m := r3.length) (c := cq4_0) (i := 0) (j := r3.length) (k := r3.length) Try.underlying25 sz5 _ (AF_ev rfl (up rfl (up rfl (up rfl (up rfl tp))))) rfl (AF_ev rfl (up rfl (up rfl tp))) (AF_ev rfl tp) (by omega) (by omega) (by omega)) (by first | (rw [hX_X9, hc_c10]; done) | (rw [hX_X9, hc_c10]; rfl) | (rw [hX_X9, hc_c10]; simp))) ?_
  refine RE.takeF 6 rfl (by kernel_rfl) Wd.a (v := .slice (some ⟨b7, 0, none⟩) 16 16) (fun w => by exact E.v (run_sliceArr (b := b7) (o := 0) (N := 16) (i := 0) (j := 16) Try.underlying119 sz5 _ (AF_ev rfl (up rfl (up rfl (up rfl (up rfl (up rfl (up rfl hs10))))))) rfl rfl (by omega) (by omega)) (by first | rfl | simp)) ?_
  refine RE.only 7 rfl (by kernel_rfl) Wd.a ?_
  refine H.appendGrow (k := r3.length) (m := 16) (X := X9) (news := (r5.map bu8)) (xs := (r3.map bu8)) Try.underlying25 inf5 rfl (by exact slcN2 (AF_ev rfl (up rfl tp)) (by omega)) (AF_ev rfl tp) hst (by exact Src.cast ((hS_X9 _ _ (hst.take (.there (.there .here))))) (m' := r3.length) (c' := r3.length) rfl (by omega) rfl) (Src.ofL (hst.take .here) ((List.length_map _).trans hl_q6_0) (by first | omega | (simp; done)) allF) (by omega) (by omega) (by omega) ?_
  intro vX19 w hst
  have hl_s12 : s12.length = r3.length + 16 := by rw [h_s12, List.length_append]; omega
  rw [← List.map_append, ← h_s12, ← hl_s12] at hst
  obtain ⟨X19, c20, rfl, hcX19, hmX19, hlX19, hbX19⟩ := hst.shape
  clear hlX19
  refine ⟨fun h => Bool.noConfusion ((show needs _ _ _ = false by kernel_rfl).symm.trans h), ?_⟩
  refine RE.only 8 rfl (by kernel_rfl) Wd.a (Hd.value (v := .slice X19 s12.length c20) (by exact E.assign (AF_ev rfl tp)) ⟨fun h => Bool.noConfusion ((show needs _ _ _ = false by kernel_rfl).symm.trans h), ?_⟩)
  refine RE.fin (by kernel_rfl) (fun τ => τ 0 = .agg ((k.map bu8)).toArray ∧ τ 1 = .agg ((n.map bu8)).toArray ∧ τ 2 = .slice X_beside beside.length c_beside ∧ τ 3 = .slice X_text text.length c_text ∧ τ 4 = .pointer (some ⟨b1, 0, none⟩) ∧ τ 5 = .pointer (some ⟨b2, 0, none⟩) ∧ τ 8 = .slice X19 s12.length c20 ∧ τ 9 = .slice Xq4_0 r3.length cq4_0 ∧ τ 10 = .pointer (some ⟨b7, 0, none⟩)) ⟨up rfl (up rfl (up rfl (up rfl (up rfl (up rfl (up rfl (up rfl (up rfl hs0)))))))), up rfl (up rfl (up rfl (up rfl (up rfl (up rfl (up rfl (up rfl (up rfl hs1)))))))), up rfl (up rfl (up rfl (up rfl (up rfl (up rfl (up rfl (up rfl (up rfl hs2)))))))), up rfl (up rfl (up rfl (up rfl (up rfl (up rfl (up rfl (up rfl (up rfl hs3)))))))), up rfl (up rfl (up rfl (up rfl (up rfl (up rfl (up rfl (up rfl (up rfl hs4)))))))), up rfl (up rfl (up rfl (up rfl (up rfl (up rfl (up rfl (up rfl (up rfl hs5)))))))), tp, up rfl (up rfl (up rfl (up rfl (up rfl (up rfl (up rfl (up rfl (up rfl hs9)))))))), up rfl (up rfl (up rfl (up rfl (up rfl (up rfl (up rfl (up rfl (up rfl hs10))))))))⟩ ?_
  rintro τ ⟨hs0, hs1, hs2, hs3, hs4, hs5, hs8, hs9, hs10⟩
  refine CW.ret ?_
  refine ret1 (v := .slice X19 s12.length c20) rfl (by exact (.tmp (AF_ev rfl hs8) .nil)) ?_
  have hst := hst.take (.there (.there .here))
  have hst := hst.take (.there .here)
  have hst := (hst.take (.there (.there .here))).drop
  have hst := (hst.take (.there (.there .here))).drop
  have hst := (hst.take (.there (.there .here))).drop
  have hst := (hst.take (.there (.there .here))).drop
  rw [somE hF]
  exact ⟨X19, c20, rfl, (by (try dsimp only); first | omega | (simp; done) | (simp; omega)), hst⟩

def GOpen_l2 (k : List (BitVec 8)) (n : List (BitVec 8)) (sealed : List (BitVec 8)) (j4 : List (BitVec 8))  : Nat → BitVec 8 → Nat → Option (List (BitVec 8) × Int)
  | 0, _, _ => none
  | k21 + 1, s18, i19 =>
    bif decide (((i19 : Nat) : Int) < 16) then
      lt_ (((sealed.length : Nat) : Int) - 16 + ((i19 : Nat) : Int)) fun z23 =>
      if (z23).toNat < sealed.length then
        lt_ ((j4.getD i19 0#8) ^^^ (sealed.getD ((z23).toNat) 0#8)) fun u27 =>
        GOpen_l2 k n sealed j4 k21 (s18 ||| u27) (i19 + 1)
      else none
    else
      bif s18 != (0#8) then
        some (([] : List (BitVec 8)), 40)
      else
        if (((sealed.length : Nat) : Int) - 16).toNat ≤ sealed.length then
          lt_ (sl 0 ((((sealed.length : Nat) : Int) - 16).toNat) sealed) fun t31 =>
          (GXor k n (2#32) t31).bind fun r34 =>
          some (r34, 0)
        else none
theorem GOpen_l2_pos {k : List (BitVec 8)} {n : List (BitVec 8)} {sealed : List (BitVec 8)} {j4 : List (BitVec 8)}  {fu_ : Nat} {s18 : BitVec 8} {i19 : Nat} {r : List (BitVec 8) × Int} (h : GOpen_l2 k n sealed j4 fu_ s18 i19 = some r) : ∃ j, fu_ = j + 1 := by
  cases fu_ with
  | zero => cases (show (none : Option (List (BitVec 8) × Int)) = some r from h)
  | succ j => exact ⟨j, rfl⟩
def GOpen_j1 (k : List (BitVec 8)) (n : List (BitVec 8)) (sealed : List (BitVec 8))  (j4 : List (BitVec 8)) : Option (List (BitVec 8) × Int) :=
  GOpen_l2 k n sealed j4 1099511627776 (0#8) 0
def GOpen (k : List (BitVec 8)) (n : List (BitVec 8)) (beside : List (BitVec 8)) (sealed : List (BitVec 8)) : Option (List (BitVec 8) × Int) :=
  bif decide ((((sealed.length : Nat) : Int) - 16) < 0) then
    some (([] : List (BitVec 8)), 3)
  else
    if (((sealed.length : Nat) : Int) - 16).toNat ≤ sealed.length then
      lt_ (sl 0 ((((sealed.length : Nat) : Int) - 16).toNat) sealed) fun t7 =>
      (GTag k n beside t7).bind fun r10 =>
      GOpen_j1 k n sealed r10
    else none
theorem GOpen_C {p : Pers} {w : World} {R : List Assn} {A : Assn} (k : List (BitVec 8)) (hl_k : k.length = 32) (n : List (BitVec 8)) (hl_n : n.length = 12) {X_beside : Option Addr} {c_beside : Nat} (beside : List (BitVec 8)) (hm_beside : beside.length ≤ 1000000) (hS_beside : ∀ w H, St p w (A :: H) → SL.Src w 1 (.slice X_beside beside.length c_beside) beside.length (beside.map bu8)) {X_sealed : Option Addr} {c_sealed : Nat} (sealed : List (BitVec 8)) (hm_sealed : sealed.length ≤ 1000000) (hS_sealed : ∀ w H, St p w (A :: H) → SL.Src w 1 (.slice X_sealed sealed.length c_sealed) sealed.length (sealed.map bu8)) (r : List (BitVec 8) × Int) (hF : GOpen k n beside sealed = some r) (hst : St p w (A :: R)) :
    Calls Try.prog 61 #[.agg ((k.map bu8)).toArray, .agg ((n.map bu8)).toArray, .slice X_beside beside.length c_beside, .slice X_sealed sealed.length c_sealed] w fun e w => ∃ (X0 : Option Addr) (c0 : Nat), e = .returned (.tuple #[.slice X0 r.1.length c0, .int .i64 r.2]) ∧ r.1.length ≤ 1000000 ∧ (-9223372036854775808 ≤ r.2 ∧ r.2 ≤ 9223372036854775807) ∧ St p w (SL.Own 5 1 (.slice X0 r.1.length c0) r.1.length (r.1.map bu8) :: A :: R) := by
  unfold GOpen at hF
  refine enter Try.func61 rfl (by simp) (n := 50) rfl fun τ hτ => ?_
  have hs0 : τ 0 = .agg ((k.map bu8)).toArray := hτ 0 (by simp)
  have hs1 : τ 1 = .agg ((n.map bu8)).toArray := hτ 1 (by simp)
  have hs2 : τ 2 = .slice X_beside beside.length c_beside := hτ 2 (by simp)
  have hs3 : τ 3 = .slice X_sealed sealed.length c_sealed := hτ 3 (by simp)
  clear hτ
  refine CW.seq ?_
  refine CW.region ?_
  refine RW.hard Wd.a ?_
  refine H.box (v := .agg ((k.map bu8)).toArray) (AF_ev rfl hs0) hst fun b1 w hst => ?_
  refine RW.hard Wd.a ?_
  refine H.box (v := .agg ((n.map bu8)).toArray) (AF_ev rfl (up rfl hs1)) hst fun b2 w hst => ?_
  refine RW.soft Wd.a (v := .slice none 0 0) (by exact E.assign rfl) ?_
  refine RW.soft Wd.a (v := .int .i64 0) (by exact E.assign rfl) ?_
  refine RW.fin (fun τ => τ 0 = .agg ((k.map bu8)).toArray ∧ τ 1 = .agg ((n.map bu8)).toArray ∧ τ 2 = .slice X_beside beside.length c_beside ∧ τ 3 = .slice X_sealed sealed.length c_sealed ∧ τ 4 = .pointer (some ⟨b1, 0, none⟩) ∧ τ 5 = .pointer (some ⟨b2, 0, none⟩) ∧ τ 8 = .slice none 0 0 ∧ τ 9 = .int .i64 0) ⟨up rfl (up rfl (up rfl (up rfl hs0))), up rfl (up rfl (up rfl (up rfl hs1))), up rfl (up rfl (up rfl (up rfl hs2))), up rfl (up rfl (up rfl (up rfl hs3))), up rfl (up rfl (up rfl tp)), up rfl (up rfl tp), up rfl tp, tp⟩ ?_
  rintro τ ⟨hs0, hs1, hs2, hs3, hs4, hs5, hs8, hs9⟩
  refine CW.seq ?_
  refine CW.region ?_
  refine RW.soft Wd.a (v := .slice X_sealed sealed.length c_sealed) (by exact E.move (AF_ev rfl hs3)) ?_
  refine RW.soft Wd.a (v := .int .i64 ((sealed.length : Nat) : Int)) (by exact E.lenS (p := X_sealed) (l := sealed.length) (c := c_sealed) Try.underlying25 (AF_ev rfl tp)) ?_
  refine RW.soft Wd.a (v := .int .i64 (((sealed.length : Nat) : Int) - 16)) (by exact E.sub (k := .i64) (a := ((sealed.length : Nat) : Int)) (b := 16) (AF_ev rfl tp) rfl (show IntKind.i64.wrap (((sealed.length : Nat) : Int) - 16) = ((sealed.length : Nat) : Int) - 16 from (by rw [IntWalk.i64_in _ (by omega)]))) ?_
  refine RW.soft Wd.a (v := .int .i64 (((sealed.length : Nat) : Int) - 16)) (by exact E.assign (AF_ev rfl tp)) ?_
  refine RW.fin (fun τ => τ 0 = .agg ((k.map bu8)).toArray ∧ τ 1 = .agg ((n.map bu8)).toArray ∧ τ 2 = .slice X_beside beside.length c_beside ∧ τ 3 = .slice X_sealed sealed.length c_sealed ∧ τ 4 = .pointer (some ⟨b1, 0, none⟩) ∧ τ 5 = .pointer (some ⟨b2, 0, none⟩) ∧ τ 8 = .slice none 0 0 ∧ τ 9 = .int .i64 0 ∧ τ 10 = .int .i64 (((sealed.length : Nat) : Int) - 16)) ⟨up rfl (up rfl (up rfl (up rfl hs0))), up rfl (up rfl (up rfl (up rfl hs1))), up rfl (up rfl (up rfl (up rfl hs2))), up rfl (up rfl (up rfl (up rfl hs3))), up rfl (up rfl (up rfl (up rfl hs4))), up rfl (up rfl (up rfl (up rfl hs5))), up rfl (up rfl (up rfl (up rfl hs8))), up rfl (up rfl (up rfl (up rfl hs9))), tp⟩ ?_
  rintro τ ⟨hs0, hs1, hs2, hs3, hs4, hs5, hs8, hs9, hs10⟩
  refine CW.seq ?_
  refine CW.seq ?_
  refine CW.region ?_
  refine RW.soft Wd.a (v := .int .i64 (((sealed.length : Nat) : Int) - 16)) (by exact E.move (AF_ev rfl hs10)) ?_
  refine RW.soft Wd.a (v := .bool (decide ((((sealed.length : Nat) : Int) - 16) < 0))) (by exact E.lss (k := .i64) (a := ((sealed.length : Nat) : Int) - 16) (b := 0) (AF_ev rfl tp) rfl) ?_
  refine RW.fin (fun τ => τ 0 = .agg ((k.map bu8)).toArray ∧ τ 1 = .agg ((n.map bu8)).toArray ∧ τ 2 = .slice X_beside beside.length c_beside ∧ τ 3 = .slice X_sealed sealed.length c_sealed ∧ τ 4 = .pointer (some ⟨b1, 0, none⟩) ∧ τ 5 = .pointer (some ⟨b2, 0, none⟩) ∧ τ 8 = .slice none 0 0 ∧ τ 9 = .int .i64 0 ∧ τ 10 = .int .i64 (((sealed.length : Nat) : Int) - 16) ∧ τ 18 = .bool (decide ((((sealed.length : Nat) : Int) - 16) < 0))) ⟨up rfl (up rfl hs0), up rfl (up rfl hs1), up rfl (up rfl hs2), up rfl (up rfl hs3), up rfl (up rfl hs4), up rfl (up rfl hs5), up rfl (up rfl hs8), up rfl (up rfl hs9), up rfl (up rfl hs10), tp⟩ ?_
  rintro τ ⟨hs0, hs1, hs2, hs3, hs4, hs5, hs8, hs9, hs10, hs18⟩
  refine CW.cond (AF_ev rfl hs18) (fun hc3 => ?_) (fun hc3 => ?_)
  · have hF := ct hc3 hF
    have hc3_ := hc3
    try simp only [decide_eq_true_eq] at hc3_
    refine CW.seq ?_
    refine CW.region ?_
    refine RW.soft Wd.a (v := .slice none 0 0) (by exact E.assign rfl) ?_
    refine RW.soft Wd.a (v := .int .i64 3) (by exact E.assign rfl) ?_
    refine RW.fin (fun τ => τ 0 = .agg ((k.map bu8)).toArray ∧ τ 1 = .agg ((n.map bu8)).toArray ∧ τ 2 = .slice X_beside beside.length c_beside ∧ τ 3 = .slice X_sealed sealed.length c_sealed ∧ τ 4 = .pointer (some ⟨b1, 0, none⟩) ∧ τ 5 = .pointer (some ⟨b2, 0, none⟩) ∧ τ 8 = .slice none 0 0 ∧ τ 9 = .int .i64 3 ∧ τ 10 = .int .i64 (((sealed.length : Nat) : Int) - 16) ∧ τ 18 = .bool true) ⟨up rfl (up rfl hs0), up rfl (up rfl hs1), up rfl (up rfl hs2), up rfl (up rfl hs3), up rfl (up rfl hs4), up rfl (up rfl hs5), up rfl tp, tp, up rfl (up rfl hs10), up rfl (up rfl (Eq.trans hs18 (congrArg Value.bool hc3)))⟩ ?_
    rintro τ ⟨hs0, hs1, hs2, hs3, hs4, hs5, hs8, hs9, hs10, hs18⟩
    refine CW.ret ?_
    refine Th.r ?_
    refine retN (rs := [.tmp 8, .tmp 9]) (vs := [.slice none 0 0, .int .i64 3]) rfl (by exact (.tmp (AF_ev rfl hs8) (.tmp (AF_ev rfl hs9) .nil))) (by simp) ?_
    have hst := hst.ownNil (e := 5) (sz := 1) none
    have hst := hst.take (.there (.there (.there .here)))
    have hst := hst.take (.there .here)
    have hst := (hst.take (.there (.there .here))).drop
    have hst := (hst.take (.there (.there .here))).drop
    rw [somE hF]
    exact ⟨none, 0, rfl, (by (try dsimp only); first | omega | (simp; done) | (simp; omega)), (by (try dsimp only); first | omega | exact (by omega)), hst⟩
  · have hF := cf hc3 hF
    have hc3_ := hc3
    try simp only [decide_eq_false_iff_not, Int.not_lt, Int.not_le, gt_iff_lt, ge_iff_le] at hc3_
    refine CW.skip ?_
    refine Th.n ?_
    refine CW.seqJ (fun τ w => ∃ (b11 : Nat) (j4 : List (BitVec 8)), j4.length = 16 ∧ GOpen_j1 k n sealed j4 = some r ∧ τ 3 = .slice X_sealed sealed.length c_sealed ∧ τ 4 = .pointer (some ⟨b1, 0, none⟩) ∧ τ 5 = .pointer (some ⟨b2, 0, none⟩) ∧ τ 8 = .slice none 0 0 ∧ τ 9 = .int .i64 0 ∧ τ 10 = .int .i64 (((sealed.length : Nat) : Int) - 16) ∧ τ 11 = .pointer (some ⟨b11, 0, none⟩) ∧ St p w (pt b11 (.cells ((j4.map bu8)).toArray 119) :: A :: pt b2 (.cells ((n.map bu8)).toArray 24) :: pt b1 (.cells ((k.map bu8)).toArray 34) :: R)) ?_ ?_
    · skip
      obtain ⟨hg5, hF⟩ := pl hF
      have hcap_c_sealed : sealed.length ≤ c_sealed := (show SL.Src w 1 (.slice X_sealed sealed.length c_sealed) sealed.length (sealed.map bu8) from (hS_sealed _ _ (hst.take (.there (.there .here))))).len.2.1
      obtain ⟨t7, h_t7, hF⟩ := lp hF
      have hl_t7 : t7.length = (((sealed.length : Nat) : Int) - 16).toNat := by rw [h_t7]; exact sl_len rfl (by omega)
      obtain ⟨c9, hc_c9⟩ : ∃ z, z = c_sealed := ⟨_, rfl⟩
      obtain ⟨X8, hX_X8⟩ : ∃ z, z = sbA X_sealed c_sealed 0 1 := ⟨_, rfl⟩
      have hS_X8 : ∀ w H, St p w (A :: H) → SL.Src w 1 (.slice X8 t7.length c9) t7.length (t7.map bu8) := fun w H s => (show SL.Src w 1 (.slice X8 t7.length c9) t7.length (t7.map bu8) from by have h_ := Src.sub ((hS_sealed _ _ s)) (i := 0) (j := (((sealed.length : Nat) : Int) - 16).toNat) (by omega) (by omega); rw [← hX_X8] at h_; exact h_.cast (by omega) (by omega) (by first | (rw [h_t7, map_sl]; done) | (rw [h_t7, map_sl]; rfl)))
      obtain ⟨r10, h_r10, hF⟩ := bd hF
      refine CW.regionE [0, 1] (fun w => (∀ j_ v_, ((k.map bu8) : List Value)[j_]? = some v_ → w.cell? ⟨b1, 0 + j_, none⟩ = some v_) ∧ (∀ j_ v_, ((n.map bu8) : List Value)[j_]? = some v_ → w.cell? ⟨b2, 0 + j_, none⟩ = some v_)) mixed ?_
      have hst := hst.drew
      generalize w.drew = w at hst ⊢
      have hS : (∀ j_ v_, ((k.map bu8) : List Value)[j_]? = some v_ → w.cell? ⟨b1, 0 + j_, none⟩ = some v_) ∧ (∀ j_ v_, ((n.map bu8) : List Value)[j_]? = some v_ → w.cell? ⟨b2, 0 + j_, none⟩ = some v_) := ⟨(St.cellsOf hst (.there .here) allF), (St.cellsOf hst .here allF)⟩
      refine RE.take 0 rfl (by kernel_rfl) Wd.a (v := .agg ((k.map bu8)).toArray) (fun w hS => by exact E.loadN (b := b1) (o := 0) (cs := (k.map bu8)) Try.underlying34 rfl sz34 (AF_ev rfl hs4) ((List.length_map _).trans hl_k) hS.1) hS ?_
      refine RE.take 1 rfl (by kernel_rfl) Wd.a (v := .agg ((n.map bu8)).toArray) (fun w hS => by exact E.loadN (b := b2) (o := 0) (cs := (n.map bu8)) Try.underlying24 rfl sz24 (AF_ev rfl (up rfl hs5)) ((List.length_map _).trans hl_n) hS.2) hS ?_
      refine RE.takeF 2 rfl (by kernel_rfl) Wd.a (v := .slice X_beside beside.length c_beside) (fun w => by exact E.move (AF_ev rfl (up rfl (up rfl hs2)))) ?_
      refine RE.takeF 3 rfl (by kernel_rfl) Wd.a (v := .slice X_sealed sealed.length c_sealed) (fun w => by exact E.move (AF_ev rfl (up rfl (up rfl (up rfl hs3))))) ?_
      refine RE.takeF 4 rfl (by kernel_rfl) Wd.a (v := .int .i64 (((sealed.length : Nat) : Int) - 16)) (fun w => by exact E.move (AF_ev rfl (up rfl (up rfl (up rfl (up rfl hs10)))))) ?_
      refine RE.takeF 5 rfl (by kernel_rfl) Wd.a (v := .slice X8 t7.length c9) (fun w => by exact E.v (run_slice (X := X_sealed) (m := sealed.length) (c := c_sealed) (i := 0) (j := (((sealed.length : Nat) : Int) - 16).toNat) (k := c_sealed) Try.underlying25 sz5 _ (AF_ev rfl (up rfl tp)) rfl (int_eq (a := ((sealed.length : Nat) : Int) - 16) (AF_ev rfl tp) (by omega)) rfl (by omega) (by omega) (by omega)) (by first | (rw [hX_X8, hc_c9, hl_t7]; done) | (rw [hX_X8, hc_c9, hl_t7]; rfl) | (rw [hX_X8, hc_c9, hl_t7]; simp))) ?_
      refine RE.two 6 7 rfl rfl (by kernel_rfl) Wd.a Wd.a ?_ ?_
      · skip
        have hst := hst.take (.there (.there .here))
        refine H.call0 Try.func64 nm64 rfl (map4 (AF_ev rfl (up rfl (up rfl (up rfl (up rfl (up rfl tp)))))) (AF_ev rfl (up rfl (up rfl (up rfl (up rfl tp))))) (AF_ev rfl (up rfl (up rfl (up rfl tp)))) (AF_ev rfl tp)) (Calls.mono (GTag_C (A := A) k hl_k n hl_n beside (by first | omega | (simp; done)) (fun w H s => (hS_beside _ _ s)) t7 (by first | omega | (simp; done)) (fun w H s => (hS_X8 _ _ s)) r10 h_r10 hst) ?_)
        rintro _ w ⟨rfl, hl_q16_0, hst⟩
        refine ⟨_, rfl, ?_⟩
        refine ⟨fun h => Bool.noConfusion ((show needs _ _ _ = false by kernel_rfl).symm.trans h), ?_⟩
        refine RE.only 7 rfl (by kernel_rfl) Wd.a ?_
        refine H.alloc zs119 hst fun b12 w hst => ?_
        have hS : (∀ j_ v_, ((k.map bu8) : List Value)[j_]? = some v_ → w.cell? ⟨b1, 0 + j_, none⟩ = some v_) ∧ (∀ j_ v_, ((n.map bu8) : List Value)[j_]? = some v_ → w.cell? ⟨b2, 0 + j_, none⟩ = some v_) := ⟨(St.cellsOf hst (.there (.there (.there .here))) allF), (St.cellsOf hst (.there (.there .here)) allF)⟩
        refine ⟨fun _ _ => hS, ?_⟩
        refine RE.only 8 rfl (by kernel_rfl) Wd.a ?_
        refine H.storeL (b := b12) (o := 0) (m := 16) (v := .agg ((r10.map bu8)).toArray) (ys := (r10.map bu8)) (L' := (r10.map bu8)) (AF_ev rfl tp) (AF_ev rfl (up rfl tp)) hst .here sz119 rfl ((List.length_map _).trans hl_q16_0) (ones_map (fun _ => rfl)) (putW (Eq.trans (show (r10.map bu8).length = 16 from ((List.length_map _).trans hl_q16_0)) (Eq.symm (show ((List.replicate 16 0#8).map bu8).length = 16 from ((List.length_map _).trans (List.length_replicate)))))) fun w hst => ?_
        refine ⟨fun h => Bool.noConfusion ((show needs _ _ _ = false by kernel_rfl).symm.trans h), ?_⟩
        refine RE.done (by kernel_rfl) ?_
        refine Th.n ?_
        have hst := hst.take (.there (.there (.there .here)))
        have hst := hst.take (.there (.there (.there .here)))
        have hst := hst.take (.there (.there (.there .here)))
        have hst := hst.take (.there (.there (.there .here)))
        exact ⟨b12, r10, hl_q16_0, hF, u0 (up rfl (up rfl (up rfl (up rfl (up rfl (up rfl (up rfl (up rfl hs3)))))))), u0 (up rfl (up rfl (up rfl (up rfl (up rfl (up rfl (up rfl (up rfl hs4)))))))), u0 (up rfl (up rfl (up rfl (up rfl (up rfl (up rfl (up rfl (up rfl hs5)))))))), u0 (up rfl (up rfl (up rfl (up rfl (up rfl (up rfl (up rfl (up rfl hs8)))))))), u0 (up rfl (up rfl (up rfl (up rfl (up rfl (up rfl (up rfl (up rfl hs9)))))))), u0 (up rfl (up rfl (up rfl (up rfl (up rfl (up rfl (up rfl (up rfl hs10)))))))), u0 tp, hst⟩
      · skip
        refine H.alloc zs119 hst fun b12 w hst => ?_
        have hS : (∀ j_ v_, ((k.map bu8) : List Value)[j_]? = some v_ → w.cell? ⟨b1, 0 + j_, none⟩ = some v_) ∧ (∀ j_ v_, ((n.map bu8) : List Value)[j_]? = some v_ → w.cell? ⟨b2, 0 + j_, none⟩ = some v_) := ⟨(St.cellsOf hst (.there (.there .here)) allF), (St.cellsOf hst (.there .here) allF)⟩
        refine ⟨fun _ _ => hS, ?_⟩
        refine RE.only 6 rfl (by kernel_rfl) Wd.a ?_
        have hst := hst.take (.there (.there (.there .here)))
        refine H.call0 Try.func64 nm64 rfl (map4 (AF_ev rfl (up rfl (up rfl (up rfl (up rfl (up rfl (up rfl tp))))))) (AF_ev rfl (up rfl (up rfl (up rfl (up rfl (up rfl tp)))))) (AF_ev rfl (up rfl (up rfl (up rfl (up rfl tp))))) (AF_ev rfl (up rfl tp))) (Calls.mono (GTag_C (A := A) k hl_k n hl_n beside (by first | omega | (simp; done)) (fun w H s => (hS_beside _ _ s)) t7 (by first | omega | (simp; done)) (fun w H s => (hS_X8 _ _ s)) r10 h_r10 hst) ?_)
        rintro _ w ⟨rfl, hl_q17_0, hst⟩
        refine ⟨_, rfl, ?_⟩
        refine ⟨fun h => Bool.noConfusion ((show needs _ _ _ = false by kernel_rfl).symm.trans h), ?_⟩
        refine RE.only 8 rfl (by kernel_rfl) Wd.a ?_
        refine H.storeL (b := b12) (o := 0) (m := 16) (v := .agg ((r10.map bu8)).toArray) (ys := (r10.map bu8)) (L' := (r10.map bu8)) (AF_ev rfl (up rfl tp)) (AF_ev rfl tp) hst (.there .here) sz119 rfl ((List.length_map _).trans hl_q17_0) (ones_map (fun _ => rfl)) (putW (Eq.trans (show (r10.map bu8).length = 16 from ((List.length_map _).trans hl_q17_0)) (Eq.symm (show ((List.replicate 16 0#8).map bu8).length = 16 from ((List.length_map _).trans (List.length_replicate)))))) fun w hst => ?_
        refine ⟨fun h => Bool.noConfusion ((show needs _ _ _ = false by kernel_rfl).symm.trans h), ?_⟩
        refine RE.done (by kernel_rfl) ?_
        refine Th.n ?_
        have hst := hst.take (.there (.there (.there .here)))
        have hst := hst.take (.there (.there (.there .here)))
        have hst := hst.take (.there (.there .here))
        have hst := hst.take (.there (.there (.there .here)))
        exact ⟨b12, r10, hl_q17_0, hF, u0 (up rfl (up rfl (up rfl (up rfl (up rfl (up rfl (up rfl (up rfl hs3)))))))), u0 (up rfl (up rfl (up rfl (up rfl (up rfl (up rfl (up rfl (up rfl hs4)))))))), u0 (up rfl (up rfl (up rfl (up rfl (up rfl (up rfl (up rfl (up rfl hs5)))))))), u0 (up rfl (up rfl (up rfl (up rfl (up rfl (up rfl (up rfl (up rfl hs8)))))))), u0 (up rfl (up rfl (up rfl (up rfl (up rfl (up rfl (up rfl (up rfl hs9)))))))), u0 (up rfl (up rfl (up rfl (up rfl (up rfl (up rfl (up rfl (up rfl hs10)))))))), u0 (up rfl tp), hst⟩
    rintro τ w ⟨b11, j4, hl_j4, hF, hs3, hs4, hs5, hs8, hs9, hs10, hs11, hst⟩
    unfold GOpen_j1 at hF
    refine CW.seq ?_
    refine CW.region ?_
    refine RW.soft Wd.a (v := .int .u8 ((0#8).toNat : Int)) (by exact E.assign rfl) ?_
    refine RW.fin (fun τ => τ 3 = .slice X_sealed sealed.length c_sealed ∧ τ 4 = .pointer (some ⟨b1, 0, none⟩) ∧ τ 5 = .pointer (some ⟨b2, 0, none⟩) ∧ τ 8 = .slice none 0 0 ∧ τ 9 = .int .i64 0 ∧ τ 10 = .int .i64 (((sealed.length : Nat) : Int) - 16) ∧ τ 11 = .pointer (some ⟨b11, 0, none⟩) ∧ τ 12 = .int .u8 ((0#8).toNat : Int)) ⟨up rfl hs3, up rfl hs4, up rfl hs5, up rfl hs8, up rfl hs9, up rfl hs10, up rfl hs11, tp⟩ ?_
    rintro τ ⟨hs3, hs4, hs5, hs8, hs9, hs10, hs11, hs12⟩
    refine CW.seq ?_
    refine CW.seq ?_
    refine CW.region ?_
    refine RW.soft Wd.a (v := .int .i64 0) (by exact E.move rfl) ?_
    refine RW.fin (fun τ => τ 3 = .slice X_sealed sealed.length c_sealed ∧ τ 4 = .pointer (some ⟨b1, 0, none⟩) ∧ τ 5 = .pointer (some ⟨b2, 0, none⟩) ∧ τ 8 = .slice none 0 0 ∧ τ 9 = .int .i64 0 ∧ τ 10 = .int .i64 (((sealed.length : Nat) : Int) - 16) ∧ τ 11 = .pointer (some ⟨b11, 0, none⟩) ∧ τ 12 = .int .u8 ((0#8).toNat : Int) ∧ τ 26 = .int .i64 0) ⟨up rfl hs3, up rfl hs4, up rfl hs5, up rfl hs8, up rfl hs9, up rfl hs10, up rfl hs11, up rfl hs12, tp⟩ ?_
    rintro τ ⟨hs3, hs4, hs5, hs8, hs9, hs10, hs11, hs12, hs26⟩
    refine CW.block ?_
    refine CW.loop (fun (k20 : Nat) (τ : Fr) (w : World) => ∃ (s18 : BitVec 8) (i19 : Nat), GOpen_l2 k n sealed j4 k20 s18 i19 = some r ∧ τ 12 = .int .u8 ((s18).toNat : Int) ∧ τ 26 = .int .i64 ((i19 : Nat) : Int) ∧ τ 3 = .slice X_sealed sealed.length c_sealed ∧ τ 4 = .pointer (some ⟨b1, 0, none⟩) ∧ τ 5 = .pointer (some ⟨b2, 0, none⟩) ∧ τ 8 = .slice none 0 0 ∧ τ 9 = .int .i64 0 ∧ τ 10 = .int .i64 (((sealed.length : Nat) : Int) - 16) ∧ τ 11 = .pointer (some ⟨b11, 0, none⟩) ∧ St p w (pt b11 (.cells ((j4.map bu8)).toArray 119) :: A :: pt b2 (.cells ((n.map bu8)).toArray 24) :: pt b1 (.cells ((k.map bu8)).toArray 34) :: R)) 1099511627776 ?_ ?_
    · skip
      have hst := hst.take (.there (.there (.there .here)))
      have hst := hst.take (.there (.there (.there .here)))
      have hst := hst.take (.there (.there (.there .here)))
      have hst := hst.take (.there (.there (.there .here)))
      exact ⟨(0#8), 0, hF, hs12, (int_eq (a := 0) hs26 (by omega)), hs3, hs4, hs5, hs8, hs9, hs10, hs11, hst⟩
    clear hst hF
    rintro k20 τ w ⟨s18, i19, hF, hs12, hs26, hs3, hs4, hs5, hs8, hs9, hs10, hs11, hst⟩
    obtain ⟨k21, rfl⟩ := GOpen_l2_pos hF
    rw [GOpen_l2] at hF
    refine CW.seq ?_
    refine CW.region ?_
    refine RW.soft Wd.a (v := .bool (decide (((i19 : Nat) : Int) < 16))) (by exact E.lss (k := .i64) (a := ((i19 : Nat) : Int)) (b := 16) (AF_ev rfl hs26) rfl) ?_
    refine RW.fin (fun τ => τ 3 = .slice X_sealed sealed.length c_sealed ∧ τ 4 = .pointer (some ⟨b1, 0, none⟩) ∧ τ 5 = .pointer (some ⟨b2, 0, none⟩) ∧ τ 8 = .slice none 0 0 ∧ τ 9 = .int .i64 0 ∧ τ 10 = .int .i64 (((sealed.length : Nat) : Int) - 16) ∧ τ 11 = .pointer (some ⟨b11, 0, none⟩) ∧ τ 12 = .int .u8 ((s18).toNat : Int) ∧ τ 26 = .int .i64 ((i19 : Nat) : Int) ∧ τ 27 = .bool (decide (((i19 : Nat) : Int) < 16))) ⟨up rfl hs3, up rfl hs4, up rfl hs5, up rfl hs8, up rfl hs9, up rfl hs10, up rfl hs11, up rfl hs12, up rfl hs26, tp⟩ ?_
    rintro τ ⟨hs3, hs4, hs5, hs8, hs9, hs10, hs11, hs12, hs26, hs27⟩
    refine CW.seq ?_
    refine CW.cond (AF_ev rfl hs27) (fun hc22 => ?_) (fun hc22 => ?_)
    · have hF := ct hc22 hF
      have hc22_ := hc22
      try simp only [decide_eq_true_eq] at hc22_
      refine CW.skip ?_
      refine Th.n ?_
      refine CW.seq ?_
      refine CW.block ?_
      refine CW.seq ?_
      refine CW.region ?_
      refine RW.soft Wd.a (v := .int .i64 ((i19 : Nat) : Int)) (by exact E.move (AF_ev rfl hs26)) ?_
      refine RW.soft Wd.a (v := .int .i64 ((i19 : Nat) : Int)) (by exact E.assign (AF_ev rfl tp)) ?_
      refine RW.fin (fun τ => τ 3 = .slice X_sealed sealed.length c_sealed ∧ τ 4 = .pointer (some ⟨b1, 0, none⟩) ∧ τ 5 = .pointer (some ⟨b2, 0, none⟩) ∧ τ 8 = .slice none 0 0 ∧ τ 9 = .int .i64 0 ∧ τ 10 = .int .i64 (((sealed.length : Nat) : Int) - 16) ∧ τ 11 = .pointer (some ⟨b11, 0, none⟩) ∧ τ 12 = .int .u8 ((s18).toNat : Int) ∧ τ 13 = .int .i64 ((i19 : Nat) : Int) ∧ τ 26 = .int .i64 ((i19 : Nat) : Int) ∧ τ 27 = .bool true) ⟨up rfl (up rfl hs3), up rfl (up rfl hs4), up rfl (up rfl hs5), up rfl (up rfl hs8), up rfl (up rfl hs9), up rfl (up rfl hs10), up rfl (up rfl hs11), up rfl (up rfl hs12), tp, up rfl (up rfl hs26), up rfl (up rfl (Eq.trans hs27 (congrArg Value.bool hc22)))⟩ ?_
      rintro τ ⟨hs3, hs4, hs5, hs8, hs9, hs10, hs11, hs12, hs13, hs26, hs27⟩
      obtain ⟨z23, h_z23, hF⟩ := lp hF
      have hr_z23 : -9223372036854775808 ≤ z23 ∧ z23 ≤ 9223372036854775807 := by rw [h_z23]; exact (by omega)
      obtain ⟨hg24, hF⟩ := pl hF
      obtain ⟨b25, o26, rfl⟩ := SL.Src.someOf (show SL.Src w 1 (.slice X_sealed sealed.length c_sealed) sealed.length (sealed.map bu8) from (hS_sealed _ _ (hst.take (.there .here)))) (by omega)
      obtain ⟨u27, h_u27, hF⟩ := lp hF
      refine CW.regionE [3, 9] (fun w => w.cell? ⟨b11, i19, none⟩ = some (.int .u8 ((j4.getD i19 0#8).toNat : Int)) ∧ w.cell? ⟨b25, o26 + (z23).toNat, none⟩ = some (.int .u8 ((sealed.getD ((z23).toNat) 0#8).toNat : Int))) mixed ?_
      have hst := hst.drew
      generalize w.drew = w at hst ⊢
      have hS : w.cell? ⟨b11, i19, none⟩ = some (.int .u8 ((j4.getD i19 0#8).toNat : Int)) ∧ w.cell? ⟨b25, o26 + (z23).toNat, none⟩ = some (.int .u8 ((sealed.getD ((z23).toNat) 0#8).toNat : Int)) := ⟨(hst.cellL .here (getF (f := bu8) (d := 0#8) (by rw [hl_j4]; omega))), (Src.cellAt (o := o26) (j := (z23).toNat) ((hS_sealed _ _ (hst.take (.there .here)))) (getF (f := bu8) (d := 0#8) (by omega)))⟩
      refine RE.takeF 0 rfl (by kernel_rfl) Wd.a (v := .int .u8 ((s18).toNat : Int)) (fun w => by exact E.move (AF_ev rfl hs12)) ?_
      refine RE.takeF 1 rfl (by kernel_rfl) Wd.a (v := .int .i64 ((i19 : Nat) : Int)) (fun w => by exact E.move (AF_ev rfl (up rfl hs13))) ?_
      refine RE.takeF 2 rfl (by kernel_rfl) Wd.a (v := .pointer (some ⟨b11, i19, none⟩)) (fun w => by exact E.indexAddrA (b := b11) (o := 0) (i := ((i19 : Nat) : Int)) Try.underlying119 sz5 (AF_ev rfl (up rfl (up rfl hs11))) (AF_ev rfl tp) (by omega) (by omega) (by omega)) ?_
      refine RE.take 3 rfl (by kernel_rfl) Wd.a (v := .int .u8 ((j4.getD i19 0#8).toNat : Int)) (fun w hS => by exact E.load (a := ⟨b11, i19, none⟩) Try.underlying5 rfl (AF_ev rfl tp) hS.1) hS ?_
      refine RE.takeF 4 rfl (by kernel_rfl) Wd.a (v := .slice (some ⟨b25, o26, none⟩) sealed.length c_sealed) (fun w => by exact E.move (AF_ev rfl (up rfl (up rfl (up rfl (up rfl hs3)))))) ?_
      refine RE.takeF 5 rfl (by kernel_rfl) Wd.a (v := .int .i64 (((sealed.length : Nat) : Int) - 16)) (fun w => by exact E.move (AF_ev rfl (up rfl (up rfl (up rfl (up rfl (up rfl hs10))))))) ?_
      refine RE.takeF 6 rfl (by kernel_rfl) Wd.a (v := .int .i64 ((i19 : Nat) : Int)) (fun w => by exact E.move (AF_ev rfl (up rfl (up rfl (up rfl (up rfl (up rfl (up rfl hs13)))))))) ?_
      refine RE.takeF 7 rfl (by kernel_rfl) Wd.a (v := .int .i64 z23) (fun w => by exact E.v (E.add (k := .i64) (a := ((sealed.length : Nat) : Int) - 16) (b := ((i19 : Nat) : Int)) (AF_ev rfl (up rfl tp)) (AF_ev rfl tp) (show IntKind.i64.wrap ((((sealed.length : Nat) : Int) - 16) + ((i19 : Nat) : Int)) = ((sealed.length : Nat) : Int) - 16 + ((i19 : Nat) : Int) from (by rw [IntWalk.i64_in _ (by omega)] <;> omega))) (by first | (rw [h_z23]; done) | (rw [h_z23]; rfl))) ?_
      refine RE.takeF 8 rfl (by kernel_rfl) Wd.a (v := .pointer (some ⟨b25, o26 + (z23).toNat, none⟩)) (fun w => by exact E.indexAddr (b := b25) (o := o26) (l := sealed.length) (c := c_sealed) (i := z23) Try.underlying25 sz5 (AF_ev rfl (up rfl (up rfl (up rfl tp)))) (AF_ev rfl tp) (by omega) (by omega) (by omega)) ?_
      refine RE.take 9 rfl (by kernel_rfl) Wd.a (v := .int .u8 ((sealed.getD ((z23).toNat) 0#8).toNat : Int)) (fun w hS => by exact E.load (a := ⟨b25, o26 + (z23).toNat, none⟩) Try.underlying5 rfl (AF_ev rfl tp) hS.2) hS ?_
      refine RE.takeF 10 rfl (by kernel_rfl) Wd.a (v := .int .u8 ((u27).toNat : Int)) (fun w => by exact E.v (E.uxor (a := j4.getD i19 0#8) (b := sealed.getD ((z23).toNat) 0#8) UK.u8 (AF_ev rfl (up rfl (up rfl (up rfl (up rfl (up rfl (up rfl tp))))))) (AF_ev rfl tp)) (by first | (rw [h_u27]; done) | (rw [h_u27]; rfl))) ?_
      refine RE.takeF 11 rfl (by kernel_rfl) Wd.a (v := .int .u8 ((s18 ||| u27).toNat : Int)) (fun w => by exact E.uor (a := s18) (b := u27) UK.u8 (AF_ev rfl (up rfl (up rfl (up rfl (up rfl (up rfl (up rfl (up rfl (up rfl (up rfl (up rfl tp))))))))))) (AF_ev rfl tp)) ?_
      refine RE.takeF 12 rfl (by kernel_rfl) Wd.a (v := .int .u8 ((s18 ||| u27).toNat : Int)) (fun w => by exact E.assign (AF_ev rfl tp)) ?_
      refine RE.done (by kernel_rfl) ?_
      refine Bl.n ?_
      refine Th.n ?_
      refine CW.region ?_
      refine RW.soft Wd.a (v := .int .i64 (((i19 : Nat) : Int) + 1)) (by exact E.add (k := .i64) (a := ((i19 : Nat) : Int)) (b := 1) (AF_ev rfl (up rfl (up rfl (up rfl (up rfl (up rfl (up rfl (up rfl (up rfl (up rfl (up rfl (up rfl (up rfl (up rfl hs26)))))))))))))) rfl (show IntKind.i64.wrap (((i19 : Nat) : Int) + 1) = ((i19 : Nat) : Int) + 1 from (by rw [IntWalk.i64_in _ (by omega)]))) ?_
      refine RW.soft Wd.a (v := .int .i64 (((i19 : Nat) : Int) + 1)) (by exact E.move (AF_ev rfl tp)) ?_
      refine RW.nil ?_
      refine Th.n ?_
      have hst := hst.take (.there (.there (.there .here)))
      have hst := hst.take (.there (.there (.there .here)))
      have hst := hst.take (.there (.there (.there .here)))
      have hst := hst.take (.there (.there (.there .here)))
      exact ⟨k21, Nat.lt_succ_self _, (s18 ||| u27), (i19 + 1), hF, up rfl (up rfl tp), (int_eq (a := ((i19 : Nat) : Int) + 1) tp (by omega)), up rfl (up rfl (up rfl (up rfl (up rfl (up rfl (up rfl (up rfl (up rfl (up rfl (up rfl (up rfl (up rfl (up rfl (up rfl hs3)))))))))))))), up rfl (up rfl (up rfl (up rfl (up rfl (up rfl (up rfl (up rfl (up rfl (up rfl (up rfl (up rfl (up rfl (up rfl (up rfl hs4)))))))))))))), up rfl (up rfl (up rfl (up rfl (up rfl (up rfl (up rfl (up rfl (up rfl (up rfl (up rfl (up rfl (up rfl (up rfl (up rfl hs5)))))))))))))), up rfl (up rfl (up rfl (up rfl (up rfl (up rfl (up rfl (up rfl (up rfl (up rfl (up rfl (up rfl (up rfl (up rfl (up rfl hs8)))))))))))))), up rfl (up rfl (up rfl (up rfl (up rfl (up rfl (up rfl (up rfl (up rfl (up rfl (up rfl (up rfl (up rfl (up rfl (up rfl hs9)))))))))))))), up rfl (up rfl (up rfl (up rfl (up rfl (up rfl (up rfl (up rfl (up rfl (up rfl (up rfl (up rfl (up rfl (up rfl (up rfl hs10)))))))))))))), up rfl (up rfl (up rfl (up rfl (up rfl (up rfl (up rfl (up rfl (up rfl (up rfl (up rfl (up rfl (up rfl (up rfl (up rfl hs11)))))))))))))), hst⟩
    · have hF := cf hc22 hF
      have hc22_ := hc22
      try simp only [decide_eq_false_iff_not, Int.not_lt, Int.not_le, gt_iff_lt, ge_iff_le] at hc22_
      refine CW.exit ?_
      refine Th.x ?_
      refine Th.x ?_
      refine Bl.x ?_
      refine Th.n ?_
      refine CW.seq ?_
      refine CW.seq ?_
      refine CW.region ?_
      refine RW.soft Wd.a (v := .int .u8 ((s18).toNat : Int)) (by exact E.move (AF_ev rfl hs12)) ?_
      refine RW.soft Wd.a (v := .bool (s18 != (0#8))) (by exact E.uneq (a := s18) (b := 0#8) (AF_ev rfl tp) rfl) ?_
      refine RW.fin (fun τ => τ 3 = .slice X_sealed sealed.length c_sealed ∧ τ 4 = .pointer (some ⟨b1, 0, none⟩) ∧ τ 5 = .pointer (some ⟨b2, 0, none⟩) ∧ τ 8 = .slice none 0 0 ∧ τ 9 = .int .i64 0 ∧ τ 10 = .int .i64 (((sealed.length : Nat) : Int) - 16) ∧ τ 11 = .pointer (some ⟨b11, 0, none⟩) ∧ τ 12 = .int .u8 ((s18).toNat : Int) ∧ τ 26 = .int .i64 ((i19 : Nat) : Int) ∧ τ 27 = .bool false ∧ τ 43 = .bool (s18 != (0#8))) ⟨up rfl (up rfl hs3), up rfl (up rfl hs4), up rfl (up rfl hs5), up rfl (up rfl hs8), up rfl (up rfl hs9), up rfl (up rfl hs10), up rfl (up rfl hs11), up rfl (up rfl hs12), up rfl (up rfl hs26), up rfl (up rfl (Eq.trans hs27 (congrArg Value.bool hc22))), tp⟩ ?_
      rintro τ ⟨hs3, hs4, hs5, hs8, hs9, hs10, hs11, hs12, hs26, hs27, hs43⟩
      refine CW.cond (AF_ev rfl hs43) (fun hc28 => ?_) (fun hc28 => ?_)
      · have hF := ct hc28 hF
        have hc28_ := hc28
        try simp only [bne_iff_ne, ne_eq] at hc28_
        refine CW.seq ?_
        refine CW.region ?_
        refine RW.soft Wd.a (v := .slice none 0 0) (by exact E.assign rfl) ?_
        refine RW.soft Wd.a (v := .int .i64 40) (by exact E.assign rfl) ?_
        refine RW.fin (fun τ => τ 3 = .slice X_sealed sealed.length c_sealed ∧ τ 4 = .pointer (some ⟨b1, 0, none⟩) ∧ τ 5 = .pointer (some ⟨b2, 0, none⟩) ∧ τ 8 = .slice none 0 0 ∧ τ 9 = .int .i64 40 ∧ τ 10 = .int .i64 (((sealed.length : Nat) : Int) - 16) ∧ τ 11 = .pointer (some ⟨b11, 0, none⟩) ∧ τ 12 = .int .u8 ((s18).toNat : Int) ∧ τ 26 = .int .i64 ((i19 : Nat) : Int) ∧ τ 27 = .bool false ∧ τ 43 = .bool true) ⟨up rfl (up rfl hs3), up rfl (up rfl hs4), up rfl (up rfl hs5), up rfl tp, tp, up rfl (up rfl hs10), up rfl (up rfl hs11), up rfl (up rfl hs12), up rfl (up rfl hs26), up rfl (up rfl hs27), up rfl (up rfl (Eq.trans hs43 (congrArg Value.bool hc28)))⟩ ?_
        rintro τ ⟨hs3, hs4, hs5, hs8, hs9, hs10, hs11, hs12, hs26, hs27, hs43⟩
        refine CW.ret ?_
        refine Th.r ?_
        refine retN (rs := [.tmp 8, .tmp 9]) (vs := [.slice none 0 0, .int .i64 40]) rfl (by exact (.tmp (AF_ev rfl hs8) (.tmp (AF_ev rfl hs9) .nil))) (by simp) ?_
        have hst := hst.ownNil (e := 5) (sz := 1) none
        have hst := hst.take (.there (.there .here))
        have hst := hst.take (.there .here)
        have hst := (hst.take (.there (.there .here))).drop
        have hst := (hst.take (.there (.there .here))).drop
        have hst := (hst.take (.there (.there .here))).drop
        rw [somE hF]
        exact ⟨none, 0, rfl, (by (try dsimp only); first | omega | (simp; done) | (simp; omega)), (by (try dsimp only); first | omega | exact (by omega)), hst⟩
      · have hF := cf hc28 hF
        have hc28_ := hc28
        try simp only [bne_eq_false_iff_eq] at hc28_
        refine CW.skip ?_
        refine Th.n ?_
        refine CW.seq ?_
        obtain ⟨hg29, hF⟩ := pl hF
        have hcap_c_sealed : sealed.length ≤ c_sealed := (show SL.Src w 1 (.slice X_sealed sealed.length c_sealed) sealed.length (sealed.map bu8) from (hS_sealed _ _ (hst.take (.there .here)))).len.2.1
        obtain ⟨t31, h_t31, hF⟩ := lp hF
        have hl_t31 : t31.length = (((sealed.length : Nat) : Int) - 16).toNat := by rw [h_t31]; exact sl_len rfl (by omega)
        obtain ⟨c33, hc_c33⟩ : ∃ z, z = c_sealed := ⟨_, rfl⟩
        obtain ⟨X32, hX_X32⟩ : ∃ z, z = sbA X_sealed c_sealed 0 1 := ⟨_, rfl⟩
        have hS_X32 : ∀ w H, St p w (A :: H) → SL.Src w 1 (.slice X32 t31.length c33) t31.length (t31.map bu8) := fun w H s => (show SL.Src w 1 (.slice X32 t31.length c33) t31.length (t31.map bu8) from by have h_ := Src.sub ((hS_sealed _ _ s)) (i := 0) (j := (((sealed.length : Nat) : Int) - 16).toNat) (by omega) (by omega); rw [← hX_X32] at h_; exact h_.cast (by omega) (by omega) (by first | (rw [h_t31, map_sl]; done) | (rw [h_t31, map_sl]; rfl)))
        obtain ⟨r34, h_r34, hF⟩ := bd hF
        refine CW.regionE [0, 1] (fun w => (∀ j_ v_, ((k.map bu8) : List Value)[j_]? = some v_ → w.cell? ⟨b1, 0 + j_, none⟩ = some v_) ∧ (∀ j_ v_, ((n.map bu8) : List Value)[j_]? = some v_ → w.cell? ⟨b2, 0 + j_, none⟩ = some v_)) mixed ?_
        have hst := hst.drew
        generalize w.drew = w at hst ⊢
        have hS : (∀ j_ v_, ((k.map bu8) : List Value)[j_]? = some v_ → w.cell? ⟨b1, 0 + j_, none⟩ = some v_) ∧ (∀ j_ v_, ((n.map bu8) : List Value)[j_]? = some v_ → w.cell? ⟨b2, 0 + j_, none⟩ = some v_) := ⟨(St.cellsOf hst (.there (.there (.there .here))) allF), (St.cellsOf hst (.there (.there .here)) allF)⟩
        refine RE.take 0 rfl (by kernel_rfl) Wd.a (v := .agg ((k.map bu8)).toArray) (fun w hS => by exact E.loadN (b := b1) (o := 0) (cs := (k.map bu8)) Try.underlying34 rfl sz34 (AF_ev rfl hs4) ((List.length_map _).trans hl_k) hS.1) hS ?_
        refine RE.take 1 rfl (by kernel_rfl) Wd.a (v := .agg ((n.map bu8)).toArray) (fun w hS => by exact E.loadN (b := b2) (o := 0) (cs := (n.map bu8)) Try.underlying24 rfl sz24 (AF_ev rfl (up rfl hs5)) ((List.length_map _).trans hl_n) hS.2) hS ?_
        refine RE.takeF 2 rfl (by kernel_rfl) Wd.a (v := .slice X_sealed sealed.length c_sealed) (fun w => by exact E.move (AF_ev rfl (up rfl (up rfl hs3)))) ?_
        refine RE.takeF 3 rfl (by kernel_rfl) Wd.a (v := .int .i64 (((sealed.length : Nat) : Int) - 16)) (fun w => by exact E.move (AF_ev rfl (up rfl (up rfl (up rfl hs10))))) ?_
        refine RE.takeF 4 rfl (by kernel_rfl) Wd.a (v := .slice X32 t31.length c33) (fun w => by exact E.v (run_slice (X := X_sealed) (m := sealed.length) (c := c_sealed) (i := 0) (j := (((sealed.length : Nat) : Int) - 16).toNat) (k := c_sealed) Try.underlying25 sz5 _ (AF_ev rfl (up rfl tp)) rfl (int_eq (a := ((sealed.length : Nat) : Int) - 16) (AF_ev rfl tp) (by omega)) rfl (by omega) (by omega) (by omega)) (by first | (rw [hX_X32, hc_c33, hl_t31]; done) | (rw [hX_X32, hc_c33, hl_t31]; rfl) | (rw [hX_X32, hc_c33, hl_t31]; simp))) ?_
        refine RE.only 5 rfl (by kernel_rfl) Wd.a ?_
        have hst := hst.take (.there .here)
        refine H.call0 Try.func63 nm63 rfl (map4 (AF_ev rfl (up rfl (up rfl (up rfl (up rfl tp))))) (AF_ev rfl (up rfl (up rfl (up rfl tp)))) rfl (AF_ev rfl tp)) (Calls.mono (GXor_C (A := A) k hl_k n hl_n (2#32) t31 (by first | omega | (simp; done)) (fun w H s => (hS_X32 _ _ s)) r34 h_r34 hst) ?_)
        rintro _ w ⟨Xq39_0, cq39_0, rfl, hm_q39_0, hst⟩
        refine ⟨_, rfl, ?_⟩
        refine ⟨fun h => Bool.noConfusion ((show needs _ _ _ = false by kernel_rfl).symm.trans h), ?_⟩
        refine RE.only 6 rfl (by kernel_rfl) Wd.a (Hd.value (v := .slice Xq39_0 r34.length cq39_0) (by exact E.assign (AF_ev rfl tp)) ⟨fun h => Bool.noConfusion ((show needs _ _ _ = false by kernel_rfl).symm.trans h), ?_⟩)
        refine RE.only 7 rfl (by kernel_rfl) Wd.a (Hd.value (v := .int .i64 0) (by exact E.assign rfl) ⟨fun h => Bool.noConfusion ((show needs _ _ _ = false by kernel_rfl).symm.trans h), ?_⟩)
        refine RE.fin (by kernel_rfl) (fun τ => τ 3 = .slice X_sealed sealed.length c_sealed ∧ τ 4 = .pointer (some ⟨b1, 0, none⟩) ∧ τ 5 = .pointer (some ⟨b2, 0, none⟩) ∧ τ 8 = .slice Xq39_0 r34.length cq39_0 ∧ τ 9 = .int .i64 0 ∧ τ 10 = .int .i64 (((sealed.length : Nat) : Int) - 16) ∧ τ 11 = .pointer (some ⟨b11, 0, none⟩) ∧ τ 12 = .int .u8 ((s18).toNat : Int) ∧ τ 26 = .int .i64 ((i19 : Nat) : Int) ∧ τ 27 = .bool false ∧ τ 43 = .bool false) ⟨up rfl (up rfl (up rfl (up rfl (up rfl (up rfl (up rfl (up rfl hs3))))))), up rfl (up rfl (up rfl (up rfl (up rfl (up rfl (up rfl (up rfl hs4))))))), up rfl (up rfl (up rfl (up rfl (up rfl (up rfl (up rfl (up rfl hs5))))))), up rfl tp, tp, up rfl (up rfl (up rfl (up rfl (up rfl (up rfl (up rfl (up rfl hs10))))))), up rfl (up rfl (up rfl (up rfl (up rfl (up rfl (up rfl (up rfl hs11))))))), up rfl (up rfl (up rfl (up rfl (up rfl (up rfl (up rfl (up rfl hs12))))))), up rfl (up rfl (up rfl (up rfl (up rfl (up rfl (up rfl (up rfl hs26))))))), up rfl (up rfl (up rfl (up rfl (up rfl (up rfl (up rfl (up rfl hs27))))))), up rfl (up rfl (up rfl (up rfl (up rfl (up rfl (up rfl (up rfl (Eq.trans hs43 (congrArg Value.bool hc28)))))))))⟩ ?_
        rintro τ ⟨hs3, hs4, hs5, hs8, hs9, hs10, hs11, hs12, hs26, hs27, hs43⟩
        refine CW.ret ?_
        refine retN (rs := [.tmp 8, .tmp 9]) (vs := [.slice Xq39_0 r34.length cq39_0, .int .i64 0]) rfl (by exact (.tmp (AF_ev rfl hs8) (.tmp (AF_ev rfl hs9) .nil))) (by simp) ?_
        have hst := hst.take (.there .here)
        have hst := hst.take (.there .here)
        have hst := (hst.take (.there (.there .here))).drop
        have hst := (hst.take (.there (.there .here))).drop
        have hst := (hst.take (.there (.there .here))).drop
        rw [somE hF]
        exact ⟨Xq39_0, cq39_0, rfl, (by (try dsimp only); first | omega | (simp; done) | (simp; omega)), (by (try dsimp only); first | omega | exact (by omega)), hst⟩

def Put_l1 (n : Int)  : Nat → List (BitVec 8) → Int → Option (List (BitVec 8) × Int)
  | 0, _, _ => none
  | k16 + 1, s11, s14 =>
    bif decide (s14 ≥ 0) then
      if 0 ≤ w64 (8 * s14) then
        lt_ (BitVec.ofInt 8 (ishr64 n ((w64 (8 * s14)).toNat))) fun u19 =>
        if s11.length + 1 ≤ 1000000 then
          lt_ (s11 ++ ([u19] : List (BitVec 8))) fun s22 =>
          Put_l1 n k16 s22 (w64 (s14 - 1))
        else none
      else none
    else
      some (s11, 0)
theorem Put_l1_pos {n : Int}  {fu_ : Nat} {s11 : List (BitVec 8)} {s14 : Int} {r : List (BitVec 8) × Int} (h : Put_l1 n fu_ s11 s14 = some r) : ∃ j, fu_ = j + 1 := by
  cases fu_ with
  | zero => cases (show (none : Option (List (BitVec 8) × Int)) = some r from h)
  | succ j => exact ⟨j, rfl⟩
def Put (b : List (BitVec 8)) (n : Int) : Option (List (BitVec 8) × Int) :=
  bif decide (n < 0) then
    some (([] : List (BitVec 8)), 1)
  else
    (Len (BitVec.ofInt 64 n)).bind fun r2 =>
    if b.length + 1 ≤ 1000000 then
      lt_ (b ++ ([BitVec.ofInt 8 (w64 ((w64 (r2 + 7)).tdiv 8))] : List (BitVec 8))) fun s8 =>
      Put_l1 n 1099511627776 s8 (w64 ((w64 ((w64 (r2 + 7)).tdiv 8)) - 1))
    else none
theorem Put_C {p : Pers} {w : World} {R : List Assn} {A : Assn} {X_b : Option Addr} {c_b : Nat} (b : List (BitVec 8)) (hm_b : b.length ≤ 1000000) (hS_b : ∀ w H, St p w (A :: H) → SL.Src w 1 (.slice X_b b.length c_b) b.length (b.map bu8)) (n : Int) (hr_n : -9223372036854775808 ≤ n ∧ n ≤ 9223372036854775807) (r : List (BitVec 8) × Int) (hF : Put b n = some r) (hst : St p w (A :: R)) :
    Calls Try.prog 54 #[.slice X_b b.length c_b, .int .i64 n] w fun e w => ∃ (X0 : Option Addr) (c0 : Nat), e = .returned (.tuple #[.slice X0 r.1.length c0, .int .i64 r.2]) ∧ r.1.length ≤ 1000000 ∧ (-9223372036854775808 ≤ r.2 ∧ r.2 ≤ 9223372036854775807) ∧ St p w (SL.Own 5 1 (.slice X0 r.1.length c0) r.1.length (r.1.map bu8) :: A :: R) := by
  unfold Put at hF
  refine enter Try.func54 rfl (by simp) (n := 37) rfl fun τ hτ => ?_
  have hs0 : τ 0 = .slice X_b b.length c_b := hτ 0 (by simp)
  have hs1 : τ 1 = .int .i64 n := hτ 1 (by simp)
  clear hτ
  refine CW.seq ?_
  refine CW.region ?_
  refine RW.soft Wd.a (v := .slice none 0 0) (by exact E.assign rfl) ?_
  refine RW.soft Wd.a (v := .int .i64 0) (by exact E.assign rfl) ?_
  refine RW.fin (fun τ => τ 0 = .slice X_b b.length c_b ∧ τ 1 = .int .i64 n ∧ τ 4 = .slice none 0 0 ∧ τ 5 = .int .i64 0) ⟨up rfl (up rfl hs0), up rfl (up rfl hs1), up rfl tp, tp⟩ ?_
  rintro τ ⟨hs0, hs1, hs4, hs5⟩
  refine CW.seq ?_
  refine CW.seq ?_
  refine CW.region ?_
  refine RW.soft Wd.a (v := .int .i64 n) (by exact E.move (AF_ev rfl hs1)) ?_
  refine RW.soft Wd.a (v := .bool (decide (n < 0))) (by exact E.lss (k := .i64) (a := n) (b := 0) (AF_ev rfl tp) rfl) ?_
  refine RW.fin (fun τ => τ 0 = .slice X_b b.length c_b ∧ τ 1 = .int .i64 n ∧ τ 4 = .slice none 0 0 ∧ τ 5 = .int .i64 0 ∧ τ 10 = .bool (decide (n < 0))) ⟨up rfl (up rfl hs0), up rfl (up rfl hs1), up rfl (up rfl hs4), up rfl (up rfl hs5), tp⟩ ?_
  rintro τ ⟨hs0, hs1, hs4, hs5, hs10⟩
  refine CW.cond (AF_ev rfl hs10) (fun hc1 => ?_) (fun hc1 => ?_)
  · have hF := ct hc1 hF
    have hc1_ := hc1
    try simp only [decide_eq_true_eq] at hc1_
    refine CW.seq ?_
    refine CW.region ?_
    refine RW.soft Wd.a (v := .slice none 0 0) (by exact E.assign rfl) ?_
    refine RW.soft Wd.a (v := .int .i64 1) (by exact E.assign rfl) ?_
    refine RW.fin (fun τ => τ 0 = .slice X_b b.length c_b ∧ τ 1 = .int .i64 n ∧ τ 4 = .slice none 0 0 ∧ τ 5 = .int .i64 1 ∧ τ 10 = .bool true) ⟨up rfl (up rfl hs0), up rfl (up rfl hs1), up rfl tp, tp, up rfl (up rfl (Eq.trans hs10 (congrArg Value.bool hc1)))⟩ ?_
    rintro τ ⟨hs0, hs1, hs4, hs5, hs10⟩
    refine CW.ret ?_
    refine Th.r ?_
    refine retN (rs := [.tmp 4, .tmp 5]) (vs := [.slice none 0 0, .int .i64 1]) rfl (by exact (.tmp (AF_ev rfl hs4) (.tmp (AF_ev rfl hs5) .nil))) (by simp) ?_
    have hst := hst.ownNil (e := 5) (sz := 1) none
    have hst := hst.take (.there .here)
    have hst := hst.take (.there .here)
    rw [somE hF]
    exact ⟨none, 0, rfl, (by (try dsimp only); first | omega | (simp; done) | (simp; omega)), (by (try dsimp only); first | omega | exact (by omega)), hst⟩
  · have hF := cf hc1 hF
    have hc1_ := hc1
    try simp only [decide_eq_false_iff_not, Int.not_lt, Int.not_le, gt_iff_lt, ge_iff_le] at hc1_
    refine CW.skip ?_
    refine Th.n ?_
    refine CW.seq ?_
    refine CW.region ?_
    refine RW.soft Wd.a (v := .int .i64 n) (by exact E.move (AF_ev rfl hs1)) ?_
    refine RW.soft Wd.a (v := .int .u64 ((BitVec.ofInt 64 n).toNat : Int)) (by exact E.cvIU (z := n) (by rw [Try.underlying3]; rfl) Try.underlying138 UK.u64 (AF_ev rfl tp)) ?_
    obtain ⟨r2, h_r2, hF⟩ := bd hF
    refine RW.hard Wd.a ?_
    refine H.call0 Try.func79 nm79 rfl (map1 (AF_ev rfl tp)) (Calls.mono (Len_C (BitVec.ofInt 64 n) r2 h_r2 hst) ?_)
    rintro _ w ⟨rfl, hr_q3_0, hst⟩
    refine ⟨_, rfl, ?_⟩
    show RW _ _ _ _ _ _ _
    refine RW.soft Wd.a (v := .int .i64 (w64 (r2 + 7))) (by exact E.add (k := .i64) (a := r2) (b := 7) (AF_ev rfl tp) rfl rfl) ?_
    refine RW.soft Wd.a (v := .int .i64 (w64 ((w64 (r2 + 7)).tdiv 8))) (by exact E.quo (k := .i64) (a := w64 (r2 + 7)) (b := 8) (AF_ev rfl tp) rfl (by omega) rfl) ?_
    refine RW.soft Wd.a (v := .int .i64 (w64 ((w64 (r2 + 7)).tdiv 8))) (by exact E.assign (AF_ev rfl tp)) ?_
    refine RW.fin (fun τ => τ 0 = .slice X_b b.length c_b ∧ τ 1 = .int .i64 n ∧ τ 4 = .slice none 0 0 ∧ τ 5 = .int .i64 0 ∧ τ 6 = .int .i64 (w64 ((w64 (r2 + 7)).tdiv 8)) ∧ τ 10 = .bool false) ⟨up rfl (up rfl (up rfl (up rfl (up rfl (up rfl hs0))))), up rfl (up rfl (up rfl (up rfl (up rfl (up rfl hs1))))), up rfl (up rfl (up rfl (up rfl (up rfl (up rfl hs4))))), up rfl (up rfl (up rfl (up rfl (up rfl (up rfl hs5))))), tp, up rfl (up rfl (up rfl (up rfl (up rfl (up rfl (Eq.trans hs10 (congrArg Value.bool hc1)))))))⟩ ?_
    rintro τ ⟨hs0, hs1, hs4, hs5, hs6, hs10⟩
    refine CW.seq ?_
    refine CW.region ?_
    refine RW.soft Wd.a (v := .slice X_b b.length c_b) (by exact E.move (AF_ev rfl hs0)) ?_
    refine RW.hard Wd.a ?_
    refine H.call0 Try.func80 nm80 rfl (map1 (AF_ev rfl tp)) (Calls.mono (clone_bytes (fun w H s => (hS_b _ _ s)) (ones_map (fun _ => rfl)) (by omega) hst) ?_)
    rintro _ w ⟨vX4, rfl, hnX4, hst⟩
    obtain ⟨X4, c5, rfl, hcX4, hmX4, hlX4, hbX4⟩ := hst.shape
    clear hlX4
    refine ⟨_, rfl, ?_⟩
    show RW _ _ _ _ _ _ _
    refine RW.soft Wd.a (v := .int .i64 (w64 ((w64 (r2 + 7)).tdiv 8))) (by exact E.move (AF_ev rfl (up rfl (up rfl hs6)))) ?_
    refine RW.soft Wd.a (v := .int .u8 ((BitVec.ofInt 8 (w64 ((w64 (r2 + 7)).tdiv 8))).toNat : Int)) (by exact E.cvIU (z := w64 ((w64 (r2 + 7)).tdiv 8)) (by rw [Try.underlying3]; rfl) Try.underlying5 UK.u8 (AF_ev rfl tp)) ?_
    refine RW.hard Wd.a ?_
    refine H.buildSlice (e := 5) (cs := ((([BitVec.ofInt 8 (w64 ((w64 (r2 + 7)).tdiv 8))] : List (BitVec 8)).map bu8)).toArray) (vs := #[(0, .int .u8 ((BitVec.ofInt 8 (w64 ((w64 (r2 + 7)).tdiv 8))).toNat : Int))]) (bld1 (AF_ev rfl tp)) (fun _ => by kernel_rfl) hst fun b6 w hst => ?_
    obtain ⟨hg7, hF⟩ := pl hF
    obtain ⟨s8, h_s8, hF⟩ := lp hF
    refine RW.hard Wd.a ?_
    refine H.append (m := 1) (news := (([BitVec.ofInt 8 (w64 ((w64 (r2 + 7)).tdiv 8))] : List (BitVec 8)).map bu8)) (s0 := .slice X4 b.length c5) (x0 := .slice (some ⟨b6, 0, none⟩) 1 1) Try.underlying25 inf5 rfl (AF_ev rfl (up rfl (up rfl (up rfl tp)))) (AF_ev rfl tp) hst (.there .here) (Src.ofL (hst.take .here) ((List.length_map _).trans (show ([BitVec.ofInt 8 (w64 ((w64 (r2 + 7)).tdiv 8))] : List (BitVec 8)).length = 1 from rfl)) (by first | omega | (simp; done)) allF) (ones_map (fun _ => rfl)) (by omega) (by simp only [maxLen]; omega) ?_
    intro vX9 w _ hst
    have hl_s8 : s8.length = b.length + 1 := by rw [h_s8, List.length_append]; first | done | rfl | omega | (simp; done) | (simp; omega)
    rw [show ((b.map bu8) ++ (([BitVec.ofInt 8 (w64 ((w64 (r2 + 7)).tdiv 8))] : List (BitVec 8)).map bu8)) = (s8.map bu8) from by rw [h_s8, List.map_append]; first | done | rfl, ← hl_s8] at hst
    obtain ⟨X9, c10, rfl, hcX9, hmX9, hlX9, hbX9⟩ := hst.shape
    clear hlX9
    refine RW.soft Wd.a (v := .slice X9 s8.length c10) (by exact E.assign (AF_ev rfl tp)) ?_
    refine RW.fin (fun τ => τ 0 = .slice X_b b.length c_b ∧ τ 1 = .int .i64 n ∧ τ 4 = .slice none 0 0 ∧ τ 5 = .int .i64 0 ∧ τ 6 = .int .i64 (w64 ((w64 (r2 + 7)).tdiv 8)) ∧ τ 7 = .slice X9 s8.length c10 ∧ τ 10 = .bool false) ⟨up rfl (up rfl (up rfl (up rfl (up rfl (up rfl (up rfl hs0)))))), up rfl (up rfl (up rfl (up rfl (up rfl (up rfl (up rfl hs1)))))), up rfl (up rfl (up rfl (up rfl (up rfl (up rfl (up rfl hs4)))))), up rfl (up rfl (up rfl (up rfl (up rfl (up rfl (up rfl hs5)))))), up rfl (up rfl (up rfl (up rfl (up rfl (up rfl (up rfl hs6)))))), tp, up rfl (up rfl (up rfl (up rfl (up rfl (up rfl (up rfl hs10))))))⟩ ?_
    rintro τ ⟨hs0, hs1, hs4, hs5, hs6, hs7, hs10⟩
    refine CW.seq ?_
    refine CW.seq ?_
    refine CW.region ?_
    refine RW.soft Wd.a (v := .int .i64 (w64 ((w64 (r2 + 7)).tdiv 8))) (by exact E.move (AF_ev rfl hs6)) ?_
    refine RW.soft Wd.a (v := .int .i64 (w64 ((w64 ((w64 (r2 + 7)).tdiv 8)) - 1))) (by exact E.sub (k := .i64) (a := w64 ((w64 (r2 + 7)).tdiv 8)) (b := 1) (AF_ev rfl tp) rfl rfl) ?_
    refine RW.soft Wd.a (v := .int .i64 (w64 ((w64 ((w64 (r2 + 7)).tdiv 8)) - 1))) (by exact E.assign (AF_ev rfl tp)) ?_
    refine RW.fin (fun τ => τ 0 = .slice X_b b.length c_b ∧ τ 1 = .int .i64 n ∧ τ 4 = .slice none 0 0 ∧ τ 5 = .int .i64 0 ∧ τ 6 = .int .i64 (w64 ((w64 (r2 + 7)).tdiv 8)) ∧ τ 7 = .slice X9 s8.length c10 ∧ τ 8 = .int .i64 (w64 ((w64 ((w64 (r2 + 7)).tdiv 8)) - 1)) ∧ τ 10 = .bool false) ⟨up rfl (up rfl (up rfl hs0)), up rfl (up rfl (up rfl hs1)), up rfl (up rfl (up rfl hs4)), up rfl (up rfl (up rfl hs5)), up rfl (up rfl (up rfl hs6)), up rfl (up rfl (up rfl hs7)), tp, up rfl (up rfl (up rfl hs10))⟩ ?_
    rintro τ ⟨hs0, hs1, hs4, hs5, hs6, hs7, hs8, hs10⟩
    refine CW.block ?_
    refine CW.loop (fun (k15 : Nat) (τ : Fr) (w : World) => ∃ (s11 : List (BitVec 8)) (X12 : Option Addr) (c13 : Nat) (s14 : Int), s11.length ≤ 1000000 ∧ (-9223372036854775808 ≤ s14 ∧ s14 ≤ 9223372036854775807) ∧ Put_l1 n k15 s11 s14 = some r ∧ τ 7 = .slice X12 s11.length c13 ∧ τ 8 = .int .i64 s14 ∧ τ 1 = .int .i64 n ∧ τ 4 = .slice none 0 0 ∧ τ 5 = .int .i64 0 ∧ St p w (SL.Own 5 1 (.slice X12 s11.length c13) s11.length (s11.map bu8) :: A :: R)) 1099511627776 ?_ ?_
    · skip
      have hst := hst.take (.there (.there .here))
      have hst := hst.take (.there .here)
      have hst := (hst.take (.there (.there .here))).drop
      exact ⟨s8, X9, c10, (w64 ((w64 ((w64 (r2 + 7)).tdiv 8)) - 1)), (by first | omega | (simp; done) | (simp; omega)), (w64_rng _), hF, hs7, hs8, hs1, hs4, hs5, hst⟩
    clear hst hF
    rintro k15 τ w ⟨s11, X12, c13, s14, hm_s11, hr_s14, hF, hs7, hs8, hs1, hs4, hs5, hst⟩
    obtain ⟨k16, rfl⟩ := Put_l1_pos hF
    rw [Put_l1] at hF
    refine CW.seq ?_
    refine CW.seq ?_
    refine CW.region ?_
    refine RW.soft Wd.a (v := .int .i64 s14) (by exact E.move (AF_ev rfl hs8)) ?_
    refine RW.soft Wd.a (v := .bool (decide (s14 ≥ 0))) (by exact E.geq (k := .i64) (a := s14) (b := 0) (AF_ev rfl tp) rfl) ?_
    refine RW.fin (fun τ => τ 1 = .int .i64 n ∧ τ 4 = .slice none 0 0 ∧ τ 5 = .int .i64 0 ∧ τ 7 = .slice X12 s11.length c13 ∧ τ 8 = .int .i64 s14 ∧ τ 25 = .bool (decide (s14 ≥ 0))) ⟨up rfl (up rfl hs1), up rfl (up rfl hs4), up rfl (up rfl hs5), up rfl (up rfl hs7), up rfl (up rfl hs8), tp⟩ ?_
    rintro τ ⟨hs1, hs4, hs5, hs7, hs8, hs25⟩
    refine CW.cond (AF_ev rfl hs25) (fun hc17 => ?_) (fun hc17 => ?_)
    · have hF := ct hc17 hF
      have hc17_ := hc17
      try simp only [decide_eq_true_eq, gt_iff_lt, ge_iff_le] at hc17_
      refine CW.skip ?_
      refine Th.n ?_
      refine CW.seq ?_
      refine CW.block ?_
      refine CW.region ?_
      refine RW.soft Wd.a (v := .slice X12 s11.length c13) (by exact E.move (AF_ev rfl hs7)) ?_
      refine RW.soft Wd.a (v := .int .i64 n) (by exact E.move (AF_ev rfl (up rfl hs1))) ?_
      refine RW.soft Wd.a (v := .int .i64 s14) (by exact E.move (AF_ev rfl (up rfl (up rfl hs8)))) ?_
      refine RW.soft Wd.a (v := .int .i64 (w64 (8 * s14))) (by exact E.mul (k := .i64) (a := 8) (b := s14) rfl (AF_ev rfl tp) rfl) ?_
      obtain ⟨hg18, hF⟩ := pl hF
      refine RW.soft Wd.a (v := .int .i64 (ishr64 n ((w64 (8 * s14)).toNat))) (by exact E.ishr (i := n) (d := (w64 (8 * s14)).toNat) (AF_ev rfl (up rfl (up rfl tp))) (AF_ev rfl tp) (by omega)) ?_
      obtain ⟨u19, h_u19, hF⟩ := lp hF
      refine RW.soft Wd.a (v := .int .u8 ((u19).toNat : Int)) (by exact E.v (E.cvIU (z := ishr64 n ((w64 (8 * s14)).toNat)) (by rw [Try.underlying3]; rfl) Try.underlying5 UK.u8 (AF_ev rfl tp)) (by first | (rw [h_u19]; done) | (rw [h_u19]; rfl))) ?_
      refine RW.hard Wd.a ?_
      refine H.buildSlice (e := 5) (cs := ((([u19] : List (BitVec 8)).map bu8)).toArray) (vs := #[(0, .int .u8 ((u19).toNat : Int))]) (bld1 (AF_ev rfl tp)) (fun _ => by kernel_rfl) hst fun b20 w hst => ?_
      obtain ⟨hg21, hF⟩ := pl hF
      obtain ⟨s22, h_s22, hF⟩ := lp hF
      refine RW.hard Wd.a ?_
      refine H.append (m := 1) (news := (([u19] : List (BitVec 8)).map bu8)) (s0 := .slice X12 s11.length c13) (x0 := .slice (some ⟨b20, 0, none⟩) 1 1) Try.underlying25 inf5 rfl (AF_ev rfl (up rfl (up rfl (up rfl (up rfl (up rfl (up rfl tp))))))) (AF_ev rfl tp) hst (.there .here) (Src.ofL (hst.take .here) ((List.length_map _).trans (show ([u19] : List (BitVec 8)).length = 1 from rfl)) (by first | omega | (simp; done)) allF) (ones_map (fun _ => rfl)) (by omega) (by simp only [maxLen]; omega) ?_
      intro vX23 w _ hst
      have hl_s22 : s22.length = s11.length + 1 := by rw [h_s22, List.length_append]; first | done | rfl | omega | (simp; done) | (simp; omega)
      rw [show ((s11.map bu8) ++ (([u19] : List (BitVec 8)).map bu8)) = (s22.map bu8) from by rw [h_s22, List.map_append]; first | done | rfl, ← hl_s22] at hst
      obtain ⟨X23, c24, rfl, hcX23, hmX23, hlX23, hbX23⟩ := hst.shape
      clear hlX23
      refine RW.soft Wd.a (v := .slice X23 s22.length c24) (by exact E.assign (AF_ev rfl tp)) ?_
      refine RW.nil ?_
      refine Bl.n ?_
      refine Th.n ?_
      refine CW.region ?_
      refine RW.soft Wd.a (v := .int .i64 s14) (by exact E.move (AF_ev rfl (up rfl (up rfl (up rfl (up rfl (up rfl (up rfl (up rfl (up rfl (up rfl hs8))))))))))) ?_
      refine RW.soft Wd.a (v := .int .i64 (w64 (s14 - 1))) (by exact E.sub (k := .i64) (a := s14) (b := 1) (AF_ev rfl tp) rfl rfl) ?_
      refine RW.soft Wd.a (v := .int .i64 (w64 (s14 - 1))) (by exact E.assign (AF_ev rfl tp)) ?_
      refine RW.nil ?_
      refine Th.n ?_
      have hst := hst.take (.there (.there .here))
      have hst := hst.take (.there .here)
      have hst := (hst.take (.there (.there .here))).drop
      exact ⟨k16, Nat.lt_succ_self _, s22, X23, c24, (w64 (s14 - 1)), (by first | omega | (simp; done) | (simp; omega)), (w64_rng _), hF, up rfl (up rfl (up rfl tp)), tp, up rfl (up rfl (up rfl (up rfl (up rfl (up rfl (up rfl (up rfl (up rfl (up rfl (up rfl (up rfl hs1))))))))))), up rfl (up rfl (up rfl (up rfl (up rfl (up rfl (up rfl (up rfl (up rfl (up rfl (up rfl (up rfl hs4))))))))))), up rfl (up rfl (up rfl (up rfl (up rfl (up rfl (up rfl (up rfl (up rfl (up rfl (up rfl (up rfl hs5))))))))))), hst⟩
    · have hF := cf hc17 hF
      have hc17_ := hc17
      try simp only [decide_eq_false_iff_not, Int.not_lt, Int.not_le, gt_iff_lt, ge_iff_le] at hc17_
      refine CW.exit ?_
      refine Th.x ?_
      refine Th.x ?_
      refine Bl.x ?_
      refine Th.n ?_
      refine CW.seq ?_
      refine CW.region ?_
      refine RW.soft Wd.a (v := .slice X12 s11.length c13) (by exact E.move (AF_ev rfl hs7)) ?_
      refine RW.soft Wd.a (v := .slice X12 s11.length c13) (by exact E.assign (AF_ev rfl tp)) ?_
      refine RW.soft Wd.a (v := .int .i64 0) (by exact E.assign rfl) ?_
      refine RW.fin (fun τ => τ 1 = .int .i64 n ∧ τ 4 = .slice X12 s11.length c13 ∧ τ 5 = .int .i64 0 ∧ τ 7 = .slice X12 s11.length c13 ∧ τ 8 = .int .i64 s14 ∧ τ 25 = .bool false) ⟨up rfl (up rfl (up rfl hs1)), up rfl tp, tp, up rfl (up rfl (up rfl hs7)), up rfl (up rfl (up rfl hs8)), up rfl (up rfl (up rfl (Eq.trans hs25 (congrArg Value.bool hc17))))⟩ ?_
      rintro τ ⟨hs1, hs4, hs5, hs7, hs8, hs25⟩
      refine CW.ret ?_
      refine retN (rs := [.tmp 4, .tmp 5]) (vs := [.slice X12 s11.length c13, .int .i64 0]) rfl (by exact (.tmp (AF_ev rfl hs4) (.tmp (AF_ev rfl hs5) .nil))) (by simp) ?_
      have hst := hst.take (.there .here)
      have hst := hst.take (.there .here)
      rw [somE hF]
      exact ⟨X12, c13, rfl, (by (try dsimp only); first | omega | (simp; done) | (simp; omega)), (by (try dsimp only); first | omega | exact (by omega)), hst⟩

def Number_j2 (b : List (BitVec 8)) (s14 : Int)  (j23 : Bool) : Option (Int × List (BitVec 8) × Int) :=
  bif j23 then
    some (0, ([] : List (BitVec 8)), 80)
  else
    if (1 + (((b.getD 0 0#8).toNat : Nat) : Int)).toNat ≤ b.length then
      lt_ (sl ((1 + (((b.getD 0 0#8).toNat : Nat) : Int)).toNat) (b.length - ((1 + (((b.getD 0 0#8).toNat : Nat) : Int)).toNat)) b) fun t30 =>
      some (s14, t30, 0)
    else none
def Number_l1 (b : List (BitVec 8)) (t9 : List (BitVec 8))  : Nat → Int → Nat → Option (Int × List (BitVec 8) × Int)
  | 0, _, _ => none
  | k17 + 1, s14, i15 =>
    bif decide (((i15 : Nat) : Int) < ((t9.length : Nat) : Int)) then
      if i15 < t9.length then
        lt_ (ior64 (ishl64 s14 8) (((t9.getD i15 0#8).toNat : Nat) : Int)) fun z22 =>
        Number_l1 b t9 k17 z22 (i15 + 1)
      else none
    else
      bif decide (s14 < 0) then
        Number_j2 b s14 true
      else
        (Len (BitVec.ofInt 64 s14)).bind fun r25 =>
        Number_j2 b s14 ((w64 ((w64 (r25 + 7)).tdiv 8)) != (((b.getD 0 0#8).toNat : Nat) : Int))
theorem Number_l1_pos {b : List (BitVec 8)} {t9 : List (BitVec 8)}  {fu_ : Nat} {s14 : Int} {i15 : Nat} {r : Int × List (BitVec 8) × Int} (h : Number_l1 b t9 fu_ s14 i15 = some r) : ∃ j, fu_ = j + 1 := by
  cases fu_ with
  | zero => cases (show (none : Option (Int × List (BitVec 8) × Int)) = some r from h)
  | succ j => exact ⟨j, rfl⟩
def Number (b : List (BitVec 8)) : Option (Int × List (BitVec 8) × Int) :=
  bif ((b.length : Nat) : Int) == 0 then
    some (0, ([] : List (BitVec 8)), 3)
  else
    if 0 < b.length then
      bif decide ((((b.getD 0 0#8).toNat : Nat) : Int) > 8) then
        some (0, ([] : List (BitVec 8)), 80)
      else
        bif decide (((b.length : Nat) : Int) < (1 + (((b.getD 0 0#8).toNat : Nat) : Int))) then
          some (0, ([] : List (BitVec 8)), 3)
        else
          if 1 ≤ (1 + (((b.getD 0 0#8).toNat : Nat) : Int)).toNat ∧ (1 + (((b.getD 0 0#8).toNat : Nat) : Int)).toNat ≤ b.length then
            lt_ (sl 1 ((1 + (((b.getD 0 0#8).toNat : Nat) : Int)).toNat - 1) b) fun t9 =>
            Number_l1 b t9 1099511627776 0 0
          else none
    else none
theorem Number_C {p : Pers} {w : World} {R : List Assn} {A : Assn} {X_b : Option Addr} {c_b : Nat} (b : List (BitVec 8)) (hm_b : b.length ≤ 1000000) (hS_b : ∀ w H, St p w (A :: H) → SL.Src w 1 (.slice X_b b.length c_b) b.length (b.map bu8)) (r : Int × List (BitVec 8) × Int) (hF : Number b = some r) (hst : St p w (A :: R)) :
    Calls Try.prog 82 #[.slice X_b b.length c_b] w fun e w => ∃ (X1 : Option Addr) (c1 : Nat), e = .returned (.tuple #[.int .i64 r.1, .slice X1 r.2.1.length c1, .int .i64 r.2.2]) ∧ (-9223372036854775808 ≤ r.1 ∧ r.1 ≤ 9223372036854775807) ∧ (∀ w H, St p w (A :: H) → SL.Src w 1 (.slice X1 r.2.1.length c1) r.2.1.length (r.2.1.map bu8)) ∧ r.2.1.length ≤ 1000000 ∧ (-9223372036854775808 ≤ r.2.2 ∧ r.2.2 ≤ 9223372036854775807) ∧ St p w (A :: R) := by
  unfold Number at hF
  refine enter Try.func82 rfl (by simp) (n := 56) rfl fun τ hτ => ?_
  have hs0 : τ 0 = .slice X_b b.length c_b := hτ 0 (by simp)
  clear hτ
  refine CW.seq ?_
  refine CW.region ?_
  refine RW.soft Wd.a (v := .int .i64 0) (by exact E.assign rfl) ?_
  refine RW.soft Wd.a (v := .slice none 0 0) (by exact E.assign rfl) ?_
  refine RW.soft Wd.a (v := .int .i64 0) (by exact E.assign rfl) ?_
  refine RW.fin (fun τ => τ 0 = .slice X_b b.length c_b ∧ τ 2 = .int .i64 0 ∧ τ 3 = .slice none 0 0 ∧ τ 4 = .int .i64 0) ⟨up rfl (up rfl (up rfl hs0)), up rfl (up rfl tp), up rfl tp, tp⟩ ?_
  rintro τ ⟨hs0, hs2, hs3, hs4⟩
  refine CW.seq ?_
  refine CW.seq ?_
  refine CW.region ?_
  refine RW.soft Wd.a (v := .slice X_b b.length c_b) (by exact E.move (AF_ev rfl hs0)) ?_
  refine RW.soft Wd.a (v := .int .i64 ((b.length : Nat) : Int)) (by exact E.lenS (p := X_b) (l := b.length) (c := c_b) Try.underlying25 (AF_ev rfl tp)) ?_
  refine RW.soft Wd.a (v := .bool (((b.length : Nat) : Int) == 0)) (by exact E.eql (k := .i64) (a := ((b.length : Nat) : Int)) (b := 0) (AF_ev rfl tp) rfl) ?_
  refine RW.fin (fun τ => τ 0 = .slice X_b b.length c_b ∧ τ 2 = .int .i64 0 ∧ τ 3 = .slice none 0 0 ∧ τ 4 = .int .i64 0 ∧ τ 11 = .bool (((b.length : Nat) : Int) == 0)) ⟨up rfl (up rfl (up rfl hs0)), up rfl (up rfl (up rfl hs2)), up rfl (up rfl (up rfl hs3)), up rfl (up rfl (up rfl hs4)), tp⟩ ?_
  rintro τ ⟨hs0, hs2, hs3, hs4, hs11⟩
  refine CW.cond (AF_ev rfl hs11) (fun hc1 => ?_) (fun hc1 => ?_)
  · have hF := ct hc1 hF
    have hc1_ := hc1
    try simp only [beq_iff_eq] at hc1_
    refine CW.seq ?_
    refine CW.region ?_
    refine RW.soft Wd.a (v := .int .i64 0) (by exact E.assign rfl) ?_
    refine RW.soft Wd.a (v := .slice none 0 0) (by exact E.assign rfl) ?_
    refine RW.soft Wd.a (v := .int .i64 3) (by exact E.assign rfl) ?_
    refine RW.fin (fun τ => τ 0 = .slice X_b b.length c_b ∧ τ 2 = .int .i64 0 ∧ τ 3 = .slice none 0 0 ∧ τ 4 = .int .i64 3 ∧ τ 11 = .bool true) ⟨up rfl (up rfl (up rfl hs0)), up rfl (up rfl tp), up rfl tp, tp, up rfl (up rfl (up rfl (Eq.trans hs11 (congrArg Value.bool hc1))))⟩ ?_
    rintro τ ⟨hs0, hs2, hs3, hs4, hs11⟩
    refine CW.ret ?_
    refine Th.r ?_
    refine retN (rs := [.tmp 2, .tmp 3, .tmp 4]) (vs := [.int .i64 0, .slice none 0 0, .int .i64 3]) rfl (by exact (.tmp (AF_ev rfl hs2) (.tmp (AF_ev rfl hs3) (.tmp (AF_ev rfl hs4) .nil)))) (by simp) ?_
    rw [somE hF]
    exact ⟨none, 0, rfl, (by (try dsimp only); first | omega | exact (by omega)), (fun w H s => Src.nil), (by (try dsimp only); simp), (by (try dsimp only); first | omega | exact (by omega)), hst⟩
  · have hF := cf hc1 hF
    have hc1_ := hc1
    try simp only [beq_eq_false_iff_ne, ne_eq] at hc1_
    refine CW.skip ?_
    refine Th.n ?_
    refine CW.seq ?_
    refine CW.region ?_
    refine RW.soft Wd.a (v := .slice X_b b.length c_b) (by exact E.move (AF_ev rfl hs0)) ?_
    obtain ⟨hg2, hF⟩ := pl hF
    obtain ⟨b3, o4, rfl⟩ := SL.Src.someOf (show SL.Src w 1 (.slice X_b b.length c_b) b.length (b.map bu8) from (hS_b _ _ (hst.take .here))) (by omega)
    refine RW.soft Wd.a (v := .pointer (some ⟨b3, o4, none⟩)) (by exact E.indexAddr (b := b3) (o := o4) (l := b.length) (c := c_b) (i := 0) Try.underlying25 sz5 (AF_ev rfl tp) rfl (by omega) (by omega) (by omega)) ?_
    refine RW.soft Wd.a (v := .int .u8 ((b.getD 0 0#8).toNat : Int)) (by exact E.load (a := ⟨b3, o4, none⟩) Try.underlying5 rfl (AF_ev rfl tp) (Src.cellAt (o := o4) (j := 0) ((hS_b _ _ (hst.take .here))) (getF (f := bu8) (d := 0#8) (by omega)))) ?_
    refine RW.soft Wd.a (v := .int .i64 (((b.getD 0 0#8).toNat : Nat) : Int)) (by exact E.cvUI (a := b.getD 0 0#8) (by rw [Try.underlying5]; rfl) Try.underlying3 (by decide) (AF_ev rfl tp)) ?_
    refine RW.soft Wd.a (v := .int .i64 (((b.getD 0 0#8).toNat : Nat) : Int)) (by exact E.assign (AF_ev rfl tp)) ?_
    refine RW.fin (fun τ => τ 0 = .slice (some ⟨b3, o4, none⟩) b.length c_b ∧ τ 2 = .int .i64 0 ∧ τ 3 = .slice none 0 0 ∧ τ 4 = .int .i64 0 ∧ τ 5 = .int .i64 (((b.getD 0 0#8).toNat : Nat) : Int) ∧ τ 11 = .bool false) ⟨up rfl (up rfl (up rfl (up rfl (up rfl hs0)))), up rfl (up rfl (up rfl (up rfl (up rfl hs2)))), up rfl (up rfl (up rfl (up rfl (up rfl hs3)))), up rfl (up rfl (up rfl (up rfl (up rfl hs4)))), tp, up rfl (up rfl (up rfl (up rfl (up rfl (Eq.trans hs11 (congrArg Value.bool hc1))))))⟩ ?_
    rintro τ ⟨hs0, hs2, hs3, hs4, hs5, hs11⟩
    refine CW.seq ?_
    refine CW.block ?_
    refine CW.seq ?_
    refine CW.region ?_
    refine RW.soft Wd.a (v := .int .i64 (((b.getD 0 0#8).toNat : Nat) : Int)) (by exact E.move (AF_ev rfl hs5)) ?_
    refine RW.soft Wd.a (v := .bool (decide ((((b.getD 0 0#8).toNat : Nat) : Int) > 8))) (by exact E.gtr (k := .i64) (a := (((b.getD 0 0#8).toNat : Nat) : Int)) (b := 8) (AF_ev rfl tp) rfl) ?_
    refine RW.soft Wd.a (v := .bool (decide ((((b.getD 0 0#8).toNat : Nat) : Int) > 8))) (by exact E.assign (AF_ev rfl tp)) ?_
    refine RW.fin (fun τ => τ 0 = .slice (some ⟨b3, o4, none⟩) b.length c_b ∧ τ 2 = .int .i64 0 ∧ τ 3 = .slice none 0 0 ∧ τ 4 = .int .i64 0 ∧ τ 5 = .int .i64 (((b.getD 0 0#8).toNat : Nat) : Int) ∧ τ 11 = .bool false ∧ τ 16 = .bool (decide ((((b.getD 0 0#8).toNat : Nat) : Int) > 8))) ⟨up rfl (up rfl (up rfl hs0)), up rfl (up rfl (up rfl hs2)), up rfl (up rfl (up rfl hs3)), up rfl (up rfl (up rfl hs4)), up rfl (up rfl (up rfl hs5)), up rfl (up rfl (up rfl hs11)), tp⟩ ?_
    rintro τ ⟨hs0, hs2, hs3, hs4, hs5, hs11, hs16⟩
    refine CW.cond (AF_ev rfl hs16) (fun hc5 => ?_) (fun hc5 => ?_)
    · have hF := ct hc5 hF
      have hc5_ := hc5
      try simp only [decide_eq_true_eq, gt_iff_lt, ge_iff_le] at hc5_
      refine CW.seq ?_
      refine CW.region ?_
      refine RW.soft Wd.a (v := .int .i64 0) (by exact E.assign rfl) ?_
      refine RW.soft Wd.a (v := .slice none 0 0) (by exact E.assign rfl) ?_
      refine RW.soft Wd.a (v := .int .i64 80) (by exact E.assign rfl) ?_
      refine RW.fin (fun τ => τ 0 = .slice (some ⟨b3, o4, none⟩) b.length c_b ∧ τ 2 = .int .i64 0 ∧ τ 3 = .slice none 0 0 ∧ τ 4 = .int .i64 80 ∧ τ 5 = .int .i64 (((b.getD 0 0#8).toNat : Nat) : Int) ∧ τ 11 = .bool false ∧ τ 16 = .bool true) ⟨up rfl (up rfl (up rfl hs0)), up rfl (up rfl tp), up rfl tp, tp, up rfl (up rfl (up rfl hs5)), up rfl (up rfl (up rfl hs11)), up rfl (up rfl (up rfl (Eq.trans hs16 (congrArg Value.bool hc5))))⟩ ?_
      rintro τ ⟨hs0, hs2, hs3, hs4, hs5, hs11, hs16⟩
      refine CW.ret ?_
      refine Bl.r ?_
      refine Th.r ?_
      refine retN (rs := [.tmp 2, .tmp 3, .tmp 4]) (vs := [.int .i64 0, .slice none 0 0, .int .i64 80]) rfl (by exact (.tmp (AF_ev rfl hs2) (.tmp (AF_ev rfl hs3) (.tmp (AF_ev rfl hs4) .nil)))) (by simp) ?_
      rw [somE hF]
      exact ⟨none, 0, rfl, (by (try dsimp only); first | omega | exact (by omega)), (fun w H s => Src.nil), (by (try dsimp only); simp), (by (try dsimp only); first | omega | exact (by omega)), hst⟩
    · have hF := cf hc5 hF
      have hc5_ := hc5
      try simp only [decide_eq_false_iff_not, Int.not_lt, Int.not_le, gt_iff_lt, ge_iff_le] at hc5_
      refine CW.seq ?_
      refine CW.region ?_
      refine RW.soft Wd.a (v := .slice (some ⟨b3, o4, none⟩) b.length c_b) (by exact E.move (AF_ev rfl hs0)) ?_
      refine RW.soft Wd.a (v := .int .i64 ((b.length : Nat) : Int)) (by exact E.lenS (p := (some ⟨b3, o4, none⟩)) (l := b.length) (c := c_b) Try.underlying25 (AF_ev rfl tp)) ?_
      refine RW.soft Wd.a (v := .int .i64 (((b.getD 0 0#8).toNat : Nat) : Int)) (by exact E.move (AF_ev rfl (up rfl (up rfl hs5)))) ?_
      refine RW.soft Wd.a (v := .int .i64 (1 + (((b.getD 0 0#8).toNat : Nat) : Int))) (by exact E.add (k := .i64) (a := 1) (b := (((b.getD 0 0#8).toNat : Nat) : Int)) rfl (AF_ev rfl tp) (show IntKind.i64.wrap (1 + (((b.getD 0 0#8).toNat : Nat) : Int)) = 1 + (((b.getD 0 0#8).toNat : Nat) : Int) from (by have := BitVec.isLt (b.getD 0 0#8); rw [IntWalk.i64_in _ (by omega)]))) ?_
      refine RW.soft Wd.a (v := .bool (decide (((b.length : Nat) : Int) < (1 + (((b.getD 0 0#8).toNat : Nat) : Int))))) (by exact E.lss (k := .i64) (a := ((b.length : Nat) : Int)) (b := 1 + (((b.getD 0 0#8).toNat : Nat) : Int)) (AF_ev rfl (up rfl (up rfl tp))) (AF_ev rfl tp)) ?_
      refine RW.soft Wd.a (v := .bool (decide (((b.length : Nat) : Int) < (1 + (((b.getD 0 0#8).toNat : Nat) : Int))))) (by exact E.assign (AF_ev rfl tp)) ?_
      refine RW.fin (fun τ => τ 0 = .slice (some ⟨b3, o4, none⟩) b.length c_b ∧ τ 2 = .int .i64 0 ∧ τ 3 = .slice none 0 0 ∧ τ 4 = .int .i64 0 ∧ τ 5 = .int .i64 (((b.getD 0 0#8).toNat : Nat) : Int) ∧ τ 11 = .bool false ∧ τ 16 = .bool false ∧ τ 19 = .bool (decide (((b.length : Nat) : Int) < (1 + (((b.getD 0 0#8).toNat : Nat) : Int))))) ⟨up rfl (up rfl (up rfl (up rfl (up rfl (up rfl hs0))))), up rfl (up rfl (up rfl (up rfl (up rfl (up rfl hs2))))), up rfl (up rfl (up rfl (up rfl (up rfl (up rfl hs3))))), up rfl (up rfl (up rfl (up rfl (up rfl (up rfl hs4))))), up rfl (up rfl (up rfl (up rfl (up rfl (up rfl hs5))))), up rfl (up rfl (up rfl (up rfl (up rfl (up rfl hs11))))), up rfl (up rfl (up rfl (up rfl (up rfl (up rfl (Eq.trans hs16 (congrArg Value.bool hc5))))))), tp⟩ ?_
      rintro τ ⟨hs0, hs2, hs3, hs4, hs5, hs11, hs16, hs19⟩
      refine CW.cond (AF_ev rfl hs19) (fun hc6 => ?_) (fun hc6 => ?_)
      · have hF := ct hc6 hF
        have hc6_ := hc6
        try simp only [decide_eq_true_eq] at hc6_
        refine CW.seq ?_
        refine CW.region ?_
        refine RW.soft Wd.a (v := .int .i64 0) (by exact E.assign rfl) ?_
        refine RW.soft Wd.a (v := .slice none 0 0) (by exact E.assign rfl) ?_
        refine RW.soft Wd.a (v := .int .i64 3) (by exact E.assign rfl) ?_
        refine RW.fin (fun τ => τ 0 = .slice (some ⟨b3, o4, none⟩) b.length c_b ∧ τ 2 = .int .i64 0 ∧ τ 3 = .slice none 0 0 ∧ τ 4 = .int .i64 3 ∧ τ 5 = .int .i64 (((b.getD 0 0#8).toNat : Nat) : Int) ∧ τ 11 = .bool false ∧ τ 16 = .bool false ∧ τ 19 = .bool true) ⟨up rfl (up rfl (up rfl hs0)), up rfl (up rfl tp), up rfl tp, tp, up rfl (up rfl (up rfl hs5)), up rfl (up rfl (up rfl hs11)), up rfl (up rfl (up rfl hs16)), up rfl (up rfl (up rfl (Eq.trans hs19 (congrArg Value.bool hc6))))⟩ ?_
        rintro τ ⟨hs0, hs2, hs3, hs4, hs5, hs11, hs16, hs19⟩
        refine CW.ret ?_
        refine Bl.r ?_
        refine Th.r ?_
        refine retN (rs := [.tmp 2, .tmp 3, .tmp 4]) (vs := [.int .i64 0, .slice none 0 0, .int .i64 3]) rfl (by exact (.tmp (AF_ev rfl hs2) (.tmp (AF_ev rfl hs3) (.tmp (AF_ev rfl hs4) .nil)))) (by simp) ?_
        rw [somE hF]
        exact ⟨none, 0, rfl, (by (try dsimp only); first | omega | exact (by omega)), (fun w H s => Src.nil), (by (try dsimp only); simp), (by (try dsimp only); first | omega | exact (by omega)), hst⟩
      · have hF := cf hc6 hF
        have hc6_ := hc6
        try simp only [decide_eq_false_iff_not, Int.not_lt, Int.not_le, gt_iff_lt, ge_iff_le] at hc6_
        refine CW.skip ?_
        refine Bl.n ?_
        refine Th.n ?_
        refine CW.seq ?_
        refine CW.region ?_
        refine RW.soft Wd.a (v := .int .i64 0) (by exact E.assign rfl) ?_
        refine RW.fin (fun τ => τ 0 = .slice (some ⟨b3, o4, none⟩) b.length c_b ∧ τ 2 = .int .i64 0 ∧ τ 3 = .slice none 0 0 ∧ τ 4 = .int .i64 0 ∧ τ 5 = .int .i64 (((b.getD 0 0#8).toNat : Nat) : Int) ∧ τ 6 = .int .i64 0 ∧ τ 11 = .bool false ∧ τ 16 = .bool false ∧ τ 19 = .bool false) ⟨up rfl hs0, up rfl hs2, up rfl hs3, up rfl hs4, up rfl hs5, tp, up rfl hs11, up rfl hs16, up rfl (Eq.trans hs19 (congrArg Value.bool hc6))⟩ ?_
        rintro τ ⟨hs0, hs2, hs3, hs4, hs5, hs6, hs11, hs16, hs19⟩
        refine CW.seq ?_
        refine CW.seq ?_
        refine CW.region ?_
        refine RW.soft Wd.a (v := .slice (some ⟨b3, o4, none⟩) b.length c_b) (by exact E.move (AF_ev rfl hs0)) ?_
        refine RW.soft Wd.a (v := .int .i64 (((b.getD 0 0#8).toNat : Nat) : Int)) (by exact E.move (AF_ev rfl (up rfl hs5))) ?_
        refine RW.soft Wd.a (v := .int .i64 (1 + (((b.getD 0 0#8).toNat : Nat) : Int))) (by exact E.add (k := .i64) (a := 1) (b := (((b.getD 0 0#8).toNat : Nat) : Int)) rfl (AF_ev rfl tp) (show IntKind.i64.wrap (1 + (((b.getD 0 0#8).toNat : Nat) : Int)) = 1 + (((b.getD 0 0#8).toNat : Nat) : Int) from (by have := BitVec.isLt (b.getD 0 0#8); rw [IntWalk.i64_in _ (by omega)]))) ?_
        obtain ⟨hg7, hF⟩ := pl hF
        have hcap_c_b : b.length ≤ c_b := (show SL.Src w 1 (.slice (some ⟨b3, o4, none⟩) b.length c_b) b.length (b.map bu8) from (hS_b _ _ (hst.take .here))).len.2.1
        obtain ⟨t9, h_t9, hF⟩ := lp hF
        have hl_t9 : t9.length = (1 + (((b.getD 0 0#8).toNat : Nat) : Int)).toNat - 1 := by rw [h_t9]; exact sl_len rfl (by omega)
        obtain ⟨c11, hc_c11⟩ : ∃ z, z = c_b - 1 := ⟨_, rfl⟩
        obtain ⟨X10, hX_X10⟩ : ∃ z, z = sbA (some ⟨b3, o4, none⟩) c_b 1 1 := ⟨_, rfl⟩
        have hS_X10 : ∀ w H, St p w (A :: H) → SL.Src w 1 (.slice X10 t9.length c11) t9.length (t9.map bu8) := fun w H s => (show SL.Src w 1 (.slice X10 t9.length c11) t9.length (t9.map bu8) from by have h_ := Src.sub ((hS_b _ _ s)) (i := 1) (j := (1 + (((b.getD 0 0#8).toNat : Nat) : Int)).toNat) (by omega) (by omega); rw [← hX_X10] at h_; exact h_.cast (by omega) (by omega) (by first | (rw [h_t9, map_sl]; done) | (rw [h_t9, map_sl]; rfl)))
        refine RW.soft Wd.a (v := .slice X10 t9.length c11) (by exact E.v (run_slice (X := (some ⟨b3, o4, none⟩)) (m := b.length) (c := c_b) (i := 1) (j := (1 + (((b.getD 0 0#8).toNat : Nat) : Int)).toNat) (k := c_b) Try.underlying25 sz5 _ (AF_ev rfl (up rfl (up rfl tp))) rfl (int_eq (a := 1 + (((b.getD 0 0#8).toNat : Nat) : Int)) (AF_ev rfl tp) (by omega)) rfl (by omega) (by omega) (by omega)) (by first | (rw [hX_X10, hc_c11, hl_t9]; done) | (rw [hX_X10, hc_c11, hl_t9]; rfl) | (rw [hX_X10, hc_c11, hl_t9]; simp))) ?_
        refine RW.soft Wd.a (v := .int .i64 ((t9.length : Nat) : Int)) (by exact E.lenS (p := X10) (l := t9.length) (c := c11) Try.underlying25 (AF_ev rfl tp)) ?_
        refine RW.soft Wd.a (v := .int .i64 0) (by exact E.move rfl) ?_
        refine RW.fin (fun τ => τ 0 = .slice (some ⟨b3, o4, none⟩) b.length c_b ∧ τ 2 = .int .i64 0 ∧ τ 3 = .slice none 0 0 ∧ τ 4 = .int .i64 0 ∧ τ 5 = .int .i64 (((b.getD 0 0#8).toNat : Nat) : Int) ∧ τ 6 = .int .i64 0 ∧ τ 11 = .bool false ∧ τ 16 = .bool false ∧ τ 19 = .bool false ∧ τ 28 = .slice X10 t9.length c11 ∧ τ 29 = .int .i64 ((t9.length : Nat) : Int) ∧ τ 30 = .int .i64 0) ⟨up rfl (up rfl (up rfl (up rfl (up rfl (up rfl hs0))))), up rfl (up rfl (up rfl (up rfl (up rfl (up rfl hs2))))), up rfl (up rfl (up rfl (up rfl (up rfl (up rfl hs3))))), up rfl (up rfl (up rfl (up rfl (up rfl (up rfl hs4))))), up rfl (up rfl (up rfl (up rfl (up rfl (up rfl hs5))))), up rfl (up rfl (up rfl (up rfl (up rfl (up rfl hs6))))), up rfl (up rfl (up rfl (up rfl (up rfl (up rfl hs11))))), up rfl (up rfl (up rfl (up rfl (up rfl (up rfl hs16))))), up rfl (up rfl (up rfl (up rfl (up rfl (up rfl hs19))))), up rfl (up rfl tp), up rfl tp, tp⟩ ?_
        rintro τ ⟨hs0, hs2, hs3, hs4, hs5, hs6, hs11, hs16, hs19, hs28, hs29, hs30⟩
        refine CW.block ?_
        refine CW.loop (fun (k16 : Nat) (τ : Fr) (w : World) => ∃ (s14 : Int) (i15 : Nat), (-9223372036854775808 ≤ s14 ∧ s14 ≤ 9223372036854775807) ∧ Number_l1 b t9 k16 s14 i15 = some r ∧ τ 6 = .int .i64 s14 ∧ τ 30 = .int .i64 ((i15 : Nat) : Int) ∧ τ 0 = .slice (some ⟨b3, o4, none⟩) b.length c_b ∧ τ 2 = .int .i64 0 ∧ τ 3 = .slice none 0 0 ∧ τ 4 = .int .i64 0 ∧ τ 5 = .int .i64 (((b.getD 0 0#8).toNat : Nat) : Int) ∧ τ 28 = .slice X10 t9.length c11 ∧ τ 29 = .int .i64 ((t9.length : Nat) : Int) ∧ St p w (A :: R)) 1099511627776 ?_ ?_
        · skip
          exact ⟨0, 0, (by omega), hF, hs6, (int_eq (a := 0) hs30 (by omega)), hs0, hs2, hs3, hs4, hs5, hs28, hs29, hst⟩
        clear hst hF
        rintro k16 τ w ⟨s14, i15, hr_s14, hF, hs6, hs30, hs0, hs2, hs3, hs4, hs5, hs28, hs29, hst⟩
        obtain ⟨k17, rfl⟩ := Number_l1_pos hF
        rw [Number_l1] at hF
        refine CW.seq ?_
        refine CW.region ?_
        refine RW.soft Wd.a (v := .bool (decide (((i15 : Nat) : Int) < ((t9.length : Nat) : Int)))) (by exact E.lss (k := .i64) (a := ((i15 : Nat) : Int)) (b := ((t9.length : Nat) : Int)) (AF_ev rfl hs30) (AF_ev rfl hs29)) ?_
        refine RW.fin (fun τ => τ 0 = .slice (some ⟨b3, o4, none⟩) b.length c_b ∧ τ 2 = .int .i64 0 ∧ τ 3 = .slice none 0 0 ∧ τ 4 = .int .i64 0 ∧ τ 5 = .int .i64 (((b.getD 0 0#8).toNat : Nat) : Int) ∧ τ 6 = .int .i64 s14 ∧ τ 28 = .slice X10 t9.length c11 ∧ τ 29 = .int .i64 ((t9.length : Nat) : Int) ∧ τ 30 = .int .i64 ((i15 : Nat) : Int) ∧ τ 31 = .bool (decide (((i15 : Nat) : Int) < ((t9.length : Nat) : Int)))) ⟨up rfl hs0, up rfl hs2, up rfl hs3, up rfl hs4, up rfl hs5, up rfl hs6, up rfl hs28, up rfl hs29, up rfl hs30, tp⟩ ?_
        rintro τ ⟨hs0, hs2, hs3, hs4, hs5, hs6, hs28, hs29, hs30, hs31⟩
        refine CW.seq ?_
        refine CW.cond (AF_ev rfl hs31) (fun hc18 => ?_) (fun hc18 => ?_)
        · have hF := ct hc18 hF
          have hc18_ := hc18
          try simp only [decide_eq_true_eq] at hc18_
          refine CW.skip ?_
          refine Th.n ?_
          refine CW.seq ?_
          refine CW.block ?_
          refine CW.seq ?_
          refine CW.region ?_
          obtain ⟨hg19, hF⟩ := pl hF
          obtain ⟨b20, o21, rfl⟩ := SL.Src.someOf (show SL.Src w 1 (.slice X10 t9.length c11) t9.length (t9.map bu8) from (hS_X10 _ _ (hst.take .here))) (by omega)
          refine RW.soft Wd.a (v := .pointer (some ⟨b20, o21 + i15, none⟩)) (by exact E.indexAddr (b := b20) (o := o21) (l := t9.length) (c := c11) (i := ((i15 : Nat) : Int)) Try.underlying25 sz5 (AF_ev rfl hs28) (AF_ev rfl hs30) (by omega) (by omega) (by omega)) ?_
          refine RW.soft Wd.a (v := .int .u8 ((t9.getD i15 0#8).toNat : Int)) (by exact E.load (a := ⟨b20, o21 + i15, none⟩) Try.underlying5 rfl (AF_ev rfl tp) (Src.cellAt (o := o21) (j := i15) ((hS_X10 _ _ (hst.take .here))) (getF (f := bu8) (d := 0#8) (by omega)))) ?_
          refine RW.soft Wd.a (v := .int .u8 ((t9.getD i15 0#8).toNat : Int)) (by exact E.assign (AF_ev rfl tp)) ?_
          refine RW.fin (fun τ => τ 0 = .slice (some ⟨b3, o4, none⟩) b.length c_b ∧ τ 2 = .int .i64 0 ∧ τ 3 = .slice none 0 0 ∧ τ 4 = .int .i64 0 ∧ τ 5 = .int .i64 (((b.getD 0 0#8).toNat : Nat) : Int) ∧ τ 6 = .int .i64 s14 ∧ τ 8 = .int .u8 ((t9.getD i15 0#8).toNat : Int) ∧ τ 28 = .slice (some ⟨b20, o21, none⟩) t9.length c11 ∧ τ 29 = .int .i64 ((t9.length : Nat) : Int) ∧ τ 30 = .int .i64 ((i15 : Nat) : Int) ∧ τ 31 = .bool true) ⟨up rfl (up rfl (up rfl hs0)), up rfl (up rfl (up rfl hs2)), up rfl (up rfl (up rfl hs3)), up rfl (up rfl (up rfl hs4)), up rfl (up rfl (up rfl hs5)), up rfl (up rfl (up rfl hs6)), tp, up rfl (up rfl (up rfl hs28)), up rfl (up rfl (up rfl hs29)), up rfl (up rfl (up rfl hs30)), up rfl (up rfl (up rfl (Eq.trans hs31 (congrArg Value.bool hc18))))⟩ ?_
          rintro τ ⟨hs0, hs2, hs3, hs4, hs5, hs6, hs8, hs28, hs29, hs30, hs31⟩
          refine CW.region ?_
          refine RW.soft Wd.a (v := .int .i64 s14) (by exact E.move (AF_ev rfl hs6)) ?_
          refine RW.soft Wd.a (v := .int .i64 (ishl64 s14 8)) (by exact E.ishl (i := s14) (d := 8) (AF_ev rfl tp) rfl rfl) ?_
          refine RW.soft Wd.a (v := .int .u8 ((t9.getD i15 0#8).toNat : Int)) (by exact E.move (AF_ev rfl (up rfl (up rfl hs8)))) ?_
          refine RW.soft Wd.a (v := .int .i64 (((t9.getD i15 0#8).toNat : Nat) : Int)) (by exact E.cvUI (a := t9.getD i15 0#8) (by rw [Try.underlying5]; rfl) Try.underlying3 (by decide) (AF_ev rfl tp)) ?_
          obtain ⟨z22, h_z22, hF⟩ := lp hF
          have hr_z22 : -9223372036854775808 ≤ z22 ∧ z22 ≤ 9223372036854775807 := by rw [h_z22]; exact (ior64_rng _ _)
          refine RW.soft Wd.a (v := .int .i64 z22) (by exact E.v (E.ior (i := ishl64 s14 8) (j := (((t9.getD i15 0#8).toNat : Nat) : Int)) (AF_ev rfl (up rfl (up rfl tp))) (AF_ev rfl tp)) (by first | (rw [h_z22]; done) | (rw [h_z22]; rfl))) ?_
          refine RW.soft Wd.a (v := .int .i64 z22) (by exact E.assign (AF_ev rfl tp)) ?_
          refine RW.nil ?_
          refine Bl.n ?_
          refine Th.n ?_
          refine CW.region ?_
          refine RW.soft Wd.a (v := .int .i64 (((i15 : Nat) : Int) + 1)) (by exact E.add (k := .i64) (a := ((i15 : Nat) : Int)) (b := 1) (AF_ev rfl (up rfl (up rfl (up rfl (up rfl (up rfl (up rfl hs30))))))) rfl (show IntKind.i64.wrap (((i15 : Nat) : Int) + 1) = ((i15 : Nat) : Int) + 1 from (by rw [IntWalk.i64_in _ (by omega)]))) ?_
          refine RW.soft Wd.a (v := .int .i64 (((i15 : Nat) : Int) + 1)) (by exact E.move (AF_ev rfl tp)) ?_
          refine RW.nil ?_
          refine Th.n ?_
          exact ⟨k17, Nat.lt_succ_self _, z22, (i15 + 1), (by omega), hF, up rfl (up rfl tp), (int_eq (a := ((i15 : Nat) : Int) + 1) tp (by omega)), up rfl (up rfl (up rfl (up rfl (up rfl (up rfl (up rfl (up rfl hs0))))))), up rfl (up rfl (up rfl (up rfl (up rfl (up rfl (up rfl (up rfl hs2))))))), up rfl (up rfl (up rfl (up rfl (up rfl (up rfl (up rfl (up rfl hs3))))))), up rfl (up rfl (up rfl (up rfl (up rfl (up rfl (up rfl (up rfl hs4))))))), up rfl (up rfl (up rfl (up rfl (up rfl (up rfl (up rfl (up rfl hs5))))))), up rfl (up rfl (up rfl (up rfl (up rfl (up rfl (up rfl (up rfl hs28))))))), up rfl (up rfl (up rfl (up rfl (up rfl (up rfl (up rfl (up rfl hs29))))))), hst⟩
        · have hF := cf hc18 hF
          have hc18_ := hc18
          try simp only [decide_eq_false_iff_not, Int.not_lt, Int.not_le, gt_iff_lt, ge_iff_le] at hc18_
          refine CW.exit ?_
          refine Th.x ?_
          refine Th.x ?_
          refine Bl.x ?_
          refine Th.n ?_
          refine CW.seq ?_
          refine CW.seqJ (fun τ w => ∃ (j23 : Bool), Number_j2 b s14 j23 = some r ∧ τ 0 = .slice (some ⟨b3, o4, none⟩) b.length c_b ∧ τ 2 = .int .i64 0 ∧ τ 3 = .slice none 0 0 ∧ τ 4 = .int .i64 0 ∧ τ 5 = .int .i64 (((b.getD 0 0#8).toNat : Nat) : Int) ∧ τ 6 = .int .i64 s14 ∧ τ 50 = .bool j23 ∧ St p w (A :: R)) ?_ ?_
          · skip
            refine CW.region ?_
            refine RW.soft Wd.a (v := .int .i64 s14) (by exact E.move (AF_ev rfl hs6)) ?_
            refine RW.soft Wd.a (v := .bool (decide (s14 < 0))) (by exact E.lss (k := .i64) (a := s14) (b := 0) (AF_ev rfl tp) rfl) ?_
            refine RW.soft Wd.a (v := .bool (decide (s14 < 0))) (by exact E.move (AF_ev rfl tp)) ?_
            refine Or.elim (Bool.eq_false_or_eq_true (decide (s14 < 0))) (fun hw24 => ?_) (fun hw24 => ?_)
            · have hF := ct hw24 hF
              have hw24_ := hw24
              try simp only [decide_eq_true_eq] at hw24_
              refine RW.pass (by exact Wd.no (x := 42) (b := true) rfl (AF_ev rfl (Eq.trans tp (congrArg Value.bool hw24))) rfl) ?_
              refine RW.pass (by exact Wd.no (x := 42) (b := true) rfl (AF_ev rfl (up rfl (Eq.trans tp (congrArg Value.bool hw24)))) rfl) ?_
              refine RW.pass (by exact Wd.no (x := 42) (b := true) rfl (AF_ev rfl (up rfl (up rfl (Eq.trans tp (congrArg Value.bool hw24))))) rfl) ?_
              refine RW.pass (by exact Wd.no (x := 42) (b := true) rfl (AF_ev rfl (up rfl (up rfl (up rfl (Eq.trans tp (congrArg Value.bool hw24)))))) rfl) ?_
              refine RW.pass (by exact Wd.no (x := 42) (b := true) rfl (AF_ev rfl (up rfl (up rfl (up rfl (up rfl (Eq.trans tp (congrArg Value.bool hw24))))))) rfl) ?_
              refine RW.pass (by exact Wd.no (x := 42) (b := true) rfl (AF_ev rfl (up rfl (up rfl (up rfl (up rfl (up rfl (Eq.trans tp (congrArg Value.bool hw24)))))))) rfl) ?_
              refine RW.pass (by exact Wd.no (x := 42) (b := true) rfl (AF_ev rfl (up rfl (up rfl (up rfl (up rfl (up rfl (up rfl (Eq.trans tp (congrArg Value.bool hw24))))))))) rfl) ?_
              refine RW.soft Wd.a (v := .bool true) (by exact E.pickT (AF_ev rfl (up rfl (up rfl (up rfl (up rfl (up rfl (up rfl (up rfl (Eq.trans tp (congrArg Value.bool hw24)))))))))) rfl) ?_
              refine RW.nil ?_
              refine Th.n ?_
              exact ⟨true, hF, up rfl (up rfl (up rfl (up rfl (up rfl (up rfl (up rfl (up rfl (up rfl (up rfl (up rfl hs0)))))))))), up rfl (up rfl (up rfl (up rfl (up rfl (up rfl (up rfl (up rfl (up rfl (up rfl (up rfl hs2)))))))))), up rfl (up rfl (up rfl (up rfl (up rfl (up rfl (up rfl (up rfl (up rfl (up rfl (up rfl hs3)))))))))), up rfl (up rfl (up rfl (up rfl (up rfl (up rfl (up rfl (up rfl (up rfl (up rfl (up rfl hs4)))))))))), up rfl (up rfl (up rfl (up rfl (up rfl (up rfl (up rfl (up rfl (up rfl (up rfl (up rfl hs5)))))))))), up rfl (up rfl (up rfl (up rfl (up rfl (up rfl (up rfl (up rfl (up rfl (up rfl (up rfl hs6)))))))))), tp, hst⟩
            · have hF := cf hw24 hF
              have hw24_ := hw24
              try simp only [decide_eq_false_iff_not, Int.not_lt, Int.not_le, gt_iff_lt, ge_iff_le] at hw24_
              refine RW.soft (by exact Wd.yes (x := 42) rfl (AF_ev rfl (Eq.trans tp (congrArg Value.bool hw24)))) (v := .int .i64 s14) (by exact E.move (AF_ev rfl (up rfl (up rfl (up rfl hs6))))) ?_
              refine RW.soft (by exact Wd.yes (x := 42) rfl (AF_ev rfl (up rfl (Eq.trans tp (congrArg Value.bool hw24))))) (v := .int .u64 ((BitVec.ofInt 64 s14).toNat : Int)) (by exact E.cvIU (z := s14) (by rw [Try.underlying3]; rfl) Try.underlying138 UK.u64 (AF_ev rfl tp)) ?_
              obtain ⟨r25, h_r25, hF⟩ := bd hF
              refine RW.hard (by exact Wd.yes (x := 42) rfl (AF_ev rfl (up rfl (up rfl (Eq.trans tp (congrArg Value.bool hw24)))))) ?_
              refine H.call0 Try.func79 nm79 rfl (map1 (AF_ev rfl tp)) (Calls.mono (Len_C (BitVec.ofInt 64 s14) r25 h_r25 hst) ?_)
              rintro _ w ⟨rfl, hr_q26_0, hst⟩
              refine ⟨_, rfl, ?_⟩
              show RW _ _ _ _ _ _ _
              refine RW.soft (by exact Wd.yes (x := 42) rfl (AF_ev rfl (up rfl (up rfl (up rfl (Eq.trans tp (congrArg Value.bool hw24))))))) (v := .int .i64 (w64 (r25 + 7))) (by exact E.add (k := .i64) (a := r25) (b := 7) (AF_ev rfl tp) rfl rfl) ?_
              refine RW.soft (by exact Wd.yes (x := 42) rfl (AF_ev rfl (up rfl (up rfl (up rfl (up rfl (Eq.trans tp (congrArg Value.bool hw24)))))))) (v := .int .i64 (w64 ((w64 (r25 + 7)).tdiv 8))) (by exact E.quo (k := .i64) (a := w64 (r25 + 7)) (b := 8) (AF_ev rfl tp) rfl (by omega) rfl) ?_
              refine RW.soft (by exact Wd.yes (x := 42) rfl (AF_ev rfl (up rfl (up rfl (up rfl (up rfl (up rfl (Eq.trans tp (congrArg Value.bool hw24))))))))) (v := .int .i64 (((b.getD 0 0#8).toNat : Nat) : Int)) (by exact E.move (AF_ev rfl (up rfl (up rfl (up rfl (up rfl (up rfl (up rfl (up rfl (up rfl hs5)))))))))) ?_
              refine RW.soft (by exact Wd.yes (x := 42) rfl (AF_ev rfl (up rfl (up rfl (up rfl (up rfl (up rfl (up rfl (Eq.trans tp (congrArg Value.bool hw24)))))))))) (v := .bool ((w64 ((w64 (r25 + 7)).tdiv 8)) != (((b.getD 0 0#8).toNat : Nat) : Int))) (by exact E.neq (k := .i64) (a := w64 ((w64 (r25 + 7)).tdiv 8)) (b := (((b.getD 0 0#8).toNat : Nat) : Int)) (AF_ev rfl (up rfl tp)) (AF_ev rfl tp)) ?_
              refine RW.soft Wd.a (v := .bool ((w64 ((w64 (r25 + 7)).tdiv 8)) != (((b.getD 0 0#8).toNat : Nat) : Int))) (by exact E.pickF (AF_ev rfl (up rfl (up rfl (up rfl (up rfl (up rfl (up rfl (up rfl (Eq.trans tp (congrArg Value.bool hw24)))))))))) (AF_ev rfl tp)) ?_
              refine RW.nil ?_
              refine Th.n ?_
              exact ⟨((w64 ((w64 (r25 + 7)).tdiv 8)) != (((b.getD 0 0#8).toNat : Nat) : Int)), hF, up rfl (up rfl (up rfl (up rfl (up rfl (up rfl (up rfl (up rfl (up rfl (up rfl (up rfl hs0)))))))))), up rfl (up rfl (up rfl (up rfl (up rfl (up rfl (up rfl (up rfl (up rfl (up rfl (up rfl hs2)))))))))), up rfl (up rfl (up rfl (up rfl (up rfl (up rfl (up rfl (up rfl (up rfl (up rfl (up rfl hs3)))))))))), up rfl (up rfl (up rfl (up rfl (up rfl (up rfl (up rfl (up rfl (up rfl (up rfl (up rfl hs4)))))))))), up rfl (up rfl (up rfl (up rfl (up rfl (up rfl (up rfl (up rfl (up rfl (up rfl (up rfl hs5)))))))))), up rfl (up rfl (up rfl (up rfl (up rfl (up rfl (up rfl (up rfl (up rfl (up rfl (up rfl hs6)))))))))), tp, hst⟩
          rintro τ w ⟨j23, hF, hs0, hs2, hs3, hs4, hs5, hs6, hs50, hst⟩
          unfold Number_j2 at hF
          refine CW.cond (AF_ev rfl hs50) (fun hc27 => ?_) (fun hc27 => ?_)
          · have hF := ct hc27 hF
            refine CW.seq ?_
            refine CW.region ?_
            refine RW.soft Wd.a (v := .int .i64 0) (by exact E.assign rfl) ?_
            refine RW.soft Wd.a (v := .slice none 0 0) (by exact E.assign rfl) ?_
            refine RW.soft Wd.a (v := .int .i64 80) (by exact E.assign rfl) ?_
            refine RW.fin (fun τ => τ 0 = .slice (some ⟨b3, o4, none⟩) b.length c_b ∧ τ 2 = .int .i64 0 ∧ τ 3 = .slice none 0 0 ∧ τ 4 = .int .i64 80 ∧ τ 5 = .int .i64 (((b.getD 0 0#8).toNat : Nat) : Int) ∧ τ 6 = .int .i64 s14 ∧ τ 50 = .bool true) ⟨up rfl (up rfl (up rfl hs0)), up rfl (up rfl tp), up rfl tp, tp, up rfl (up rfl (up rfl hs5)), up rfl (up rfl (up rfl hs6)), up rfl (up rfl (up rfl (Eq.trans hs50 (congrArg Value.bool hc27))))⟩ ?_
            rintro τ ⟨hs0, hs2, hs3, hs4, hs5, hs6, hs50⟩
            refine CW.ret ?_
            refine Th.r ?_
            refine retN (rs := [.tmp 2, .tmp 3, .tmp 4]) (vs := [.int .i64 0, .slice none 0 0, .int .i64 80]) rfl (by exact (.tmp (AF_ev rfl hs2) (.tmp (AF_ev rfl hs3) (.tmp (AF_ev rfl hs4) .nil)))) (by simp) ?_
            rw [somE hF]
            exact ⟨none, 0, rfl, (by (try dsimp only); first | omega | exact (by omega)), (fun w H s => Src.nil), (by (try dsimp only); simp), (by (try dsimp only); first | omega | exact (by omega)), hst⟩
          · have hF := cf hc27 hF
            refine CW.skip ?_
            refine Th.n ?_
            refine CW.seq ?_
            obtain ⟨hg28, hF⟩ := pl hF
            have hcap_c_b : b.length ≤ c_b := (show SL.Src w 1 (.slice (some ⟨b3, o4, none⟩) b.length c_b) b.length (b.map bu8) from (hS_b _ _ (hst.take .here))).len.2.1
            obtain ⟨t30, h_t30, hF⟩ := lp hF
            have hl_t30 : t30.length = b.length - ((1 + (((b.getD 0 0#8).toNat : Nat) : Int)).toNat) := by rw [h_t30]; exact sl_len rfl (by omega)
            obtain ⟨c32, hc_c32⟩ : ∃ z, z = c_b - ((1 + (((b.getD 0 0#8).toNat : Nat) : Int)).toNat) := ⟨_, rfl⟩
            obtain ⟨X31, hX_X31⟩ : ∃ z, z = sbA (some ⟨b3, o4, none⟩) c_b ((1 + (((b.getD 0 0#8).toNat : Nat) : Int)).toNat) 1 := ⟨_, rfl⟩
            have hS_X31 : ∀ w H, St p w (A :: H) → SL.Src w 1 (.slice X31 t30.length c32) t30.length (t30.map bu8) := fun w H s => (show SL.Src w 1 (.slice X31 t30.length c32) t30.length (t30.map bu8) from by have h_ := Src.sub ((hS_b _ _ s)) (i := (1 + (((b.getD 0 0#8).toNat : Nat) : Int)).toNat) (j := b.length) (by omega) (by omega); rw [← hX_X31] at h_; exact h_.cast (by omega) (by omega) (by first | (rw [h_t30, map_sl]; done) | (rw [h_t30, map_sl]; rfl)))
            refine CW.regionE [] (fun w => True) mixed ?_
            have hst := hst.drew
            generalize w.drew = w at hst ⊢
            have hS : True := trivial
            refine RE.takeF 0 rfl (by kernel_rfl) Wd.a (v := .int .i64 s14) (fun w => by exact E.move (AF_ev rfl hs6)) ?_
            refine RE.takeF 1 rfl (by kernel_rfl) Wd.a (v := .slice (some ⟨b3, o4, none⟩) b.length c_b) (fun w => by exact E.move (AF_ev rfl (up rfl hs0))) ?_
            refine RE.takeF 2 rfl (by kernel_rfl) Wd.a (v := .int .i64 (((b.getD 0 0#8).toNat : Nat) : Int)) (fun w => by exact E.move (AF_ev rfl (up rfl (up rfl hs5)))) ?_
            refine RE.takeF 3 rfl (by kernel_rfl) Wd.a (v := .int .i64 (1 + (((b.getD 0 0#8).toNat : Nat) : Int))) (fun w => by exact E.add (k := .i64) (a := 1) (b := (((b.getD 0 0#8).toNat : Nat) : Int)) rfl (AF_ev rfl tp) (show IntKind.i64.wrap (1 + (((b.getD 0 0#8).toNat : Nat) : Int)) = 1 + (((b.getD 0 0#8).toNat : Nat) : Int) from (by have := BitVec.isLt (b.getD 0 0#8); rw [IntWalk.i64_in _ (by omega)]))) ?_
            refine RE.takeF 4 rfl (by kernel_rfl) Wd.a (v := .slice X31 t30.length c32) (fun w => by exact E.v (run_slice (X := (some ⟨b3, o4, none⟩)) (m := b.length) (c := c_b) (i := (1 + (((b.getD 0 0#8).toNat : Nat) : Int)).toNat) (j := b.length) (k := c_b) Try.underlying25 sz5 _ (AF_ev rfl (up rfl (up rfl tp))) (int_eq (a := 1 + (((b.getD 0 0#8).toNat : Nat) : Int)) (AF_ev rfl tp) (by omega)) ⟨rfl, rfl⟩ rfl (by omega) (by omega) (by omega)) (by first | (rw [hX_X31, hc_c32, hl_t30]; done) | (rw [hX_X31, hc_c32, hl_t30]; rfl) | (rw [hX_X31, hc_c32, hl_t30]; simp))) ?_
            refine RE.takeF 5 rfl (by kernel_rfl) Wd.a (v := .int .i64 s14) (fun w => by exact E.assign (AF_ev rfl (up rfl (up rfl (up rfl (up rfl tp)))))) ?_
            refine RE.takeF 6 rfl (by kernel_rfl) Wd.a (v := .slice X31 t30.length c32) (fun w => by exact E.assign (AF_ev rfl (up rfl tp))) ?_
            refine RE.takeF 7 rfl (by kernel_rfl) Wd.a (v := .int .i64 0) (fun w => by exact E.assign rfl) ?_
            refine RE.fin (by kernel_rfl) (fun τ => τ 0 = .slice (some ⟨b3, o4, none⟩) b.length c_b ∧ τ 2 = .int .i64 s14 ∧ τ 3 = .slice X31 t30.length c32 ∧ τ 4 = .int .i64 0 ∧ τ 5 = .int .i64 (((b.getD 0 0#8).toNat : Nat) : Int) ∧ τ 6 = .int .i64 s14 ∧ τ 50 = .bool false) ⟨up rfl (up rfl (up rfl (up rfl (up rfl (up rfl (up rfl (up rfl hs0))))))), up rfl (up rfl tp), up rfl tp, tp, up rfl (up rfl (up rfl (up rfl (up rfl (up rfl (up rfl (up rfl hs5))))))), up rfl (up rfl (up rfl (up rfl (up rfl (up rfl (up rfl (up rfl hs6))))))), up rfl (up rfl (up rfl (up rfl (up rfl (up rfl (up rfl (up rfl (Eq.trans hs50 (congrArg Value.bool hc27)))))))))⟩ ?_
            rintro τ ⟨hs0, hs2, hs3, hs4, hs5, hs6, hs50⟩
            refine CW.ret ?_
            refine retN (rs := [.tmp 2, .tmp 3, .tmp 4]) (vs := [.int .i64 s14, .slice X31 t30.length c32, .int .i64 0]) rfl (by exact (.tmp (AF_ev rfl hs2) (.tmp (AF_ev rfl hs3) (.tmp (AF_ev rfl hs4) .nil)))) (by simp) ?_
            rw [somE hF]
            exact ⟨X31, c32, rfl, (by (try dsimp only); first | omega | exact (by omega)), (fun w H s => (hS_X31 _ _ s)), (by (try dsimp only); omega), (by (try dsimp only); first | omega | exact (by omega)), hst⟩

def Take (b : List (BitVec 8)) : Option (Int × List (BitVec 8) × Int) :=
  (Number b).bind fun r1 =>
  some (r1.1, r1.2.1, r1.2.2)
theorem Take_C {p : Pers} {w : World} {R : List Assn} {A : Assn} {X_b : Option Addr} {c_b : Nat} (b : List (BitVec 8)) (hm_b : b.length ≤ 1000000) (hS_b : ∀ w H, St p w (A :: H) → SL.Src w 1 (.slice X_b b.length c_b) b.length (b.map bu8)) (r : Int × List (BitVec 8) × Int) (hF : Take b = some r) (hst : St p w (A :: R)) :
    Calls Try.prog 56 #[.slice X_b b.length c_b] w fun e w => ∃ (X1 : Option Addr) (c1 : Nat), e = .returned (.tuple #[.int .i64 r.1, .slice X1 r.2.1.length c1, .int .i64 r.2.2]) ∧ (-9223372036854775808 ≤ r.1 ∧ r.1 ≤ 9223372036854775807) ∧ r.2.1.length ≤ 1000000 ∧ (-9223372036854775808 ≤ r.2.2 ∧ r.2.2 ≤ 9223372036854775807) ∧ St p w (SL.Own 5 1 (.slice X1 r.2.1.length c1) r.2.1.length (r.2.1.map bu8) :: A :: R) := by
  unfold Take at hF
  refine enter Try.func56 rfl (by simp) (n := 15) rfl fun τ hτ => ?_
  have hs0 : τ 0 = .slice X_b b.length c_b := hτ 0 (by simp)
  clear hτ
  refine CW.seq ?_
  refine CW.region ?_
  refine RW.soft Wd.a (v := .int .i64 0) (by exact E.assign rfl) ?_
  refine RW.soft Wd.a (v := .slice none 0 0) (by exact E.assign rfl) ?_
  refine RW.soft Wd.a (v := .int .i64 0) (by exact E.assign rfl) ?_
  refine RW.fin (fun τ => τ 0 = .slice X_b b.length c_b ∧ τ 2 = .int .i64 0 ∧ τ 3 = .slice none 0 0 ∧ τ 4 = .int .i64 0) ⟨up rfl (up rfl (up rfl hs0)), up rfl (up rfl tp), up rfl tp, tp⟩ ?_
  rintro τ ⟨hs0, hs2, hs3, hs4⟩
  refine CW.seq ?_
  refine CW.region ?_
  refine RW.soft Wd.a (v := .slice X_b b.length c_b) (by exact E.move (AF_ev rfl hs0)) ?_
  obtain ⟨r1, h_r1, hF⟩ := bd hF
  refine RW.hard Wd.a ?_
  refine H.call0 Try.func82 nm82 rfl (map1 (AF_ev rfl tp)) (Calls.mono (Number_C (A := A) b (by first | omega | (simp; done)) (fun w H s => (hS_b _ _ s)) r1 h_r1 hst) ?_)
  rintro _ w ⟨Xq2_1, cq2_1, rfl, hr_q2_0, hS_q2_1, hm_q2_1, hr_q2_2, hst⟩
  refine ⟨_, rfl, ?_⟩
  show RW _ _ _ _ _ _ _
  refine RW.soft Wd.a (v := .tuple #[.int .i64 r1.1, .slice Xq2_1 r1.2.1.length cq2_1, .int .i64 r1.2.2]) (by exact E.move (AF_ev rfl tp)) ?_
  refine RW.soft Wd.a (v := .int .i64 r1.1) (by exact E.extract (vs := #[.int .i64 r1.1, .slice Xq2_1 r1.2.1.length cq2_1, .int .i64 r1.2.2]) (AF_ev rfl tp) rfl) ?_
  refine RW.soft Wd.a (v := .slice Xq2_1 r1.2.1.length cq2_1) (by exact E.extract (vs := #[.int .i64 r1.1, .slice Xq2_1 r1.2.1.length cq2_1, .int .i64 r1.2.2]) (AF_ev rfl (up rfl tp)) rfl) ?_
  refine RW.soft Wd.a (v := .int .i64 r1.2.2) (by exact E.extract (vs := #[.int .i64 r1.1, .slice Xq2_1 r1.2.1.length cq2_1, .int .i64 r1.2.2]) (AF_ev rfl (up rfl (up rfl tp))) rfl) ?_
  refine RW.soft Wd.a (v := .int .i64 r1.1) (by exact E.assign (AF_ev rfl (up rfl (up rfl tp)))) ?_
  refine RW.soft Wd.a (v := .slice Xq2_1 r1.2.1.length cq2_1) (by exact E.assign (AF_ev rfl (up rfl (up rfl tp)))) ?_
  refine RW.soft Wd.a (v := .int .i64 r1.2.2) (by exact E.assign (AF_ev rfl (up rfl (up rfl tp)))) ?_
  refine RW.fin (fun τ => τ 0 = .slice X_b b.length c_b ∧ τ 2 = .int .i64 r1.1 ∧ τ 3 = .slice Xq2_1 r1.2.1.length cq2_1 ∧ τ 4 = .int .i64 r1.2.2) ⟨up rfl (up rfl (up rfl (up rfl (up rfl (up rfl (up rfl (up rfl (up rfl hs0)))))))), up rfl (up rfl tp), up rfl tp, tp⟩ ?_
  rintro τ ⟨hs0, hs2, hs3, hs4⟩
  refine CW.seq ?_
  refine CW.region ?_
  refine RW.soft Wd.a (v := .int .i64 r1.1) (by exact E.move (AF_ev rfl hs2)) ?_
  refine RW.soft Wd.a (v := .slice Xq2_1 r1.2.1.length cq2_1) (by exact E.move (AF_ev rfl (up rfl hs3))) ?_
  refine RW.hard Wd.a ?_
  refine H.call0 Try.func80 nm80 rfl (map1 (AF_ev rfl tp)) (Calls.mono (clone_bytes (fun w H s => (hS_q2_1 _ _ s)) (ones_map (fun _ => rfl)) (by omega) hst) ?_)
  rintro _ w ⟨vX3, rfl, hnX3, hst⟩
  obtain ⟨X3, c4, rfl, hcX3, hmX3, hlX3, hbX3⟩ := hst.shape
  clear hlX3
  refine ⟨_, rfl, ?_⟩
  show RW _ _ _ _ _ _ _
  refine RW.soft Wd.a (v := .int .i64 r1.2.2) (by exact E.move (AF_ev rfl (up rfl (up rfl (up rfl hs4))))) ?_
  refine RW.soft Wd.a (v := .int .i64 r1.1) (by exact E.assign (AF_ev rfl (up rfl (up rfl (up rfl tp))))) ?_
  refine RW.soft Wd.a (v := .slice X3 r1.2.1.length c4) (by exact E.assign (AF_ev rfl (up rfl (up rfl tp)))) ?_
  refine RW.soft Wd.a (v := .int .i64 r1.2.2) (by exact E.assign (AF_ev rfl (up rfl (up rfl tp)))) ?_
  refine RW.fin (fun τ => τ 0 = .slice X_b b.length c_b ∧ τ 2 = .int .i64 r1.1 ∧ τ 3 = .slice X3 r1.2.1.length c4 ∧ τ 4 = .int .i64 r1.2.2) ⟨up rfl (up rfl (up rfl (up rfl (up rfl (up rfl (up rfl hs0)))))), up rfl (up rfl tp), up rfl tp, tp⟩ ?_
  rintro τ ⟨hs0, hs2, hs3, hs4⟩
  refine CW.ret ?_
  refine retN (rs := [.tmp 2, .tmp 3, .tmp 4]) (vs := [.int .i64 r1.1, .slice X3 r1.2.1.length c4, .int .i64 r1.2.2]) rfl (by exact (.tmp (AF_ev rfl hs2) (.tmp (AF_ev rfl hs3) (.tmp (AF_ev rfl hs4) .nil)))) (by simp) ?_
  have hst := hst.take (.there .here)
  have hst := hst.take (.there .here)
  rw [somE hF]
  exact ⟨X3, c4, rfl, (by (try dsimp only); first | omega | exact (by omega)), (by (try dsimp only); first | omega | (simp; done) | (simp; omega)), (by (try dsimp only); first | omega | exact (by omega)), hst⟩
end Go.Proofs.Ytjpjejldinpcnaa
