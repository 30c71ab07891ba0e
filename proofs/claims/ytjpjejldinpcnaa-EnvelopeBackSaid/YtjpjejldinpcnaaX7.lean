/- Functions that were walked through by a program: what each comes to, as a plain function, and the proof. -/
import Derived.Test.YtjpjejldinpcnaaX6
import Derived.Test.YtjpjejldinpcnaaKC
import Derived.Test.YtjpjejldinpcnaaAY
namespace Go.Proofs.Ytjpjejldinpcnaa
open Go.RowKit Go.SL Go.K13
attribute [local irreducible] Go.SL.RW Go.SL.CW Go.SL.RD Go.SL.Hd Go.SL.St
set_option linter.unusedVariables false
set_option linter.unusedSimpArgs false
set_option maxRecDepth 20000
set_option maxHeartbeats 4000000

theorem nm12 : (Try.f12.name == "runtime.NumGoroutine") = false := by kernel_rfl
theorem nm13 : (Try.f13.name == "runtime.NumGoroutine") = false := by kernel_rfl
theorem nm18 : (Try.f18.name == "runtime.NumGoroutine") = false := by kernel_rfl
theorem nm20 : (Try.f20.name == "runtime.NumGoroutine") = false := by kernel_rfl
theorem nm22 : (Try.f22.name == "runtime.NumGoroutine") = false := by kernel_rfl
theorem nm59 : (Try.f59.name == "runtime.NumGoroutine") = false := by kernel_rfl
theorem nm60 : (Try.f60.name == "runtime.NumGoroutine") = false := by kernel_rfl
theorem nm61 : (Try.f61.name == "runtime.NumGoroutine") = false := by kernel_rfl
theorem zs34 : (Try.prog.info? 34).bind (·.zero) = some (.agg (((List.replicate 32 0#8).map bu8)).toArray) := by kernel_rfl

def Encrypt_l2 (id : Int) (text : List (BitVec 8)) (beside : List (BitVec 8)) (r4 : Int × Int × Bytes × Int × RKB)  : Nat → Nat → List (BitVec 8) → Option (List (BitVec 8) × Int × Int × RKB)
  | 0, _, _ => none
  | k13 + 1, i10, m11 =>
    bif decide (((i10 : Nat) : Int) < 8) then
      lt_ (BitVec.ofInt 8 (ishr64 r4.2.1 ((8 * ((i10 : Nat) : Int)).toNat))) fun u15 =>
      lt_ (m11.set ((11 - ((i10 : Nat) : Int)).toNat) u15) fun m16 =>
      Encrypt_l2 id text beside r4 k13 (i10 + 1) m16
    else
      (GSeal r4.2.2.1 m11 beside text).bind fun r17 =>
      (Blob id r4.1 m11 r17).bind fun r19 =>
      some (r19, r4.1, 0, r4.2.2.2.2)
theorem Encrypt_l2_pos {id : Int} {text : List (BitVec 8)} {beside : List (BitVec 8)} {r4 : Int × Int × Bytes × Int × RKB}  {fu_ : Nat} {i10 : Nat} {m11 : List (BitVec 8)} {r : List (BitVec 8) × Int × Int × RKB} (h : Encrypt_l2 id text beside r4 fu_ i10 m11 = some r) : ∃ j, fu_ = j + 1 := by
  cases fu_ with
  | zero => cases (show (none : Option (List (BitVec 8) × Int × Int × RKB)) = some r from h)
  | succ j => exact ⟨j, rfl⟩
def Encrypt_j1 (k : RKB) (id : Int) (text : List (BitVec 8)) (beside : List (BitVec 8))  (j1 : Bool) : Option (List (BitVec 8) × Int × Int × RKB) :=
  bif j1 then
    some (([] : List (BitVec 8)), 0, 2, k)
  else
    lt_ (bUse k id) fun r4 =>
    bif r4.2.2.2.1 != 0 then
      some (([] : List (BitVec 8)), 0, r4.2.2.2.1, r4.2.2.2.2)
    else
      Encrypt_l2 id text beside r4 1099511627776 0 (List.replicate 12 0#8)
def Encrypt (k : RKB) (id : Int) (text : List (BitVec 8)) (beside : List (BitVec 8)) : Option (List (BitVec 8) × Int × Int × RKB) :=
  bif decide (((text.length : Nat) : Int) > 64) then
    Encrypt_j1 k id text beside true
  else
    Encrypt_j1 k id text beside (decide (((beside.length : Nat) : Int) > 32))
theorem Encrypt_C {p : Pers} {w : World} {R : List Assn} {A : Assn} {b_k : Nat} (k : RKB) (id : Int) (hr_id : -9223372036854775808 ≤ id ∧ id ≤ 9223372036854775807) {X_text : Option Addr} {c_text : Nat} (text : List (BitVec 8)) (hm_text : text.length ≤ 1000000) (hS_text : ∀ w H, St p w (A :: H) → SL.Src w 1 (.slice X_text text.length c_text) text.length (text.map bu8)) {X_beside : Option Addr} {c_beside : Nat} (beside : List (BitVec 8)) (hm_beside : beside.length ≤ 1000000) (hS_beside : ∀ w H, St p w (A :: H) → SL.Src w 1 (.slice X_beside beside.length c_beside) beside.length (beside.map bu8)) (r : List (BitVec 8) × Int × Int × RKB) (hF : Encrypt k id text beside = some r) (hst : St p w (KeysB 103 b_k k :: A :: R)) :
    Calls Try.prog 18 #[.pointer (some ⟨b_k, 0, none⟩), .int .i64 id, .slice X_text text.length c_text, .slice X_beside beside.length c_beside] w fun e w => ∃ (X0 : Option Addr) (c0 : Nat), e = .returned (.tuple #[.slice X0 r.1.length c0, .int .i64 r.2.1, .int .i64 r.2.2.1]) ∧ r.1.length ≤ 1000000 ∧ (-9223372036854775808 ≤ r.2.1 ∧ r.2.1 ≤ 9223372036854775807) ∧ (-9223372036854775808 ≤ r.2.2.1 ∧ r.2.2.1 ≤ 9223372036854775807) ∧ St p w (SL.Own 5 1 (.slice X0 r.1.length c0) r.1.length (r.1.map bu8) :: KeysB 103 b_k r.2.2.2 :: A :: R) := by
  unfold Encrypt at hF
  refine enter Try.func18 rfl (by simp) (n := 58) rfl fun τ hτ => ?_
  have hs0 : τ 0 = .pointer (some ⟨b_k, 0, none⟩) := hτ 0 (by simp)
  have hs1 : τ 1 = .int .i64 id := hτ 1 (by simp)
  have hs2 : τ 2 = .slice X_text text.length c_text := hτ 2 (by simp)
  have hs3 : τ 3 = .slice X_beside beside.length c_beside := hτ 3 (by simp)
  clear hτ
  refine CW.seq ?_
  refine CW.region ?_
  refine RW.soft Wd.a (v := .slice none 0 0) (by exact E.assign rfl) ?_
  refine RW.soft Wd.a (v := .int .i64 0) (by exact E.assign rfl) ?_
  refine RW.soft Wd.a (v := .int .i64 0) (by exact E.assign rfl) ?_
  refine RW.fin (fun τ => τ 0 = .pointer (some ⟨b_k, 0, none⟩) ∧ τ 1 = .int .i64 id ∧ τ 2 = .slice X_text text.length c_text ∧ τ 3 = .slice X_beside beside.length c_beside ∧ τ 8 = .slice none 0 0 ∧ τ 9 = .int .i64 0 ∧ τ 10 = .int .i64 0) ⟨up rfl (up rfl (up rfl hs0)), up rfl (up rfl (up rfl hs1)), up rfl (up rfl (up rfl hs2)), up rfl (up rfl (up rfl hs3)), up rfl (up rfl tp), up rfl tp, tp⟩ ?_
  rintro τ ⟨hs0, hs1, hs2, hs3, hs8, hs9, hs10⟩
  refine CW.seq ?_
  refine CW.seqJ (fun τ w => ∃ (j1 : Bool), Encrypt_j1 k id text beside j1 = some r ∧ τ 0 = .pointer (some ⟨b_k, 0, none⟩) ∧ τ 1 = .int .i64 id ∧ τ 2 = .slice X_text text.length c_text ∧ τ 3 = .slice X_beside beside.length c_beside ∧ τ 8 = .slice none 0 0 ∧ τ 9 = .int .i64 0 ∧ τ 10 = .int .i64 0 ∧ τ 24 = .bool j1 ∧ St p w (KeysB 103 b_k k :: A :: R)) ?_ ?_
  · skip
    refine CW.region ?_
    refine RW.soft Wd.a (v := .slice X_text text.length c_text) (by exact E.move (AF_ev rfl hs2)) ?_
    refine RW.soft Wd.a (v := .int .i64 ((text.length : Nat) : Int)) (by exact E.lenS (p := X_text) (l := text.length) (c := c_text) Try.underlying25 (AF_ev rfl tp)) ?_
    refine RW.soft Wd.a (v := .bool (decide (((text.length : Nat) : Int) > 64))) (by exact E.gtr (k := .i64) (a := ((text.length : Nat) : Int)) (b := 64) (AF_ev rfl tp) rfl) ?_
    refine RW.soft Wd.a (v := .bool (decide (((text.length : Nat) : Int) > 64))) (by exact E.move (AF_ev rfl tp)) ?_
    refine Or.elim (Bool.eq_false_or_eq_true (decide (((text.length : Nat) : Int) > 64))) (fun hw2 => ?_) (fun hw2 => ?_)
    · have hF := ct hw2 hF
      have hw2_ := hw2
      try simp only [decide_eq_true_eq, gt_iff_lt, ge_iff_le] at hw2_
      refine RW.pass (by exact Wd.no (x := 20) (b := true) rfl (AF_ev rfl (Eq.trans tp (congrArg Value.bool hw2))) rfl) ?_
      refine RW.pass (by exact Wd.no (x := 20) (b := true) rfl (AF_ev rfl (up rfl (Eq.trans tp (congrArg Value.bool hw2)))) rfl) ?_
      refine RW.pass (by exact Wd.no (x := 20) (b := true) rfl (AF_ev rfl (up rfl (up rfl (Eq.trans tp (congrArg Value.bool hw2))))) rfl) ?_
      refine RW.soft Wd.a (v := .bool true) (by exact E.pickT (AF_ev rfl (up rfl (up rfl (up rfl (Eq.trans tp (congrArg Value.bool hw2)))))) rfl) ?_
      refine RW.nil ?_
      refine Th.n ?_
      have hst := hst.take (.there .here)
      have hst := hst.take (.there .here)
      exact ⟨true, hF, up rfl (up rfl (up rfl (up rfl (up rfl (up rfl (up rfl (up rfl hs0))))))), up rfl (up rfl (up rfl (up rfl (up rfl (up rfl (up rfl (up rfl hs1))))))), up rfl (up rfl (up rfl (up rfl (up rfl (up rfl (up rfl (up rfl hs2))))))), up rfl (up rfl (up rfl (up rfl (up rfl (up rfl (up rfl (up rfl hs3))))))), up rfl (up rfl (up rfl (up rfl (up rfl (up rfl (up rfl (up rfl hs8))))))), up rfl (up rfl (up rfl (up rfl (up rfl (up rfl (up rfl (up rfl hs9))))))), up rfl (up rfl (up rfl (up rfl (up rfl (up rfl (up rfl (up rfl hs10))))))), tp, hst⟩
    · have hF := cf hw2 hF
      have hw2_ := hw2
      try simp only [decide_eq_false_iff_not, Int.not_lt, Int.not_le, gt_iff_lt, ge_iff_le] at hw2_
      refine RW.soft (by exact Wd.yes (x := 20) rfl (AF_ev rfl (Eq.trans tp (congrArg Value.bool hw2)))) (v := .slice X_beside beside.length c_beside) (by exact E.move (AF_ev rfl (up rfl (up rfl (up rfl (up rfl hs3)))))) ?_
      refine RW.soft (by exact Wd.yes (x := 20) rfl (AF_ev rfl (up rfl (Eq.trans tp (congrArg Value.bool hw2))))) (v := .int .i64 ((beside.length : Nat) : Int)) (by exact E.lenS (p := X_beside) (l := beside.length) (c := c_beside) Try.underlying25 (AF_ev rfl tp)) ?_
      refine RW.soft (by exact Wd.yes (x := 20) rfl (AF_ev rfl (up rfl (up rfl (Eq.trans tp (congrArg Value.bool hw2)))))) (v := .bool (decide (((beside.length : Nat) : Int) > 32))) (by exact E.gtr (k := .i64) (a := ((beside.length : Nat) : Int)) (b := 32) (AF_ev rfl tp) rfl) ?_
      refine RW.soft Wd.a (v := .bool (decide (((beside.length : Nat) : Int) > 32))) (by exact E.pickF (AF_ev rfl (up rfl (up rfl (up rfl (Eq.trans tp (congrArg Value.bool hw2)))))) (AF_ev rfl tp)) ?_
      refine RW.nil ?_
      refine Th.n ?_
      have hst := hst.take (.there .here)
      have hst := hst.take (.there .here)
      exact ⟨(decide (((beside.length : Nat) : Int) > 32)), hF, up rfl (up rfl (up rfl (up rfl (up rfl (up rfl (up rfl (up rfl hs0))))))), up rfl (up rfl (up rfl (up rfl (up rfl (up rfl (up rfl (up rfl hs1))))))), up rfl (up rfl (up rfl (up rfl (up rfl (up rfl (up rfl (up rfl hs2))))))), up rfl (up rfl (up rfl (up rfl (up rfl (up rfl (up rfl (up rfl hs3))))))), up rfl (up rfl (up rfl (up rfl (up rfl (up rfl (up rfl (up rfl hs8))))))), up rfl (up rfl (up rfl (up rfl (up rfl (up rfl (up rfl (up rfl hs9))))))), up rfl (up rfl (up rfl (up rfl (up rfl (up rfl (up rfl (up rfl hs10))))))), tp, hst⟩
  rintro τ w ⟨j1, hF, hs0, hs1, hs2, hs3, hs8, hs9, hs10, hs24, hst⟩
  unfold Encrypt_j1 at hF
  refine CW.cond (AF_ev rfl hs24) (fun hc3 => ?_) (fun hc3 => ?_)
  · have hF := ct hc3 hF
    refine CW.seq ?_
    refine CW.region ?_
    refine RW.soft Wd.a (v := .slice none 0 0) (by exact E.assign rfl) ?_
    refine RW.soft Wd.a (v := .int .i64 0) (by exact E.assign rfl) ?_
    refine RW.soft Wd.a (v := .int .i64 2) (by exact E.assign rfl) ?_
    refine RW.fin (fun τ => τ 0 = .pointer (some ⟨b_k, 0, none⟩) ∧ τ 1 = .int .i64 id ∧ τ 2 = .slice X_text text.length c_text ∧ τ 3 = .slice X_beside beside.length c_beside ∧ τ 8 = .slice none 0 0 ∧ τ 9 = .int .i64 0 ∧ τ 10 = .int .i64 2 ∧ τ 24 = .bool true) ⟨up rfl (up rfl (up rfl hs0)), up rfl (up rfl (up rfl hs1)), up rfl (up rfl (up rfl hs2)), up rfl (up rfl (up rfl hs3)), up rfl (up rfl tp), up rfl tp, tp, up rfl (up rfl (up rfl (Eq.trans hs24 (congrArg Value.bool hc3))))⟩ ?_
    rintro τ ⟨hs0, hs1, hs2, hs3, hs8, hs9, hs10, hs24⟩
    refine CW.ret ?_
    refine Th.r ?_
    refine retN (rs := [.tmp 8, .tmp 9, .tmp 10]) (vs := [.slice none 0 0, .int .i64 0, .int .i64 2]) rfl (by exact (.tmp (AF_ev rfl hs8) (.tmp (AF_ev rfl hs9) (.tmp (AF_ev rfl hs10) .nil)))) (by simp) ?_
    have hst := hst.ownNil (e := 5) (sz := 1) none
    have hst := hst.take (.there (.there .here))
    have hst := hst.take (.there (.there .here))
    have hst := hst.take (.there (.there .here))
    rw [somE hF]
    exact ⟨none, 0, rfl, (by (try dsimp only); first | omega | (simp; done) | (simp; omega)), (by (try dsimp only); first | omega | exact (by omega)), (by (try dsimp only); first | omega | exact (by omega)), hst⟩
  · have hF := cf hc3 hF
    refine CW.skip ?_
    refine Th.n ?_
    refine CW.seq ?_
    refine CW.region ?_
    refine RW.soft Wd.a (v := .pointer (some ⟨b_k, 0, none⟩)) (by exact E.move (AF_ev rfl hs0)) ?_
    refine RW.soft Wd.a (v := .int .i64 id) (by exact E.move (AF_ev rfl (up rfl hs1))) ?_
    obtain ⟨r4, h_r4, hF⟩ := lp hF
    refine RW.hard Wd.a ?_
    refine H.call0 Try.func59 nm59 rfl (map2 (AF_ev rfl (up rfl tp)) (AF_ev rfl tp)) (Calls.mono (Use_B id (by omega)  r4 h_r4 hst) ?_)
    rintro _ w ⟨rfl, h1q5, h2q5, hlq5, h3q5, hst⟩
    refine ⟨_, rfl, ?_⟩
    show RW _ _ _ _ _ _ _
    refine RW.soft Wd.a (v := .tuple #[.int .i64 r4.1, .int .i64 r4.2.1, .agg ((r4.2.2.1.map bu8)).toArray, .int .i64 r4.2.2.2.1]) (by exact E.move (AF_ev rfl tp)) ?_
    refine RW.soft Wd.a (v := .int .i64 r4.1) (by exact E.extract (vs := #[.int .i64 r4.1, .int .i64 r4.2.1, .agg ((r4.2.2.1.map bu8)).toArray, .int .i64 r4.2.2.2.1]) (AF_ev rfl tp) rfl) ?_
    refine RW.soft Wd.a (v := .int .i64 r4.2.1) (by exact E.extract (vs := #[.int .i64 r4.1, .int .i64 r4.2.1, .agg ((r4.2.2.1.map bu8)).toArray, .int .i64 r4.2.2.2.1]) (AF_ev rfl (up rfl tp)) rfl) ?_
    refine RW.soft Wd.a (v := .agg ((r4.2.2.1.map bu8)).toArray) (by exact E.extract (vs := #[.int .i64 r4.1, .int .i64 r4.2.1, .agg ((r4.2.2.1.map bu8)).toArray, .int .i64 r4.2.2.2.1]) (AF_ev rfl (up rfl (up rfl tp))) rfl) ?_
    refine RW.soft Wd.a (v := .int .i64 r4.2.2.2.1) (by exact E.extract (vs := #[.int .i64 r4.1, .int .i64 r4.2.1, .agg ((r4.2.2.1.map bu8)).toArray, .int .i64 r4.2.2.2.1]) (AF_ev rfl (up rfl (up rfl (up rfl tp)))) rfl) ?_
    refine RW.hard Wd.a ?_
    refine H.alloc zs34 hst fun b6 w hst => ?_
    refine RW.soft Wd.a (v := .int .i64 r4.1) (by exact E.assign (AF_ev rfl (up rfl (up rfl (up rfl (up rfl tp)))))) ?_
    refine RW.soft Wd.a (v := .int .i64 r4.2.1) (by exact E.assign (AF_ev rfl (up rfl (up rfl (up rfl (up rfl tp)))))) ?_
    refine RW.hard Wd.a ?_
    refine H.storeL (b := b6) (o := 0) (m := 32) (v := .agg ((r4.2.2.1.map bu8)).toArray) (ys := (r4.2.2.1.map bu8)) (L' := (r4.2.2.1.map bu8)) (AF_ev rfl (up rfl (up rfl tp))) (AF_ev rfl (up rfl (up rfl (up rfl (up rfl tp))))) hst .here sz34 rfl ((List.length_map _).trans hlq5) (ones_map (fun _ => rfl)) (putW (Eq.trans (show (r4.2.2.1.map bu8).length = 32 from ((List.length_map _).trans hlq5)) (Eq.symm (show ((List.replicate 32 0#8).map bu8).length = 32 from ((List.length_map _).trans (List.length_replicate)))))) fun w hst => ?_
    refine RW.soft Wd.a (v := .int .i64 r4.2.2.2.1) (by exact E.assign (AF_ev rfl (u0 (up rfl (up rfl (up rfl tp)))))) ?_
    refine RW.fin (fun τ => τ 0 = .pointer (some ⟨b_k, 0, none⟩) ∧ τ 1 = .int .i64 id ∧ τ 2 = .slice X_text text.length c_text ∧ τ 3 = .slice X_beside beside.length c_beside ∧ τ 8 = .slice none 0 0 ∧ τ 9 = .int .i64 0 ∧ τ 10 = .int .i64 0 ∧ τ 11 = .int .i64 r4.1 ∧ τ 12 = .int .i64 r4.2.1 ∧ τ 13 = .pointer (some ⟨b6, 0, none⟩) ∧ τ 14 = .int .i64 r4.2.2.2.1 ∧ τ 24 = .bool false) ⟨up rfl (u0 (up rfl (up rfl (up rfl (up rfl (up rfl (up rfl (up rfl (up rfl (up rfl (up rfl (up rfl hs0)))))))))))), up rfl (u0 (up rfl (up rfl (up rfl (up rfl (up rfl (up rfl (up rfl (up rfl (up rfl (up rfl (up rfl hs1)))))))))))), up rfl (u0 (up rfl (up rfl (up rfl (up rfl (up rfl (up rfl (up rfl (up rfl (up rfl (up rfl (up rfl hs2)))))))))))), up rfl (u0 (up rfl (up rfl (up rfl (up rfl (up rfl (up rfl (up rfl (up rfl (up rfl (up rfl (up rfl hs3)))))))))))), up rfl (u0 (up rfl (up rfl (up rfl (up rfl (up rfl (up rfl (up rfl (up rfl (up rfl (up rfl (up rfl hs8)))))))))))), up rfl (u0 (up rfl (up rfl (up rfl (up rfl (up rfl (up rfl (up rfl (up rfl (up rfl (up rfl (up rfl hs9)))))))))))), up rfl (u0 (up rfl (up rfl (up rfl (up rfl (up rfl (up rfl (up rfl (up rfl (up rfl (up rfl (up rfl hs10)))))))))))), up rfl (u0 (up rfl tp)), up rfl (u0 tp), up rfl (u0 (up rfl (up rfl tp))), tp, up rfl (u0 (up rfl (up rfl (up rfl (up rfl (up rfl (up rfl (up rfl (up rfl (up rfl (up rfl (up rfl (Eq.trans hs24 (congrArg Value.bool hc3))))))))))))))⟩ ?_
    rintro τ ⟨hs0, hs1, hs2, hs3, hs8, hs9, hs10, hs11, hs12, hs13, hs14, hs24⟩
    refine CW.seq ?_
    refine CW.seq ?_
    refine CW.region ?_
    refine RW.soft Wd.a (v := .int .i64 r4.2.2.2.1) (by exact E.move (AF_ev rfl hs14)) ?_
    refine RW.soft Wd.a (v := .bool (r4.2.2.2.1 != 0)) (by exact E.neq (k := .i64) (a := r4.2.2.2.1) (b := 0) (AF_ev rfl tp) rfl) ?_
    refine RW.fin (fun τ => τ 0 = .pointer (some ⟨b_k, 0, none⟩) ∧ τ 1 = .int .i64 id ∧ τ 2 = .slice X_text text.length c_text ∧ τ 3 = .slice X_beside beside.length c_beside ∧ τ 8 = .slice none 0 0 ∧ τ 9 = .int .i64 0 ∧ τ 10 = .int .i64 0 ∧ τ 11 = .int .i64 r4.1 ∧ τ 12 = .int .i64 r4.2.1 ∧ τ 13 = .pointer (some ⟨b6, 0, none⟩) ∧ τ 14 = .int .i64 r4.2.2.2.1 ∧ τ 24 = .bool false ∧ τ 34 = .bool (r4.2.2.2.1 != 0)) ⟨up rfl (up rfl hs0), up rfl (up rfl hs1), up rfl (up rfl hs2), up rfl (up rfl hs3), up rfl (up rfl hs8), up rfl (up rfl hs9), up rfl (up rfl hs10), up rfl (up rfl hs11), up rfl (up rfl hs12), up rfl (up rfl hs13), up rfl (up rfl hs14), up rfl (up rfl hs24), tp⟩ ?_
    rintro τ ⟨hs0, hs1, hs2, hs3, hs8, hs9, hs10, hs11, hs12, hs13, hs14, hs24, hs34⟩
    refine CW.cond (AF_ev rfl hs34) (fun hc7 => ?_) (fun hc7 => ?_)
    · have hF := ct hc7 hF
      have hc7_ := hc7
      try simp only [bne_iff_ne, ne_eq] at hc7_
      refine CW.seq ?_
      refine CW.region ?_
      refine RW.soft Wd.a (v := .int .i64 r4.2.2.2.1) (by exact E.move (AF_ev rfl hs14)) ?_
      refine RW.soft Wd.a (v := .slice none 0 0) (by exact E.assign rfl) ?_
      refine RW.soft Wd.a (v := .int .i64 0) (by exact E.assign rfl) ?_
      refine RW.soft Wd.a (v := .int .i64 r4.2.2.2.1) (by exact E.assign (AF_ev rfl (up rfl (up rfl tp)))) ?_
      refine RW.fin (fun τ => τ 0 = .pointer (some ⟨b_k, 0, none⟩) ∧ τ 1 = .int .i64 id ∧ τ 2 = .slice X_text text.length c_text ∧ τ 3 = .slice X_beside beside.length c_beside ∧ τ 8 = .slice none 0 0 ∧ τ 9 = .int .i64 0 ∧ τ 10 = .int .i64 r4.2.2.2.1 ∧ τ 11 = .int .i64 r4.1 ∧ τ 12 = .int .i64 r4.2.1 ∧ τ 13 = .pointer (some ⟨b6, 0, none⟩) ∧ τ 14 = .int .i64 r4.2.2.2.1 ∧ τ 24 = .bool false ∧ τ 34 = .bool true) ⟨up rfl (up rfl (up rfl (up rfl hs0))), up rfl (up rfl (up rfl (up rfl hs1))), up rfl (up rfl (up rfl (up rfl hs2))), up rfl (up rfl (up rfl (up rfl hs3))), up rfl (up rfl tp), up rfl tp, tp, up rfl (up rfl (up rfl (up rfl hs11))), up rfl (up rfl (up rfl (up rfl hs12))), up rfl (up rfl (up rfl (up rfl hs13))), up rfl (up rfl (up rfl (up rfl hs14))), up rfl (up rfl (up rfl (up rfl hs24))), up rfl (up rfl (up rfl (up rfl (Eq.trans hs34 (congrArg Value.bool hc7)))))⟩ ?_
      rintro τ ⟨hs0, hs1, hs2, hs3, hs8, hs9, hs10, hs11, hs12, hs13, hs14, hs24, hs34⟩
      refine CW.ret ?_
      refine Th.r ?_
      refine retN (rs := [.tmp 8, .tmp 9, .tmp 10]) (vs := [.slice none 0 0, .int .i64 0, .int .i64 r4.2.2.2.1]) rfl (by exact (.tmp (AF_ev rfl hs8) (.tmp (AF_ev rfl hs9) (.tmp (AF_ev rfl hs10) .nil)))) (by simp) ?_
      have hst := hst.ownNil (e := 5) (sz := 1) none
      have hst := hst.take (.there (.there (.there .here)))
      have hst := hst.take (.there (.there (.there .here)))
      have hst := hst.take (.there (.there .here))
      have hst := (hst.take (.there (.there (.there .here)))).drop
      rw [somE hF]
      exact ⟨none, 0, rfl, (by (try dsimp only); first | omega | (simp; done) | (simp; omega)), (by (try dsimp only); first | omega | exact (by omega)), (by (try dsimp only); first | omega | exact (by omega)), hst⟩
    · have hF := cf hc7 hF
      have hc7_ := hc7
      try simp only [bne_eq_false_iff_eq] at hc7_
      refine CW.skip ?_
      refine Th.n ?_
      refine CW.seq ?_
      refine CW.region ?_
      refine RW.hard Wd.a ?_
      refine H.alloc zs24 hst fun b8 w hst => ?_
      refine RW.fin (fun τ => τ 0 = .pointer (some ⟨b_k, 0, none⟩) ∧ τ 1 = .int .i64 id ∧ τ 2 = .slice X_text text.length c_text ∧ τ 3 = .slice X_beside beside.length c_beside ∧ τ 8 = .slice none 0 0 ∧ τ 9 = .int .i64 0 ∧ τ 10 = .int .i64 0 ∧ τ 11 = .int .i64 r4.1 ∧ τ 12 = .int .i64 r4.2.1 ∧ τ 13 = .pointer (some ⟨b6, 0, none⟩) ∧ τ 14 = .int .i64 r4.2.2.2.1 ∧ τ 15 = .pointer (some ⟨b8, 0, none⟩) ∧ τ 24 = .bool false ∧ τ 34 = .bool false) ⟨up rfl hs0, up rfl hs1, up rfl hs2, up rfl hs3, up rfl hs8, up rfl hs9, up rfl hs10, up rfl hs11, up rfl hs12, up rfl hs13, up rfl hs14, tp, up rfl hs24, up rfl (Eq.trans hs34 (congrArg Value.bool hc7))⟩ ?_
      rintro τ ⟨hs0, hs1, hs2, hs3, hs8, hs9, hs10, hs11, hs12, hs13, hs14, hs15, hs24, hs34⟩
      refine CW.seq ?_
      refine CW.seq ?_
      refine CW.region ?_
      refine RW.soft Wd.a (v := .int .i64 0) (by exact E.move rfl) ?_
      refine RW.fin (fun τ => τ 0 = .pointer (some ⟨b_k, 0, none⟩) ∧ τ 1 = .int .i64 id ∧ τ 2 = .slice X_text text.length c_text ∧ τ 3 = .slice X_beside beside.length c_beside ∧ τ 8 = .slice none 0 0 ∧ τ 9 = .int .i64 0 ∧ τ 10 = .int .i64 0 ∧ τ 11 = .int .i64 r4.1 ∧ τ 12 = .int .i64 r4.2.1 ∧ τ 13 = .pointer (some ⟨b6, 0, none⟩) ∧ τ 14 = .int .i64 r4.2.2.2.1 ∧ τ 15 = .pointer (some ⟨b8, 0, none⟩) ∧ τ 24 = .bool false ∧ τ 34 = .bool false ∧ τ 36 = .int .i64 0) ⟨up rfl hs0, up rfl hs1, up rfl hs2, up rfl hs3, up rfl hs8, up rfl hs9, up rfl hs10, up rfl hs11, up rfl hs12, up rfl hs13, up rfl hs14, up rfl hs15, up rfl hs24, up rfl hs34, tp⟩ ?_
      rintro τ ⟨hs0, hs1, hs2, hs3, hs8, hs9, hs10, hs11, hs12, hs13, hs14, hs15, hs24, hs34, hs36⟩
      refine CW.block ?_
      refine CW.loop (fun (k12 : Nat) (τ : Fr) (w : World) => ∃ (i10 : Nat) (m11 : List (BitVec 8)), m11.length = 12 ∧ Encrypt_l2 id text beside r4 k12 i10 m11 = some r ∧ τ 36 = .int .i64 ((i10 : Nat) : Int) ∧ τ 1 = .int .i64 id ∧ τ 2 = .slice X_text text.length c_text ∧ τ 3 = .slice X_beside beside.length c_beside ∧ τ 8 = .slice none 0 0 ∧ τ 9 = .int .i64 0 ∧ τ 10 = .int .i64 0 ∧ τ 11 = .int .i64 r4.1 ∧ τ 12 = .int .i64 r4.2.1 ∧ τ 13 = .pointer (some ⟨b6, 0, none⟩) ∧ τ 15 = .pointer (some ⟨b8, 0, none⟩) ∧ St p w (pt b8 (.cells ((m11.map bu8)).toArray 24) :: pt b6 (.cells ((r4.2.2.1.map bu8)).toArray 34) :: KeysB 103 b_k r4.2.2.2.2 :: A :: R)) 1099511627776 ?_ ?_
      · skip
        have hst := hst.take (.there (.there (.there .here)))
        have hst := hst.take (.there (.there (.there .here)))
        have hst := hst.take (.there (.there (.there .here)))
        have hst := hst.take (.there (.there (.there .here)))
        exact ⟨0, (List.replicate 12 0#8), (List.length_replicate), hF, (int_eq (a := 0) hs36 (by omega)), hs1, hs2, hs3, hs8, hs9, hs10, hs11, hs12, hs13, hs15, hst⟩
      clear hst hF
      rintro k12 τ w ⟨i10, m11, hl_m11, hF, hs36, hs1, hs2, hs3, hs8, hs9, hs10, hs11, hs12, hs13, hs15, hst⟩
      obtain ⟨k13, rfl⟩ := Encrypt_l2_pos hF
      rw [Encrypt_l2] at hF
      refine CW.seq ?_
      refine CW.region ?_
      refine RW.soft Wd.a (v := .bool (decide (((i10 : Nat) : Int) < 8))) (by exact E.lss (k := .i64) (a := ((i10 : Nat) : Int)) (b := 8) (AF_ev rfl hs36) rfl) ?_
      refine RW.fin (fun τ => τ 1 = .int .i64 id ∧ τ 2 = .slice X_text text.length c_text ∧ τ 3 = .slice X_beside beside.length c_beside ∧ τ 8 = .slice none 0 0 ∧ τ 9 = .int .i64 0 ∧ τ 10 = .int .i64 0 ∧ τ 11 = .int .i64 r4.1 ∧ τ 12 = .int .i64 r4.2.1 ∧ τ 13 = .pointer (some ⟨b6, 0, none⟩) ∧ τ 15 = .pointer (some ⟨b8, 0, none⟩) ∧ τ 36 = .int .i64 ((i10 : Nat) : Int) ∧ τ 37 = .bool (decide (((i10 : Nat) : Int) < 8))) ⟨up rfl hs1, up rfl hs2, up rfl hs3, up rfl hs8, up rfl hs9, up rfl hs10, up rfl hs11, up rfl hs12, up rfl hs13, up rfl hs15, up rfl hs36, tp⟩ ?_
      rintro τ ⟨hs1, hs2, hs3, hs8, hs9, hs10, hs11, hs12, hs13, hs15, hs36, hs37⟩
      refine CW.seq ?_
      refine CW.cond (AF_ev rfl hs37) (fun hc14 => ?_) (fun hc14 => ?_)
      · have hF := ct hc14 hF
        have hc14_ := hc14
        try simp only [decide_eq_true_eq] at hc14_
        refine CW.skip ?_
        refine Th.n ?_
        refine CW.seq ?_
        refine CW.block ?_
        refine CW.seq ?_
        refine CW.region ?_
        refine RW.soft Wd.a (v := .int .i64 ((i10 : Nat) : Int)) (by exact E.move (AF_ev rfl hs36)) ?_
        refine RW.soft Wd.a (v := .int .i64 ((i10 : Nat) : Int)) (by exact E.assign (AF_ev rfl tp)) ?_
        refine RW.fin (fun τ => τ 1 = .int .i64 id ∧ τ 2 = .slice X_text text.length c_text ∧ τ 3 = .slice X_beside beside.length c_beside ∧ τ 8 = .slice none 0 0 ∧ τ 9 = .int .i64 0 ∧ τ 10 = .int .i64 0 ∧ τ 11 = .int .i64 r4.1 ∧ τ 12 = .int .i64 r4.2.1 ∧ τ 13 = .pointer (some ⟨b6, 0, none⟩) ∧ τ 15 = .pointer (some ⟨b8, 0, none⟩) ∧ τ 16 = .int .i64 ((i10 : Nat) : Int) ∧ τ 36 = .int .i64 ((i10 : Nat) : Int) ∧ τ 37 = .bool true) ⟨up rfl (up rfl hs1), up rfl (up rfl hs2), up rfl (up rfl hs3), up rfl (up rfl hs8), up rfl (up rfl hs9), up rfl (up rfl hs10), up rfl (up rfl hs11), up rfl (up rfl hs12), up rfl (up rfl hs13), up rfl (up rfl hs15), tp, up rfl (up rfl hs36), up rfl (up rfl (Eq.trans hs37 (congrArg Value.bool hc14)))⟩ ?_
        rintro τ ⟨hs1, hs2, hs3, hs8, hs9, hs10, hs11, hs12, hs13, hs15, hs16, hs36, hs37⟩
        refine CW.region ?_
        refine RW.soft Wd.a (v := .int .i64 ((i10 : Nat) : Int)) (by exact E.move (AF_ev rfl hs16)) ?_
        refine RW.soft Wd.a (v := .int .i64 (11 - ((i10 : Nat) : Int))) (by exact E.sub (k := .i64) (a := 11) (b := ((i10 : Nat) : Int)) rfl (AF_ev rfl tp) (show IntKind.i64.wrap (11 - ((i10 : Nat) : Int)) = 11 - ((i10 : Nat) : Int) from (by rw [IntWalk.i64_in _ (by omega)]))) ?_
        refine RW.soft Wd.a (v := .int .i64 r4.2.1) (by exact E.move (AF_ev rfl (up rfl (up rfl hs12)))) ?_
        refine RW.soft Wd.a (v := .int .i64 ((i10 : Nat) : Int)) (by exact E.move (AF_ev rfl (up rfl (up rfl (up rfl hs16))))) ?_
        refine RW.soft Wd.a (v := .int .i64 (8 * ((i10 : Nat) : Int))) (by exact E.mul (k := .i64) (a := 8) (b := ((i10 : Nat) : Int)) rfl (AF_ev rfl tp) (show IntKind.i64.wrap (8 * ((i10 : Nat) : Int)) = 8 * ((i10 : Nat) : Int) from (by rw [IntWalk.i64_in _ (by omega)]))) ?_
        refine RW.soft Wd.a (v := .int .i64 (ishr64 r4.2.1 ((8 * ((i10 : Nat) : Int)).toNat))) (by exact E.ishr (i := r4.2.1) (d := (8 * ((i10 : Nat) : Int)).toNat) (AF_ev rfl (up rfl (up rfl tp))) (AF_ev rfl tp) (by omega)) ?_
        obtain ⟨u15, h_u15, hF⟩ := lp hF
        refine RW.soft Wd.a (v := .int .u8 ((u15).toNat : Int)) (by exact E.v (E.cvIU (z := ishr64 r4.2.1 ((8 * ((i10 : Nat) : Int)).toNat)) (by rw [Try.underlying3]; rfl) Try.underlying5 UK.u8 (AF_ev rfl tp)) (by first | (rw [h_u15]; done) | (rw [h_u15]; rfl))) ?_
        refine RW.soft Wd.a (v := .pointer (some ⟨b8, (11 - ((i10 : Nat) : Int)).toNat, none⟩)) (by exact E.indexAddrA (b := b8) (o := 0) (i := 11 - ((i10 : Nat) : Int)) Try.underlying24 sz5 (AF_ev rfl (up rfl (up rfl (up rfl (up rfl (up rfl (up rfl (up rfl hs15)))))))) (AF_ev rfl (up rfl (up rfl (up rfl (up rfl (up rfl tp)))))) (by omega) (by omega) (by omega)) ?_
        obtain ⟨m16, h_m16, hF⟩ := lp hF
        have hl_m16 : m16.length = 12 := by rw [h_m16, List.length_set]; exact hl_m11
        refine RW.hard Wd.a ?_
        refine H.storeL (b := b8) (o := (11 - ((i10 : Nat) : Int)).toNat) (m := 1) (v := .int .u8 ((u15).toNat : Int)) (ys := [bu8 u15]) (L' := (m16.map bu8)) (AF_ev rfl tp) (AF_ev rfl (up rfl tp)) hst .here sz5 rfl rfl (ones1 rfl) (by rw [h_m16]; exact putF (by rw [hl_m11]; omega)) fun w hst => ?_
        refine RW.nil ?_
        refine Bl.n ?_
        refine Th.n ?_
        refine CW.region ?_
        refine RW.soft Wd.a (v := .int .i64 (((i10 : Nat) : Int) + 1)) (by exact E.add (k := .i64) (a := ((i10 : Nat) : Int)) (b := 1) (AF_ev rfl (u0 (up rfl (up rfl (up rfl (up rfl (up rfl (up rfl (up rfl (up rfl hs36)))))))))) rfl (show IntKind.i64.wrap (((i10 : Nat) : Int) + 1) = ((i10 : Nat) : Int) + 1 from (by rw [IntWalk.i64_in _ (by omega)]))) ?_
        refine RW.soft Wd.a (v := .int .i64 (((i10 : Nat) : Int) + 1)) (by exact E.move (AF_ev rfl tp)) ?_
        refine RW.nil ?_
        refine Th.n ?_
        have hst := hst.take (.there (.there (.there .here)))
        have hst := hst.take (.there (.there (.there .here)))
        have hst := hst.take (.there (.there (.there .here)))
        have hst := hst.take (.there (.there (.there .here)))
        exact ⟨k13, Nat.lt_succ_self _, (i10 + 1), m16, hl_m16, hF, (int_eq (a := ((i10 : Nat) : Int) + 1) tp (by omega)), up rfl (up rfl (u0 (up rfl (up rfl (up rfl (up rfl (up rfl (up rfl (up rfl (up rfl hs1)))))))))), up rfl (up rfl (u0 (up rfl (up rfl (up rfl (up rfl (up rfl (up rfl (up rfl (up rfl hs2)))))))))), up rfl (up rfl (u0 (up rfl (up rfl (up rfl (up rfl (up rfl (up rfl (up rfl (up rfl hs3)))))))))), up rfl (up rfl (u0 (up rfl (up rfl (up rfl (up rfl (up rfl (up rfl (up rfl (up rfl hs8)))))))))), up rfl (up rfl (u0 (up rfl (up rfl (up rfl (up rfl (up rfl (up rfl (up rfl (up rfl hs9)))))))))), up rfl (up rfl (u0 (up rfl (up rfl (up rfl (up rfl (up rfl (up rfl (up rfl (up rfl hs10)))))))))), up rfl (up rfl (u0 (up rfl (up rfl (up rfl (up rfl (up rfl (up rfl (up rfl (up rfl hs11)))))))))), up rfl (up rfl (u0 (up rfl (up rfl (up rfl (up rfl (up rfl (up rfl (up rfl (up rfl hs12)))))))))), up rfl (up rfl (u0 (up rfl (up rfl (up rfl (up rfl (up rfl (up rfl (up rfl (up rfl hs13)))))))))), up rfl (up rfl (u0 (up rfl (up rfl (up rfl (up rfl (up rfl (up rfl (up rfl (up rfl hs15)))))))))), hst⟩
      · have hF := cf hc14 hF
        have hc14_ := hc14
        try simp only [decide_eq_false_iff_not, Int.not_lt, Int.not_le, gt_iff_lt, ge_iff_le] at hc14_
        refine CW.exit ?_
        refine Th.x ?_
        refine Th.x ?_
        refine Bl.x ?_
        refine Th.n ?_
        refine CW.seq ?_
        obtain ⟨r17, h_r17, hF⟩ := bd hF
        obtain ⟨r19, h_r19, hF⟩ := bd hF
        refine CW.regionE [2, 3, 4] (fun w => (∀ j_ v_, ((m11.map bu8) : List Value)[j_]? = some v_ → w.cell? ⟨b8, 0 + j_, none⟩ = some v_) ∧ (∀ j_ v_, ((r4.2.2.1.map bu8) : List Value)[j_]? = some v_ → w.cell? ⟨b6, 0 + j_, none⟩ = some v_)) mixed ?_
        have hst := hst.drew
        generalize w.drew = w at hst ⊢
        have hS : (∀ j_ v_, ((m11.map bu8) : List Value)[j_]? = some v_ → w.cell? ⟨b8, 0 + j_, none⟩ = some v_) ∧ (∀ j_ v_, ((r4.2.2.1.map bu8) : List Value)[j_]? = some v_ → w.cell? ⟨b6, 0 + j_, none⟩ = some v_) := ⟨(St.cellsOf hst .here allF), (St.cellsOf hst (.there .here) allF)⟩
        refine RE.takeF 0 rfl (by kernel_rfl) Wd.a (v := .int .i64 id) (fun w => by exact E.move (AF_ev rfl hs1)) ?_
        refine RE.takeF 1 rfl (by kernel_rfl) Wd.a (v := .int .i64 r4.1) (fun w => by exact E.move (AF_ev rfl (up rfl hs11))) ?_
        refine RE.take 2 rfl (by kernel_rfl) Wd.a (v := .agg ((m11.map bu8)).toArray) (fun w hS => by exact E.loadN (b := b8) (o := 0) (cs := (m11.map bu8)) Try.underlying24 rfl sz24 (AF_ev rfl (up rfl (up rfl hs15))) ((List.length_map _).trans hl_m11) hS.1) hS ?_
        refine RE.take 3 rfl (by kernel_rfl) Wd.a (v := .agg ((r4.2.2.1.map bu8)).toArray) (fun w hS => by exact E.loadN (b := b6) (o := 0) (cs := (r4.2.2.1.map bu8)) Try.underlying34 rfl sz34 (AF_ev rfl (up rfl (up rfl (up rfl hs13)))) ((List.length_map _).trans hlq5) hS.2) hS ?_
        refine RE.take 4 rfl (by kernel_rfl) Wd.a (v := .agg ((m11.map bu8)).toArray) (fun w hS => by exact E.loadN (b := b8) (o := 0) (cs := (m11.map bu8)) Try.underlying24 rfl sz24 (AF_ev rfl (up rfl (up rfl (up rfl (up rfl hs15))))) ((List.length_map _).trans hl_m11) hS.1) hS ?_
        refine RE.takeF 5 rfl (by kernel_rfl) Wd.a (v := .slice X_beside beside.length c_beside) (fun w => by exact E.move (AF_ev rfl (up rfl (up rfl (up rfl (up rfl (up rfl hs3))))))) ?_
        refine RE.takeF 6 rfl (by kernel_rfl) Wd.a (v := .slice X_text text.length c_text) (fun w => by exact E.move (AF_ev rfl (up rfl (up rfl (up rfl (up rfl (up rfl (up rfl hs2)))))))) ?_
        refine RE.takeF 9 rfl (by kernel_rfl) Wd.a (v := .int .i64 r4.1) (fun w => by exact E.move (AF_ev rfl (up rfl (up rfl (up rfl (up rfl (up rfl (up rfl (up rfl hs11))))))))) ?_
        refine RE.only 7 rfl (by kernel_rfl) Wd.a ?_
        have hst := hst.take (.there (.there (.there .here)))
        refine H.call0 Try.func22 nm22 rfl (map4 (AF_ev rfl (up rfl (up rfl (up rfl (up rfl tp))))) (AF_ev rfl (up rfl (up rfl (up rfl tp)))) (AF_ev rfl (up rfl (up rfl tp))) (AF_ev rfl (up rfl tp))) (Calls.mono (GSeal_C (A := A) r4.2.2.1 hlq5 m11 hl_m11 beside (by first | omega | (simp; done)) (fun w H s => (hS_beside _ _ s)) text (by first | omega | (simp; done)) (fun w H s => (hS_text _ _ s)) r17 h_r17 hst) ?_)
        rintro _ w ⟨Xq23_0, cq23_0, rfl, hm_q23_0, hst⟩
        refine ⟨_, rfl, ?_⟩
        have hS : (∀ j_ v_, ((m11.map bu8) : List Value)[j_]? = some v_ → w.cell? ⟨b8, 0 + j_, none⟩ = some v_) ∧ (∀ j_ v_, ((r4.2.2.1.map bu8) : List Value)[j_]? = some v_ → w.cell? ⟨b6, 0 + j_, none⟩ = some v_) := ⟨(St.cellsOf hst (.there (.there .here)) allF), (St.cellsOf hst (.there (.there (.there .here))) allF)⟩
        refine ⟨fun _ _ => hS, ?_⟩
        refine RE.only 8 rfl (by kernel_rfl) Wd.a ?_
        refine H.call0 Try.func12 nm12 rfl (map4 (AF_ev rfl (up rfl (up rfl (up rfl (up rfl (up rfl (up rfl (up rfl (up rfl tp))))))))) (AF_ev rfl (up rfl (up rfl (up rfl (up rfl (up rfl (up rfl (up rfl tp)))))))) (AF_ev rfl (up rfl (up rfl (up rfl (up rfl (up rfl (up rfl tp))))))) (AF_ev rfl tp)) (Calls.mono (Blob_C (A := SL.Own 5 1 (.slice Xq23_0 r17.length cq23_0) r17.length (r17.map bu8)) id (by omega) r4.1 (by omega) m11 hl_m11 r17 (by first | omega | (simp; done)) (fun w H s => (Own.src s)) r19 h_r19 hst) ?_)
        rintro _ w ⟨Xq24_0, cq24_0, rfl, hm_q24_0, hst⟩
        refine ⟨_, rfl, ?_⟩
        have hS : (∀ j_ v_, ((m11.map bu8) : List Value)[j_]? = some v_ → w.cell? ⟨b8, 0 + j_, none⟩ = some v_) ∧ (∀ j_ v_, ((r4.2.2.1.map bu8) : List Value)[j_]? = some v_ → w.cell? ⟨b6, 0 + j_, none⟩ = some v_) := ⟨(St.cellsOf hst (.there (.there (.there .here))) allF), (St.cellsOf hst (.there (.there (.there (.there .here)))) allF)⟩
        refine ⟨fun _ _ => hS, ?_⟩
        refine RE.only 10 rfl (by kernel_rfl) Wd.a (Hd.value (v := .slice Xq24_0 r19.length cq24_0) (by exact E.assign (AF_ev rfl tp)) ⟨fun h => Bool.noConfusion ((show needs _ _ _ = false by kernel_rfl).symm.trans h), ?_⟩)
        refine RE.only 11 rfl (by kernel_rfl) Wd.a (Hd.value (v := .int .i64 r4.1) (by exact E.assign (AF_ev rfl (up rfl (up rfl (up rfl tp))))) ⟨fun h => Bool.noConfusion ((show needs _ _ _ = false by kernel_rfl).symm.trans h), ?_⟩)
        refine RE.only 12 rfl (by kernel_rfl) Wd.a (Hd.value (v := .int .i64 0) (by exact E.assign rfl) ⟨fun h => Bool.noConfusion ((show needs _ _ _ = false by kernel_rfl).symm.trans h), ?_⟩)
        refine RE.fin (by kernel_rfl) (fun τ => τ 1 = .int .i64 id ∧ τ 2 = .slice X_text text.length c_text ∧ τ 3 = .slice X_beside beside.length c_beside ∧ τ 8 = .slice Xq24_0 r19.length cq24_0 ∧ τ 9 = .int .i64 r4.1 ∧ τ 10 = .int .i64 0 ∧ τ 11 = .int .i64 r4.1 ∧ τ 12 = .int .i64 r4.2.1 ∧ τ 13 = .pointer (some ⟨b6, 0, none⟩) ∧ τ 15 = .pointer (some ⟨b8, 0, none⟩) ∧ τ 36 = .int .i64 ((i10 : Nat) : Int) ∧ τ 37 = .bool false) ⟨up rfl (up rfl (up rfl (up rfl (up rfl (up rfl (up rfl (up rfl (up rfl (up rfl (up rfl (up rfl (up rfl hs1)))))))))))), up rfl (up rfl (up rfl (up rfl (up rfl (up rfl (up rfl (up rfl (up rfl (up rfl (up rfl (up rfl (up rfl hs2)))))))))))), up rfl (up rfl (up rfl (up rfl (up rfl (up rfl (up rfl (up rfl (up rfl (up rfl (up rfl (up rfl (up rfl hs3)))))))))))), up rfl (up rfl tp), up rfl tp, tp, up rfl (up rfl (up rfl (up rfl (up rfl (up rfl (up rfl (up rfl (up rfl (up rfl (up rfl (up rfl (up rfl hs11)))))))))))), up rfl (up rfl (up rfl (up rfl (up rfl (up rfl (up rfl (up rfl (up rfl (up rfl (up rfl (up rfl (up rfl hs12)))))))))))), up rfl (up rfl (up rfl (up rfl (up rfl (up rfl (up rfl (up rfl (up rfl (up rfl (up rfl (up rfl (up rfl hs13)))))))))))), up rfl (up rfl (up rfl (up rfl (up rfl (up rfl (up rfl (up rfl (up rfl (up rfl (up rfl (up rfl (up rfl hs15)))))))))))), up rfl (up rfl (up rfl (up rfl (up rfl (up rfl (up rfl (up rfl (up rfl (up rfl (up rfl (up rfl (up rfl hs36)))))))))))), up rfl (up rfl (up rfl (up rfl (up rfl (up rfl (up rfl (up rfl (up rfl (up rfl (up rfl (up rfl (up rfl (Eq.trans hs37 (congrArg Value.bool hc14))))))))))))))⟩ ?_
        rintro τ ⟨hs1, hs2, hs3, hs8, hs9, hs10, hs11, hs12, hs13, hs15, hs36, hs37⟩
        refine CW.ret ?_
        refine retN (rs := [.tmp 8, .tmp 9, .tmp 10]) (vs := [.slice Xq24_0 r19.length cq24_0, .int .i64 r4.1, .int .i64 0]) rfl (by exact (.tmp (AF_ev rfl hs8) (.tmp (AF_ev rfl hs9) (.tmp (AF_ev rfl hs10) .nil)))) (by simp) ?_
        have hst := hst.take (.there (.there .here))
        have hst := hst.take (.there (.there (.there (.there (.there .here)))))
        have hst := hst.take (.there (.there .here))
        have hst := (hst.take (.there (.there (.there .here)))).drop
        have hst := (hst.take (.there (.there (.there .here)))).drop
        have hst := (hst.take (.there (.there (.there .here)))).drop
        rw [somE hF]
        exact ⟨Xq24_0, cq24_0, rfl, (by (try dsimp only); first | omega | (simp; done) | (simp; omega)), (by (try dsimp only); first | omega | exact (by omega)), (by (try dsimp only); first | omega | exact (by omega)), hst⟩

def Decrypt (k : RKB) (blob : List (BitVec 8)) (beside : List (BitVec 8)) : Option (List (BitVec 8) × Int × RKB) :=
  bif decide (((beside.length : Nat) : Int) > 32) then
    some (([] : List (BitVec 8)), 2, k)
  else
    (Read blob).bind fun r2 =>
    bif r2.2.2.2.2 != 0 then
      some (([] : List (BitVec 8)), r2.2.2.2.2, k)
    else
      lt_ (bMat k r2.1 r2.2.1) fun r6 =>
      bif r6.2 != 0 then
        some (([] : List (BitVec 8)), r6.2, k)
      else
        (GOpen r6.1 r2.2.2.1 beside r2.2.2.2.1).bind fun r10 =>
        some (r10.1, r10.2, k)
theorem Decrypt_C {p : Pers} {w : World} {R : List Assn} {A : Assn} {b_k : Nat} (k : RKB) {X_blob : Option Addr} {c_blob : Nat} (blob : List (BitVec 8)) (hm_blob : blob.length ≤ 1000000) (hS_blob : ∀ w H, St p w (A :: H) → SL.Src w 1 (.slice X_blob blob.length c_blob) blob.length (blob.map bu8)) {X_beside : Option Addr} {c_beside : Nat} (beside : List (BitVec 8)) (hm_beside : beside.length ≤ 1000000) (hS_beside : ∀ w H, St p w (A :: H) → SL.Src w 1 (.slice X_beside beside.length c_beside) beside.length (beside.map bu8)) (r : List (BitVec 8) × Int × RKB) (hF : Decrypt k blob beside = some r) (hst : St p w (KeysB 103 b_k k :: A :: R)) :
    Calls Try.prog 20 #[.pointer (some ⟨b_k, 0, none⟩), .slice X_blob blob.length c_blob, .slice X_beside beside.length c_beside] w fun e w => ∃ (X0 : Option Addr) (c0 : Nat), e = .returned (.tuple #[.slice X0 r.1.length c0, .int .i64 r.2.1]) ∧ r.1.length ≤ 1000000 ∧ (-9223372036854775808 ≤ r.2.1 ∧ r.2.1 ≤ 9223372036854775807) ∧ St p w (SL.Own 5 1 (.slice X0 r.1.length c0) r.1.length (r.1.map bu8) :: KeysB 103 b_k r.2.2 :: A :: R) := by
  unfold Decrypt at hF
  refine enter Try.func20 rfl (by simp) (n := 45) rfl fun τ hτ => ?_
  have hs0 : τ 0 = .pointer (some ⟨b_k, 0, none⟩) := hτ 0 (by simp)
  have hs1 : τ 1 = .slice X_blob blob.length c_blob := hτ 1 (by simp)
  have hs2 : τ 2 = .slice X_beside beside.length c_beside := hτ 2 (by simp)
  clear hτ
  refine CW.seq ?_
  refine CW.region ?_
  refine RW.soft Wd.a (v := .slice none 0 0) (by exact E.assign rfl) ?_
  refine RW.soft Wd.a (v := .int .i64 0) (by exact E.assign rfl) ?_
  refine RW.fin (fun τ => τ 0 = .pointer (some ⟨b_k, 0, none⟩) ∧ τ 1 = .slice X_blob blob.length c_blob ∧ τ 2 = .slice X_beside beside.length c_beside ∧ τ 6 = .slice none 0 0 ∧ τ 7 = .int .i64 0) ⟨up rfl (up rfl hs0), up rfl (up rfl hs1), up rfl (up rfl hs2), up rfl tp, tp⟩ ?_
  rintro τ ⟨hs0, hs1, hs2, hs6, hs7⟩
  refine CW.seq ?_
  refine CW.seq ?_
  refine CW.region ?_
  refine RW.soft Wd.a (v := .slice X_beside beside.length c_beside) (by exact E.move (AF_ev rfl hs2)) ?_
  refine RW.soft Wd.a (v := .int .i64 ((beside.length : Nat) : Int)) (by exact E.lenS (p := X_beside) (l := beside.length) (c := c_beside) Try.underlying25 (AF_ev rfl tp)) ?_
  refine RW.soft Wd.a (v := .bool (decide (((beside.length : Nat) : Int) > 32))) (by exact E.gtr (k := .i64) (a := ((beside.length : Nat) : Int)) (b := 32) (AF_ev rfl tp) rfl) ?_
  refine RW.fin (fun τ => τ 0 = .pointer (some ⟨b_k, 0, none⟩) ∧ τ 1 = .slice X_blob blob.length c_blob ∧ τ 2 = .slice X_beside beside.length c_beside ∧ τ 6 = .slice none 0 0 ∧ τ 7 = .int .i64 0 ∧ τ 16 = .bool (decide (((beside.length : Nat) : Int) > 32))) ⟨up rfl (up rfl (up rfl hs0)), up rfl (up rfl (up rfl hs1)), up rfl (up rfl (up rfl hs2)), up rfl (up rfl (up rfl hs6)), up rfl (up rfl (up rfl hs7)), tp⟩ ?_
  rintro τ ⟨hs0, hs1, hs2, hs6, hs7, hs16⟩
  refine CW.cond (AF_ev rfl hs16) (fun hc1 => ?_) (fun hc1 => ?_)
  · have hF := ct hc1 hF
    have hc1_ := hc1
    try simp only [decide_eq_true_eq, gt_iff_lt, ge_iff_le] at hc1_
    refine CW.seq ?_
    refine CW.region ?_
    refine RW.soft Wd.a (v := .slice none 0 0) (by exact E.assign rfl) ?_
    refine RW.soft Wd.a (v := .int .i64 2) (by exact E.assign rfl) ?_
    refine RW.fin (fun τ => τ 0 = .pointer (some ⟨b_k, 0, none⟩) ∧ τ 1 = .slice X_blob blob.length c_blob ∧ τ 2 = .slice X_beside beside.length c_beside ∧ τ 6 = .slice none 0 0 ∧ τ 7 = .int .i64 2 ∧ τ 16 = .bool true) ⟨up rfl (up rfl hs0), up rfl (up rfl hs1), up rfl (up rfl hs2), up rfl tp, tp, up rfl (up rfl (Eq.trans hs16 (congrArg Value.bool hc1)))⟩ ?_
    rintro τ ⟨hs0, hs1, hs2, hs6, hs7, hs16⟩
    refine CW.ret ?_
    refine Th.r ?_
    refine retN (rs := [.tmp 6, .tmp 7]) (vs := [.slice none 0 0, .int .i64 2]) rfl (by exact (.tmp (AF_ev rfl hs6) (.tmp (AF_ev rfl hs7) .nil))) (by simp) ?_
    have hst := hst.ownNil (e := 5) (sz := 1) none
    have hst := hst.take (.there (.there .here))
    have hst := hst.take (.there (.there .here))
    have hst := hst.take (.there (.there .here))
    rw [somE hF]
    exact ⟨none, 0, rfl, (by (try dsimp only); first | omega | (simp; done) | (simp; omega)), (by (try dsimp only); first | omega | exact (by omega)), hst⟩
  · have hF := cf hc1 hF
    have hc1_ := hc1
    try simp only [decide_eq_false_iff_not, Int.not_lt, Int.not_le, gt_iff_lt, ge_iff_le] at hc1_
    refine CW.skip ?_
    refine Th.n ?_
    refine CW.seq ?_
    refine CW.region ?_
    refine RW.soft Wd.a (v := .slice X_blob blob.length c_blob) (by exact E.move (AF_ev rfl hs1)) ?_
    obtain ⟨r2, h_r2, hF⟩ := bd hF
    have hst := hst.take (.there .here)
    refine RW.hard Wd.a ?_
    refine H.call0 Try.func13 nm13 rfl (map1 (AF_ev rfl tp)) (Calls.mono (Read_C (A := A) blob (by first | omega | (simp; done)) (fun w H s => (hS_blob _ _ s)) r2 h_r2 hst) ?_)
    rintro _ w ⟨Xq3_3, cq3_3, rfl, hr_q3_0, hr_q3_1, hl_q3_2, hm_q3_3, hr_q3_4, hst⟩
    refine ⟨_, rfl, ?_⟩
    show RW _ _ _ _ _ _ _
    refine RW.soft Wd.a (v := .tuple #[.int .i64 r2.1, .int .i64 r2.2.1, .agg ((r2.2.2.1.map bu8)).toArray, .slice Xq3_3 r2.2.2.2.1.length cq3_3, .int .i64 r2.2.2.2.2]) (by exact E.move (AF_ev rfl tp)) ?_
    refine RW.soft Wd.a (v := .int .i64 r2.1) (by exact E.extract (vs := #[.int .i64 r2.1, .int .i64 r2.2.1, .agg ((r2.2.2.1.map bu8)).toArray, .slice Xq3_3 r2.2.2.2.1.length cq3_3, .int .i64 r2.2.2.2.2]) (AF_ev rfl tp) rfl) ?_
    refine RW.soft Wd.a (v := .int .i64 r2.2.1) (by exact E.extract (vs := #[.int .i64 r2.1, .int .i64 r2.2.1, .agg ((r2.2.2.1.map bu8)).toArray, .slice Xq3_3 r2.2.2.2.1.length cq3_3, .int .i64 r2.2.2.2.2]) (AF_ev rfl (up rfl tp)) rfl) ?_
    refine RW.soft Wd.a (v := .agg ((r2.2.2.1.map bu8)).toArray) (by exact E.extract (vs := #[.int .i64 r2.1, .int .i64 r2.2.1, .agg ((r2.2.2.1.map bu8)).toArray, .slice Xq3_3 r2.2.2.2.1.length cq3_3, .int .i64 r2.2.2.2.2]) (AF_ev rfl (up rfl (up rfl tp))) rfl) ?_
    refine RW.soft Wd.a (v := .slice Xq3_3 r2.2.2.2.1.length cq3_3) (by exact E.extract (vs := #[.int .i64 r2.1, .int .i64 r2.2.1, .agg ((r2.2.2.1.map bu8)).toArray, .slice Xq3_3 r2.2.2.2.1.length cq3_3, .int .i64 r2.2.2.2.2]) (AF_ev rfl (up rfl (up rfl (up rfl tp)))) rfl) ?_
    refine RW.soft Wd.a (v := .int .i64 r2.2.2.2.2) (by exact E.extract (vs := #[.int .i64 r2.1, .int .i64 r2.2.1, .agg ((r2.2.2.1.map bu8)).toArray, .slice Xq3_3 r2.2.2.2.1.length cq3_3, .int .i64 r2.2.2.2.2]) (AF_ev rfl (up rfl (up rfl (up rfl (up rfl tp))))) rfl) ?_
    refine RW.hard Wd.a ?_
    refine H.alloc zs24 hst fun b4 w hst => ?_
    refine RW.soft Wd.a (v := .int .i64 r2.1) (by exact E.assign (AF_ev rfl (up rfl (up rfl (up rfl (up rfl (up rfl tp))))))) ?_
    refine RW.soft Wd.a (v := .int .i64 r2.2.1) (by exact E.assign (AF_ev rfl (up rfl (up rfl (up rfl (up rfl (up rfl tp))))))) ?_
    refine RW.hard Wd.a ?_
    refine H.storeL (b := b4) (o := 0) (m := 12) (v := .agg ((r2.2.2.1.map bu8)).toArray) (ys := (r2.2.2.1.map bu8)) (L' := (r2.2.2.1.map bu8)) (AF_ev rfl (up rfl (up rfl tp))) (AF_ev rfl (up rfl (up rfl (up rfl (up rfl (up rfl tp)))))) hst .here sz24 rfl ((List.length_map _).trans hl_q3_2) (ones_map (fun _ => rfl)) (putW (Eq.trans (show (r2.2.2.1.map bu8).length = 12 from ((List.length_map _).trans hl_q3_2)) (Eq.symm (show ((List.replicate 12 0#8).map bu8).length = 12 from ((List.length_map _).trans (List.length_replicate)))))) fun w hst => ?_
    refine RW.soft Wd.a (v := .slice Xq3_3 r2.2.2.2.1.length cq3_3) (by exact E.assign (AF_ev rfl (u0 (up rfl (up rfl (up rfl (up rfl tp))))))) ?_
    refine RW.soft Wd.a (v := .int .i64 r2.2.2.2.2) (by exact E.assign (AF_ev rfl (up rfl (u0 (up rfl (up rfl (up rfl tp))))))) ?_
    refine RW.fin (fun τ => τ 0 = .pointer (some ⟨b_k, 0, none⟩) ∧ τ 1 = .slice X_blob blob.length c_blob ∧ τ 2 = .slice X_beside beside.length c_beside ∧ τ 6 = .slice none 0 0 ∧ τ 7 = .int .i64 0 ∧ τ 8 = .int .i64 r2.1 ∧ τ 9 = .int .i64 r2.2.1 ∧ τ 10 = .pointer (some ⟨b4, 0, none⟩) ∧ τ 11 = .slice Xq3_3 r2.2.2.2.1.length cq3_3 ∧ τ 12 = .int .i64 r2.2.2.2.2 ∧ τ 16 = .bool false) ⟨up rfl (up rfl (u0 (up rfl (up rfl (up rfl (up rfl (up rfl (up rfl (up rfl (up rfl (up rfl (up rfl (up rfl hs0))))))))))))), up rfl (up rfl (u0 (up rfl (up rfl (up rfl (up rfl (up rfl (up rfl (up rfl (up rfl (up rfl (up rfl (up rfl hs1))))))))))))), up rfl (up rfl (u0 (up rfl (up rfl (up rfl (up rfl (up rfl (up rfl (up rfl (up rfl (up rfl (up rfl (up rfl hs2))))))))))))), up rfl (up rfl (u0 (up rfl (up rfl (up rfl (up rfl (up rfl (up rfl (up rfl (up rfl (up rfl (up rfl (up rfl hs6))))))))))))), up rfl (up rfl (u0 (up rfl (up rfl (up rfl (up rfl (up rfl (up rfl (up rfl (up rfl (up rfl (up rfl (up rfl hs7))))))))))))), up rfl (up rfl (u0 (up rfl tp))), up rfl (up rfl (u0 tp)), up rfl (up rfl (u0 (up rfl (up rfl tp)))), up rfl tp, tp, up rfl (up rfl (u0 (up rfl (up rfl (up rfl (up rfl (up rfl (up rfl (up rfl (up rfl (up rfl (up rfl (up rfl (Eq.trans hs16 (congrArg Value.bool hc1)))))))))))))))⟩ ?_
    rintro τ ⟨hs0, hs1, hs2, hs6, hs7, hs8, hs9, hs10, hs11, hs12, hs16⟩
    refine CW.seq ?_
    refine CW.seq ?_
    refine CW.region ?_
    refine RW.soft Wd.a (v := .int .i64 r2.2.2.2.2) (by exact E.move (AF_ev rfl hs12)) ?_
    refine RW.soft Wd.a (v := .bool (r2.2.2.2.2 != 0)) (by exact E.neq (k := .i64) (a := r2.2.2.2.2) (b := 0) (AF_ev rfl tp) rfl) ?_
    refine RW.fin (fun τ => τ 0 = .pointer (some ⟨b_k, 0, none⟩) ∧ τ 1 = .slice X_blob blob.length c_blob ∧ τ 2 = .slice X_beside beside.length c_beside ∧ τ 6 = .slice none 0 0 ∧ τ 7 = .int .i64 0 ∧ τ 8 = .int .i64 r2.1 ∧ τ 9 = .int .i64 r2.2.1 ∧ τ 10 = .pointer (some ⟨b4, 0, none⟩) ∧ τ 11 = .slice Xq3_3 r2.2.2.2.1.length cq3_3 ∧ τ 12 = .int .i64 r2.2.2.2.2 ∧ τ 16 = .bool false ∧ τ 26 = .bool (r2.2.2.2.2 != 0)) ⟨up rfl (up rfl hs0), up rfl (up rfl hs1), up rfl (up rfl hs2), up rfl (up rfl hs6), up rfl (up rfl hs7), up rfl (up rfl hs8), up rfl (up rfl hs9), up rfl (up rfl hs10), up rfl (up rfl hs11), up rfl (up rfl hs12), up rfl (up rfl hs16), tp⟩ ?_
    rintro τ ⟨hs0, hs1, hs2, hs6, hs7, hs8, hs9, hs10, hs11, hs12, hs16, hs26⟩
    refine CW.cond (AF_ev rfl hs26) (fun hc5 => ?_) (fun hc5 => ?_)
    · have hF := ct hc5 hF
      have hc5_ := hc5
      try simp only [bne_iff_ne, ne_eq] at hc5_
      refine CW.seq ?_
      refine CW.region ?_
      refine RW.soft Wd.a (v := .int .i64 r2.2.2.2.2) (by exact E.move (AF_ev rfl hs12)) ?_
      refine RW.soft Wd.a (v := .slice none 0 0) (by exact E.assign rfl) ?_
      refine RW.soft Wd.a (v := .int .i64 r2.2.2.2.2) (by exact E.assign (AF_ev rfl (up rfl tp))) ?_
      refine RW.fin (fun τ => τ 0 = .pointer (some ⟨b_k, 0, none⟩) ∧ τ 1 = .slice X_blob blob.length c_blob ∧ τ 2 = .slice X_beside beside.length c_beside ∧ τ 6 = .slice none 0 0 ∧ τ 7 = .int .i64 r2.2.2.2.2 ∧ τ 8 = .int .i64 r2.1 ∧ τ 9 = .int .i64 r2.2.1 ∧ τ 10 = .pointer (some ⟨b4, 0, none⟩) ∧ τ 11 = .slice Xq3_3 r2.2.2.2.1.length cq3_3 ∧ τ 12 = .int .i64 r2.2.2.2.2 ∧ τ 16 = .bool false ∧ τ 26 = .bool true) ⟨up rfl (up rfl (up rfl hs0)), up rfl (up rfl (up rfl hs1)), up rfl (up rfl (up rfl hs2)), up rfl tp, tp, up rfl (up rfl (up rfl hs8)), up rfl (up rfl (up rfl hs9)), up rfl (up rfl (up rfl hs10)), up rfl (up rfl (up rfl hs11)), up rfl (up rfl (up rfl hs12)), up rfl (up rfl (up rfl hs16)), up rfl (up rfl (up rfl (Eq.trans hs26 (congrArg Value.bool hc5))))⟩ ?_
      rintro τ ⟨hs0, hs1, hs2, hs6, hs7, hs8, hs9, hs10, hs11, hs12, hs16, hs26⟩
      refine CW.ret ?_
      refine Th.r ?_
      refine retN (rs := [.tmp 6, .tmp 7]) (vs := [.slice none 0 0, .int .i64 r2.2.2.2.2]) rfl (by exact (.tmp (AF_ev rfl hs6) (.tmp (AF_ev rfl hs7) .nil))) (by simp) ?_
      have hst := hst.ownNil (e := 5) (sz := 1) none
      have hst := hst.take (.there (.there (.there .here)))
      have hst := hst.take (.there (.there (.there (.there .here))))
      have hst := hst.take (.there (.there .here))
      have hst := (hst.take (.there (.there (.there .here)))).drop
      have hst := (hst.take (.there (.there (.there .here)))).drop
      rw [somE hF]
      exact ⟨none, 0, rfl, (by (try dsimp only); first | omega | (simp; done) | (simp; omega)), (by (try dsimp only); first | omega | exact (by omega)), hst⟩
    · have hF := cf hc5 hF
      have hc5_ := hc5
      try simp only [bne_eq_false_iff_eq] at hc5_
      refine CW.skip ?_
      refine Th.n ?_
      refine CW.seq ?_
      refine CW.region ?_
      refine RW.soft Wd.a (v := .pointer (some ⟨b_k, 0, none⟩)) (by exact E.move (AF_ev rfl hs0)) ?_
      refine RW.soft Wd.a (v := .int .i64 r2.1) (by exact E.move (AF_ev rfl (up rfl hs8))) ?_
      refine RW.soft Wd.a (v := .int .i64 r2.2.1) (by exact E.move (AF_ev rfl (up rfl (up rfl hs9)))) ?_
      obtain ⟨r6, h_r6, hF⟩ := lp hF
      have hst := hst.take (.there (.there (.there .here)))
      refine RW.hard Wd.a ?_
      refine H.call0 Try.func60 nm60 rfl (map3 (AF_ev rfl (up rfl (up rfl tp))) (AF_ev rfl (up rfl tp)) (AF_ev rfl tp)) (Calls.mono (Mat_B r2.1 r2.2.1 (by omega) (by omega)  r6 h_r6 hst) ?_)
      rintro _ w ⟨rfl, hlq7, h1q7, hst⟩
      refine ⟨_, rfl, ?_⟩
      show RW _ _ _ _ _ _ _
      refine RW.soft Wd.a (v := .tuple #[.agg ((r6.1.map bu8)).toArray, .int .i64 r6.2]) (by exact E.move (AF_ev rfl tp)) ?_
      refine RW.soft Wd.a (v := .agg ((r6.1.map bu8)).toArray) (by exact E.extract (vs := #[.agg ((r6.1.map bu8)).toArray, .int .i64 r6.2]) (AF_ev rfl tp) rfl) ?_
      refine RW.soft Wd.a (v := .int .i64 r6.2) (by exact E.extract (vs := #[.agg ((r6.1.map bu8)).toArray, .int .i64 r6.2]) (AF_ev rfl (up rfl tp)) rfl) ?_
      refine RW.hard Wd.a ?_
      refine H.alloc zs34 hst fun b8 w hst => ?_
      refine RW.hard Wd.a ?_
      refine H.storeL (b := b8) (o := 0) (m := 32) (v := .agg ((r6.1.map bu8)).toArray) (ys := (r6.1.map bu8)) (L' := (r6.1.map bu8)) (AF_ev rfl tp) (AF_ev rfl (up rfl (up rfl tp))) hst .here sz34 rfl ((List.length_map _).trans hlq7) (ones_map (fun _ => rfl)) (putW (Eq.trans (show (r6.1.map bu8).length = 32 from ((List.length_map _).trans hlq7)) (Eq.symm (show ((List.replicate 32 0#8).map bu8).length = 32 from ((List.length_map _).trans (List.length_replicate)))))) fun w hst => ?_
      refine RW.soft Wd.a (v := .int .i64 r6.2) (by exact E.assign (AF_ev rfl (u0 (up rfl tp)))) ?_
      refine RW.fin (fun τ => τ 0 = .pointer (some ⟨b_k, 0, none⟩) ∧ τ 1 = .slice X_blob blob.length c_blob ∧ τ 2 = .slice X_beside beside.length c_beside ∧ τ 6 = .slice none 0 0 ∧ τ 7 = .int .i64 0 ∧ τ 8 = .int .i64 r2.1 ∧ τ 9 = .int .i64 r2.2.1 ∧ τ 10 = .pointer (some ⟨b4, 0, none⟩) ∧ τ 11 = .slice Xq3_3 r2.2.2.2.1.length cq3_3 ∧ τ 12 = .int .i64 r6.2 ∧ τ 13 = .pointer (some ⟨b8, 0, none⟩) ∧ τ 16 = .bool false ∧ τ 26 = .bool false) ⟨up rfl (u0 (up rfl (up rfl (up rfl (up rfl (up rfl (up rfl (up rfl (up rfl hs0))))))))), up rfl (u0 (up rfl (up rfl (up rfl (up rfl (up rfl (up rfl (up rfl (up rfl hs1))))))))), up rfl (u0 (up rfl (up rfl (up rfl (up rfl (up rfl (up rfl (up rfl (up rfl hs2))))))))), up rfl (u0 (up rfl (up rfl (up rfl (up rfl (up rfl (up rfl (up rfl (up rfl hs6))))))))), up rfl (u0 (up rfl (up rfl (up rfl (up rfl (up rfl (up rfl (up rfl (up rfl hs7))))))))), up rfl (u0 (up rfl (up rfl (up rfl (up rfl (up rfl (up rfl (up rfl (up rfl hs8))))))))), up rfl (u0 (up rfl (up rfl (up rfl (up rfl (up rfl (up rfl (up rfl (up rfl hs9))))))))), up rfl (u0 (up rfl (up rfl (up rfl (up rfl (up rfl (up rfl (up rfl (up rfl hs10))))))))), up rfl (u0 (up rfl (up rfl (up rfl (up rfl (up rfl (up rfl (up rfl (up rfl hs11))))))))), tp, up rfl (u0 tp), up rfl (u0 (up rfl (up rfl (up rfl (up rfl (up rfl (up rfl (up rfl (up rfl hs16))))))))), up rfl (u0 (up rfl (up rfl (up rfl (up rfl (up rfl (up rfl (up rfl (up rfl (Eq.trans hs26 (congrArg Value.bool hc5)))))))))))⟩ ?_
      rintro τ ⟨hs0, hs1, hs2, hs6, hs7, hs8, hs9, hs10, hs11, hs12, hs13, hs16, hs26⟩
      refine CW.seq ?_
      refine CW.seq ?_
      refine CW.region ?_
      refine RW.soft Wd.a (v := .int .i64 r6.2) (by exact E.move (AF_ev rfl hs12)) ?_
      refine RW.soft Wd.a (v := .bool (r6.2 != 0)) (by exact E.neq (k := .i64) (a := r6.2) (b := 0) (AF_ev rfl tp) rfl) ?_
      refine RW.fin (fun τ => τ 0 = .pointer (some ⟨b_k, 0, none⟩) ∧ τ 1 = .slice X_blob blob.length c_blob ∧ τ 2 = .slice X_beside beside.length c_beside ∧ τ 6 = .slice none 0 0 ∧ τ 7 = .int .i64 0 ∧ τ 8 = .int .i64 r2.1 ∧ τ 9 = .int .i64 r2.2.1 ∧ τ 10 = .pointer (some ⟨b4, 0, none⟩) ∧ τ 11 = .slice Xq3_3 r2.2.2.2.1.length cq3_3 ∧ τ 12 = .int .i64 r6.2 ∧ τ 13 = .pointer (some ⟨b8, 0, none⟩) ∧ τ 16 = .bool false ∧ τ 26 = .bool false ∧ τ 36 = .bool (r6.2 != 0)) ⟨up rfl (up rfl hs0), up rfl (up rfl hs1), up rfl (up rfl hs2), up rfl (up rfl hs6), up rfl (up rfl hs7), up rfl (up rfl hs8), up rfl (up rfl hs9), up rfl (up rfl hs10), up rfl (up rfl hs11), up rfl (up rfl hs12), up rfl (up rfl hs13), up rfl (up rfl hs16), up rfl (up rfl hs26), tp⟩ ?_
      rintro τ ⟨hs0, hs1, hs2, hs6, hs7, hs8, hs9, hs10, hs11, hs12, hs13, hs16, hs26, hs36⟩
      refine CW.cond (AF_ev rfl hs36) (fun hc9 => ?_) (fun hc9 => ?_)
      · have hF := ct hc9 hF
        have hc9_ := hc9
        try simp only [bne_iff_ne, ne_eq] at hc9_
        refine CW.seq ?_
        refine CW.region ?_
        refine RW.soft Wd.a (v := .int .i64 r6.2) (by exact E.move (AF_ev rfl hs12)) ?_
        refine RW.soft Wd.a (v := .slice none 0 0) (by exact E.assign rfl) ?_
        refine RW.soft Wd.a (v := .int .i64 r6.2) (by exact E.assign (AF_ev rfl (up rfl tp))) ?_
        refine RW.fin (fun τ => τ 0 = .pointer (some ⟨b_k, 0, none⟩) ∧ τ 1 = .slice X_blob blob.length c_blob ∧ τ 2 = .slice X_beside beside.length c_beside ∧ τ 6 = .slice none 0 0 ∧ τ 7 = .int .i64 r6.2 ∧ τ 8 = .int .i64 r2.1 ∧ τ 9 = .int .i64 r2.2.1 ∧ τ 10 = .pointer (some ⟨b4, 0, none⟩) ∧ τ 11 = .slice Xq3_3 r2.2.2.2.1.length cq3_3 ∧ τ 12 = .int .i64 r6.2 ∧ τ 13 = .pointer (some ⟨b8, 0, none⟩) ∧ τ 16 = .bool false ∧ τ 26 = .bool false ∧ τ 36 = .bool true) ⟨up rfl (up rfl (up rfl hs0)), up rfl (up rfl (up rfl hs1)), up rfl (up rfl (up rfl hs2)), up rfl tp, tp, up rfl (up rfl (up rfl hs8)), up rfl (up rfl (up rfl hs9)), up rfl (up rfl (up rfl hs10)), up rfl (up rfl (up rfl hs11)), up rfl (up rfl (up rfl hs12)), up rfl (up rfl (up rfl hs13)), up rfl (up rfl (up rfl hs16)), up rfl (up rfl (up rfl hs26)), up rfl (up rfl (up rfl (Eq.trans hs36 (congrArg Value.bool hc9))))⟩ ?_
        rintro τ ⟨hs0, hs1, hs2, hs6, hs7, hs8, hs9, hs10, hs11, hs12, hs13, hs16, hs26, hs36⟩
        refine CW.ret ?_
        refine Th.r ?_
        refine retN (rs := [.tmp 6, .tmp 7]) (vs := [.slice none 0 0, .int .i64 r6.2]) rfl (by exact (.tmp (AF_ev rfl hs6) (.tmp (AF_ev rfl hs7) .nil))) (by simp) ?_
        have hst := hst.ownNil (e := 5) (sz := 1) none
        have hst := hst.take (.there (.there (.there (.there (.there .here)))))
        have hst := hst.take (.there (.there (.there .here)))
        have hst := hst.take (.there (.there .here))
        have hst := (hst.take (.there (.there (.there .here)))).drop
        have hst := (hst.take (.there (.there (.there .here)))).drop
        have hst := (hst.take (.there (.there (.there .here)))).drop
        rw [somE hF]
        exact ⟨none, 0, rfl, (by (try dsimp only); first | omega | (simp; done) | (simp; omega)), (by (try dsimp only); first | omega | exact (by omega)), hst⟩
      · have hF := cf hc9 hF
        have hc9_ := hc9
        try simp only [bne_eq_false_iff_eq] at hc9_
        refine CW.skip ?_
        refine Th.n ?_
        refine CW.seq ?_
        refine CW.region ?_
        refine RW.soft Wd.a (v := .agg ((r6.1.map bu8)).toArray) (by exact E.loadN (b := b8) (o := 0) (cs := (r6.1.map bu8)) Try.underlying34 rfl sz34 (AF_ev rfl hs13) ((List.length_map _).trans hlq7) (St.cellsOf hst .here allF)) ?_
        refine RW.soft Wd.a (v := .agg ((r2.2.2.1.map bu8)).toArray) (by exact E.loadN (b := b4) (o := 0) (cs := (r2.2.2.1.map bu8)) Try.underlying24 rfl sz24 (AF_ev rfl (up rfl hs10)) ((List.length_map _).trans hl_q3_2) (St.cellsOf hst (.there (.there .here)) allF)) ?_
        refine RW.soft Wd.a (v := .slice X_beside beside.length c_beside) (by exact E.move (AF_ev rfl (up rfl (up rfl hs2)))) ?_
        refine RW.soft Wd.a (v := .slice Xq3_3 r2.2.2.2.1.length cq3_3) (by exact E.move (AF_ev rfl (up rfl (up rfl (up rfl hs11))))) ?_
        obtain ⟨r10, h_r10, hF⟩ := bd hF
        have hst := hst.take (.there (.there (.there .here)))
        have hst := hst.take (.there (.there (.there (.there .here))))
        have hst := St.join (l := [A, Tel (.slice Xq3_3 r2.2.2.2.1.length cq3_3) r2.2.2.2.1]) hst
        refine RW.hard Wd.a ?_
        refine H.call0 Try.func61 nm61 rfl (map4 (AF_ev rfl (up rfl (up rfl (up rfl tp)))) (AF_ev rfl (up rfl (up rfl tp))) (AF_ev rfl (up rfl tp)) (AF_ev rfl tp)) (Calls.mono (GOpen_C (A := (all [A, Tel (.slice Xq3_3 r2.2.2.2.1.length cq3_3) r2.2.2.2.1])) r6.1 hlq7 r2.2.2.1 hl_q3_2 beside (by first | omega | (simp; done)) (fun w H s => by have s := (show St _ _ (A :: Tel (.slice Xq3_3 r2.2.2.2.1.length cq3_3) r2.2.2.2.1 :: H) from St.split s); exact (hS_beside _ _ (s.take .here))) r2.2.2.2.1 (by first | omega | (simp; done)) (fun w H s => by have s := (show St _ _ (A :: Tel (.slice Xq3_3 r2.2.2.2.1.length cq3_3) r2.2.2.2.1 :: H) from St.split s); exact (Tel.src (s.take (.there .here)))) r10 h_r10 hst) ?_)
        rintro _ w ⟨Xq11_0, cq11_0, rfl, hm_q11_0, hr_q11_1, hst⟩
        have hst := (show St p w (A :: Tel (.slice Xq3_3 r2.2.2.2.1.length cq3_3) r2.2.2.2.1 :: SL.Own 5 1 (.slice Xq11_0 r10.1.length cq11_0) r10.1.length (r10.1.map bu8) :: _) from (hst.take (.there .here)).split)
        refine ⟨_, rfl, ?_⟩
        show RW _ _ _ _ _ _ _
        refine RW.soft Wd.a (v := .slice Xq11_0 r10.1.length cq11_0) (by exact E.extract (vs := #[.slice Xq11_0 r10.1.length cq11_0, .int .i64 r10.2]) (AF_ev rfl tp) rfl) ?_
        refine RW.soft Wd.a (v := .int .i64 r10.2) (by exact E.extract (vs := #[.slice Xq11_0 r10.1.length cq11_0, .int .i64 r10.2]) (AF_ev rfl (up rfl tp)) rfl) ?_
        refine RW.soft Wd.a (v := .slice Xq11_0 r10.1.length cq11_0) (by exact E.assign (AF_ev rfl (up rfl tp))) ?_
        refine RW.soft Wd.a (v := .int .i64 r10.2) (by exact E.assign (AF_ev rfl (up rfl tp))) ?_
        refine RW.fin (fun τ => τ 0 = .pointer (some ⟨b_k, 0, none⟩) ∧ τ 1 = .slice X_blob blob.length c_blob ∧ τ 2 = .slice X_beside beside.length c_beside ∧ τ 6 = .slice Xq11_0 r10.1.length cq11_0 ∧ τ 7 = .int .i64 r10.2 ∧ τ 8 = .int .i64 r2.1 ∧ τ 9 = .int .i64 r2.2.1 ∧ τ 10 = .pointer (some ⟨b4, 0, none⟩) ∧ τ 11 = .slice Xq3_3 r2.2.2.2.1.length cq3_3 ∧ τ 12 = .int .i64 r6.2 ∧ τ 13 = .pointer (some ⟨b8, 0, none⟩) ∧ τ 16 = .bool false ∧ τ 26 = .bool false ∧ τ 36 = .bool false) ⟨up rfl (up rfl (up rfl (up rfl (up rfl (up rfl (up rfl (up rfl (up rfl hs0)))))))), up rfl (up rfl (up rfl (up rfl (up rfl (up rfl (up rfl (up rfl (up rfl hs1)))))))), up rfl (up rfl (up rfl (up rfl (up rfl (up rfl (up rfl (up rfl (up rfl hs2)))))))), up rfl tp, tp, up rfl (up rfl (up rfl (up rfl (up rfl (up rfl (up rfl (up rfl (up rfl hs8)))))))), up rfl (up rfl (up rfl (up rfl (up rfl (up rfl (up rfl (up rfl (up rfl hs9)))))))), up rfl (up rfl (up rfl (up rfl (up rfl (up rfl (up rfl (up rfl (up rfl hs10)))))))), up rfl (up rfl (up rfl (up rfl (up rfl (up rfl (up rfl (up rfl (up rfl hs11)))))))), up rfl (up rfl (up rfl (up rfl (up rfl (up rfl (up rfl (up rfl (up rfl hs12)))))))), up rfl (up rfl (up rfl (up rfl (up rfl (up rfl (up rfl (up rfl (up rfl hs13)))))))), up rfl (up rfl (up rfl (up rfl (up rfl (up rfl (up rfl (up rfl (up rfl hs16)))))))), up rfl (up rfl (up rfl (up rfl (up rfl (up rfl (up rfl (up rfl (up rfl hs26)))))))), up rfl (up rfl (up rfl (up rfl (up rfl (up rfl (up rfl (up rfl (up rfl (Eq.trans hs36 (congrArg Value.bool hc9))))))))))⟩ ?_
        rintro τ ⟨hs0, hs1, hs2, hs6, hs7, hs8, hs9, hs10, hs11, hs12, hs13, hs16, hs26, hs36⟩
        refine CW.ret ?_
        refine retN (rs := [.tmp 6, .tmp 7]) (vs := [.slice Xq11_0 r10.1.length cq11_0, .int .i64 r10.2]) rfl (by exact (.tmp (AF_ev rfl hs6) (.tmp (AF_ev rfl hs7) .nil))) (by simp) ?_
        have hst := hst.take (.there (.there (.there (.there .here))))
        have hst := hst.take (.there (.there (.there .here)))
        have hst := (hst.take (.there (.there (.there .here)))).drop
        have hst := (hst.take (.there (.there (.there .here)))).drop
        have hst := (hst.take (.there (.there (.there .here)))).drop
        rw [somE hF]
        exact ⟨Xq11_0, cq11_0, rfl, (by (try dsimp only); first | omega | (simp; done) | (simp; omega)), (by (try dsimp only); first | omega | exact (by omega)), hst⟩

def Rewrap (k : RKB) (blob : List (BitVec 8)) (beside : List (BitVec 8)) : Option (List (BitVec 8) × Int × Int × RKB) :=
  (Decrypt k blob beside).bind fun r1 =>
  bif r1.2.1 != 0 then
    some (([] : List (BitVec 8)), 0, r1.2.1, r1.2.2)
  else
    (Read blob).bind fun r4 =>
    (Encrypt r1.2.2 r4.1 r1.1 beside).bind fun r7 =>
    some (r7.1, r7.2.1, r7.2.2.1, r7.2.2.2)
theorem Rewrap_C {p : Pers} {w : World} {R : List Assn} {A : Assn} {b_k : Nat} (k : RKB) {X_blob : Option Addr} {c_blob : Nat} (blob : List (BitVec 8)) (hm_blob : blob.length ≤ 1000000) (hS_blob : ∀ w H, St p w (A :: H) → SL.Src w 1 (.slice X_blob blob.length c_blob) blob.length (blob.map bu8)) {X_beside : Option Addr} {c_beside : Nat} (beside : List (BitVec 8)) (hm_beside : beside.length ≤ 1000000) (hS_beside : ∀ w H, St p w (A :: H) → SL.Src w 1 (.slice X_beside beside.length c_beside) beside.length (beside.map bu8)) (r : List (BitVec 8) × Int × Int × RKB) (hF : Rewrap k blob beside = some r) (hst : St p w (KeysB 103 b_k k :: A :: R)) :
    Calls Try.prog 23 #[.pointer (some ⟨b_k, 0, none⟩), .slice X_blob blob.length c_blob, .slice X_beside beside.length c_beside] w fun e w => ∃ (X0 : Option Addr) (c0 : Nat), e = .returned (.tuple #[.slice X0 r.1.length c0, .int .i64 r.2.1, .int .i64 r.2.2.1]) ∧ r.1.length ≤ 1000000 ∧ (-9223372036854775808 ≤ r.2.1 ∧ r.2.1 ≤ 9223372036854775807) ∧ (-9223372036854775808 ≤ r.2.2.1 ∧ r.2.2.1 ≤ 9223372036854775807) ∧ St p w (SL.Own 5 1 (.slice X0 r.1.length c0) r.1.length (r.1.map bu8) :: KeysB 103 b_k r.2.2.2 :: A :: R) := by
  unfold Rewrap at hF
  refine enter Try.func23 rfl (by simp) (n := 42) rfl fun τ hτ => ?_
  have hs0 : τ 0 = .pointer (some ⟨b_k, 0, none⟩) := hτ 0 (by simp)
  have hs1 : τ 1 = .slice X_blob blob.length c_blob := hτ 1 (by simp)
  have hs2 : τ 2 = .slice X_beside beside.length c_beside := hτ 2 (by simp)
  clear hτ
  refine CW.seq ?_
  refine CW.region ?_
  refine RW.soft Wd.a (v := .slice none 0 0) (by exact E.assign rfl) ?_
  refine RW.soft Wd.a (v := .int .i64 0) (by exact E.assign rfl) ?_
  refine RW.soft Wd.a (v := .int .i64 0) (by exact E.assign rfl) ?_
  refine RW.fin (fun τ => τ 0 = .pointer (some ⟨b_k, 0, none⟩) ∧ τ 1 = .slice X_blob blob.length c_blob ∧ τ 2 = .slice X_beside beside.length c_beside ∧ τ 6 = .slice none 0 0 ∧ τ 7 = .int .i64 0 ∧ τ 8 = .int .i64 0) ⟨up rfl (up rfl (up rfl hs0)), up rfl (up rfl (up rfl hs1)), up rfl (up rfl (up rfl hs2)), up rfl (up rfl tp), up rfl tp, tp⟩ ?_
  rintro τ ⟨hs0, hs1, hs2, hs6, hs7, hs8⟩
  refine CW.seq ?_
  refine CW.region ?_
  refine RW.soft Wd.a (v := .pointer (some ⟨b_k, 0, none⟩)) (by exact E.move (AF_ev rfl hs0)) ?_
  refine RW.soft Wd.a (v := .slice X_blob blob.length c_blob) (by exact E.move (AF_ev rfl (up rfl hs1))) ?_
  refine RW.soft Wd.a (v := .slice X_beside beside.length c_beside) (by exact E.move (AF_ev rfl (up rfl (up rfl hs2)))) ?_
  obtain ⟨r1, h_r1, hF⟩ := bd hF
  have hst := hst.take (.there .here)
  have hst := hst.take (.there .here)
  refine RW.hard Wd.a ?_
  refine H.call0 Try.func20 nm20 rfl (map3 (AF_ev rfl (up rfl (up rfl tp))) (AF_ev rfl (up rfl tp)) (AF_ev rfl tp)) (Calls.mono (Decrypt_C (A := A) k blob (by first | omega | (simp; done)) (fun w H s => (hS_blob _ _ s)) beside (by first | omega | (simp; done)) (fun w H s => (hS_beside _ _ s)) r1 h_r1 hst) ?_)
  rintro _ w ⟨Xq2_0, cq2_0, rfl, hm_q2_0, hr_q2_1, hst⟩
  refine ⟨_, rfl, ?_⟩
  show RW _ _ _ _ _ _ _
  refine RW.soft Wd.a (v := .tuple #[.slice Xq2_0 r1.1.length cq2_0, .int .i64 r1.2.1]) (by exact E.move (AF_ev rfl tp)) ?_
  refine RW.soft Wd.a (v := .slice Xq2_0 r1.1.length cq2_0) (by exact E.extract (vs := #[.slice Xq2_0 r1.1.length cq2_0, .int .i64 r1.2.1]) (AF_ev rfl tp) rfl) ?_
  refine RW.soft Wd.a (v := .int .i64 r1.2.1) (by exact E.extract (vs := #[.slice Xq2_0 r1.1.length cq2_0, .int .i64 r1.2.1]) (AF_ev rfl (up rfl tp)) rfl) ?_
  refine RW.soft Wd.a (v := .slice Xq2_0 r1.1.length cq2_0) (by exact E.assign (AF_ev rfl (up rfl tp))) ?_
  refine RW.soft Wd.a (v := .int .i64 r1.2.1) (by exact E.assign (AF_ev rfl (up rfl tp))) ?_
  refine RW.fin (fun τ => τ 0 = .pointer (some ⟨b_k, 0, none⟩) ∧ τ 1 = .slice X_blob blob.length c_blob ∧ τ 2 = .slice X_beside beside.length c_beside ∧ τ 6 = .slice none 0 0 ∧ τ 7 = .int .i64 0 ∧ τ 8 = .int .i64 0 ∧ τ 9 = .slice Xq2_0 r1.1.length cq2_0 ∧ τ 10 = .int .i64 r1.2.1) ⟨up rfl (up rfl (up rfl (up rfl (up rfl (up rfl (up rfl (up rfl (up rfl hs0)))))))), up rfl (up rfl (up rfl (up rfl (up rfl (up rfl (up rfl (up rfl (up rfl hs1)))))))), up rfl (up rfl (up rfl (up rfl (up rfl (up rfl (up rfl (up rfl (up rfl hs2)))))))), up rfl (up rfl (up rfl (up rfl (up rfl (up rfl (up rfl (up rfl (up rfl hs6)))))))), up rfl (up rfl (up rfl (up rfl (up rfl (up rfl (up rfl (up rfl (up rfl hs7)))))))), up rfl (up rfl (up rfl (up rfl (up rfl (up rfl (up rfl (up rfl (up rfl hs8)))))))), up rfl tp, tp⟩ ?_
  rintro τ ⟨hs0, hs1, hs2, hs6, hs7, hs8, hs9, hs10⟩
  refine CW.seq ?_
  refine CW.seq ?_
  refine CW.region ?_
  refine RW.soft Wd.a (v := .int .i64 r1.2.1) (by exact E.move (AF_ev rfl hs10)) ?_
  refine RW.soft Wd.a (v := .bool (r1.2.1 != 0)) (by exact E.neq (k := .i64) (a := r1.2.1) (b := 0) (AF_ev rfl tp) rfl) ?_
  refine RW.fin (fun τ => τ 0 = .pointer (some ⟨b_k, 0, none⟩) ∧ τ 1 = .slice X_blob blob.length c_blob ∧ τ 2 = .slice X_beside beside.length c_beside ∧ τ 6 = .slice none 0 0 ∧ τ 7 = .int .i64 0 ∧ τ 8 = .int .i64 0 ∧ τ 9 = .slice Xq2_0 r1.1.length cq2_0 ∧ τ 10 = .int .i64 r1.2.1 ∧ τ 24 = .bool (r1.2.1 != 0)) ⟨up rfl (up rfl hs0), up rfl (up rfl hs1), up rfl (up rfl hs2), up rfl (up rfl hs6), up rfl (up rfl hs7), up rfl (up rfl hs8), up rfl (up rfl hs9), up rfl (up rfl hs10), tp⟩ ?_
  rintro τ ⟨hs0, hs1, hs2, hs6, hs7, hs8, hs9, hs10, hs24⟩
  refine CW.cond (AF_ev rfl hs24) (fun hc3 => ?_) (fun hc3 => ?_)
  · have hF := ct hc3 hF
    have hc3_ := hc3
    try simp only [bne_iff_ne, ne_eq] at hc3_
    refine CW.seq ?_
    refine CW.region ?_
    refine RW.soft Wd.a (v := .int .i64 r1.2.1) (by exact E.move (AF_ev rfl hs10)) ?_
    refine RW.soft Wd.a (v := .slice none 0 0) (by exact E.assign rfl) ?_
    refine RW.soft Wd.a (v := .int .i64 0) (by exact E.assign rfl) ?_
    refine RW.soft Wd.a (v := .int .i64 r1.2.1) (by exact E.assign (AF_ev rfl (up rfl (up rfl tp)))) ?_
    refine RW.fin (fun τ => τ 0 = .pointer (some ⟨b_k, 0, none⟩) ∧ τ 1 = .slice X_blob blob.length c_blob ∧ τ 2 = .slice X_beside beside.length c_beside ∧ τ 6 = .slice none 0 0 ∧ τ 7 = .int .i64 0 ∧ τ 8 = .int .i64 r1.2.1 ∧ τ 9 = .slice Xq2_0 r1.1.length cq2_0 ∧ τ 10 = .int .i64 r1.2.1 ∧ τ 24 = .bool true) ⟨up rfl (up rfl (up rfl (up rfl hs0))), up rfl (up rfl (up rfl (up rfl hs1))), up rfl (up rfl (up rfl (up rfl hs2))), up rfl (up rfl tp), up rfl tp, tp, up rfl (up rfl (up rfl (up rfl hs9))), up rfl (up rfl (up rfl (up rfl hs10))), up rfl (up rfl (up rfl (up rfl (Eq.trans hs24 (congrArg Value.bool hc3)))))⟩ ?_
    rintro τ ⟨hs0, hs1, hs2, hs6, hs7, hs8, hs9, hs10, hs24⟩
    refine CW.ret ?_
    refine Th.r ?_
    refine retN (rs := [.tmp 6, .tmp 7, .tmp 8]) (vs := [.slice none 0 0, .int .i64 0, .int .i64 r1.2.1]) rfl (by exact (.tmp (AF_ev rfl hs6) (.tmp (AF_ev rfl hs7) (.tmp (AF_ev rfl hs8) .nil)))) (by simp) ?_
    have hst := hst.ownNil (e := 5) (sz := 1) none
    have hst := hst.take (.there (.there (.there .here)))
    have hst := hst.take (.there (.there (.there .here)))
    have hst := hst.take (.there (.there .here))
    have hst := (hst.take (.there (.there (.there .here)))).drop
    rw [somE hF]
    exact ⟨none, 0, rfl, (by (try dsimp only); first | omega | (simp; done) | (simp; omega)), (by (try dsimp only); first | omega | exact (by omega)), (by (try dsimp only); first | omega | exact (by omega)), hst⟩
  · have hF := cf hc3 hF
    have hc3_ := hc3
    try simp only [bne_eq_false_iff_eq] at hc3_
    refine CW.skip ?_
    refine Th.n ?_
    refine CW.seq ?_
    refine CW.region ?_
    refine RW.soft Wd.a (v := .slice X_blob blob.length c_blob) (by exact E.move (AF_ev rfl hs1)) ?_
    obtain ⟨r4, h_r4, hF⟩ := bd hF
    have hst := hst.take (.there (.there .here))
    refine RW.hard Wd.a ?_
    refine H.call0 Try.func13 nm13 rfl (map1 (AF_ev rfl tp)) (Calls.mono (Read_C (A := A) blob (by first | omega | (simp; done)) (fun w H s => (hS_blob _ _ s)) r4 h_r4 hst) ?_)
    rintro _ w ⟨Xq5_3, cq5_3, rfl, hr_q5_0, hr_q5_1, hl_q5_2, hm_q5_3, hr_q5_4, hst⟩
    refine ⟨_, rfl, ?_⟩
    show RW _ _ _ _ _ _ _
    refine RW.soft Wd.a (v := .tuple #[.int .i64 r4.1, .int .i64 r4.2.1, .agg ((r4.2.2.1.map bu8)).toArray, .slice Xq5_3 r4.2.2.2.1.length cq5_3, .int .i64 r4.2.2.2.2]) (by exact E.move (AF_ev rfl tp)) ?_
    refine RW.soft Wd.a (v := .int .i64 r4.1) (by exact E.extract (vs := #[.int .i64 r4.1, .int .i64 r4.2.1, .agg ((r4.2.2.1.map bu8)).toArray, .slice Xq5_3 r4.2.2.2.1.length cq5_3, .int .i64 r4.2.2.2.2]) (AF_ev rfl tp) rfl) ?_
    refine RW.soft Wd.a (v := .int .i64 r4.2.1) (by exact E.extract (vs := #[.int .i64 r4.1, .int .i64 r4.2.1, .agg ((r4.2.2.1.map bu8)).toArray, .slice Xq5_3 r4.2.2.2.1.length cq5_3, .int .i64 r4.2.2.2.2]) (AF_ev rfl (up rfl tp)) rfl) ?_
    refine RW.soft Wd.a (v := .agg ((r4.2.2.1.map bu8)).toArray) (by exact E.extract (vs := #[.int .i64 r4.1, .int .i64 r4.2.1, .agg ((r4.2.2.1.map bu8)).toArray, .slice Xq5_3 r4.2.2.2.1.length cq5_3, .int .i64 r4.2.2.2.2]) (AF_ev rfl (up rfl (up rfl tp))) rfl) ?_
    refine RW.soft Wd.a (v := .slice Xq5_3 r4.2.2.2.1.length cq5_3) (by exact E.extract (vs := #[.int .i64 r4.1, .int .i64 r4.2.1, .agg ((r4.2.2.1.map bu8)).toArray, .slice Xq5_3 r4.2.2.2.1.length cq5_3, .int .i64 r4.2.2.2.2]) (AF_ev rfl (up rfl (up rfl (up rfl tp)))) rfl) ?_
    refine RW.soft Wd.a (v := .int .i64 r4.2.2.2.2) (by exact E.extract (vs := #[.int .i64 r4.1, .int .i64 r4.2.1, .agg ((r4.2.2.1.map bu8)).toArray, .slice Xq5_3 r4.2.2.2.1.length cq5_3, .int .i64 r4.2.2.2.2]) (AF_ev rfl (up rfl (up rfl (up rfl (up rfl tp))))) rfl) ?_
    refine RW.hard Wd.a ?_
    refine H.alloc zs24 hst fun b6 w hst => ?_
    refine RW.soft Wd.a (v := .int .i64 r4.1) (by exact E.assign (AF_ev rfl (up rfl (up rfl (up rfl (up rfl (up rfl tp))))))) ?_
    refine RW.soft Wd.a (v := .int .i64 r4.2.1) (by exact E.assign (AF_ev rfl (up rfl (up rfl (up rfl (up rfl (up rfl tp))))))) ?_
    refine RW.hard Wd.a ?_
    refine H.storeL (b := b6) (o := 0) (m := 12) (v := .agg ((r4.2.2.1.map bu8)).toArray) (ys := (r4.2.2.1.map bu8)) (L' := (r4.2.2.1.map bu8)) (AF_ev rfl (up rfl (up rfl tp))) (AF_ev rfl (up rfl (up rfl (up rfl (up rfl (up rfl tp)))))) hst .here sz24 rfl ((List.length_map _).trans hl_q5_2) (ones_map (fun _ => rfl)) (putW (Eq.trans (show (r4.2.2.1.map bu8).length = 12 from ((List.length_map _).trans hl_q5_2)) (Eq.symm (show ((List.replicate 12 0#8).map bu8).length = 12 from ((List.length_map _).trans (List.length_replicate)))))) fun w hst => ?_
    refine RW.soft Wd.a (v := .slice Xq5_3 r4.2.2.2.1.length cq5_3) (by exact E.assign (AF_ev rfl (u0 (up rfl (up rfl (up rfl (up rfl tp))))))) ?_
    refine RW.soft Wd.a (v := .int .i64 r4.2.2.2.2) (by exact E.assign (AF_ev rfl (up rfl (u0 (up rfl (up rfl (up rfl tp))))))) ?_
    refine RW.fin (fun τ => τ 0 = .pointer (some ⟨b_k, 0, none⟩) ∧ τ 1 = .slice X_blob blob.length c_blob ∧ τ 2 = .slice X_beside beside.length c_beside ∧ τ 6 = .slice none 0 0 ∧ τ 7 = .int .i64 0 ∧ τ 8 = .int .i64 0 ∧ τ 9 = .slice Xq2_0 r1.1.length cq2_0 ∧ τ 10 = .int .i64 r1.2.1 ∧ τ 11 = .int .i64 r4.1 ∧ τ 24 = .bool false) ⟨up rfl (up rfl (u0 (up rfl (up rfl (up rfl (up rfl (up rfl (up rfl (up rfl (up rfl (up rfl (up rfl (up rfl hs0))))))))))))), up rfl (up rfl (u0 (up rfl (up rfl (up rfl (up rfl (up rfl (up rfl (up rfl (up rfl (up rfl (up rfl (up rfl hs1))))))))))))), up rfl (up rfl (u0 (up rfl (up rfl (up rfl (up rfl (up rfl (up rfl (up rfl (up rfl (up rfl (up rfl (up rfl hs2))))))))))))), up rfl (up rfl (u0 (up rfl (up rfl (up rfl (up rfl (up rfl (up rfl (up rfl (up rfl (up rfl (up rfl (up rfl hs6))))))))))))), up rfl (up rfl (u0 (up rfl (up rfl (up rfl (up rfl (up rfl (up rfl (up rfl (up rfl (up rfl (up rfl (up rfl hs7))))))))))))), up rfl (up rfl (u0 (up rfl (up rfl (up rfl (up rfl (up rfl (up rfl (up rfl (up rfl (up rfl (up rfl (up rfl hs8))))))))))))), up rfl (up rfl (u0 (up rfl (up rfl (up rfl (up rfl (up rfl (up rfl (up rfl (up rfl (up rfl (up rfl (up rfl hs9))))))))))))), up rfl (up rfl (u0 (up rfl (up rfl (up rfl (up rfl (up rfl (up rfl (up rfl (up rfl (up rfl (up rfl (up rfl hs10))))))))))))), up rfl (up rfl (u0 (up rfl tp))), up rfl (up rfl (u0 (up rfl (up rfl (up rfl (up rfl (up rfl (up rfl (up rfl (up rfl (up rfl (up rfl (up rfl (Eq.trans hs24 (congrArg Value.bool hc3)))))))))))))))⟩ ?_
    rintro τ ⟨hs0, hs1, hs2, hs6, hs7, hs8, hs9, hs10, hs11, hs24⟩
    refine CW.seq ?_
    refine CW.region ?_
    refine RW.soft Wd.a (v := .pointer (some ⟨b_k, 0, none⟩)) (by exact E.move (AF_ev rfl hs0)) ?_
    refine RW.soft Wd.a (v := .int .i64 r4.1) (by exact E.move (AF_ev rfl (up rfl hs11))) ?_
    refine RW.soft Wd.a (v := .slice Xq2_0 r1.1.length cq2_0) (by exact E.move (AF_ev rfl (up rfl (up rfl hs9)))) ?_
    refine RW.soft Wd.a (v := .slice X_beside beside.length c_beside) (by exact E.move (AF_ev rfl (up rfl (up rfl (up rfl hs2))))) ?_
    obtain ⟨r7, h_r7, hF⟩ := bd hF
    have hst := hst.take (.there (.there .here))
    have hst := hst.take (.there (.there (.there .here)))
    have hst := St.join (l := [SL.Own 5 1 (.slice Xq2_0 r1.1.length cq2_0) r1.1.length (r1.1.map bu8), A]) hst
    have hst := hst.take (.there (.there (.there .here)))
    refine RW.hard Wd.a ?_
    refine H.call0 Try.func18 nm18 rfl (map4 (AF_ev rfl (up rfl (up rfl (up rfl tp)))) (AF_ev rfl (up rfl (up rfl tp))) (AF_ev rfl (up rfl tp)) (AF_ev rfl tp)) (Calls.mono (Encrypt_C (A := (all [SL.Own 5 1 (.slice Xq2_0 r1.1.length cq2_0) r1.1.length (r1.1.map bu8), A])) r1.2.2 r4.1 (by omega) r1.1 (by first | omega | (simp; done)) (fun w H s => by have s := (show St _ _ (SL.Own 5 1 (.slice Xq2_0 r1.1.length cq2_0) r1.1.length (r1.1.map bu8) :: A :: H) from St.split s); exact (Own.src (s.take .here))) beside (by first | omega | (simp; done)) (fun w H s => by have s := (show St _ _ (SL.Own 5 1 (.slice Xq2_0 r1.1.length cq2_0) r1.1.length (r1.1.map bu8) :: A :: H) from St.split s); exact (hS_beside _ _ (s.take (.there .here)))) r7 h_r7 hst) ?_)
    rintro _ w ⟨Xq8_0, cq8_0, rfl, hm_q8_0, hr_q8_1, hr_q8_2, hst⟩
    have hst := (show St p w (SL.Own 5 1 (.slice Xq2_0 r1.1.length cq2_0) r1.1.length (r1.1.map bu8) :: A :: SL.Own 5 1 (.slice Xq8_0 r7.1.length cq8_0) r7.1.length (r7.1.map bu8) :: KeysB 103 b_k r7.2.2.2 :: _) from (hst.take (.there (.there .here))).split)
    refine ⟨_, rfl, ?_⟩
    show RW _ _ _ _ _ _ _
    refine RW.soft Wd.a (v := .slice Xq8_0 r7.1.length cq8_0) (by exact E.extract (vs := #[.slice Xq8_0 r7.1.length cq8_0, .int .i64 r7.2.1, .int .i64 r7.2.2.1]) (AF_ev rfl tp) rfl) ?_
    refine RW.soft Wd.a (v := .int .i64 r7.2.1) (by exact E.extract (vs := #[.slice Xq8_0 r7.1.length cq8_0, .int .i64 r7.2.1, .int .i64 r7.2.2.1]) (AF_ev rfl (up rfl tp)) rfl) ?_
    refine RW.soft Wd.a (v := .int .i64 r7.2.2.1) (by exact E.extract (vs := #[.slice Xq8_0 r7.1.length cq8_0, .int .i64 r7.2.1, .int .i64 r7.2.2.1]) (AF_ev rfl (up rfl (up rfl tp))) rfl) ?_
    refine RW.soft Wd.a (v := .slice Xq8_0 r7.1.length cq8_0) (by exact E.assign (AF_ev rfl (up rfl (up rfl tp)))) ?_
    refine RW.soft Wd.a (v := .int .i64 r7.2.1) (by exact E.assign (AF_ev rfl (up rfl (up rfl tp)))) ?_
    refine RW.soft Wd.a (v := .int .i64 r7.2.2.1) (by exact E.assign (AF_ev rfl (up rfl (up rfl tp)))) ?_
    refine RW.fin (fun τ => τ 0 = .pointer (some ⟨b_k, 0, none⟩) ∧ τ 1 = .slice X_blob blob.length c_blob ∧ τ 2 = .slice X_beside beside.length c_beside ∧ τ 6 = .slice Xq8_0 r7.1.length cq8_0 ∧ τ 7 = .int .i64 r7.2.1 ∧ τ 8 = .int .i64 r7.2.2.1 ∧ τ 9 = .slice Xq2_0 r1.1.length cq2_0 ∧ τ 10 = .int .i64 r1.2.1 ∧ τ 11 = .int .i64 r4.1 ∧ τ 24 = .bool false) ⟨up rfl (up rfl (up rfl (up rfl (up rfl (up rfl (up rfl (up rfl (up rfl (up rfl (up rfl hs0)))))))))), up rfl (up rfl (up rfl (up rfl (up rfl (up rfl (up rfl (up rfl (up rfl (up rfl (up rfl hs1)))))))))), up rfl (up rfl (up rfl (up rfl (up rfl (up rfl (up rfl (up rfl (up rfl (up rfl (up rfl hs2)))))))))), up rfl (up rfl tp), up rfl tp, tp, up rfl (up rfl (up rfl (up rfl (up rfl (up rfl (up rfl (up rfl (up rfl (up rfl (up rfl hs9)))))))))), up rfl (up rfl (up rfl (up rfl (up rfl (up rfl (up rfl (up rfl (up rfl (up rfl (up rfl hs10)))))))))), up rfl (up rfl (up rfl (up rfl (up rfl (up rfl (up rfl (up rfl (up rfl (up rfl (up rfl hs11)))))))))), up rfl (up rfl (up rfl (up rfl (up rfl (up rfl (up rfl (up rfl (up rfl (up rfl (up rfl hs24))))))))))⟩ ?_
    rintro τ ⟨hs0, hs1, hs2, hs6, hs7, hs8, hs9, hs10, hs11, hs24⟩
    refine CW.ret ?_
    refine retN (rs := [.tmp 6, .tmp 7, .tmp 8]) (vs := [.slice Xq8_0 r7.1.length cq8_0, .int .i64 r7.2.1, .int .i64 r7.2.2.1]) rfl (by exact (.tmp (AF_ev rfl hs6) (.tmp (AF_ev rfl hs7) (.tmp (AF_ev rfl hs8) .nil)))) (by simp) ?_
    have hst := hst.take (.there .here)
    have hst := hst.take (.there (.there (.there .here)))
    have hst := hst.take (.there (.there (.there .here)))
    have hst := (hst.take (.there (.there (.there .here)))).drop
    have hst := (hst.take (.there (.there (.there .here)))).drop
    have hst := (hst.take (.there (.there (.there .here)))).drop
    rw [somE hF]
    exact ⟨Xq8_0, cq8_0, rfl, (by (try dsimp only); first | omega | (simp; done) | (simp; omega)), (by (try dsimp only); first | omega | exact (by omega)), (by (try dsimp only); first | omega | exact (by omega)), hst⟩
end Go.Proofs.Ytjpjejldinpcnaa
