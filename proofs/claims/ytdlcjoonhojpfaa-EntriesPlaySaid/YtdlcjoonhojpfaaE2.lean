/- The calls of the package entries, walked through operation by operation. -/
import Derived.Test.YtdlcjoonhojpfaaE0
import Derived.Test.YtdlcjoonhojpfaaT1
import Derived.Test.YtdlcjoonhojpfaaE1
namespace Go.Proofs.Ytdlcjoonhojpfaa
open Go.RowKit Go.SL Go.E17
attribute [local irreducible] Go.SL.RW Go.SL.CW Go.SL.RD Go.SL.Hd Go.SL.St
set_option linter.unusedVariables false
set_option linter.unusedSimpArgs false

theorem nm30 : (Try.f30.name == "runtime.NumGoroutine") = false := by kernel_rfl
theorem nm31 : (Try.f31.name == "runtime.NumGoroutine") = false := by kernel_rfl
theorem nm32 : (Try.f32.name == "runtime.NumGoroutine") = false := by kernel_rfl
theorem nm66 : (Try.f66.name == "runtime.NumGoroutine") = false := by kernel_rfl
theorem nm70 : (Try.f70.name == "runtime.NumGoroutine") = false := by kernel_rfl
theorem sz44 : (Try.prog.info? 44).map (·.size) = some 1 := by kernel_rfl

def mkE (u : Int) : Ent := ⟨u, 0, none, 0, [], none, 0, []⟩
theorem mkE_ok {p : Pers} (us : List Int) : EsOk p (us.map mkE) := fun x hx => by
  obtain ⟨u, _, rfl⟩ := List.mem_map.1 hx
  exact ⟨⟨rfl, none, 0, rfl, Nat.le_refl _, .inl rfl⟩, ⟨rfl, none, 0, rfl, Nat.le_refl _, .inl rfl⟩, by simp [mkE], by simp [mkE]⟩
theorem ts_mkE (us : List Int) : ts (us.map mkE) = us := by simp [ts, mkE, Function.comp_def]

theorem ent_of {p : Pers} {w : World} {R : List Assn} {A : Assn} {X : Option Addr} {c : Nat} {us : List Int} (hA : Tells p A 1 (.slice X us.length c) us.length (iv us)) (hl : us.length ≤ 1000) (hst : St p w (A :: R)) :
    Calls Try.prog 54 #[.slice X us.length c] w fun e w => ∃ v, e = .returned v ∧ St p w (Own 58 4 v us.length (flat (us.map mkE)) :: A :: R) := by
  refine enter Try.func54 rfl (by simp) (n := 21) rfl fun τ hτ => ?_
  have hs0 : τ 0 = .slice X us.length c := hτ 0 (by simp)
  clear hτ
  refine CW.seq ?_
  refine CW.region ?_
  refine RW.soft Wd.a (v := .slice none 0 0) (by exact E.assign rfl) ?_
  refine RW.fin (fun τ => τ 0 = .slice X us.length c ∧ τ 2 = .slice none 0 0) ⟨up rfl hs0, tp⟩ ?_
  rintro τ ⟨hs0, hs2⟩
  refine CW.seq ?_
  refine CW.region ?_
  refine RW.hard Wd.a ?_
  refine H.buildSlice (e := 58) (cs := #[]) (vs := #[]) (by simp) (fun _ => by kernel_rfl) hst fun b1 w hst => ?_
  refine RW.soft Wd.a (v := .slice (some ⟨b1, 0, none⟩) 0 0) (by exact E.assign (AF_ev rfl tp)) ?_
  refine RW.fin (fun τ => τ 0 = .slice X us.length c ∧ τ 2 = .slice none 0 0 ∧ τ 3 = .slice (some ⟨b1, 0, none⟩) 0 0) ⟨up rfl (up rfl hs0), up rfl (up rfl hs2), tp⟩ ?_
  rintro τ ⟨hs0, hs2, hs3⟩
  refine CW.seq ?_
  refine CW.seq ?_
  refine CW.region ?_
  refine RW.soft Wd.a (v := .int .i64 0) (by exact E.assign rfl) ?_
  refine RW.fin (fun τ => τ 0 = .slice X us.length c ∧ τ 2 = .slice none 0 0 ∧ τ 3 = .slice (some ⟨b1, 0, none⟩) 0 0 ∧ τ 4 = .int .i64 0) ⟨up rfl hs0, up rfl hs2, up rfl hs3, tp⟩ ?_
  rintro τ ⟨hs0, hs2, hs3, hs4⟩
  refine CW.block ?_
  have hst : St p w (Own 58 4 (.slice (some ⟨b1, 0, none⟩) 0 0) 0 (flat ((us.take 0).map mkE)) :: A :: R) := hst.ownNew (by omega) (by simp [maxLen]) rfl rfl
  refine CW.loop (fun (k : Nat) (τ : Fr) (w : World) => ∃ (i : Nat) (V : Option Addr) (cv : Nat), i ≤ us.length ∧ k = us.length - i ∧ τ 0 = .slice X us.length c ∧ τ 3 = .slice V i cv ∧ τ 4 = .int .i64 ((i : Nat) : Int) ∧ St p w (Own 58 4 (.slice V i cv) i (flat ((us.take i).map mkE)) :: A :: R)) (us.length - 0) ⟨0, some ⟨b1, 0, none⟩, 0, by omega, rfl, hs0, hs3, (int_eq (a := 0) hs4 (by omega)), hst⟩ ?_
  clear hst
  rintro k τ w ⟨i, V, cv, hi, hk, hs0, hs3, hs4, hst⟩
  refine CW.seq ?_
  refine CW.seq ?_
  refine CW.region ?_
  refine RW.soft Wd.a (v := .int .i64 ((i : Nat) : Int)) (by exact E.move (AF_ev rfl hs4)) ?_
  refine RW.soft Wd.a (v := .slice X us.length c) (by exact E.move (AF_ev rfl (up rfl hs0))) ?_
  refine RW.soft Wd.a (v := .int .i64 ((us.length : Nat) : Int)) (by exact E.lenS (p := X) (l := us.length) (c := c) Try.underlying56 (AF_ev rfl tp)) ?_
  refine RW.soft Wd.a (v := .bool (decide (((i : Nat) : Int) < ((us.length : Nat) : Int)))) (by exact E.lss (k := .i64) (a := ((i : Nat) : Int)) (b := ((us.length : Nat) : Int)) (AF_ev rfl (up rfl (up rfl tp))) (AF_ev rfl tp)) ?_
  refine RW.fin (fun τ => τ 0 = .slice X us.length c ∧ τ 3 = .slice V i cv ∧ τ 4 = .int .i64 ((i : Nat) : Int) ∧ τ 9 = .bool (decide (((i : Nat) : Int) < ((us.length : Nat) : Int)))) ⟨up rfl (up rfl (up rfl (up rfl hs0))), up rfl (up rfl (up rfl (up rfl hs3))), up rfl (up rfl (up rfl (up rfl hs4))), tp⟩ ?_
  rintro τ ⟨hs0, hs3, hs4, hs9⟩
  refine CW.cond (AF_ev rfl hs9) (fun hc2 => ?_) (fun hc2 => ?_)
  · have hc2_ := hc2
    try simp only [decide_eq_true_eq, decide_eq_false_iff_not, Bool.and_eq_true, Bool.or_eq_true, Bool.and_eq_false_iff, Bool.or_eq_false_iff, Bool.not_eq_true', Bool.not_eq_false', beq_iff_eq, beq_eq_false_iff_ne, bne_iff_ne, bne_eq_false_iff_eq, ne_eq, Int.not_lt, Int.not_le, gt_iff_lt, ge_iff_le] at hc2_
    refine CW.skip ?_
    refine Th.n ?_
    refine CW.seq ?_
    refine CW.block ?_
    obtain ⟨b0, o0, rfl, hcell0⟩ := hA.place (hst.take (.there .here)) (by omega)
    obtain ⟨u, hu⟩ : ∃ u, us[i]? = some u := ⟨us[i]'(by omega), List.getElem?_eq_getElem (by omega)⟩
    refine CW.region ?_
    refine RW.soft Wd.a (v := .slice V i cv) (by exact E.move (AF_ev rfl hs3)) ?_
    refine RW.soft Wd.a (v := .slice (some ⟨b0, o0, none⟩) us.length c) (by exact E.move (AF_ev rfl (up rfl hs0))) ?_
    refine RW.soft Wd.a (v := .int .i64 ((i : Nat) : Int)) (by exact E.move (AF_ev rfl (up rfl (up rfl hs4)))) ?_
    refine RW.soft Wd.a (v := .pointer (some ⟨b0, o0 + i * 1, none⟩)) (by exact E.indexAddr (b := b0) (o := o0) (l := us.length) (c := c) (i := ((i : Nat) : Int)) Try.underlying56 sz3 (AF_ev rfl (up rfl tp)) (AF_ev rfl tp) (by omega) (by omega) (by simp)) ?_
    refine RW.soft Wd.a (v := .int .i64 u) (by exact E.load (a := ⟨b0, o0 + i * 1, none⟩) Try.underlying3 rfl (AF_ev rfl tp) (by have q := hcell0 p.le_refl (hst.take (.there .here)) i (.int .i64 u) (by simp [iv, hu]); simpa using q)) ?_
    refine RW.soft Wd.a (v := .agg #[.int .i64 u, .int .i64 0, .slice none 0 0, .slice none 0 0]) (by exact E.build (vs := #[(0, .int .i64 u)]) (bld1 (AF_ev rfl tp)) (by kernel_rfl)) ?_
    refine RW.hard Wd.a ?_
    refine H.buildSlice (e := 58) (cs := #[.int .i64 u, .int .i64 0, .slice none 0 0, .slice none 0 0]) (vs := #[(0, .agg #[.int .i64 u, .int .i64 0, .slice none 0 0, .slice none 0 0])]) (bld1 (AF_ev rfl tp)) (fun _ => by kernel_rfl) hst fun b3 w hst => ?_
    refine RW.hard Wd.a ?_
    refine H.append2 (n2 := i + 1) (xs2 := (flat ((us.take i).map mkE)) ++ ([.int .i64 u, .int .i64 0, .slice none 0 0, .slice none 0 0])) (by first | rfl | simp) (by first | rfl | simp) (m := 1) (news := [.int .i64 u, .int .i64 0, .slice none 0 0, .slice none 0 0]) (s0 := .slice V i cv) (x0 := .slice (some ⟨b3, 0, none⟩) 1 1) Try.underlying44 inf58 rfl (AF_ev rfl (up rfl (up rfl (up rfl (up rfl (up rfl (up rfl tp))))))) (AF_ev rfl tp) hst (.there .here) ⟨rfl, _, _, rfl, by omega, .inr ⟨_, 0, rfl, hst.cellsIn .here rfl⟩⟩ (by simp [Value.oneCell']) (by omega) (by simp only [maxLen]; omega) ?_
    intro vX4 w hnilX4 hst
    obtain ⟨X4, c5, rfl, hcX4, hmX4, hlX4, hbX4⟩ := hst.shape
    refine RW.soft Wd.a (v := .slice X4 (i + 1) c5) (by exact E.assign (AF_ev rfl tp)) ?_
    refine RW.nil ?_
    refine Bl.n ?_
    refine Th.n ?_
    refine CW.region ?_
    refine RW.soft Wd.a (v := .int .i64 ((i : Nat) : Int)) (by exact E.move (AF_ev rfl (up rfl (up rfl (up rfl (up rfl (up rfl (up rfl (up rfl (up rfl (up rfl hs4))))))))))) ?_
    refine RW.soft Wd.a (v := .int .i64 (((i : Nat) : Int) + 1)) (by exact E.add (k := .i64) (a := ((i : Nat) : Int)) (b := 1) (AF_ev rfl tp) rfl (show IntKind.i64.wrap (((i : Nat) : Int) + 1) = ((i : Nat) : Int) + 1 from (by rw [IntWalk.i64_in _ (by omega)]))) ?_
    refine RW.soft Wd.a (v := .int .i64 (((i : Nat) : Int) + 1)) (by exact E.assign (AF_ev rfl tp)) ?_
    refine RW.nil ?_
    refine Th.n ?_
    have hst := hst.take (.there (.there .here))
    have hst := hst.take (.there .here)
    have hst := (hst.take (.there (.there .here))).drop
    have hst : St p w (Own 58 4 (.slice X4 (i + 1) c5) (i + 1) (flat ((us.take (i + 1)).map mkE)) :: A :: R) := by rw [List.take_add_one, hu, List.map_append, flat_append]; exact hst
    have hst := hst.take (.there .here)
    have hst := hst.take (.there .here)
    exact ⟨us.length - (i + 1), by omega, i + 1, X4, c5, (by omega), (by omega), up rfl (up rfl (up rfl (up rfl (up rfl (up rfl (up rfl (up rfl (up rfl (up rfl (up rfl (up rfl hs0))))))))))), up rfl (up rfl (up rfl tp)), (int_eq (a := ((i : Nat) : Int) + 1) tp (by omega)), hst⟩
  · have hc2_ := hc2
    try simp only [decide_eq_true_eq, decide_eq_false_iff_not, Bool.and_eq_true, Bool.or_eq_true, Bool.and_eq_false_iff, Bool.or_eq_false_iff, Bool.not_eq_true', Bool.not_eq_false', beq_iff_eq, beq_eq_false_iff_ne, bne_iff_ne, bne_eq_false_iff_eq, ne_eq, Int.not_lt, Int.not_le, gt_iff_lt, ge_iff_le] at hc2_
    refine CW.exit ?_
    refine Th.x ?_
    refine Th.x ?_
    refine Bl.x ?_
    refine Th.n ?_
    refine CW.seq ?_
    refine CW.region ?_
    refine RW.soft Wd.a (v := .slice V i cv) (by exact E.move (AF_ev rfl hs3)) ?_
    refine RW.soft Wd.a (v := .slice V i cv) (by exact E.assign (AF_ev rfl tp)) ?_
    refine RW.fin (fun τ => τ 0 = .slice X us.length c ∧ τ 2 = .slice V i cv ∧ τ 3 = .slice V i cv ∧ τ 4 = .int .i64 ((i : Nat) : Int) ∧ τ 9 = .bool false) ⟨up rfl (up rfl hs0), tp, up rfl (up rfl hs3), up rfl (up rfl hs4), up rfl (up rfl (Eq.trans hs9 (congrArg Value.bool hc2)))⟩ ?_
    rintro τ ⟨hs0, hs2, hs3, hs4, hs9⟩
    refine CW.ret ?_
    refine ret1 (v := .slice V i cv) rfl (by exact (.tmp (AF_ev rfl hs2) .nil)) ?_
    obtain rfl : i = us.length := by omega
    exact ⟨_, rfl, by rw [List.take_length] at hst; exact hst⟩

theorem ent_New {p : Pers} {w : World} {R : List Assn} {A : Assn} {X : Option Addr} {c : Nat} {l : List Ent} (i t : Int) (hA : Tells p A 4 (.slice X l.length c) l.length (flat l)) (hE : EsOk p l) (hl : l.length ≤ 1000000) (hi : -9223372036854775808 ≤ i ∧ i ≤ 9223372036854775807) (hst : St p w (A :: R)) :
    Calls Try.prog 25 #[.int .i64 i, .int .i64 t, .slice X l.length c] w fun e w => ∃ q b es, p.le q ∧ e = .returned (.pointer (some ⟨b, 0, none⟩)) ∧ vs es = vs l ∧ St q w (LogB q b (max 0 (min i 1099511627776)) t es :: A :: R) := by
  refine enter Try.func25 rfl (by simp) (n := 15) rfl fun τ hτ => ?_
  have hs0 : τ 0 = .int .i64 i := hτ 0 (by simp)
  have hs1 : τ 1 = .int .i64 t := hτ 1 (by simp)
  have hs2 : τ 2 = .slice X l.length c := hτ 2 (by simp)
  clear hτ
  refine CW.seq ?_
  refine CW.region ?_
  refine RW.soft Wd.a (v := .pointer none) (by exact E.assign rfl) ?_
  refine RW.fin (fun τ => τ 0 = .int .i64 i ∧ τ 1 = .int .i64 t ∧ τ 2 = .slice X l.length c ∧ τ 6 = .pointer none) ⟨up rfl hs0, up rfl hs1, up rfl hs2, tp⟩ ?_
  rintro τ ⟨hs0, hs1, hs2, hs6⟩
  refine CW.seq ?_
  refine CW.region ?_
  refine RW.soft Wd.a (v := .int .i64 i) (by exact E.move (AF_ev rfl hs0)) ?_
  refine RW.soft Wd.a (v := .int .i64 (min i 1099511627776)) (by exact E.min (k := .i64) (a := i) (b := 1099511627776) (AF_ev rfl tp) rfl (by rw [Int.min_def]; split <;> split <;> omega)) ?_
  refine RW.soft Wd.a (v := .int .i64 (max 0 (min i 1099511627776))) (by exact E.max (k := .i64) (a := 0) (b := min i 1099511627776) rfl (AF_ev rfl tp) (by rw [Int.max_def]; split <;> split <;> omega)) ?_
  refine RW.soft Wd.a (v := .int .i64 t) (by exact E.move (AF_ev rfl (up rfl (up rfl (up rfl hs1))))) ?_
  refine RW.soft Wd.a (v := .slice X l.length c) (by exact E.move (AF_ev rfl (up rfl (up rfl (up rfl (up rfl hs2)))))) ?_
  refine RW.hard Wd.a ?_
  refine H.call0 Try.func66 nm66 rfl (map1 (AF_ev rfl tp)) (Calls.mono (ent_own_ hA hE (by omega) p.le_refl hst) ?_)
  rintro _ w ⟨p, vX1, es3, hle, rfl, hokes3, hvses3, hst⟩
  obtain ⟨X1, c2, rfl, hcX1, hmX1, hlX1, hbX1⟩ := hst.shape
  have hvles3 := vs_len hvses3
  refine ⟨_, rfl, ?_⟩
  show RW _ _ _ _ _ _ _
  refine RW.soft Wd.a (v := .agg #[.int .i64 (max 0 (min i 1099511627776)), .int .i64 t, .slice X1 es3.length c2]) (by exact E.build (vs := #[(0, .int .i64 (max 0 (min i 1099511627776))), (1, .int .i64 t), (2, .slice X1 es3.length c2)]) (bld3 (AF_ev rfl (up rfl (up rfl (up rfl tp)))) (AF_ev rfl (up rfl (up rfl tp))) (AF_ev rfl tp)) (by kernel_rfl)) ?_
  refine RW.hard Wd.a ?_
  refine H.box (v := .agg #[.int .i64 (max 0 (min i 1099511627776)), .int .i64 t, .slice X1 es3.length c2]) (AF_ev rfl tp) hst fun b4 w hst => ?_
  refine RW.soft Wd.a (v := .pointer (some ⟨b4, 0, none⟩)) (by exact E.assign (AF_ev rfl tp)) ?_
  refine RW.fin (fun τ => τ 0 = .int .i64 i ∧ τ 1 = .int .i64 t ∧ τ 2 = .slice X l.length c ∧ τ 6 = .pointer (some ⟨b4, 0, none⟩)) ⟨up rfl (up rfl (up rfl (up rfl (up rfl (up rfl (up rfl (up rfl (up rfl hs0)))))))), up rfl (up rfl (up rfl (up rfl (up rfl (up rfl (up rfl (up rfl (up rfl hs1)))))))), up rfl (up rfl (up rfl (up rfl (up rfl (up rfl (up rfl (up rfl (up rfl hs2)))))))), tp⟩ ?_
  rintro τ ⟨hs0, hs1, hs2, hs6⟩
  refine CW.ret ?_
  refine ret1 (v := .pointer (some ⟨b4, 0, none⟩)) rfl (by exact (.tmp (AF_ev rfl hs6) .nil)) ?_
  have hst := hst.take (.there (.there .here))
  have hst := hst.take (.there (.there .here))
  have hst := hst.take (.there (.there .here))
  exact ⟨p, _, _, hle, rfl, hvses3, logClose (by omega) (by have := vs_len hvses3; omega) hokes3 hst⟩

theorem ent_First {p : Pers} {w : World} {R : List Assn} {X : Option Addr} {n c b : Nat} {i t : Int} (hi : 0 ≤ i ∧ i ≤ 1099511627776) (hn : n ≤ 1000000)  (hst : St p w (pt b (.cells #[.int .i64 i, .int .i64 t, .slice X n c] 122) :: R)) :
    Calls Try.prog 31 #[.pointer (some ⟨b, 0, none⟩)] w fun e w => e = .returned (.int .i64 (i + 1)) ∧ St p w (pt b (.cells #[.int .i64 i, .int .i64 t, .slice X n c] 122) :: R) := by
  refine enter Try.func31 rfl (by simp) (n := 8) rfl fun τ hτ => ?_
  have hs0 : τ 0 = .pointer (some ⟨b, 0, none⟩) := hτ 0 (by simp)
  clear hτ
  refine CW.seq ?_
  refine CW.region ?_
  refine RW.soft Wd.a (v := .int .i64 0) (by exact E.assign rfl) ?_
  refine RW.fin (fun τ => τ 0 = .pointer (some ⟨b, 0, none⟩) ∧ τ 2 = .int .i64 0) ⟨up rfl hs0, tp⟩ ?_
  rintro τ ⟨hs0, hs2⟩
  refine CW.seq ?_
  refine CW.region ?_
  refine RW.soft Wd.a (v := .pointer (some ⟨b, 0, none⟩)) (by exact E.move (AF_ev rfl hs0)) ?_
  refine RW.soft Wd.a (v := .pointer (some ⟨b, 0, none⟩)) (by exact E.nilCheck (a := ⟨b, 0, none⟩) (AF_ev rfl tp)) ?_
  refine RW.soft Wd.a (v := .pointer (some ⟨b, 0, none⟩)) (by exact E.fieldAddr (b := b) (o := 0) (f := { name := "index", type := 3, offset := 0, embedded := false, tag := "", pkgPath := "strongroom/entries", byteOffset := 0 }) (AF_ev rfl tp) Try.underlying122 rfl sz3 rfl) ?_
  refine RW.soft Wd.a (v := .int .i64 i) (by exact E.load (a := ⟨b, 0, none⟩) Try.underlying3 rfl (AF_ev rfl tp) (hst.cell .here rfl)) ?_
  refine RW.soft Wd.a (v := .int .i64 (i + 1)) (by exact E.add (k := .i64) (a := i) (b := 1) (AF_ev rfl tp) rfl (show IntKind.i64.wrap (i + 1) = i + 1 from (by rw [IntWalk.i64_in _ (by omega)]))) ?_
  refine RW.soft Wd.a (v := .int .i64 (i + 1)) (by exact E.assign (AF_ev rfl tp)) ?_
  refine RW.fin (fun τ => τ 0 = .pointer (some ⟨b, 0, none⟩) ∧ τ 2 = .int .i64 (i + 1)) ⟨up rfl (up rfl (up rfl (up rfl (up rfl (up rfl hs0))))), tp⟩ ?_
  rintro τ ⟨hs0, hs2⟩
  refine CW.ret ?_
  refine ret1 (v := .int .i64 (i + 1)) rfl (by exact (.tmp (AF_ev rfl hs2) .nil)) ?_
  exact ⟨rfl, hst⟩

theorem ent_Last {p : Pers} {w : World} {R : List Assn} {X : Option Addr} {n c b : Nat} {i t : Int} (hi : 0 ≤ i ∧ i ≤ 1099511627776) (hn : n ≤ 1000000)  (hst : St p w (pt b (.cells #[.int .i64 i, .int .i64 t, .slice X n c] 122) :: R)) :
    Calls Try.prog 30 #[.pointer (some ⟨b, 0, none⟩)] w fun e w => e = .returned (.int .i64 (i + ((n : Nat) : Int))) ∧ St p w (pt b (.cells #[.int .i64 i, .int .i64 t, .slice X n c] 122) :: R) := by
  refine enter Try.func30 rfl (by simp) (n := 13) rfl fun τ hτ => ?_
  have hs0 : τ 0 = .pointer (some ⟨b, 0, none⟩) := hτ 0 (by simp)
  clear hτ
  refine CW.seq ?_
  refine CW.region ?_
  refine RW.soft Wd.a (v := .int .i64 0) (by exact E.assign rfl) ?_
  refine RW.fin (fun τ => τ 0 = .pointer (some ⟨b, 0, none⟩) ∧ τ 2 = .int .i64 0) ⟨up rfl hs0, tp⟩ ?_
  rintro τ ⟨hs0, hs2⟩
  refine CW.seq ?_
  refine CW.regionD [0, 1, 2, 3, 4, 5, 6, 7, 8, 9, 10] (fun w => w.cell? ⟨b, 0, none⟩ = some (.int .i64 i) ∧ w.cell? ⟨b, 2, none⟩ = some (.slice X n c)) mixed ?_
  have hst := hst.drew
  generalize w.drew = w at hst ⊢
  have hS : w.cell? ⟨b, 0, none⟩ = some (.int .i64 i) ∧ w.cell? ⟨b, 2, none⟩ = some (.slice X n c) := ⟨hst.cell .here rfl, hst.cell .here rfl⟩
  refine RD.take 0 rfl (by kernel_rfl) Wd.a (v := .pointer (some ⟨b, 0, none⟩)) (fun w hS => by exact E.move (AF_ev rfl hs0)) hS ?_
  refine RD.take 1 rfl (by kernel_rfl) Wd.a (v := .pointer (some ⟨b, 0, none⟩)) (fun w hS => by exact E.nilCheck (a := ⟨b, 0, none⟩) (AF_ev rfl tp)) hS ?_
  refine RD.take 2 rfl (by kernel_rfl) Wd.a (v := .pointer (some ⟨b, 0, none⟩)) (fun w hS => by exact E.fieldAddr (b := b) (o := 0) (f := { name := "index", type := 3, offset := 0, embedded := false, tag := "", pkgPath := "strongroom/entries", byteOffset := 0 }) (AF_ev rfl tp) Try.underlying122 rfl sz3 rfl) hS ?_
  refine RD.take 3 rfl (by kernel_rfl) Wd.a (v := .int .i64 i) (fun w hS => by exact E.load (a := ⟨b, 0, none⟩) Try.underlying3 rfl (AF_ev rfl tp) hS.1) hS ?_
  refine RD.take 4 rfl (by kernel_rfl) Wd.a (v := .pointer (some ⟨b, 0, none⟩)) (fun w hS => by exact E.move (AF_ev rfl (up rfl (up rfl (up rfl (up rfl hs0)))))) hS ?_
  refine RD.take 5 rfl (by kernel_rfl) Wd.a (v := .pointer (some ⟨b, 0, none⟩)) (fun w hS => by exact E.nilCheck (a := ⟨b, 0, none⟩) (AF_ev rfl tp)) hS ?_
  refine RD.take 6 rfl (by kernel_rfl) Wd.a (v := .pointer (some ⟨b, 2, none⟩)) (fun w hS => by exact E.fieldAddr (b := b) (o := 0) (f := { name := "l", type := 44, offset := 2, embedded := false, tag := "", pkgPath := "strongroom/entries", byteOffset := 16 }) (AF_ev rfl tp) Try.underlying122 rfl sz44 rfl) hS ?_
  refine RD.take 7 rfl (by kernel_rfl) Wd.a (v := .slice X n c) (fun w hS => by exact E.load (a := ⟨b, 2, none⟩) Try.underlying44 rfl (AF_ev rfl tp) hS.2) hS ?_
  refine RD.take 8 rfl (by kernel_rfl) Wd.a (v := .int .i64 ((n : Nat) : Int)) (fun w hS => by exact E.lenS (p := X) (l := n) (c := c) Try.underlying44 (AF_ev rfl tp)) hS ?_
  refine RD.take 9 rfl (by kernel_rfl) Wd.a (v := .int .i64 (i + ((n : Nat) : Int))) (fun w hS => by exact E.add (k := .i64) (a := i) (b := ((n : Nat) : Int)) (AF_ev rfl (up rfl (up rfl (up rfl (up rfl (up rfl tp)))))) (AF_ev rfl tp) (show IntKind.i64.wrap (i + ((n : Nat) : Int)) = i + ((n : Nat) : Int) from (by rw [IntWalk.i64_in _ (by omega)]))) hS ?_
  refine RD.take 10 rfl (by kernel_rfl) Wd.a (v := .int .i64 (i + ((n : Nat) : Int))) (fun w hS => by exact E.assign (AF_ev rfl tp)) hS ?_
  refine RD.fin (by kernel_rfl) (fun τ => τ 0 = .pointer (some ⟨b, 0, none⟩) ∧ τ 2 = .int .i64 (i + ((n : Nat) : Int))) ⟨up rfl (up rfl (up rfl (up rfl (up rfl (up rfl (up rfl (up rfl (up rfl (up rfl (up rfl hs0)))))))))), tp⟩ ?_
  rintro τ ⟨hs0, hs2⟩
  refine CW.ret ?_
  refine ret1 (v := .int .i64 (i + ((n : Nat) : Int))) rfl (by exact (.tmp (AF_ev rfl hs2) .nil)) ?_
  exact ⟨rfl, hst⟩

theorem ent_within {p : Pers} {w : World} {R : List Assn} {X : Option Addr} {n c b : Nat} {i t : Int} (hi : 0 ≤ i ∧ i ≤ 1099511627776) (hn : n ≤ 1000000) (k : Int) (hst : St p w (pt b (.cells #[.int .i64 i, .int .i64 t, .slice X n c] 122) :: R)) :
    Calls Try.prog 70 #[.pointer (some ⟨b, 0, none⟩), .int .i64 k] w fun e w => e = .returned (.bool (decide (i < k ∧ k ≤ i + n))) ∧ St p w (pt b (.cells #[.int .i64 i, .int .i64 t, .slice X n c] 122) :: R) := by
  refine enter Try.func70 rfl (by simp) (n := 17) rfl fun τ hτ => ?_
  have hs0 : τ 0 = .pointer (some ⟨b, 0, none⟩) := hτ 0 (by simp)
  have hs1 : τ 1 = .int .i64 k := hτ 1 (by simp)
  clear hτ
  refine CW.seq ?_
  refine CW.region ?_
  refine RW.soft Wd.a (v := .bool false) (by exact E.assign rfl) ?_
  refine RW.fin (fun τ => τ 0 = .pointer (some ⟨b, 0, none⟩) ∧ τ 1 = .int .i64 k ∧ τ 4 = .bool false) ⟨up rfl hs0, up rfl hs1, tp⟩ ?_
  rintro τ ⟨hs0, hs1, hs4⟩
  refine CW.seq ?_
  refine Or.elim (Bool.eq_false_or_eq_true (decide (k > i))) (fun hsp => ?_) (fun hsp => ?_)
  · skip
    refine CW.region ?_
    refine RW.soft Wd.a (v := .int .i64 k) (by exact E.move (AF_ev rfl hs1)) ?_
    refine RW.soft Wd.a (v := .pointer (some ⟨b, 0, none⟩)) (by exact E.move (AF_ev rfl (up rfl hs0))) ?_
    refine RW.soft Wd.a (v := .pointer (some ⟨b, 0, none⟩)) (by exact E.nilCheck (a := ⟨b, 0, none⟩) (AF_ev rfl tp)) ?_
    refine RW.soft Wd.a (v := .pointer (some ⟨b, 0, none⟩)) (by exact E.fieldAddr (b := b) (o := 0) (f := { name := "index", type := 3, offset := 0, embedded := false, tag := "", pkgPath := "strongroom/entries", byteOffset := 0 }) (AF_ev rfl tp) Try.underlying122 rfl sz3 rfl) ?_
    refine RW.soft Wd.a (v := .int .i64 i) (by exact E.load (a := ⟨b, 0, none⟩) Try.underlying3 rfl (AF_ev rfl tp) (hst.cell .here rfl)) ?_
    refine RW.soft Wd.a (v := .bool true) (by exact E.b (a := decide (k > i)) (E.gtr (k := .i64) (a := k) (b := i) (AF_ev rfl (up rfl (up rfl (up rfl (up rfl tp))))) (AF_ev rfl tp)) hsp) ?_
    refine RW.soft Wd.a (v := .bool true) (by exact E.move (AF_ev rfl tp)) ?_
    refine RW.soft (by exact Wd.yes (x := 11) rfl (AF_ev rfl tp)) (v := .int .i64 k) (by exact E.move (AF_ev rfl (up rfl (up rfl (up rfl (up rfl (up rfl (up rfl (up rfl hs1))))))))) ?_
    refine RW.soft (by exact Wd.yes (x := 11) rfl (AF_ev rfl (up rfl tp))) (v := .pointer (some ⟨b, 0, none⟩)) (by exact E.move (AF_ev rfl (up rfl (up rfl (up rfl (up rfl (up rfl (up rfl (up rfl (up rfl hs0)))))))))) ?_
    refine RW.hard (by exact Wd.yes (x := 11) rfl (AF_ev rfl (up rfl (up rfl tp)))) ?_
    refine H.call0 Try.func30 nm30 rfl (map1 (AF_ev rfl tp)) (Calls.mono (ent_Last (by omega) (by omega) hst) ?_)
    rintro _ w ⟨rfl, hst⟩
    refine ⟨_, rfl, ?_⟩
    show RW _ _ _ _ _ _ _
    refine RW.soft (by exact Wd.yes (x := 11) rfl (AF_ev rfl (up rfl (up rfl (up rfl tp))))) (v := .bool (decide (k ≤ (i + ((n : Nat) : Int))))) (by exact E.leq (k := .i64) (a := k) (b := i + ((n : Nat) : Int)) (AF_ev rfl (up rfl (up rfl tp))) (AF_ev rfl tp)) ?_
    refine RW.soft Wd.a (v := .bool (decide (k ≤ (i + ((n : Nat) : Int))))) (by exact E.pickT (AF_ev rfl (up rfl (up rfl (up rfl (up rfl tp))))) (AF_ev rfl tp)) ?_
    refine RW.soft Wd.a (v := .bool (decide (k ≤ (i + ((n : Nat) : Int))))) (by exact E.assign (AF_ev rfl tp)) ?_
    refine RW.fin (fun τ => τ 0 = .pointer (some ⟨b, 0, none⟩) ∧ τ 1 = .int .i64 k ∧ τ 4 = .bool (decide (k ≤ (i + ((n : Nat) : Int))))) ⟨up rfl (up rfl (up rfl (up rfl (up rfl (up rfl (up rfl (up rfl (up rfl (up rfl (up rfl (up rfl (up rfl hs0)))))))))))), up rfl (up rfl (up rfl (up rfl (up rfl (up rfl (up rfl (up rfl (up rfl (up rfl (up rfl (up rfl (up rfl hs1)))))))))))), tp⟩ ?_
    rintro τ ⟨hs0, hs1, hs4⟩
    refine CW.ret ?_
    refine ret1 (v := .bool (decide (k ≤ (i + ((n : Nat) : Int))))) rfl (by exact (.tmp (AF_ev rfl hs4) .nil)) ?_
    exact ⟨by congr 2; exact decide_eq_decide.2 ⟨fun h => ⟨of_decide_eq_true hsp, h⟩, fun h => h.2⟩, hst⟩
  · skip
    refine CW.region ?_
    refine RW.soft Wd.a (v := .int .i64 k) (by exact E.move (AF_ev rfl hs1)) ?_
    refine RW.soft Wd.a (v := .pointer (some ⟨b, 0, none⟩)) (by exact E.move (AF_ev rfl (up rfl hs0))) ?_
    refine RW.soft Wd.a (v := .pointer (some ⟨b, 0, none⟩)) (by exact E.nilCheck (a := ⟨b, 0, none⟩) (AF_ev rfl tp)) ?_
    refine RW.soft Wd.a (v := .pointer (some ⟨b, 0, none⟩)) (by exact E.fieldAddr (b := b) (o := 0) (f := { name := "index", type := 3, offset := 0, embedded := false, tag := "", pkgPath := "strongroom/entries", byteOffset := 0 }) (AF_ev rfl tp) Try.underlying122 rfl sz3 rfl) ?_
    refine RW.soft Wd.a (v := .int .i64 i) (by exact E.load (a := ⟨b, 0, none⟩) Try.underlying3 rfl (AF_ev rfl tp) (hst.cell .here rfl)) ?_
    refine RW.soft Wd.a (v := .bool false) (by exact E.b (a := decide (k > i)) (E.gtr (k := .i64) (a := k) (b := i) (AF_ev rfl (up rfl (up rfl (up rfl (up rfl tp))))) (AF_ev rfl tp)) hsp) ?_
    refine RW.soft Wd.a (v := .bool false) (by exact E.move (AF_ev rfl tp)) ?_
    refine RW.pass (by exact Wd.no (x := 11) (b := false) rfl (AF_ev rfl tp) rfl) ?_
    refine RW.pass (by exact Wd.no (x := 11) (b := false) rfl (AF_ev rfl (up rfl tp)) rfl) ?_
    refine RW.pass (by exact Wd.no (x := 11) (b := false) rfl (AF_ev rfl (up rfl (up rfl tp))) rfl) ?_
    refine RW.pass (by exact Wd.no (x := 11) (b := false) rfl (AF_ev rfl (up rfl (up rfl (up rfl tp)))) rfl) ?_
    refine RW.soft Wd.a (v := .bool false) (by exact E.pickF (AF_ev rfl (up rfl (up rfl (up rfl (up rfl tp))))) rfl) ?_
    refine RW.soft Wd.a (v := .bool false) (by exact E.assign (AF_ev rfl tp)) ?_
    refine RW.fin (fun τ => τ 0 = .pointer (some ⟨b, 0, none⟩) ∧ τ 1 = .int .i64 k ∧ τ 4 = .bool false) ⟨up rfl (up rfl (up rfl (up rfl (up rfl (up rfl (up rfl (up rfl (up rfl (up rfl (up rfl (up rfl (up rfl hs0)))))))))))), up rfl (up rfl (up rfl (up rfl (up rfl (up rfl (up rfl (up rfl (up rfl (up rfl (up rfl (up rfl (up rfl hs1)))))))))))), tp⟩ ?_
    rintro τ ⟨hs0, hs1, hs4⟩
    refine CW.ret ?_
    refine ret1 (v := .bool false) rfl (by exact (.tmp (AF_ev rfl hs4) .nil)) ?_
    exact ⟨by congr 2; exact (decide_eq_false (fun h => of_decide_eq_false hsp h.1)).symm, hst⟩

theorem ent_Term {p : Pers} {w : World} {R : List Assn} {X : Option Addr} {c b : Nat} {i t : Int} {es : List Ent} (hi : 0 ≤ i ∧ i ≤ 1099511627776) (hn : es.length ≤ 1000000) (hX : 0 < es.length → ∃ g, X = some ⟨g, 0, none⟩) (k : Int) (hk : -9223372036854775808 ≤ k ∧ k ≤ 9223372036854775807) (hst : St p w (pt b (.cells #[.int .i64 i, .int .i64 t, .slice X es.length c] 122) :: Own 58 4 (.slice X es.length c) es.length (flat es) :: R)) :
    Calls Try.prog 32 #[.pointer (some ⟨b, 0, none⟩), .int .i64 k] w fun e w => e = .returned (.tuple #[.int .i64 (termT i t (ts es) k), .int .i64 (termE i (ts es) k)]) ∧ St p w (pt b (.cells #[.int .i64 i, .int .i64 t, .slice X es.length c] 122) :: Own 58 4 (.slice X es.length c) es.length (flat es) :: R) := by
  refine enter Try.func32 rfl (by simp) (n := 33) rfl fun τ hτ => ?_
  have hs0 : τ 0 = .pointer (some ⟨b, 0, none⟩) := hτ 0 (by simp)
  have hs1 : τ 1 = .int .i64 k := hτ 1 (by simp)
  clear hτ
  refine CW.seq ?_
  refine CW.region ?_
  refine RW.soft Wd.a (v := .int .i64 0) (by exact E.assign rfl) ?_
  refine RW.soft Wd.a (v := .int .i64 0) (by exact E.assign rfl) ?_
  refine RW.fin (fun τ => τ 0 = .pointer (some ⟨b, 0, none⟩) ∧ τ 1 = .int .i64 k ∧ τ 4 = .int .i64 0 ∧ τ 5 = .int .i64 0) ⟨up rfl (up rfl hs0), up rfl (up rfl hs1), up rfl tp, tp⟩ ?_
  rintro τ ⟨hs0, hs1, hs4, hs5⟩
  refine CW.seq ?_
  refine CW.block ?_
  refine CW.seq ?_
  refine CW.region ?_
  refine RW.soft Wd.a (v := .int .i64 k) (by exact E.move (AF_ev rfl hs1)) ?_
  refine RW.soft Wd.a (v := .pointer (some ⟨b, 0, none⟩)) (by exact E.move (AF_ev rfl (up rfl hs0))) ?_
  refine RW.soft Wd.a (v := .pointer (some ⟨b, 0, none⟩)) (by exact E.nilCheck (a := ⟨b, 0, none⟩) (AF_ev rfl tp)) ?_
  refine RW.soft Wd.a (v := .pointer (some ⟨b, 0, none⟩)) (by exact E.fieldAddr (b := b) (o := 0) (f := { name := "index", type := 3, offset := 0, embedded := false, tag := "", pkgPath := "strongroom/entries", byteOffset := 0 }) (AF_ev rfl tp) Try.underlying122 rfl sz3 rfl) ?_
  refine RW.soft Wd.a (v := .int .i64 i) (by exact E.load (a := ⟨b, 0, none⟩) Try.underlying3 rfl (AF_ev rfl tp) (hst.cell .here rfl)) ?_
  refine RW.soft Wd.a (v := .bool (k == i)) (by exact E.eql (k := .i64) (a := k) (b := i) (AF_ev rfl (up rfl (up rfl (up rfl (up rfl tp))))) (AF_ev rfl tp)) ?_
  refine RW.soft Wd.a (v := .bool (k == i)) (by exact E.assign (AF_ev rfl tp)) ?_
  refine RW.fin (fun τ => τ 0 = .pointer (some ⟨b, 0, none⟩) ∧ τ 1 = .int .i64 k ∧ τ 4 = .int .i64 0 ∧ τ 5 = .int .i64 0 ∧ τ 6 = .bool (k == i)) ⟨up rfl (up rfl (up rfl (up rfl (up rfl (up rfl (up rfl hs0)))))), up rfl (up rfl (up rfl (up rfl (up rfl (up rfl (up rfl hs1)))))), up rfl (up rfl (up rfl (up rfl (up rfl (up rfl (up rfl hs4)))))), up rfl (up rfl (up rfl (up rfl (up rfl (up rfl (up rfl hs5)))))), tp⟩ ?_
  rintro τ ⟨hs0, hs1, hs4, hs5, hs6⟩
  refine CW.cond (AF_ev rfl hs6) (fun hc1 => ?_) (fun hc1 => ?_)
  · have hc1_ := hc1
    try simp only [decide_eq_true_eq, decide_eq_false_iff_not, Bool.and_eq_true, Bool.or_eq_true, Bool.and_eq_false_iff, Bool.or_eq_false_iff, Bool.not_eq_true', Bool.not_eq_false', beq_iff_eq, beq_eq_false_iff_ne, bne_iff_ne, bne_eq_false_iff_eq, ne_eq, Int.not_lt, Int.not_le, gt_iff_lt, ge_iff_le] at hc1_
    refine CW.seq ?_
    refine CW.region ?_
    refine RW.soft Wd.a (v := .pointer (some ⟨b, 0, none⟩)) (by exact E.move (AF_ev rfl hs0)) ?_
    refine RW.soft Wd.a (v := .pointer (some ⟨b, 0, none⟩)) (by exact E.nilCheck (a := ⟨b, 0, none⟩) (AF_ev rfl tp)) ?_
    refine RW.soft Wd.a (v := .pointer (some ⟨b, 1, none⟩)) (by exact E.fieldAddr (b := b) (o := 0) (f := { name := "term", type := 3, offset := 1, embedded := false, tag := "", pkgPath := "strongroom/entries", byteOffset := 8 }) (AF_ev rfl tp) Try.underlying122 rfl sz3 rfl) ?_
    refine RW.soft Wd.a (v := .int .i64 t) (by exact E.load (a := ⟨b, 1, none⟩) Try.underlying3 rfl (AF_ev rfl tp) (hst.cell .here rfl)) ?_
    refine RW.soft Wd.a (v := .int .i64 t) (by exact E.assign (AF_ev rfl tp)) ?_
    refine RW.soft Wd.a (v := .int .i64 0) (by exact E.assign rfl) ?_
    refine RW.fin (fun τ => τ 0 = .pointer (some ⟨b, 0, none⟩) ∧ τ 1 = .int .i64 k ∧ τ 4 = .int .i64 t ∧ τ 5 = .int .i64 0 ∧ τ 6 = .bool true) ⟨up rfl (up rfl (up rfl (up rfl (up rfl (up rfl hs0))))), up rfl (up rfl (up rfl (up rfl (up rfl (up rfl hs1))))), up rfl tp, tp, up rfl (up rfl (up rfl (up rfl (up rfl (up rfl (Eq.trans hs6 (congrArg Value.bool hc1)))))))⟩ ?_
    rintro τ ⟨hs0, hs1, hs4, hs5, hs6⟩
    refine CW.ret ?_
    refine Bl.r ?_
    refine Th.r ?_
    refine retN (rs := [.tmp 4, .tmp 5]) (vs := [.int .i64 t, .int .i64 0]) rfl (by exact (.tmp (AF_ev rfl hs4) (.tmp (AF_ev rfl hs5) .nil))) (by simp) ?_
    obtain rfl : k = i := by omega
    exact ⟨by rw [termT_base, termE_base], hst⟩
  · have hc1_ := hc1
    try simp only [decide_eq_true_eq, decide_eq_false_iff_not, Bool.and_eq_true, Bool.or_eq_true, Bool.and_eq_false_iff, Bool.or_eq_false_iff, Bool.not_eq_true', Bool.not_eq_false', beq_iff_eq, beq_eq_false_iff_ne, bne_iff_ne, bne_eq_false_iff_eq, ne_eq, Int.not_lt, Int.not_le, gt_iff_lt, ge_iff_le] at hc1_
    refine CW.seq ?_
    refine CW.region ?_
    refine RW.soft Wd.a (v := .pointer (some ⟨b, 0, none⟩)) (by exact E.move (AF_ev rfl hs0)) ?_
    refine RW.soft Wd.a (v := .int .i64 k) (by exact E.move (AF_ev rfl (up rfl hs1))) ?_
    refine RW.hard Wd.a ?_
    refine H.call0 Try.func70 nm70 rfl (map2 (AF_ev rfl (up rfl tp)) (AF_ev rfl tp)) (Calls.mono (ent_within (by omega) (by omega) k hst) ?_)
    rintro _ w ⟨rfl, hst⟩
    refine ⟨_, rfl, ?_⟩
    show RW _ _ _ _ _ _ _
    refine RW.soft Wd.a (v := .bool (!(decide (i < k ∧ k ≤ i + ((es.length : Nat) : Int))))) (by exact E.not (b := decide (i < k ∧ k ≤ i + ((es.length : Nat) : Int))) (AF_ev rfl tp)) ?_
    refine RW.soft Wd.a (v := .bool (!(decide (i < k ∧ k ≤ i + ((es.length : Nat) : Int))))) (by exact E.assign (AF_ev rfl tp)) ?_
    refine RW.fin (fun τ => τ 0 = .pointer (some ⟨b, 0, none⟩) ∧ τ 1 = .int .i64 k ∧ τ 4 = .int .i64 0 ∧ τ 5 = .int .i64 0 ∧ τ 6 = .bool false ∧ τ 17 = .bool (!(decide (i < k ∧ k ≤ i + ((es.length : Nat) : Int))))) ⟨up rfl (up rfl (up rfl (up rfl (up rfl hs0)))), up rfl (up rfl (up rfl (up rfl (up rfl hs1)))), up rfl (up rfl (up rfl (up rfl (up rfl hs4)))), up rfl (up rfl (up rfl (up rfl (up rfl hs5)))), up rfl (up rfl (up rfl (up rfl (up rfl (Eq.trans hs6 (congrArg Value.bool hc1)))))), tp⟩ ?_
    rintro τ ⟨hs0, hs1, hs4, hs5, hs6, hs17⟩
    refine CW.cond (AF_ev rfl hs17) (fun hc2 => ?_) (fun hc2 => ?_)
    · have hc2_ := hc2
      try simp only [decide_eq_true_eq, decide_eq_false_iff_not, Bool.and_eq_true, Bool.or_eq_true, Bool.and_eq_false_iff, Bool.or_eq_false_iff, Bool.not_eq_true', Bool.not_eq_false', beq_iff_eq, beq_eq_false_iff_ne, bne_iff_ne, bne_eq_false_iff_eq, ne_eq, Int.not_lt, Int.not_le, gt_iff_lt, ge_iff_le] at hc2_
      refine CW.seq ?_
      refine CW.region ?_
      refine RW.soft Wd.a (v := .int .i64 0) (by exact E.assign rfl) ?_
      refine RW.soft Wd.a (v := .int .i64 170) (by exact E.assign rfl) ?_
      refine RW.fin (fun τ => τ 0 = .pointer (some ⟨b, 0, none⟩) ∧ τ 1 = .int .i64 k ∧ τ 4 = .int .i64 0 ∧ τ 5 = .int .i64 170 ∧ τ 6 = .bool false ∧ τ 17 = .bool true) ⟨up rfl (up rfl hs0), up rfl (up rfl hs1), up rfl tp, tp, up rfl (up rfl hs6), up rfl (up rfl (Eq.trans hs17 (congrArg Value.bool hc2)))⟩ ?_
      rintro τ ⟨hs0, hs1, hs4, hs5, hs6, hs17⟩
      refine CW.ret ?_
      refine Bl.r ?_
      refine Th.r ?_
      refine retN (rs := [.tmp 4, .tmp 5]) (vs := [.int .i64 0, .int .i64 170]) rfl (by exact (.tmp (AF_ev rfl hs4) (.tmp (AF_ev rfl hs5) .nil))) (by simp) ?_
      have hkb : ¬ (i < k ∧ k ≤ i + ((es.length : Nat) : Int)) := by rw [Bool.not_eq_true'] at hc2; exact of_decide_eq_false hc2
      exact ⟨by rw [termT_out hc1_ hkb, termE_out hc1_ hkb], hst⟩
    · have hc2_ := hc2
      try simp only [decide_eq_true_eq, decide_eq_false_iff_not, Bool.and_eq_true, Bool.or_eq_true, Bool.and_eq_false_iff, Bool.or_eq_false_iff, Bool.not_eq_true', Bool.not_eq_false', beq_iff_eq, beq_eq_false_iff_ne, bne_iff_ne, bne_eq_false_iff_eq, ne_eq, Int.not_lt, Int.not_le, gt_iff_lt, ge_iff_le] at hc2_
      refine CW.skip ?_
      refine Bl.n ?_
      refine Th.n ?_
      refine CW.seq ?_
      have hkb : i < k ∧ k ≤ i + ((es.length : Nat) : Int) := by rw [Bool.not_eq_false'] at hc2; exact of_decide_eq_true hc2
      obtain ⟨g, rfl⟩ := hX (by omega)
      obtain ⟨x, hx⟩ : ∃ x, es[(k - (i + 1)).toNat]? = some x := ⟨_, List.getElem?_eq_getElem (by omega)⟩
      refine CW.regionD [0, 1, 2, 3, 4, 5] (fun w => w.cell? ⟨b, 2, none⟩ = some (.slice (some ⟨g, 0, none⟩) es.length c)) mixed ?_
      have hst := hst.drew
      generalize w.drew = w at hst ⊢
      have hS : w.cell? ⟨b, 2, none⟩ = some (.slice (some ⟨g, 0, none⟩) es.length c) := hst.cell .here rfl
      refine RD.take 0 rfl (by kernel_rfl) Wd.a (v := .pointer (some ⟨b, 0, none⟩)) (fun w hS => by exact E.move (AF_ev rfl hs0)) hS ?_
      refine RD.take 1 rfl (by kernel_rfl) Wd.a (v := .pointer (some ⟨b, 0, none⟩)) (fun w hS => by exact E.nilCheck (a := ⟨b, 0, none⟩) (AF_ev rfl tp)) hS ?_
      refine RD.take 2 rfl (by kernel_rfl) Wd.a (v := .pointer (some ⟨b, 2, none⟩)) (fun w hS => by exact E.fieldAddr (b := b) (o := 0) (f := { name := "l", type := 44, offset := 2, embedded := false, tag := "", pkgPath := "strongroom/entries", byteOffset := 16 }) (AF_ev rfl tp) Try.underlying122 rfl sz44 rfl) hS ?_
      refine RD.take 3 rfl (by kernel_rfl) Wd.a (v := .slice (some ⟨g, 0, none⟩) es.length c) (fun w hS => by exact E.load (a := ⟨b, 2, none⟩) Try.underlying44 rfl (AF_ev rfl tp) hS) hS ?_
      refine RD.take 4 rfl (by kernel_rfl) Wd.a (v := .int .i64 k) (fun w hS => by exact E.move (AF_ev rfl (up rfl (up rfl (up rfl (up rfl hs1)))))) hS ?_
      refine RD.take 5 rfl (by kernel_rfl) Wd.a (v := .pointer (some ⟨b, 0, none⟩)) (fun w hS => by exact E.move (AF_ev rfl (up rfl (up rfl (up rfl (up rfl (up rfl hs0))))))) hS ?_
      refine RD.only 6 rfl (by kernel_rfl) Wd.a ?_
      refine H.call0 Try.func31 nm31 rfl (map1 (AF_ev rfl tp)) (Calls.mono (ent_First (by omega) (by omega) hst) ?_)
      rintro _ w ⟨rfl, hst⟩
      refine ⟨_, rfl, ?_⟩
      have hS : w.cell? ⟨b, 2, none⟩ = some (.slice (some ⟨g, 0, none⟩) es.length c) := hst.cell .here rfl
      refine ⟨fun _ => hS, ?_⟩
      refine RD.only 7 rfl (by kernel_rfl) Wd.a (Hd.value (v := .int .i64 (k - (i + 1))) (by exact E.sub (k := .i64) (a := k) (b := i + 1) (AF_ev rfl (up rfl (up rfl tp))) (AF_ev rfl tp) (show IntKind.i64.wrap (k - (i + 1)) = k - (i + 1) from (by rw [IntWalk.i64_in _ (by omega)]))) ⟨fun _ => hS, ?_⟩)
      refine RD.only 8 rfl (by kernel_rfl) Wd.a (Hd.value (v := .pointer (some ⟨g, (k - (i + 1)).toNat * 4, none⟩)) (by exact E.indexAddr (b := g) (o := 0) (l := es.length) (c := c) (i := k - (i + 1)) Try.underlying44 sz58 (AF_ev rfl (up rfl (up rfl (up rfl (up rfl tp))))) (AF_ev rfl tp) (by omega) (by omega) (by simp)) ⟨fun _ => hS, ?_⟩)
      refine RD.only 9 rfl (by kernel_rfl) Wd.a (Hd.value (v := .pointer (some ⟨g, (k - (i + 1)).toNat * 4, none⟩)) (by exact E.fieldAddr (b := g) (o := (k - (i + 1)).toNat * 4) (f := { name := "Term", type := 3, offset := 0, embedded := false, tag := "", pkgPath := "", byteOffset := 0 }) (AF_ev rfl tp) Try.underlying58 rfl sz3 rfl) ⟨fun _ => hS, ?_⟩)
      refine RD.only 10 rfl (by kernel_rfl) Wd.a (Hd.value (v := .int .i64 x.term) (by exact E.load (a := ⟨g, (k - (i + 1)).toNat * 4, none⟩) Try.underlying3 rfl (AF_ev rfl tp) (hst.ocell (.there .here) (flat_get Ent.enc_len hx (j := 0) rfl))) ⟨fun _ => hS, ?_⟩)
      refine RD.only 11 rfl (by kernel_rfl) Wd.a (Hd.value (v := .int .i64 x.term) (by exact E.assign (AF_ev rfl tp)) ⟨fun h => Bool.noConfusion ((show needs _ _ _ = false by kernel_rfl).symm.trans h), ?_⟩)
      refine RD.only 12 rfl (by kernel_rfl) Wd.a (Hd.value (v := .int .i64 0) (by exact E.assign rfl) ⟨fun h => Bool.noConfusion ((show needs _ _ _ = false by kernel_rfl).symm.trans h), ?_⟩)
      refine RD.fin (by kernel_rfl) (fun τ => τ 0 = .pointer (some ⟨b, 0, none⟩) ∧ τ 1 = .int .i64 k ∧ τ 4 = .int .i64 x.term ∧ τ 5 = .int .i64 0 ∧ τ 6 = .bool false ∧ τ 17 = .bool false) ⟨up rfl (up rfl (up rfl (up rfl (up rfl (up rfl (up rfl (up rfl (up rfl (up rfl (up rfl (up rfl (up rfl hs0)))))))))))), up rfl (up rfl (up rfl (up rfl (up rfl (up rfl (up rfl (up rfl (up rfl (up rfl (up rfl (up rfl (up rfl hs1)))))))))))), up rfl tp, tp, up rfl (up rfl (up rfl (up rfl (up rfl (up rfl (up rfl (up rfl (up rfl (up rfl (up rfl (up rfl (up rfl hs6)))))))))))), up rfl (up rfl (up rfl (up rfl (up rfl (up rfl (up rfl (up rfl (up rfl (up rfl (up rfl (up rfl (up rfl (Eq.trans hs17 (congrArg Value.bool hc2))))))))))))))⟩ ?_
      rintro τ ⟨hs0, hs1, hs4, hs5, hs6, hs17⟩
      refine CW.ret ?_
      refine retN (rs := [.tmp 4, .tmp 5]) (vs := [.int .i64 x.term, .int .i64 0]) rfl (by exact (.tmp (AF_ev rfl hs4) (.tmp (AF_ev rfl hs5) .nil))) (by simp) ?_
      exact ⟨by rw [termT_in hkb.1 hkb.2 hx, termE_in hkb.1 hkb.2], hst⟩

def behB (i t : Int) (es : List Ent) (k u : Int) : Bool := decide (u > termT i t (ts es) (i + ((es.length : Nat) : Int))) || (u == termT i t (ts es) (i + ((es.length : Nat) : Int)) && decide (k ≥ i + ((es.length : Nat) : Int)))

theorem ent_Behind {p : Pers} {w : World} {R : List Assn} {X : Option Addr} {c b : Nat} {i t : Int} {es : List Ent} (hi : 0 ≤ i ∧ i ≤ 1099511627776) (hn : es.length ≤ 1000000) (hX : 0 < es.length → ∃ g, X = some ⟨g, 0, none⟩) (k u : Int) (hst : St p w (pt b (.cells #[.int .i64 i, .int .i64 t, .slice X es.length c] 122) :: Own 58 4 (.slice X es.length c) es.length (flat es) :: R)) :
    Calls Try.prog 33 #[.pointer (some ⟨b, 0, none⟩), .int .i64 k, .int .i64 u] w fun e w => e = .returned (.bool (behB i t es k u)) ∧ St p w (pt b (.cells #[.int .i64 i, .int .i64 t, .slice X es.length c] 122) :: Own 58 4 (.slice X es.length c) es.length (flat es) :: R) := by
  refine enter Try.func33 rfl (by simp) (n := 30) rfl fun τ hτ => ?_
  have hs0 : τ 0 = .pointer (some ⟨b, 0, none⟩) := hτ 0 (by simp)
  have hs1 : τ 1 = .int .i64 k := hτ 1 (by simp)
  have hs2 : τ 2 = .int .i64 u := hτ 2 (by simp)
  clear hτ
  refine CW.seq ?_
  refine CW.region ?_
  refine RW.soft Wd.a (v := .bool false) (by exact E.assign rfl) ?_
  refine RW.fin (fun τ => τ 0 = .pointer (some ⟨b, 0, none⟩) ∧ τ 1 = .int .i64 k ∧ τ 2 = .int .i64 u ∧ τ 6 = .bool false) ⟨up rfl hs0, up rfl hs1, up rfl hs2, tp⟩ ?_
  rintro τ ⟨hs0, hs1, hs2, hs6⟩
  refine CW.seq ?_
  refine CW.region ?_
  refine RW.soft Wd.a (v := .pointer (some ⟨b, 0, none⟩)) (by exact E.move (AF_ev rfl hs0)) ?_
  refine RW.soft Wd.a (v := .pointer (some ⟨b, 0, none⟩)) (by exact E.move (AF_ev rfl (up rfl hs0))) ?_
  refine RW.hard Wd.a ?_
  refine H.call0 Try.func30 nm30 rfl (map1 (AF_ev rfl tp)) (Calls.mono (ent_Last (by omega) (by omega) hst) ?_)
  rintro _ w ⟨rfl, hst⟩
  refine ⟨_, rfl, ?_⟩
  show RW _ _ _ _ _ _ _
  have hst := hst.take (.there .here)
  have hst := hst.take (.there .here)
  refine RW.hard Wd.a ?_
  refine H.call0 Try.func32 nm32 rfl (map2 (AF_ev rfl (up rfl (up rfl tp))) (AF_ev rfl tp)) (Calls.mono (ent_Term (by omega) (by omega) hX (i + ((es.length : Nat) : Int)) (by omega) hst) ?_)
  rintro _ w ⟨rfl, hst⟩
  refine ⟨_, rfl, ?_⟩
  show RW _ _ _ _ _ _ _
  refine RW.soft Wd.a (v := .tuple #[.int .i64 (termT i t (ts es) (i + ((es.length : Nat) : Int))), .int .i64 (termE i (ts es) (i + ((es.length : Nat) : Int)))]) (by exact E.move (AF_ev rfl tp)) ?_
  refine RW.soft Wd.a (v := .int .i64 (termT i t (ts es) (i + ((es.length : Nat) : Int)))) (by exact E.extract (vs := #[.int .i64 (termT i t (ts es) (i + ((es.length : Nat) : Int))), .int .i64 (termE i (ts es) (i + ((es.length : Nat) : Int)))]) (AF_ev rfl tp) rfl) ?_
  refine RW.soft Wd.a (v := .int .i64 (termE i (ts es) (i + ((es.length : Nat) : Int)))) (by exact E.extract (vs := #[.int .i64 (termT i t (ts es) (i + ((es.length : Nat) : Int))), .int .i64 (termE i (ts es) (i + ((es.length : Nat) : Int)))]) (AF_ev rfl (up rfl tp)) rfl) ?_
  refine RW.soft Wd.a (v := .int .i64 (termT i t (ts es) (i + ((es.length : Nat) : Int)))) (by exact E.assign (AF_ev rfl (up rfl tp))) ?_
  refine RW.soft Wd.a (v := .int .i64 (termE i (ts es) (i + ((es.length : Nat) : Int)))) (by exact E.assign (AF_ev rfl (up rfl tp))) ?_
  refine RW.fin (fun τ => τ 0 = .pointer (some ⟨b, 0, none⟩) ∧ τ 1 = .int .i64 k ∧ τ 2 = .int .i64 u ∧ τ 6 = .bool false ∧ τ 7 = .int .i64 (termT i t (ts es) (i + ((es.length : Nat) : Int)))) ⟨up rfl (up rfl (up rfl (up rfl (up rfl (up rfl (up rfl (up rfl (up rfl hs0)))))))), up rfl (up rfl (up rfl (up rfl (up rfl (up rfl (up rfl (up rfl (up rfl hs1)))))))), up rfl (up rfl (up rfl (up rfl (up rfl (up rfl (up rfl (up rfl (up rfl hs2)))))))), up rfl (up rfl (up rfl (up rfl (up rfl (up rfl (up rfl (up rfl (up rfl hs6)))))))), up rfl tp⟩ ?_
  rintro τ ⟨hs0, hs1, hs2, hs6, hs7⟩
  refine CW.seq ?_
  refine Or.elim (Bool.eq_false_or_eq_true (decide (u > (termT i t (ts es) (i + ((es.length : Nat) : Int)))))) (fun hsp => ?_) (fun hsp => ?_)
  · skip
    refine CW.region ?_
    refine RW.soft Wd.a (v := .int .i64 u) (by exact E.move (AF_ev rfl hs2)) ?_
    refine RW.soft Wd.a (v := .int .i64 (termT i t (ts es) (i + ((es.length : Nat) : Int)))) (by exact E.move (AF_ev rfl (up rfl hs7))) ?_
    refine RW.soft Wd.a (v := .bool true) (by exact E.b (a := decide (u > (termT i t (ts es) (i + ((es.length : Nat) : Int))))) (E.gtr (k := .i64) (a := u) (b := termT i t (ts es) (i + ((es.length : Nat) : Int))) (AF_ev rfl (up rfl tp)) (AF_ev rfl tp)) hsp) ?_
    refine RW.soft Wd.a (v := .bool true) (by exact E.move (AF_ev rfl tp)) ?_
    refine RW.pass (by exact Wd.no (x := 19) (b := true) rfl (AF_ev rfl tp) rfl) ?_
    refine RW.pass (by exact Wd.no (x := 19) (b := true) rfl (AF_ev rfl (up rfl tp)) rfl) ?_
    refine RW.pass (by exact Wd.no (x := 19) (b := true) rfl (AF_ev rfl (up rfl (up rfl tp))) rfl) ?_
    refine RW.pass (by exact Wd.no (x := 19) (b := true) rfl (AF_ev rfl (up rfl (up rfl (up rfl tp)))) rfl) ?_
    refine RW.pass (by exact Wd.u (x := 23) rfl (AF_ev rfl tp)) ?_
    refine RW.pass (by exact Wd.u (x := 23) rfl (AF_ev rfl (up rfl tp))) ?_
    refine RW.pass (by exact Wd.u (x := 23) rfl (AF_ev rfl (up rfl (up rfl tp)))) ?_
    refine RW.pass (by exact Wd.u (x := 23) rfl (AF_ev rfl (up rfl (up rfl (up rfl tp))))) ?_
    refine RW.pass (by exact Wd.no (x := 19) (b := true) rfl (AF_ev rfl (up rfl (up rfl (up rfl (up rfl (up rfl (up rfl (up rfl (up rfl tp))))))))) rfl) ?_
    refine RW.soft Wd.a (v := .bool true) (by exact E.pickT (AF_ev rfl (up rfl (up rfl (up rfl (up rfl (up rfl (up rfl (up rfl (up rfl (up rfl tp)))))))))) rfl) ?_
    refine RW.soft Wd.a (v := .bool true) (by exact E.assign (AF_ev rfl tp)) ?_
    refine RW.fin (fun τ => τ 0 = .pointer (some ⟨b, 0, none⟩) ∧ τ 1 = .int .i64 k ∧ τ 2 = .int .i64 u ∧ τ 6 = .bool true ∧ τ 7 = .int .i64 (termT i t (ts es) (i + ((es.length : Nat) : Int)))) ⟨up rfl (up rfl (up rfl (up rfl (up rfl (up rfl (up rfl (up rfl (up rfl (up rfl (up rfl (up rfl (up rfl (up rfl (up rfl hs0)))))))))))))), up rfl (up rfl (up rfl (up rfl (up rfl (up rfl (up rfl (up rfl (up rfl (up rfl (up rfl (up rfl (up rfl (up rfl (up rfl hs1)))))))))))))), up rfl (up rfl (up rfl (up rfl (up rfl (up rfl (up rfl (up rfl (up rfl (up rfl (up rfl (up rfl (up rfl (up rfl (up rfl hs2)))))))))))))), tp, up rfl (up rfl (up rfl (up rfl (up rfl (up rfl (up rfl (up rfl (up rfl (up rfl (up rfl (up rfl (up rfl (up rfl (up rfl hs7))))))))))))))⟩ ?_
    rintro τ ⟨hs0, hs1, hs2, hs6, hs7⟩
    refine CW.ret ?_
    refine ret1 (v := .bool true) rfl (by exact (.tmp (AF_ev rfl hs6) .nil)) ?_
    exact ⟨by unfold behB; simp only [hsp, Bool.true_or, Bool.false_or, Bool.true_and, Bool.false_and], hst⟩
  · skip
    refine Or.elim (Bool.eq_false_or_eq_true (u == (termT i t (ts es) (i + ((es.length : Nat) : Int))))) (fun hs2z => ?_) (fun hs2z => ?_)
    · skip
      refine CW.region ?_
      refine RW.soft Wd.a (v := .int .i64 u) (by exact E.move (AF_ev rfl hs2)) ?_
      refine RW.soft Wd.a (v := .int .i64 (termT i t (ts es) (i + ((es.length : Nat) : Int)))) (by exact E.move (AF_ev rfl (up rfl hs7))) ?_
      refine RW.soft Wd.a (v := .bool false) (by exact E.b (a := decide (u > (termT i t (ts es) (i + ((es.length : Nat) : Int))))) (E.gtr (k := .i64) (a := u) (b := termT i t (ts es) (i + ((es.length : Nat) : Int))) (AF_ev rfl (up rfl tp)) (AF_ev rfl tp)) hsp) ?_
      refine RW.soft Wd.a (v := .bool false) (by exact E.move (AF_ev rfl tp)) ?_
      refine RW.soft (by exact Wd.yes (x := 19) rfl (AF_ev rfl tp)) (v := .int .i64 u) (by exact E.move (AF_ev rfl (up rfl (up rfl (up rfl (up rfl hs2)))))) ?_
      refine RW.soft (by exact Wd.yes (x := 19) rfl (AF_ev rfl (up rfl tp))) (v := .int .i64 (termT i t (ts es) (i + ((es.length : Nat) : Int)))) (by exact E.move (AF_ev rfl (up rfl (up rfl (up rfl (up rfl (up rfl hs7))))))) ?_
      refine RW.soft (by exact Wd.yes (x := 19) rfl (AF_ev rfl (up rfl (up rfl tp)))) (v := .bool true) (by exact E.b (a := u == (termT i t (ts es) (i + ((es.length : Nat) : Int)))) (E.eql (k := .i64) (a := u) (b := termT i t (ts es) (i + ((es.length : Nat) : Int))) (AF_ev rfl (up rfl tp)) (AF_ev rfl tp)) hs2z) ?_
      refine RW.soft (by exact Wd.yes (x := 19) rfl (AF_ev rfl (up rfl (up rfl (up rfl tp))))) (v := .bool true) (by exact E.move (AF_ev rfl tp)) ?_
      refine RW.soft (by exact Wd.yes (x := 23) rfl (AF_ev rfl tp)) (v := .int .i64 k) (by exact E.move (AF_ev rfl (up rfl (up rfl (up rfl (up rfl (up rfl (up rfl (up rfl (up rfl hs1)))))))))) ?_
      refine RW.soft (by exact Wd.yes (x := 23) rfl (AF_ev rfl (up rfl tp))) (v := .pointer (some ⟨b, 0, none⟩)) (by exact E.move (AF_ev rfl (up rfl (up rfl (up rfl (up rfl (up rfl (up rfl (up rfl (up rfl (up rfl hs0))))))))))) ?_
      refine RW.hard (by exact Wd.yes (x := 23) rfl (AF_ev rfl (up rfl (up rfl tp)))) ?_
      refine H.call0 Try.func30 nm30 rfl (map1 (AF_ev rfl tp)) (Calls.mono (ent_Last (by omega) (by omega) hst) ?_)
      rintro _ w ⟨rfl, hst⟩
      refine ⟨_, rfl, ?_⟩
      show RW _ _ _ _ _ _ _
      refine RW.soft (by exact Wd.yes (x := 23) rfl (AF_ev rfl (up rfl (up rfl (up rfl tp))))) (v := .bool (decide (k ≥ (i + ((es.length : Nat) : Int))))) (by exact E.geq (k := .i64) (a := k) (b := i + ((es.length : Nat) : Int)) (AF_ev rfl (up rfl (up rfl tp))) (AF_ev rfl tp)) ?_
      refine RW.soft (by exact Wd.yes (x := 19) rfl (AF_ev rfl (up rfl (up rfl (up rfl (up rfl (up rfl (up rfl (up rfl (up rfl tp)))))))))) (v := .bool (decide (k ≥ (i + ((es.length : Nat) : Int))))) (by exact E.pickT (AF_ev rfl (up rfl (up rfl (up rfl (up rfl tp))))) (AF_ev rfl tp)) ?_
      refine RW.soft Wd.a (v := .bool (decide (k ≥ (i + ((es.length : Nat) : Int))))) (by exact E.pickF (AF_ev rfl (up rfl (up rfl (up rfl (up rfl (up rfl (up rfl (up rfl (up rfl (up rfl tp)))))))))) (AF_ev rfl tp)) ?_
      refine RW.soft Wd.a (v := .bool (decide (k ≥ (i + ((es.length : Nat) : Int))))) (by exact E.assign (AF_ev rfl tp)) ?_
      refine RW.fin (fun τ => τ 0 = .pointer (some ⟨b, 0, none⟩) ∧ τ 1 = .int .i64 k ∧ τ 2 = .int .i64 u ∧ τ 6 = .bool (decide (k ≥ (i + ((es.length : Nat) : Int)))) ∧ τ 7 = .int .i64 (termT i t (ts es) (i + ((es.length : Nat) : Int)))) ⟨up rfl (up rfl (up rfl (up rfl (up rfl (up rfl (up rfl (up rfl (up rfl (up rfl (up rfl (up rfl (up rfl (up rfl (up rfl hs0)))))))))))))), up rfl (up rfl (up rfl (up rfl (up rfl (up rfl (up rfl (up rfl (up rfl (up rfl (up rfl (up rfl (up rfl (up rfl (up rfl hs1)))))))))))))), up rfl (up rfl (up rfl (up rfl (up rfl (up rfl (up rfl (up rfl (up rfl (up rfl (up rfl (up rfl (up rfl (up rfl (up rfl hs2)))))))))))))), tp, up rfl (up rfl (up rfl (up rfl (up rfl (up rfl (up rfl (up rfl (up rfl (up rfl (up rfl (up rfl (up rfl (up rfl (up rfl hs7))))))))))))))⟩ ?_
      rintro τ ⟨hs0, hs1, hs2, hs6, hs7⟩
      refine CW.ret ?_
      refine ret1 (v := .bool (decide (k ≥ (i + ((es.length : Nat) : Int))))) rfl (by exact (.tmp (AF_ev rfl hs6) .nil)) ?_
      exact ⟨by unfold behB; simp only [hsp, hs2z, Bool.true_or, Bool.false_or, Bool.true_and, Bool.false_and], hst⟩
    · skip
      refine CW.region ?_
      refine RW.soft Wd.a (v := .int .i64 u) (by exact E.move (AF_ev rfl hs2)) ?_
      refine RW.soft Wd.a (v := .int .i64 (termT i t (ts es) (i + ((es.length : Nat) : Int)))) (by exact E.move (AF_ev rfl (up rfl hs7))) ?_
      refine RW.soft Wd.a (v := .bool false) (by exact E.b (a := decide (u > (termT i t (ts es) (i + ((es.length : Nat) : Int))))) (E.gtr (k := .i64) (a := u) (b := termT i t (ts es) (i + ((es.length : Nat) : Int))) (AF_ev rfl (up rfl tp)) (AF_ev rfl tp)) hsp) ?_
      refine RW.soft Wd.a (v := .bool false) (by exact E.move (AF_ev rfl tp)) ?_
      refine RW.soft (by exact Wd.yes (x := 19) rfl (AF_ev rfl tp)) (v := .int .i64 u) (by exact E.move (AF_ev rfl (up rfl (up rfl (up rfl (up rfl hs2)))))) ?_
      refine RW.soft (by exact Wd.yes (x := 19) rfl (AF_ev rfl (up rfl tp))) (v := .int .i64 (termT i t (ts es) (i + ((es.length : Nat) : Int)))) (by exact E.move (AF_ev rfl (up rfl (up rfl (up rfl (up rfl (up rfl hs7))))))) ?_
      refine RW.soft (by exact Wd.yes (x := 19) rfl (AF_ev rfl (up rfl (up rfl tp)))) (v := .bool false) (by exact E.b (a := u == (termT i t (ts es) (i + ((es.length : Nat) : Int)))) (E.eql (k := .i64) (a := u) (b := termT i t (ts es) (i + ((es.length : Nat) : Int))) (AF_ev rfl (up rfl tp)) (AF_ev rfl tp)) hs2z) ?_
      refine RW.soft (by exact Wd.yes (x := 19) rfl (AF_ev rfl (up rfl (up rfl (up rfl tp))))) (v := .bool false) (by exact E.move (AF_ev rfl tp)) ?_
      refine RW.pass (by exact Wd.no (x := 23) (b := false) rfl (AF_ev rfl tp) rfl) ?_
      refine RW.pass (by exact Wd.no (x := 23) (b := false) rfl (AF_ev rfl (up rfl tp)) rfl) ?_
      refine RW.pass (by exact Wd.no (x := 23) (b := false) rfl (AF_ev rfl (up rfl (up rfl tp))) rfl) ?_
      refine RW.pass (by exact Wd.no (x := 23) (b := false) rfl (AF_ev rfl (up rfl (up rfl (up rfl tp)))) rfl) ?_
      refine RW.soft (by exact Wd.yes (x := 19) rfl (AF_ev rfl (up rfl (up rfl (up rfl (up rfl (up rfl (up rfl (up rfl (up rfl tp)))))))))) (v := .bool false) (by exact E.pickF (AF_ev rfl (up rfl (up rfl (up rfl (up rfl tp))))) rfl) ?_
      refine RW.soft Wd.a (v := .bool false) (by exact E.pickF (AF_ev rfl (up rfl (up rfl (up rfl (up rfl (up rfl (up rfl (up rfl (up rfl (up rfl tp)))))))))) (AF_ev rfl tp)) ?_
      refine RW.soft Wd.a (v := .bool false) (by exact E.assign (AF_ev rfl tp)) ?_
      refine RW.fin (fun τ => τ 0 = .pointer (some ⟨b, 0, none⟩) ∧ τ 1 = .int .i64 k ∧ τ 2 = .int .i64 u ∧ τ 6 = .bool false ∧ τ 7 = .int .i64 (termT i t (ts es) (i + ((es.length : Nat) : Int)))) ⟨up rfl (up rfl (up rfl (up rfl (up rfl (up rfl (up rfl (up rfl (up rfl (up rfl (up rfl (up rfl (up rfl (up rfl (up rfl hs0)))))))))))))), up rfl (up rfl (up rfl (up rfl (up rfl (up rfl (up rfl (up rfl (up rfl (up rfl (up rfl (up rfl (up rfl (up rfl (up rfl hs1)))))))))))))), up rfl (up rfl (up rfl (up rfl (up rfl (up rfl (up rfl (up rfl (up rfl (up rfl (up rfl (up rfl (up rfl (up rfl (up rfl hs2)))))))))))))), tp, up rfl (up rfl (up rfl (up rfl (up rfl (up rfl (up rfl (up rfl (up rfl (up rfl (up rfl (up rfl (up rfl (up rfl (up rfl hs7))))))))))))))⟩ ?_
      rintro τ ⟨hs0, hs1, hs2, hs6, hs7⟩
      refine CW.ret ?_
      refine ret1 (v := .bool false) rfl (by exact (.tmp (AF_ev rfl hs6) .nil)) ?_
      exact ⟨by unfold behB; simp only [hsp, hs2z, Bool.true_or, Bool.false_or, Bool.true_and, Bool.false_and], hst⟩
end Go.Proofs.Ytdlcjoonhojpfaa
