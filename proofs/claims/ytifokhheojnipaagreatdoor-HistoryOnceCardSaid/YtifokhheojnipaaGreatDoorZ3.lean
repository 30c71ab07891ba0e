/- HistoryOnce: what it tells. -/
import Derived.Test.YtifokhheojnipaaGreatDoorZ6
import Derived.Test.YtifokhheojnipaaGreatDoorZ2
import Derived.Test.YtifokhheojnipaaGreatDoorRows
import Derived.Test.YtifokhheojnipaaGreatDoorCards
import Derived.ChangeSame
import Derived.ChangeVars
import Derived.ChangeOld
import Derived.LaidLaws
import Derived.LaidHandle
import Derived.ProofKit
set_option linter.unusedVariables false
set_option linter.unusedSimpArgs false
namespace Go.GX
open Go.RowKit Go.SL
set_option linter.unusedVariables false
set_option linter.unusedSimpArgs false
set_option maxHeartbeats 4000000
theorem jn_cl {α β : Type} {J : α → Option β} {f : (α → Option β) → Option β} (v : α) (h : ∀ j, f j = j v) : GX.jn J f = J v := by rw [jn_e, h]
/-- HistoryOnce -/
theorem T8 (b : List (BitVec 8)) (t : Int) (ht0 : -9223372036854775808 ≤ t) (ht1 : t < 9223372036854775808) : F8 (b, (t, ())) () = some ((true, ()), ()) := by
  obtain ⟨⟨⟨sb, ⟨⟩⟩, ⟨⟩⟩, h27, hsb⟩ := T27 b
  dsimp only at hsb
  refine Tot.get ?_
  unfold F8
  rw [T22, bnd_s]
  refine Tot.kind ht0 ht1 fun x hx0 hx1 => ?_
  obtain ⟨k, hk, hkm⟩ : ∃ k : Nat, w64 (1 + Int.tmod x 1000) = ((k + 1 : Nat) : Int) ∧ k < 1000 := by
    have h := Int.tmod_eq_emod_of_nonneg hx0 (b := 1000)
    refine ⟨(x % 1000).toNat, ?_, by omega⟩
    rw [h, w64_id (by omega) (by omega)]; omega
  have ha : aK x = appK (k + 1) := by unfold aK appK; rw [hk]; rfl
  have hc : cK x = calK (k + 1) := by unfold cK calK; rw [hk]; rfl
  have hall : ∀ l : List App, (∀ a ∈ l, a = appK (k + 1)) → ∀ a ∈ l, a.2.1 = cmdE 5 := fun l h a ha => by rw [h a ha]; rfl
  have h26a : F26 () (sb, (aK x :: [], (cK x :: cK x :: [], ()))) = some (((1, (4, ())) :: [], ()), ()) := by
    rw [ha, hc]; exact T26k sb (by omega) [appK (k + 1)] (hall _ (by simp)) (by simp) [calK (k + 1), calK (k + 1)] (by simp) _ (once_two k hkm)
  have h26b : F26 () (sb, ([], (cK x :: [], ()))) = some (((0, (3, ())) :: [], ()), ()) := by
    rw [hc]; exact T26k sb (by omega) [] (by simp) (by simp) [calK (k + 1)] (by simp) _ (once_none k hkm)
  have h26c : F26 () (sb, (aK x :: aK x :: [], (cK x :: [], ()))) = some (((1, (1, ())) :: [], ()), ()) := by
    rw [ha, hc]; exact T26k sb (by omega) [appK (k + 1), appK (k + 1)] (hall _ (by simp)) (by simp) [calK (k + 1)] (by simp) _ (once_again k hkm)
  have h25 : ∀ f : Flt, F25 () (f :: [], (f :: [], ())) = some ((true, ()), ()) := fun f => T25s [f] (by simp)
  have hfew : few (List.length (aK x :: [])) (List.length (aK x :: [])) := by simp [few]
  dsimp only
  refine Tot.gd (by decide) ?_
  rw [jn_cl ((true, ()), ()) (fun j => by simp only [h27, h26a, h25, bnd_s, bth_self, gdE_rfl, gdE_T])]
  dsimp only
  rw [jn_cl ((true, ()), ()) (fun j => by simp only [h27, h26b, h25, bnd_s, bth_self, gdE_rfl, gdE_T])]
  dsimp only
  rw [jn_cl ((true, ()), ()) (fun j => by
    rw [gd_t (by decide), gd_t (by simp)]
    simp only [List.getElem?_cons_zero, h27, bnd_s, gd_t hfew, List.cons_append, List.nil_append, h26c, h25, bth_self, gdE_rfl, gdE_T])]
  dsimp only
  simp only [br_t, cond_true]
  exact Tot.s rfl
end Go.GX
namespace Go.GX
open Go.RowKit Go.SL Go.Proofs
set_option linter.unusedVariables false
set_option maxRecDepth 100000
def u32v (x : BitVec 32) : Value := .int .u32 (x.toNat : Int)
theorem cat_u32 {m : Mem} : ∀ l : List (BitVec 32), Cat (fun (x : BitVec 32) c => DenT m .u32 x c) l (l.map u32v)
  | [] => rfl
  | x :: l => ⟨[u32v x], _, rfl, rfl, cat_u32 l⟩
theorem shaName : Tryz.prog.globalNamed "strongroom/sha.add" = some 0 := by kernel_rfl
theorem shaType : (Tryz.prog.globals[0]?).map (·.type) = some 316 := by kernel_rfl
theorem u316 : Tryz.prog.underlying 316 = some (.array 64 93) := by kernel_rfl
theorem u93 : Tryz.prog.underlying 93 = some (.int .u32) := by kernel_rfl
theorem c93 : Tryz.prog.cellsOf 93 = 1 := by kernel_rfl
theorem c316 : Tryz.prog.cellsOf 316 = 64 := by kernel_rfl
theorem laidIs : (YtifokhheojnipaaGreatDoor.Rows.laid_strongroom_sha_add : DataW Unit) = .agg (shaAdd.map fun x => .lit (.int .u32 (x.toNat : Int))) := by kernel_rfl
theorem gls_of_laid {W : World} (h : laidMet Tryz.prog [("strongroom/sha.add", YtifokhheojnipaaGreatDoor.Rows.laid_strongroom_sha_add)] W) : GlS (P0 W) TBL.gs := by
  obtain ⟨ps, ⟨g, t, cs, fuel, p, q, hg, ht, hv, hr, _⟩, _⟩ := h
  have : g = 0 := (Option.some.inj (shaName.symm.trans hg)).symm
  subst this
  have : t = 316 := (Option.some.inj (shaType.symm.trans ht)).symm
  subst this
  obtain ⟨xs, m, rfl, hx, hl, hxl, hi⟩ := DataW.trod_array u316 hr
  rw [laidIs] at hx
  have hm : xs.map (·.1) = shaAdd.map fun x => .lit (.int .u32 (x.toNat : Int)) := by
    have := congrArg Prod.fst hx
    simpa using this.symm
  have hcs : cs.toList = shaAdd.map u32v := by
    refine List.ext_getElem? fun i => ?_
    by_cases h64 : i < 64
    · have h1 := hi i h64
      have hix : i < xs.length := by omega
      rw [c93, Nat.mul_one, List.getElem?_eq_getElem hix] at h1
      obtain ⟨n, hn, hy, _⟩ := DataW.trod_int u93 h1
      have hm2 : (xs.map (·.1))[i]? = (shaAdd.map fun x => DataW.lit (.int .u32 (x.toNat : Int)))[i]? := by rw [hm]
      rw [List.getElem?_map, List.getElem?_eq_getElem hix, hy, List.getElem?_map] at hm2
      have hsl : i < shaAdd.length := h64
      rw [List.getElem?_eq_getElem hsl] at hm2
      simp only [Option.map_some, Option.some.injEq, DataW.lit.injEq, Lit.int.injEq, true_and] at hm2
      have hc : cs.toList[i]? = some (.int .u32 n) := by
        have : (List.take 1 (List.drop i cs.toList))[0]? = some (.int .u32 n) := by rw [hn]; rfl
        simpa using this
      rw [hc, List.getElem?_map, List.getElem?_eq_getElem hsl, hm2]; rfl
    · rw [List.getElem?_eq_none (by rw [hl, c316]; omega), List.getElem?_eq_none (by simp; exact Nat.le_trans (by decide) (Nat.le_of_not_lt h64))]
  intro k sv e
  have hk : k = 0 ∧ sv = .dp (.arr 64 .u32) shaAdd := by
    have e' : gget [(0, SV.dp (.arr 64 .u32) shaAdd)] k = some sv := e
    unfold gget at e'
    cases hb : Nat.beq 0 k with
    | true =>
      rw [hb, cond_true] at e'
      exact ⟨(Nat.eq_of_beq_eq_true hb).symm, (Option.some.inj e').symm⟩
    | false => rw [hb, cond_false] at e'; cases e'
  obtain ⟨rfl, rfl⟩ := hk
  refine ⟨_, _, cs.toList, rfl, ?_, ?_⟩
  · simp only [World.var?, shaName, Option.bind_some] at hv
    split at hv <;> try (cases hv; done)
    rename_i c t f hh
    cases hv
    exact ⟨cs, t, f, hh, fun j v hj => by simpa using hj⟩
  · rw [hcs]
    exact ⟨rfl, cat_u32 shaAdd⟩
end Go.GX
namespace Go.Proofs.YtifokhheojnipaaGreatDoor
open Go.ChangeShapes Go.WideShapes Go.ChangeAt Go.RowKit Go.SL Go.GX
set_option linter.unusedVariables false
set_option maxRecDepth 100000
theorem ownZ : ownKnob Tryz.prog.godebug = none := by kernel_rfl
theorem laidOutZ : laidOutB Tryz.prog = true := by kernel_rfl
theorem u4Z : Tryz.prog.underlying 4 = some .bool := by kernel_rfl
noncomputable def laidWorld (os : Os) : World :=
  let w0 := World.holding Tryz.prog os ⟨#[], #[], []⟩
  { w0 with heap := w0.heap.modify 0 fun
      | .cells _ t frozen => .cells (shaAdd.map u32v).toArray t frozen
      | o => o }
abbrev laidL : List (String × DataW Unit) := [("strongroom/sha.add", Rows.laid_strongroom_sha_add)]
theorem laidWorld_met (os : Os) (args : Array Value) : laidMetH Tryz.prog laidL ((laidWorld os).forCall (fun _ _ => 0) ⟨#[], args, []⟩).memory :=
  laidMet_of_run' (l := laidL) 8 (by kernel_rfl) (by kernel_rfl)
theorem slc_of {m : Mem} {a : Ty} {x : List a.T} {v : Value} (h : DenT m (.fz a) x v.cells.toList) (hv : ∀ cs, v ≠ .agg cs) : DenT m (.fz a) x [v] := by
  have : v.cells.toList = [v] := by cases v <;> first | rfl | exact absurd rfl (hv _)
  rwa [this] at h
end Go.Proofs.YtifokhheojnipaaGreatDoor
namespace Go.GX
open Go.RowKit Go.SL Go.Proofs Go.WideShapes
set_option linter.unusedVariables false
theorem open_i64 {H : Type} {enc : TypeId × Value → H} {P : Program} {W : World} {base b0 : Nat} {spare : Nat → Bool} {held : Bool} {r : Reach} {t : Nat} {v : Value} {d : DataW H} {ps : List MemPlace} (ht : P.underlying t = some (.int .i64)) (hv : Value.okWide P W r b0 t v) (h : DataW.Trod enc P W base spare held t v d ps) : ∃ a : Int, v = .int .i64 a ∧ (-9223372036854775808 ≤ a ∧ a ≤ 9223372036854775807) := by
  obtain ⟨n, rfl⟩ := okWide_int ht hv
  obtain ⟨fuel, hf⟩ := h
  obtain ⟨k, e, w⟩ := read_int ht hf
  cases e
  exact ⟨n, rfl, wf_i64 w⟩
theorem oa_i64 {m : Mem} (n : Int) : OA m .int n (Value.int .i64 n).cells.toList none0 := by rw [oa_pure _ _ rfl]; exact ⟨rfl, rfl⟩
theorem turned_calls {W : World} (n t : Int) (hn : -9223372036854775808 ≤ n ∧ n ≤ 9223372036854775807) (ht : -9223372036854775808 ≤ t ∧ t ≤ 9223372036854775807) (hg : GlS (P0 W) TBL.gs) :
    Calls Tryz.prog 6 #[.int .i64 n, .int .i64 t] W fun e w => e = .returned (.bool true) ∧ Below W.heap.size W w := by
  have st : St (P0 W) W (asO (P0 W) C6.ps (n, (t, ())) [.int .i64 n, .int .i64 t] ++ [Exact none0]) := by
    have s0 : St (P0 W) W [Exact none0] := (st0 W).none0
    have s1 : St (P0 W) W [valA (P0 W) .int t (.int .i64 t), Exact none0] := s0.none0.weaken fun h q => ⟨rfl, by rw [show h = none0 from q]; exact oa_i64 t⟩
    exact s1.none0.weaken fun h q => ⟨rfl, by rw [show h = none0 from q]; exact oa_i64 n⟩
  refine (c6.2 (n, (t, ())) () ((true, ()), ()) (T6 n t hn.1 (by omega) ht.1 (by omega)) (P0 W) none0 W [.int .i64 n, .int .i64 t] hg rfl st trivial).mono ?_
  rintro e w ⟨us, q, rfl, hl, le, hst⟩
  obtain ⟨u, rfl⟩ : ∃ u, us = [u] := by
    cases us with
    | nil => cases hl
    | cons u r => cases r with
      | nil => exact ⟨u, rfl⟩
      | cons _ _ => simp at hl
  refine ⟨?_, below_of le hst⟩
  have hu : ∃ h, valA q .bool true u h := by
    obtain ⟨h, ⟨a, b, _, _, ha, _⟩, _⟩ := id hst
    exact ⟨a, ha⟩
  obtain ⟨h, hag, hoa⟩ := hu
  have hc : u.cells.toList = [.bool true] := hoa.2
  have hu2 : u = .bool true := by
    cases u <;> first | (cases hc; rfl) | (simp [Value.cells] at hc; done) | (simp [aggV, Ty.agg] at hag)
  rw [hu2]; simp [oneV]
end Go.GX
namespace Go.Proofs.YtifokhheojnipaaGreatDoor
open Go.ChangeShapes Go.WideShapes Go.ChangeAt Go.RowKit Go.SL Go.GX
set_option linter.unusedVariables false
set_option maxRecDepth 100000
theorem u3Z : Tryz.prog.underlying 3 = some (.int .i64) := by kernel_rfl
theorem par6 : Tryz.f6.params = #[3, 3] := by kernel_rfl
theorem fun6 : Tryz.prog.funcs[6]? = some Tryz.f6 := by kernel_rfl
theorem turned_lifted (os : Os) (started : os.Started) (H : Type) (enc : TypeId × Value → H) :
    ReturnsInHanded {} Tryz.checked os 6 .any (fun w args => (Rows.historyTurnedSpec.pre enc Tryz.prog Tryz.f6 [] false w args ∧ laidMetH Tryz.prog laidL w) ∧ sizedMet enc Tryz.prog Tryz.f6 (OpenSpec.ofChange Rows.historyTurnedSpec) false w args)
      (Rows.historyTurnedSpec.post enc Tryz.prog Tryz.f6 false true false false) := by
  refine returnsInHanded_of_change_and (C := Tryz.checked) (X := fun w _ => laidMetH Tryz.prog laidL w) (fun _ _ _ hh h => h.of_heap hh) ownZ started (by kernel_rfl) fun6
    (ChangeSpec.witness_at (enc := enc) (C := Tryz.checked) (os := os) (X := fun w _ => laidMetH Tryz.prog laidL w) false (laidWorld os) #[.int .i64 0, .int .i64 0] 8 rfl (by kernel_rfl) (by kernel_rfl) (by kernel_rfl) (by kernel_rfl) (by kernel_rfl) (laidWorld_met os _)) ?_
  intro W base args ds gs before hval0 hW _ _ hL _
  have hval : ∀ (j : Nat) t v, Tryz.f6.params[j]? = some t → args[j]? = some v → Value.okWide Tryz.prog W .any base t v := hval0
  have hW' := hW
  obtain ⟨p, q, hA0, hV, rfl, hfz, hnd⟩ := hW
  have hA : DataW.TrodAll enc Tryz.prog W 0 (fun _ => true) true Tryz.f6.params.toList args.toList ds p := hA0
  rw [par6] at hA hval
  obtain ⟨v0, v1, d0, d1, p0, p1, rfl, rfl, rfl, h0, h1⟩ := trodAll_two hA
  obtain ⟨rfl, rfl⟩ := trodVars_none hV
  have k0 := h0
  have lt0 : ∀ x ∈ p0, x.block < W.heap.size := by obtain ⟨m, hm⟩ := k0; exact DataW.trod_lt m _ _ _ hm
  have k1 := h1
  have lt1 : ∀ x ∈ p1, x.block < W.heap.size := by obtain ⟨m, hm⟩ := k1; exact DataW.trod_lt m _ _ _ hm
  obtain ⟨n, rfl, hn⟩ := open_i64 u3Z (hval 0 3 v0 rfl rfl) h0
  obtain ⟨t, rfl, ht⟩ := open_i64 u3Z (hval 1 3 v1 rfl rfl) h1
  have hg : GlS (P0 W) TBL.gs := gls_of_laid hL
  refine (turned_calls n t hn ht hg).mono fun e W' ⟨he, bel⟩ => ?_
  subst he
  exact ⟨_, rfl, _, _, _, [], _, [], hW', trodAll_mk1 (shut_bool u4Z _), (trodAll_cons_mk (Below.trod laidOutZ (by kernel_rfl) (of_decide_eq_true (by kernel_rfl)) k0 bel lt0) (trodAll_cons_mk (Below.trod laidOutZ (by kernel_rfl) (of_decide_eq_true (by kernel_rfl)) k1 bel lt1) trodAll_mk0)), rfl, bel.frame _, fun h => by cases h⟩
end Go.Proofs.YtifokhheojnipaaGreatDoor
namespace Go.GX
open Go.RowKit Go.SL Go.Proofs
set_option linter.unusedVariables false
theorem c8 : Con.ok Tryz.prog TBL.gs 8 C8 := mkF_ok mixedZ TBL_ok FT.ok_nil (CN.ok_cons c22 (CN.ok_cons c27 (CN.ok_cons c26 (CN.ok_cons c25 CN.ok_nil)))) (by kernel_rfl) (by kernel_rfl) (bodyOf_ok (by kernel_rfl)) e8
theorem once_calls {W : World} {v0 : Value} (b : List (BitVec 8)) (t : Int) (h0 : DenT (P0 W).h (.fz .u8) b [v0]) (ht : -9223372036854775808 ≤ t ∧ t ≤ 9223372036854775807) (hg : GlS (P0 W) TBL.gs) :
    Calls Tryz.prog 8 #[v0, .int .i64 t] W fun e w => e = .returned (.bool true) ∧ Below W.heap.size W w := by
  have e0 : aggV v0 = false := by obtain ⟨X, n, e, _⟩ := h0; cases e; rfl
  have k0 : v0.cells.toList = [v0] := by obtain ⟨X, n, e, _⟩ := h0; cases e; rfl
  have st : St (P0 W) W (asO (P0 W) C8.ps (b, (t, ())) [v0, .int .i64 t] ++ [Exact none0]) := by
    have s0 : St (P0 W) W [Exact none0] := (st0 W).none0
    have a0 : OA (P0 W).h (.fz .u8) b v0.cells.toList none0 := by rw [k0, oa_pure _ _ rfl]; exact ⟨rfl, h0⟩
    have s1 : St (P0 W) W [valA (P0 W) .int t (.int .i64 t), Exact none0] := s0.none0.weaken fun h q => ⟨rfl, by rw [show h = none0 from q]; exact oa_i64 t⟩
    exact s1.none0.weaken fun h q => ⟨e0, by rw [show h = none0 from q]; exact a0⟩
  refine (c8.2 (b, (t, ())) () ((true, ()), ()) (T8 b t ht.1 (by omega)) (P0 W) none0 W [v0, .int .i64 t] hg rfl st trivial).mono ?_
  rintro e w ⟨us, q, rfl, hl, le, hst⟩
  obtain ⟨u, rfl⟩ : ∃ u, us = [u] := by
    cases us with
    | nil => cases hl
    | cons u r => cases r with
      | nil => exact ⟨u, rfl⟩
      | cons _ _ => simp at hl
  refine ⟨?_, below_of le hst⟩
  have hu : ∃ h, valA q .bool true u h := by
    obtain ⟨h, ⟨a, b, _, _, ha, _⟩, _⟩ := id hst
    exact ⟨a, ha⟩
  obtain ⟨h, hag, hoa⟩ := hu
  have hc : u.cells.toList = [.bool true] := hoa.2
  have hu2 : u = .bool true := by
    cases u <;> first | (cases hc; rfl) | (simp [Value.cells] at hc; done) | (simp [aggV, Ty.agg] at hag)
  rw [hu2]; simp [oneV]
end Go.GX
namespace Go.Proofs.YtifokhheojnipaaGreatDoor
open Go.ChangeShapes Go.WideShapes Go.ChangeAt Go.RowKit Go.SL Go.GX
set_option linter.unusedVariables false
set_option maxRecDepth 100000
theorem u22Y : Tryz.prog.underlying 22 = some (.slice 5) := by kernel_rfl
theorem par8 : Tryz.f8.params = #[22, 3] := by kernel_rfl
theorem fun8 : Tryz.prog.funcs[8]? = some Tryz.f8 := by kernel_rfl
theorem read22Y {H : Type} {enc : TypeId × Value → H} {W : World} {v : Value} {d : DataW H} {ps : List MemPlace} (h : DataW.Trod enc Tryz.prog W 0 (fun _ => true) true 22 v d ps) : ∃ x, DenT (P0 W).h (.fz .u8) x v.cells.toList := by
  obtain ⟨fuel, hf⟩ := h
  exact rd_ok.1 (by kernel_rfl) hf
theorem once_lifted (os : Os) (started : os.Started) (H : Type) (enc : TypeId × Value → H) :
    ReturnsInHanded {} Tryz.checked os 8 .any (fun w args => (Rows.historyOnceSpec.pre enc Tryz.prog Tryz.f8 [] false w args ∧ laidMetH Tryz.prog laidL w) ∧ sizedMet enc Tryz.prog Tryz.f8 (OpenSpec.ofChange Rows.historyOnceSpec) false w args)
      (Rows.historyOnceSpec.post enc Tryz.prog Tryz.f8 false true false false) := by
  refine returnsInHanded_of_change_and (C := Tryz.checked) (X := fun w _ => laidMetH Tryz.prog laidL w) (fun _ _ _ hh h => h.of_heap hh) ownZ started (by kernel_rfl) fun8
    (ChangeSpec.witness_at (enc := enc) (C := Tryz.checked) (os := os) (X := fun w _ => laidMetH Tryz.prog laidL w) false (laidWorld os) #[.slice none 0 0, .int .i64 0] 8 rfl (by kernel_rfl) (by kernel_rfl) (by kernel_rfl) (by kernel_rfl) (by kernel_rfl) (laidWorld_met os _)) ?_
  intro W base args ds gs before hval0 hW _ _ hL _
  have hval : ∀ (j : Nat) t v, Tryz.f8.params[j]? = some t → args[j]? = some v → Value.okWide Tryz.prog W .any base t v := hval0
  have hW' := hW
  obtain ⟨p, q, hA0, hV, rfl, hfz, hnd⟩ := hW
  have hA : DataW.TrodAll enc Tryz.prog W 0 (fun _ => true) true Tryz.f8.params.toList args.toList ds p := hA0
  rw [par8] at hA hval
  obtain ⟨v0, v1, d0, d1, p0, p1, rfl, rfl, rfl, h0, h1⟩ := trodAll_two hA
  obtain ⟨rfl, rfl⟩ := trodVars_none hV
  have k0 := h0
  have lt0 : ∀ x ∈ p0, x.block < W.heap.size := by obtain ⟨m, hm⟩ := k0; exact DataW.trod_lt m _ _ _ hm
  have k1 := h1
  have lt1 : ∀ x ∈ p1, x.block < W.heap.size := by obtain ⟨m, hm⟩ := k1; exact DataW.trod_lt m _ _ _ hm
  obtain ⟨b, hb⟩ := read22Y h0
  have ok0 := hval 0 22 v0 rfl rfl
  have n0 : ∀ cs, v0 ≠ .agg cs := by
    intro cs hcs
    obtain ⟨a, l, k, e⟩ := okWide_slice u22Y ok0
    rw [e] at hcs; cases hcs
  obtain ⟨t, rfl, ht⟩ := open_i64 u3Z (hval 1 3 v1 rfl rfl) h1
  have hg : GlS (P0 W) TBL.gs := gls_of_laid hL
  refine (once_calls b t (slc_of hb n0) ht hg).mono fun e W' ⟨he, bel⟩ => ?_
  subst he
  exact ⟨_, rfl, _, _, _, [], _, [], hW', trodAll_mk1 (shut_bool u4Z _), (trodAll_cons_mk (Below.trod laidOutZ (by kernel_rfl) (of_decide_eq_true (by kernel_rfl)) k0 bel lt0) (trodAll_cons_mk (Below.trod laidOutZ (by kernel_rfl) (of_decide_eq_true (by kernel_rfl)) k1 bel lt1) trodAll_mk0)), rfl, bel.frame _, fun h => by cases h⟩
end Go.Proofs.YtifokhheojnipaaGreatDoor
