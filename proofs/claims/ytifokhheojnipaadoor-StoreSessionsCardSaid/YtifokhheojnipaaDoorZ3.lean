/- The table of sha, as it is laid. -/
import Derived.Test.YtifokhheojnipaaDoorZ2
import Derived.Test.YtifokhheojnipaaDoorRows
import Derived.Test.YtifokhheojnipaaDoorCards
import Derived.ChangeSame
import Derived.ChangeVars
import Derived.ChangeOld
import Derived.LaidLaws
import Derived.LaidHandle
import Derived.ProofKit
import Derived.Test.YtifokhheojnipaaDoorK2
set_option linter.unusedVariables false
set_option linter.unusedSimpArgs false
set_option linter.unnecessarySimpa false
namespace Go.GX
open Go.RowKit Go.SL Go.Proofs
set_option linter.unusedVariables false
set_option maxRecDepth 100000
def u32v (x : BitVec 32) : Value := .int .u32 (x.toNat : Int)
theorem cat_u32 {m : Mem} : ∀ l : List (BitVec 32), Cat (fun (x : BitVec 32) c => DenT m .u32 x c) l (l.map u32v)
  | [] => rfl
  | x :: l => ⟨[u32v x], _, rfl, rfl, cat_u32 l⟩
theorem shaName : Tryd.prog.globalNamed "strongroom/sha.add" = some 0 := by kernel_rfl
theorem shaType : (Tryd.prog.globals[0]?).map (·.type) = some 148 := by kernel_rfl
theorem u148 : Tryd.prog.underlying 148 = some (.array 64 110) := by kernel_rfl
theorem u110 : Tryd.prog.underlying 110 = some (.int .u32) := by kernel_rfl
theorem c110 : Tryd.prog.cellsOf 110 = 1 := by kernel_rfl
theorem c148 : Tryd.prog.cellsOf 148 = 64 := by kernel_rfl
theorem laidIs : (YtifokhheojnipaaDoor.Rows.laid_strongroom_sha_add : DataW Unit) = .agg (shaAdd.map fun x => .lit (.int .u32 (x.toNat : Int))) := by kernel_rfl
theorem gls_of_laid {W : World} (h : laidMet Tryd.prog [("strongroom/sha.add", YtifokhheojnipaaDoor.Rows.laid_strongroom_sha_add)] W) : GlS (P0 W) TBL.gs := by
  obtain ⟨ps, ⟨g, t, cs, fuel, p, q, hg, ht, hv, hr, _⟩, _⟩ := h
  have : g = 0 := (Option.some.inj (shaName.symm.trans hg)).symm
  subst this
  have : t = 148 := (Option.some.inj (shaType.symm.trans ht)).symm
  subst this
  obtain ⟨xs, m, rfl, hx, hl, hxl, hi⟩ := DataW.trod_array u148 hr
  rw [laidIs] at hx
  have hm : xs.map (·.1) = shaAdd.map fun x => .lit (.int .u32 (x.toNat : Int)) := by
    have := congrArg Prod.fst hx
    simpa using this.symm
  have hcs : cs.toList = shaAdd.map u32v := by
    refine List.ext_getElem? fun i => ?_
    by_cases h64 : i < 64
    · have h1 := hi i h64
      have hix : i < xs.length := by omega
      rw [c110, Nat.mul_one, List.getElem?_eq_getElem hix] at h1
      obtain ⟨n, hn, hy, _⟩ := DataW.trod_int u110 h1
      have hm2 : (xs.map (·.1))[i]? = (shaAdd.map fun x => DataW.lit (.int .u32 (x.toNat : Int)))[i]? := by rw [hm]
      rw [List.getElem?_map, List.getElem?_eq_getElem hix, hy, List.getElem?_map] at hm2
      have hsl : i < shaAdd.length := h64
      rw [List.getElem?_eq_getElem hsl] at hm2
      simp only [Option.map_some, Option.some.injEq, DataW.lit.injEq, Lit.int.injEq, true_and] at hm2
      have hc : cs.toList[i]? = some (.int .u32 n) := by
        have : (List.take 1 (List.drop i cs.toList))[0]? = some (.int .u32 n) := by rw [hn]; rfl
        simpa using this
      rw [hc, List.getElem?_map, List.getElem?_eq_getElem hsl, hm2]; rfl
    · rw [List.getElem?_eq_none (by rw [hl, c148]; omega), List.getElem?_eq_none (by simp; exact Nat.le_trans (by decide) (Nat.le_of_not_lt h64))]
  intro k sv e
  have hk : k = 0 ∧ sv = .dp (.arr 64 .u32) shaAdd := by
    have e' : gget [(0, SV.dp (.arr 64 .u32) shaAdd)] k = some sv := e
    unfold gget at e'
    cases hb : Nat.beq 0 k with
    | true =>
      rw [hb, cond_true] at e'
      exact ⟨(Nat.eq_of_beq_eq_true hb).symm, (Option.some.inj e').symm⟩
    | false => rw [hb, cond_false] at e'; cases e'
  obtain ⟨rfl, rfl⟩ := hk
  refine ⟨_, _, cs.toList, rfl, ?_, ?_⟩
  · simp only [World.var?, shaName, Option.bind_some] at hv
    split at hv <;> try (cases hv; done)
    rename_i c t f hh
    cases hv
    exact ⟨cs, t, f, hh, fun j v hj => by simpa using hj⟩
  · rw [hcs]
    exact ⟨rfl, cat_u32 shaAdd⟩
end Go.GX
namespace Go.Proofs.YtifokhheojnipaaDoor
open Go.ChangeShapes Go.WideShapes Go.ChangeAt Go.RowKit Go.SL Go.GX
set_option linter.unusedVariables false
set_option maxRecDepth 100000
theorem ownZ : ownKnob Tryd.prog.godebug = none := by kernel_rfl
theorem laidOutZ : laidOutB Tryd.prog = true := by kernel_rfl
theorem u4Z : Tryd.prog.underlying 4 = some .bool := by kernel_rfl
noncomputable def laidWorld (os : Os) : World :=
  let w0 := World.holding Tryd.prog os ⟨#[], #[], []⟩
  { w0 with heap := w0.heap.modify 0 fun
      | .cells _ t frozen => .cells (shaAdd.map u32v).toArray t frozen
      | o => o }
abbrev laidL : List (String × DataW Unit) := [("strongroom/sha.add", Rows.laid_strongroom_sha_add)]
theorem laidWorld_met (os : Os) (args : Array Value) : laidMetH Tryd.prog laidL ((laidWorld os).forCall (fun _ _ => 0) ⟨#[], args, []⟩).memory :=
  laidMet_of_run' (l := laidL) 8 (by kernel_rfl) (by kernel_rfl)
theorem slc_of {m : Mem} {a : Ty} {x : List a.T} {v : Value} (h : DenT m (.fz a) x v.cells.toList) (hv : ∀ cs, v ≠ .agg cs) : DenT m (.fz a) x [v] := by
  have : v.cells.toList = [v] := by cases v <;> first | rfl | exact absurd rfl (hv _)
  rwa [this] at h
end Go.Proofs.YtifokhheojnipaaDoor
namespace Go.GX
open Go.RowKit Go.SL Go.Proofs Go.WideShapes
set_option linter.unusedVariables false
theorem open_i64 {H : Type} {enc : TypeId × Value → H} {P : Program} {W : World} {base b0 : Nat} {spare : Nat → Bool} {held : Bool} {r : Reach} {t : Nat} {v : Value} {d : DataW H} {ps : List MemPlace} (ht : P.underlying t = some (.int .i64)) (hv : Value.okWide P W r b0 t v) (h : DataW.Trod enc P W base spare held t v d ps) : ∃ a : Int, v = .int .i64 a ∧ (-9223372036854775808 ≤ a ∧ a ≤ 9223372036854775807) := by
  obtain ⟨n, rfl⟩ := okWide_int ht hv
  obtain ⟨fuel, hf⟩ := h
  obtain ⟨k, e, w⟩ := read_int ht hf
  cases e
  exact ⟨n, rfl, wf_i64 w⟩
theorem oa_i64 {m : Mem} (n : Int) : OA m .int n (Value.int .i64 n).cells.toList none0 := by rw [oa_pure _ _ rfl]; exact ⟨rfl, rfl⟩
theorem law_calls {W : World} {v0 : Value} (b : List (BitVec 8)) (n : Int) (h0 : DenT (P0 W).h (.fz .u8) b [v0]) (hn : -9223372036854775808 ≤ n ∧ n ≤ 9223372036854775807) (hg : GlS (P0 W) TBL.gs) :
    Calls Tryd.prog 3 #[v0, .int .i64 n] W fun e w => e = .returned (.bool true) ∧ Below W.heap.size W w := by
  have e0 : aggV v0 = false := by obtain ⟨X, n, e, _⟩ := h0; cases e; rfl
  have k0 : v0.cells.toList = [v0] := by obtain ⟨X, n, e, _⟩ := h0; cases e; rfl
  have st : St (P0 W) W (asO (P0 W) C3.ps (b, (n, ())) [v0, .int .i64 n] ++ [Exact none0]) := by
    have s0 : St (P0 W) W [Exact none0] := (st0 W).none0
    have a0 : OA (P0 W).h (.fz .u8) b v0.cells.toList none0 := by rw [k0, oa_pure _ _ rfl]; exact ⟨rfl, h0⟩
    have s1 : St (P0 W) W [valA (P0 W) .int n (.int .i64 n), Exact none0] := s0.none0.weaken fun h q => ⟨rfl, by rw [show h = none0 from q]; exact oa_i64 n⟩
    exact s1.none0.weaken fun h q => ⟨e0, by rw [show h = none0 from q]; exact a0⟩
  refine (c3.2 (b, (n, ())) () ((true, ()), ()) (law16s shownS b n hn) (P0 W) none0 W [v0, .int .i64 n] hg rfl st trivial).mono ?_
  rintro e w ⟨us, q, rfl, hl, le, hst⟩
  obtain ⟨u, rfl⟩ : ∃ u, us = [u] := by
    cases us with
    | nil => cases hl
    | cons u r => cases r with
      | nil => exact ⟨u, rfl⟩
      | cons _ _ => simp at hl
  refine ⟨?_, below_of le hst⟩
  have hu : ∃ h, valA q .bool true u h := by
    obtain ⟨h, ⟨a, b, _, _, ha, _⟩, _⟩ := id hst
    exact ⟨a, ha⟩
  obtain ⟨h, hag, hoa⟩ := hu
  have hc : u.cells.toList = [.bool true] := hoa.2
  have hu2 : u = .bool true := by
    cases u <;> first | (cases hc; rfl) | (simp [Value.cells] at hc; done) | (simp [aggV, Ty.agg] at hag)
  rw [hu2]; simp [oneV]
end Go.GX
namespace Go.Proofs.YtifokhheojnipaaDoor
open Go.ChangeShapes Go.WideShapes Go.ChangeAt Go.RowKit Go.SL Go.GX
set_option linter.unusedVariables false
set_option maxRecDepth 100000
theorem u3Z : Tryd.prog.underlying 3 = some (.int .i64) := by kernel_rfl
theorem u22Z : Tryd.prog.underlying 22 = some (.slice 5) := by kernel_rfl
theorem par3 : Tryd.f3.params = #[22, 3] := by kernel_rfl
theorem fun3 : Tryd.prog.funcs[3]? = some Tryd.f3 := by kernel_rfl
theorem read22 {H : Type} {enc : TypeId × Value → H} {W : World} {v : Value} {d : DataW H} {ps : List MemPlace} (h : DataW.Trod enc Tryd.prog W 0 (fun _ => true) true 22 v d ps) : ∃ x, DenT (P0 W).h (.fz .u8) x v.cells.toList := by
  obtain ⟨fuel, hf⟩ := h
  exact rd_ok.1 (by kernel_rfl) hf
theorem lifted (os : Os) (started : os.Started) (H : Type) (enc : TypeId × Value → H) :
    ReturnsInHanded {} Tryd.checked os 3 .any (fun w args => (Rows.storeSessionsSpec.pre enc Tryd.prog Tryd.f3 [] false w args ∧ laidMetH Tryd.prog laidL w) ∧ sizedMet enc Tryd.prog Tryd.f3 (OpenSpec.ofChange Rows.storeSessionsSpec) false w args)
      (Rows.storeSessionsSpec.post enc Tryd.prog Tryd.f3 false true false false) := by
  refine returnsInHanded_of_change_and (C := Tryd.checked) (X := fun w _ => laidMetH Tryd.prog laidL w) (fun _ _ _ hh h => h.of_heap hh) ownZ started (by kernel_rfl) fun3
    (ChangeSpec.witness_at (enc := enc) (C := Tryd.checked) (os := os) (X := fun w _ => laidMetH Tryd.prog laidL w) false (laidWorld os) #[.slice none 0 0, .int .i64 0] 8 rfl (by kernel_rfl) (by kernel_rfl) (by kernel_rfl) (by kernel_rfl) (by kernel_rfl) (laidWorld_met os _)) ?_
  intro W base args ds gs before hval0 hW _ _ hL _
  have hval : ∀ (j : Nat) t v, Tryd.f3.params[j]? = some t → args[j]? = some v → Value.okWide Tryd.prog W .any base t v := hval0
  have hW' := hW
  obtain ⟨p, q, hA0, hV, rfl, hfz, hnd⟩ := hW
  have hA : DataW.TrodAll enc Tryd.prog W 0 (fun _ => true) true Tryd.f3.params.toList args.toList ds p := hA0
  rw [par3] at hA hval
  obtain ⟨v0, v1, d0, d1, p0, p1, rfl, rfl, rfl, h0, h1⟩ := trodAll_two hA
  obtain ⟨rfl, rfl⟩ := trodVars_none hV
  have k0 := h0
  have lt0 : ∀ x ∈ p0, x.block < W.heap.size := by obtain ⟨m, hm⟩ := k0; exact DataW.trod_lt m _ _ _ hm
  have k1 := h1
  have lt1 : ∀ x ∈ p1, x.block < W.heap.size := by obtain ⟨m, hm⟩ := k1; exact DataW.trod_lt m _ _ _ hm
  obtain ⟨b, hb⟩ := read22 h0
  have ok0 := hval 0 22 v0 rfl rfl
  have n0 : ∀ cs, v0 ≠ .agg cs := by
    intro cs hcs
    obtain ⟨a, l, k, e⟩ := okWide_slice u22Z ok0
    rw [e] at hcs; cases hcs
  obtain ⟨n, rfl, hn⟩ := open_i64 u3Z (hval 1 3 v1 rfl rfl) h1
  have hg : GlS (P0 W) TBL.gs := gls_of_laid hL
  refine (law_calls b n (slc_of hb n0) hn hg).mono fun e W' ⟨he, bel⟩ => ?_
  subst he
  exact ⟨_, rfl, _, _, _, [], _, [], hW', trodAll_mk1 (shut_bool u4Z _), (trodAll_cons_mk (Below.trod laidOutZ (by kernel_rfl) (of_decide_eq_true (by kernel_rfl)) k0 bel lt0) (trodAll_cons_mk (Below.trod laidOutZ (by kernel_rfl) (of_decide_eq_true (by kernel_rfl)) k1 bel lt1) trodAll_mk0)), rfl, bel.frame _, fun h => by cases h⟩
end Go.Proofs.YtifokhheojnipaaDoor
