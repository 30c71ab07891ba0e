/- The table of sha, as it is laid. -/
import Derived.Test.YtifokhheojnipaaGreatDoorZ1
import Derived.Test.YtifokhheojnipaaGreatDoorZ2
import Derived.Test.YtifokhheojnipaaGreatDoorRows
import Derived.Test.YtifokhheojnipaaGreatDoorCards
import Derived.ChangeSame
import Derived.ChangeVars
import Derived.ChangeOld
import Derived.LaidLaws
import Derived.LaidHandle
import Derived.ProofKit
import Derived.Test.YtifokhheojnipaaGreatDoorK2
import Derived.Test.YtifokhheojnipaaGreatDoorQ3
set_option linter.unusedVariables false
set_option linter.unusedSimpArgs false
set_option linter.unnecessarySimpa false
namespace Go.GX
open Go.RowKit Go.SL Go.Proofs
set_option linter.unusedVariables false
set_option maxRecDepth 100000
def u32v (x : BitVec 32) : Value := .int .u32 (x.toNat : Int)
theorem cat_u32 {m : Mem} : ∀ l : List (BitVec 32), Cat (fun (x : BitVec 32) c => DenT m .u32 x c) l (l.map u32v)
  | [] => rfl
  | x :: l => ⟨[u32v x], _, rfl, rfl, cat_u32 l⟩
theorem shaName : Tryz.prog.globalNamed "strongroom/sha.add" = some 0 := by kernel_rfl
theorem shaType : (Tryz.prog.globals[0]?).map (·.type) = some 316 := by kernel_rfl
theorem u316 : Tryz.prog.underlying 316 = some (.array 64 93) := by kernel_rfl
theorem u93 : Tryz.prog.underlying 93 = some (.int .u32) := by kernel_rfl
theorem c93 : Tryz.prog.cellsOf 93 = 1 := by kernel_rfl
theorem c316 : Tryz.prog.cellsOf 316 = 64 := by kernel_rfl
theorem laidIs : (YtifokhheojnipaaGreatDoor.Rows.laid_strongroom_sha_add : DataW Unit) = .agg (shaAdd.map fun x => .lit (.int .u32 (x.toNat : Int))) := by kernel_rfl
theorem gls_of_laid {W : World} (h : laidMet Tryz.prog [("strongroom/sha.add", YtifokhheojnipaaGreatDoor.Rows.laid_strongroom_sha_add)] W) : GlS (P0 W) TBL.gs := by
  obtain ⟨ps, ⟨g, t, cs, fuel, p, q, hg, ht, hv, hr, _⟩, _⟩ := h
  have : g = 0 := (Option.some.inj (shaName.symm.trans hg)).symm
  subst this
  have : t = 316 := (Option.some.inj (shaType.symm.trans ht)).symm
  subst this
  obtain ⟨xs, m, rfl, hx, hl, hxl, hi⟩ := DataW.trod_array u316 hr
  rw [laidIs] at hx
  have hm : xs.map (·.1) = shaAdd.map fun x => .lit (.int .u32 (x.toNat : Int)) := by
    have := congrArg Prod.fst hx
    simpa using this.symm
  have hcs : cs.toList = shaAdd.map u32v := by
    refine List.ext_getElem? fun i => ?_
    by_cases h64 : i < 64
    · have h1 := hi i h64
      have hix : i < xs.length := by omega
      rw [c93, Nat.mul_one, List.getElem?_eq_getElem hix] at h1
      obtain ⟨n, hn, hy, _⟩ := DataW.trod_int u93 h1
      have hm2 : (xs.map (·.1))[i]? = (shaAdd.map fun x => DataW.lit (.int .u32 (x.toNat : Int)))[i]? := by rw [hm]
      rw [List.getElem?_map, List.getElem?_eq_getElem hix, hy, List.getElem?_map] at hm2
      have hsl : i < shaAdd.length := h64
      rw [List.getElem?_eq_getElem hsl] at hm2
      simp only [Option.map_some, Option.some.injEq, DataW.lit.injEq, Lit.int.injEq, true_and] at hm2
      have hc : cs.toList[i]? = some (.int .u32 n) := by
        have : (List.take 1 (List.drop i cs.toList))[0]? = some (.int .u32 n) := by rw [hn]; rfl
        simpa using this
      rw [hc, List.getElem?_map, List.getElem?_eq_getElem hsl, hm2]; rfl
    · rw [List.getElem?_eq_none (by rw [hl, c316]; omega), List.getElem?_eq_none (by simp; exact Nat.le_trans (by decide) (Nat.le_of_not_lt h64))]
  intro k sv e
  have hk : k = 0 ∧ sv = .dp (.arr 64 .u32) shaAdd := by
    have e' : gget [(0, SV.dp (.arr 64 .u32) shaAdd)] k = some sv := e
    unfold gget at e'
    cases hb : Nat.beq 0 k with
    | true =>
      rw [hb, cond_true] at e'
      exact ⟨(Nat.eq_of_beq_eq_true hb).symm, (Option.some.inj e').symm⟩
    | false => rw [hb, cond_false] at e'; cases e'
  obtain ⟨rfl, rfl⟩ := hk
  refine ⟨_, _, cs.toList, rfl, ?_, ?_⟩
  · simp only [World.var?, shaName, Option.bind_some] at hv
    split at hv <;> try (cases hv; done)
    rename_i c t f hh
    cases hv
    exact ⟨cs, t, f, hh, fun j v hj => by simpa using hj⟩
  · rw [hcs]
    exact ⟨rfl, cat_u32 shaAdd⟩
end Go.GX
namespace Go.Proofs.YtifokhheojnipaaGreatDoor
open Go.ChangeShapes Go.WideShapes Go.ChangeAt Go.RowKit Go.SL Go.GX
set_option linter.unusedVariables false
set_option maxRecDepth 100000
theorem ownZ : ownKnob Tryz.prog.godebug = none := by kernel_rfl
theorem laidOutZ : laidOutB Tryz.prog = true := by kernel_rfl
theorem u4Z : Tryz.prog.underlying 4 = some .bool := by kernel_rfl
noncomputable def laidWorld (os : Os) : World :=
  let w0 := World.holding Tryz.prog os ⟨#[], #[], []⟩
  { w0 with heap := w0.heap.modify 0 fun
      | .cells _ t frozen => .cells (shaAdd.map u32v).toArray t frozen
      | o => o }
abbrev laidL : List (String × DataW Unit) := [("strongroom/sha.add", Rows.laid_strongroom_sha_add)]
theorem laidWorld_met (os : Os) (args : Array Value) : laidMetH Tryz.prog laidL ((laidWorld os).forCall (fun _ _ => 0) ⟨#[], args, []⟩).memory :=
  laidMet_of_run' (l := laidL) 8 (by kernel_rfl) (by kernel_rfl)
end Go.Proofs.YtifokhheojnipaaGreatDoor
namespace Go.GX
open Go.RowKit Go.SL Go.Proofs Go.WideShapes
set_option linter.unusedVariables false
theorem okWide_slcZ {P : Program} {w : World} {r : Reach} {base t e : Nat} {v : Value} (ht : P.underlying t = some (.slice e)) (h : Value.okWide P w r base t v) : aggV v = false := by
  obtain ⟨a, l, k, rfl⟩ := okWide_slice ht h
  rfl
theorem storeMaterials_calls {W : World} (x0 : List (BitVec 8)) {v0 : Value} (e0 : aggV v0 = false) (h0 : DenT (P0 W).h (.fz .u8) x0 v0.cells.toList) (x1 : List (BitVec 8)) {v1 : Value} (e1 : aggV v1 = false) (h1 : DenT (P0 W).h (.fz .u8) x1 v1.cells.toList) (hg : GlS (P0 W) TBL.gs) :
    Calls Tryz.prog 3 #[v0, v1] W fun e w => e = .returned (.bool true) ∧ Below W.heap.size W w := by
  have st : St (P0 W) W (asO (P0 W) C3.ps (x0, (x1, ())) [v0, v1] ++ [Exact none0]) := by
    have s9 : St (P0 W) W [Exact none0] := (st0 W).none0
    have s1 : St (P0 W) W [valA (P0 W) (.fz .u8) x1 v1, Exact none0] := s9.none0.weaken fun h q => ⟨e1, by rw [show h = none0 from q]; exact (by rw [oa_pure _ _ rfl]; exact ⟨rfl, h1⟩)⟩
    have s0 : St (P0 W) W [valA (P0 W) (.fz .u8) x0 v0, valA (P0 W) (.fz .u8) x1 v1, Exact none0] := s1.none0.weaken fun h q => ⟨e0, by rw [show h = none0 from q]; exact (by rw [oa_pure _ _ rfl]; exact ⟨rfl, h0⟩)⟩
    exact s0
  refine (c3.2 (x0, (x1, ())) () ((true, ()), ()) (law3 shownS x0 x1) (P0 W) none0 W [v0, v1] hg rfl st trivial).mono ?_
  rintro e w ⟨us, q, rfl, hl, le, hst⟩
  obtain ⟨u, rfl⟩ : ∃ u, us = [u] := by
    cases us with
    | nil => cases hl
    | cons u r => cases r with
      | nil => exact ⟨u, rfl⟩
      | cons _ _ => simp at hl
  refine ⟨?_, below_of le hst⟩
  have hu : ∃ h, valA q .bool true u h := by
    obtain ⟨h, ⟨a, b, _, _, ha, _⟩, _⟩ := id hst
    exact ⟨a, ha⟩
  obtain ⟨h, hag, hoa⟩ := hu
  have hc : u.cells.toList = [.bool true] := hoa.2
  have hu2 : u = .bool true := by
    cases u <;> first | (cases hc; rfl) | (simp [Value.cells] at hc; done) | (simp [aggV, Ty.agg] at hag)
  rw [hu2]; simp [oneV]
end Go.GX
namespace Go.Proofs.YtifokhheojnipaaGreatDoor
open Go.ChangeShapes Go.WideShapes Go.ChangeAt Go.RowKit Go.SL Go.GX
set_option linter.unusedVariables false
set_option maxRecDepth 100000
theorem par3 : Tryz.f3.params = #[22, 22] := by kernel_rfl
theorem fun3 : Tryz.prog.funcs[3]? = some Tryz.f3 := by kernel_rfl
theorem rdB3 {H : Type} {enc : TypeId × Value → H} {W : World} {v : Value} {d : DataW H} {ps : List MemPlace} (h : DataW.Trod enc Tryz.prog W 0 (fun _ => true) true 22 v d ps) : ∃ x, DenT (P0 W).h (.fz .u8) x v.cells.toList := by
  obtain ⟨fuel, hf⟩ := h
  exact rd_ok.1 (by kernel_rfl) hf
theorem storeMaterials_lifted (os : Os) (started : os.Started) (H : Type) (enc : TypeId × Value → H) :
    ReturnsInHanded {} Tryz.checked os 3 .any (fun w args => (Rows.storeMaterialsSpec.pre enc Tryz.prog Tryz.f3 [] false w args ∧ laidMetH Tryz.prog laidL w) ∧ sizedMet enc Tryz.prog Tryz.f3 (OpenSpec.ofChange Rows.storeMaterialsSpec) false w args)
      (Rows.storeMaterialsSpec.post enc Tryz.prog Tryz.f3 false true false false) := by
  refine returnsInHanded_of_change_and (C := Tryz.checked) (X := fun w _ => laidMetH Tryz.prog laidL w) (fun _ _ _ hh h => h.of_heap hh) ownZ started (by kernel_rfl) fun3
    (ChangeSpec.witness_at (enc := enc) (C := Tryz.checked) (os := os) (X := fun w _ => laidMetH Tryz.prog laidL w) false (laidWorld os) #[.slice none 0 0, .slice none 0 0] 8 rfl (by kernel_rfl) (by kernel_rfl) (by kernel_rfl) (by kernel_rfl) (by kernel_rfl) (laidWorld_met os _)) ?_
  intro W base args ds gs before hval0 hW _ _ hL _
  have hval : ∀ (j : Nat) t v, Tryz.f3.params[j]? = some t → args[j]? = some v → Value.okWide Tryz.prog W .any base t v := hval0
  have hW' := hW
  obtain ⟨p, q, hA0, hV, rfl, hfz, hnd⟩ := hW
  have hA : DataW.TrodAll enc Tryz.prog W 0 (fun _ => true) true Tryz.f3.params.toList args.toList ds p := hA0
  rw [par3] at hA hval
  obtain ⟨v0, v1, d0, d1, p0, p1, rfl, rfl, rfl, h0, h1⟩ := trodAll_two hA
  obtain ⟨rfl, rfl⟩ := trodVars_none hV
  have k0 := h0
  have lt0 : ∀ x ∈ p0, x.block < W.heap.size := by obtain ⟨m, hm⟩ := k0; exact DataW.trod_lt m _ _ _ hm
  have k1 := h1
  have lt1 : ∀ x ∈ p1, x.block < W.heap.size := by obtain ⟨m, hm⟩ := k1; exact DataW.trod_lt m _ _ _ hm
  have e0 := okWide_slcZ (show Tryz.prog.underlying 22 = some (.slice 5) by kernel_rfl) (hval 0 22 v0 rfl rfl)
  obtain ⟨x0, hx0⟩ := rdB3 h0
  have e1 := okWide_slcZ (show Tryz.prog.underlying 22 = some (.slice 5) by kernel_rfl) (hval 1 22 v1 rfl rfl)
  obtain ⟨x1, hx1⟩ := rdB3 h1
  have hg : GlS (P0 W) TBL.gs := gls_of_laid hL
  clear hA0 hval0
  refine (storeMaterials_calls x0 e0 hx0 x1 e1 hx1 hg).mono fun e W' ⟨he, bel⟩ => ?_
  subst he
  exact ⟨_, rfl, _, _, _, [], _, [], hW', trodAll_mk1 (shut_bool u4Z _), (trodAll_cons_mk (Below.trod laidOutZ (by kernel_rfl) (of_decide_eq_true (by kernel_rfl)) k0 bel lt0) (trodAll_cons_mk (Below.trod laidOutZ (by kernel_rfl) (of_decide_eq_true (by kernel_rfl)) k1 bel lt1) trodAll_mk0)), rfl, bel.frame _, fun h => by cases h⟩
end Go.Proofs.YtifokhheojnipaaGreatDoor
