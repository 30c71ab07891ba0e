/- The keyring's calls, by keys whose materials are bytes. -/
import Derived.Test.YtjpjejldinpcnaaKA8
import Derived.Test.YtjpjejldinpcnaaKB
namespace Go.Proofs.Ytjpjejldinpcnaa
open Go.RowKit Go.SL Go.K13
attribute [local irreducible] Go.SL.RW Go.SL.CW Go.SL.RD Go.SL.Hd Go.SL.St
set_option linter.unusedVariables false
set_option linter.unusedSimpArgs false

theorem kok_nil : KOk [] := ⟨by decide, fun r hr => by cases hr⟩
theorem keysNew {p : Pers} {w : World} {R : List Assn} {e b : Nat} (hst : St p w (pt b (.cells #[.slice none 0 0] e) :: R)) : St p w (KeysV e b [] :: R) :=
  keysMake kok_nil ((rowsClose (ks := []) (rs := []) rfl (hst.ownNil (e := 108) (sz := 2) none)).take (.there .here))

theorem prog_New {p : Pers} {w : World} {R : List Assn}  (hst : St p w (R)) :
    Calls Try.prog 16 #[] w fun e w => ∃ b, e = .returned (.pointer (some ⟨b, 0, none⟩)) ∧ St p w (KeysV 103 b [] :: R) := by
  refine enter Try.func16 rfl (by simp) (n := 3) rfl fun τ hτ => ?_
  clear hτ
  refine CW.seq ?_
  refine CW.region ?_
  refine RW.soft Wd.a (v := .pointer none) (by exact E.assign rfl) ?_
  refine RW.fin (fun τ => τ 0 = .pointer none) tp ?_
  rintro τ hs0
  refine CW.seq ?_
  refine CW.region ?_
  refine RW.soft Wd.a (v := .agg #[.slice none 0 0]) (by exact E.build (vs := #[]) (by simp) (by kernel_rfl)) ?_
  refine RW.hard Wd.a ?_
  refine H.box (v := .agg #[.slice none 0 0]) (AF_ev rfl tp) hst fun b1 w hst => ?_
  refine RW.soft Wd.a (v := .pointer (some ⟨b1, 0, none⟩)) (by exact E.assign (AF_ev rfl tp)) ?_
  refine RW.fin (fun τ => τ 0 = .pointer (some ⟨b1, 0, none⟩)) tp ?_
  rintro τ hs0
  refine CW.ret ?_
  refine ret1 (v := .pointer (some ⟨b1, 0, none⟩)) rfl (by exact (.tmp (AF_ev rfl hs0) .nil)) ?_
  exact ⟨_, rfl, keysNew hst⟩

abbrev rg (x : Int) : Prop := -9223372036854775808 ≤ x ∧ x ≤ 9223372036854775807
theorem rg_of {x : Int} (h : 0 ≤ x ∧ x ≤ 1000) : rg x := ⟨by omega, by omega⟩
theorem kok_row {ks : RKB} (h : KOk (toRK ks)) {r : Bool × List VerB} (hr : r ∈ ks) : 1 ≤ r.2.length ∧ r.2.length ≤ 4 ∧ ∀ x ∈ r.2, 0 ≤ x.uses ∧ x.uses ≤ 16 := by
  have h1 := h.2 (rowK r) (List.mem_map.2 ⟨r, hr, rfl⟩)
  have hl : (rowK r).2.length = r.2.length := by simp [rowK]
  obtain ⟨a, b, c⟩ := h1
  refine ⟨hl ▸ a, hl ▸ b, fun x hx => ?_⟩
  have := c x.k (List.mem_map.2 ⟨x, hx, rfl⟩)
  exact ⟨this.1, this.2⟩
theorem use_rg {ks : RKB} (h : KOk (toRK ks)) {id : Int} : (0 ≤ (bUse ks id).1 ∧ (bUse ks id).1 ≤ 1000) ∧ (0 ≤ (bUse ks id).2.1 ∧ (bUse ks id).2.1 ≤ 1000) ∧ (0 ≤ (bUse ks id).2.2.2.1 ∧ (bUse ks id).2.2.2.1 ≤ 1000) := by
  unfold bUse
  cases hb : bring ks id with
  | none => simp
  | some r =>
    obtain ⟨o, vs⟩ := r
    have hr := kok_row h (bring_mem hb)
    cases hv : vs[vs.length - 1]? with
    | none => simp [hv]
    | some x =>
      have hx := hr.2.2 x (List.mem_of_getElem? hv)
      simp only [hv, brUse]
      have := hr.2.1
      split
      · simp
      · split
        · simp
        · split
          · simp
          · dsimp only at *; omega
theorem mat_rg {ks : RKB} {id n : Int} : 0 ≤ (bMat ks id n).2 ∧ (bMat ks id n).2 ≤ 1000 := by
  unfold bMat
  cases hb : bring ks id with
  | none => simp
  | some r =>
    obtain ⟨o, vs⟩ := r
    cases hv : bver vs n with
    | none => simp [hv]
    | some x =>
      simp only [hv, brMat]; split
      · simp
      · split <;> simp
theorem create_rg {ks : RKB} (h : KOk (toRK ks)) {m : Bytes} : (0 ≤ (bCreate ks m).1 ∧ (bCreate ks m).1 ≤ 1000) ∧ (0 ≤ (bCreate ks m).2.1 ∧ (bCreate ks m).2.1 ≤ 1000) := by
  have h8 := h.1
  rw [toRK_len] at h8
  unfold bCreate; split
  · simp
  · dsimp only; omega
theorem rotate_rg {ks : RKB} (h : KOk (toRK ks)) {id : Int} {m : Bytes} : (0 ≤ (bRotate ks id m).1 ∧ (bRotate ks id m).1 ≤ 1000) ∧ (0 ≤ (bRotate ks id m).2.1 ∧ (bRotate ks id m).2.1 ≤ 1000) := by
  unfold bRotate
  cases hb : bring ks id with
  | none => simp
  | some r =>
    obtain ⟨o, vs⟩ := r
    have hr := kok_row h (bring_mem hb)
    simp only [brRotate]
    have := hr.2.1
    split
    · simp
    · dsimp only at *; omega
theorem switch_rg {ks : RKB} {id : Int} {on : Bool} : 0 ≤ (bSwitch ks id on).1 ∧ (bSwitch ks id on).1 ≤ 1000 := by
  unfold bSwitch
  cases hb : bring ks id with
  | none => simp
  | some r => simp
theorem destroy_rg {ks : RKB} {id n : Int} : 0 ≤ (bDestroy ks id n).1 ∧ (bDestroy ks id n).1 ≤ 1000 := by
  unfold bDestroy
  cases hb : bring ks id with
  | none => simp
  | some r =>
    obtain ⟨o, vs⟩ := r
    cases hv : bver vs n with
    | none => simp [hv]
    | some x => simp only [hv, brDestroy]; split <;> simp
section
variable {p : Pers} {w : World} {R : List Assn} {ks : RKB} {b : Nat}
theorem New_B (hst : St p w R) : Calls Try.prog 16 #[] w fun e w => ∃ b, e = .returned (.pointer (some ⟨b, 0, none⟩)) ∧ St p w (KeysB 103 b [] :: R) :=
  Calls.mono (prog_New hst) fun e w ⟨b, he, hst⟩ => ⟨b, he, keysBmk (fun r hr => by cases hr) hst⟩
theorem kok_of (hst : St p w (KeysV 103 b (toRK ks) :: R)) : KOk (toRK ks) := (keysApart hst).1
theorem Use_B (id : Int) (hid : -9223372036854775808 ≤ id ∧ id ≤ 9223372036854775807) (r : Int × Int × Bytes × Int × RKB) (hF : r = bUse ks id) (hst : St p w (KeysB 103 b ks :: R)) :
    Calls Try.prog 59 #[.pointer (some ⟨b, 0, none⟩), .int .i64 id] w fun e w => e = .returned (.tuple #[.int .i64 r.1, .int .i64 r.2.1, .agg (r.2.2.1.map bu8).toArray, .int .i64 r.2.2.2.1]) ∧ rg r.1 ∧ rg r.2.1 ∧ r.2.2.1.length = 32 ∧ rg r.2.2.2.1 ∧ St p w (KeysB 103 b r.2.2.2.2 :: R) := by
  subst hF
  obtain ⟨hk, hst⟩ := keysB hst
  have ho := kok_of hst
  have h := prog_Use id hid hst
  rw [use_k] at h
  refine Calls.mono h ?_
  rintro e w ⟨rfl, hst⟩
  rw [bk_toK (use_ok hk).1]
  exact ⟨rfl, rg_of (use_rg ho).1, rg_of (use_rg ho).2.1, (use_ok hk).1, rg_of (use_rg ho).2.2, keysBmk (use_ok hk).2 hst⟩
theorem Mat_B (id n : Int) (hid : -9223372036854775808 ≤ id ∧ id ≤ 9223372036854775807) (hn : -9223372036854775808 ≤ n ∧ n ≤ 9223372036854775807) (r : Bytes × Int) (hF : r = bMat ks id n) (hst : St p w (KeysB 103 b ks :: R)) :
    Calls Try.prog 60 #[.pointer (some ⟨b, 0, none⟩), .int .i64 id, .int .i64 n] w fun e w => e = .returned (.tuple #[.agg (r.1.map bu8).toArray, .int .i64 r.2]) ∧ r.1.length = 32 ∧ rg r.2 ∧ St p w (KeysB 103 b ks :: R) := by
  subst hF
  obtain ⟨hk, hst⟩ := keysB hst
  have h := prog_Material id n hid hn hst
  rw [mat_k] at h
  refine Calls.mono h ?_
  rintro e w ⟨rfl, hst⟩
  rw [bk_toK (mat_ok hk)]
  exact ⟨rfl, mat_ok hk, rg_of mat_rg, keysBmk hk hst⟩
theorem Create_B (m : Bytes) (hm : m.length = 32) (r : Int × Int × RKB) (hF : r = bCreate ks m) (hst : St p w (KeysB 103 b ks :: R)) :
    Calls Try.prog 17 #[.pointer (some ⟨b, 0, none⟩), .agg (m.map bu8).toArray] w fun e w => e = .returned (.tuple #[.int .i64 r.1, .int .i64 r.2.1]) ∧ rg r.1 ∧ rg r.2.1 ∧ St p w (KeysB 103 b r.2.2 :: R) := by
  subst hF
  obtain ⟨hk, hst⟩ := keysB hst
  have ho := kok_of hst
  have h := prog_Create (toK m) hst
  rw [create_k, bk_toK hm] at h
  refine Calls.mono h ?_
  rintro e w ⟨rfl, hst⟩
  exact ⟨rfl, rg_of (create_rg ho).1, rg_of (create_rg ho).2, keysBmk (create_ok hk hm) hst⟩
theorem Rotate_B (id : Int) (hid : -9223372036854775808 ≤ id ∧ id ≤ 9223372036854775807) (m : Bytes) (hm : m.length = 32) (r : Int × Int × RKB) (hF : r = bRotate ks id m) (hst : St p w (KeysB 103 b ks :: R)) :
    Calls Try.prog 21 #[.pointer (some ⟨b, 0, none⟩), .int .i64 id, .agg (m.map bu8).toArray] w fun e w => e = .returned (.tuple #[.int .i64 r.1, .int .i64 r.2.1]) ∧ rg r.1 ∧ rg r.2.1 ∧ St p w (KeysB 103 b r.2.2 :: R) := by
  subst hF
  obtain ⟨hk, hst⟩ := keysB hst
  have ho := kok_of hst
  have h := prog_Rotate id hid (toK m) hst
  rw [rotate_k, bk_toK hm] at h
  refine Calls.mono h ?_
  rintro e w ⟨rfl, hst⟩
  exact ⟨rfl, rg_of (rotate_rg ho).1, rg_of (rotate_rg ho).2, keysBmk (rotate_ok hk hm) hst⟩
end
end Go.Proofs.Ytjpjejldinpcnaa
