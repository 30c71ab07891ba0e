/- What the plain functions of sha, mac and drbg tell: that they do. -/
import Derived.Test.YtifokhheojnipaaGreatDoorE1
import Derived.Test.YtifokhheojnipaaGreatDoorE2
import Derived.Test.YtifokhheojnipaaGreatDoorE3
import Derived.Test.YtifokhheojnipaaGreatDoorZ1
import Derived.Test.YtifokhheojnipaaGreatDoorG7
import Derived.Test.YtifokhheojnipaaGreatDoorA1
set_option linter.unusedVariables false
set_option linter.unusedSimpArgs false
namespace Go.GX
open Go.RowKit Go.SL Go.Proofs
set_option maxRecDepth 100000
set_option linter.unusedVariables false

theorem mixedZ : Tryz.prog.follows .mixedOrders = true := by kernel_rfl
theorem c56 : Con.ok Tryz.prog TBL.gs 56 C56 := mkF_ok mixedZ TBL_ok FT.ok_nil CN.ok_nil (by kernel_rfl) (by kernel_rfl) (bodyOf_ok (by kernel_rfl)) e56
theorem c201 : Con.ok Tryz.prog TBL.gs 201 C201 := mkF_ok mixedZ TBL_ok (FT.ok_cons (by kernel_rfl) (by kernel_rfl) FT.ok_nil) CN.ok_nil (by kernel_rfl) (by kernel_rfl) (bodyOf_ok (by kernel_rfl)) e201
theorem c171 : Con.ok Tryz.prog TBL.gs 171 C171 := mkF_ok mixedZ TBL_ok FT.ok_nil CN.ok_nil (by kernel_rfl) (by kernel_rfl) (bodyOf_ok (by kernel_rfl)) e171
theorem c253 : Con.ok Tryz.prog TBL.gs 253 C253 := mkF_ok mixedZ TBL_ok FT.ok_nil CN.ok_nil (by kernel_rfl) (by kernel_rfl) (bodyOf_ok (by kernel_rfl)) e253
theorem c269 : Con.ok Tryz.prog TBL.gs 269 C269 := mkF_ok mixedZ TBL_ok FT.ok_nil CN.ok_nil (by kernel_rfl) (by kernel_rfl) (bodyOf_ok (by kernel_rfl)) e269
theorem c267 : Con.ok Tryz.prog TBL.gs 267 C267 := mkF_ok mixedZ TBL_ok FT.ok_nil (CN.ok_cons c269 CN.ok_nil) (by kernel_rfl) (by kernel_rfl) (bodyOf_ok (by kernel_rfl)) e267
theorem c254 : Con.ok Tryz.prog TBL.gs 254 C254 := mkF_ok mixedZ TBL_ok FT.ok_nil (CN.ok_cons c267 CN.ok_nil) (by kernel_rfl) (by kernel_rfl) (bodyOf_ok (by kernel_rfl)) e254
theorem c235 : Con.ok Tryz.prog TBL.gs 235 C235 := mkF_ok mixedZ TBL_ok FT.ok_nil (CN.ok_cons c171 (CN.ok_cons c253 (CN.ok_cons c254 CN.ok_nil))) (by kernel_rfl) (by kernel_rfl) (bodyOf_ok (by kernel_rfl)) e235
theorem c214 : Con.ok Tryz.prog TBL.gs 214 C214 := mkF_ok mixedZ TBL_ok FT.ok_nil (CN.ok_cons c235 (CN.ok_cons c201 CN.ok_nil)) (by kernel_rfl) (by kernel_rfl) (bodyOf_ok (by kernel_rfl)) e214
theorem c168 : Con.ok Tryz.prog TBL.gs 168 C168 := mkF_ok mixedZ TBL_ok (FT.ok_cons (by kernel_rfl) (by kernel_rfl) FT.ok_nil) (CN.ok_cons c201 (CN.ok_cons c214 CN.ok_nil)) (by kernel_rfl) (by kernel_rfl) (bodyOf_ok (by kernel_rfl)) e168
theorem c106 : Con.ok Tryz.prog TBL.gs 106 C106 := mkF_ok mixedZ TBL_ok FT.ok_nil (CN.ok_cons c168 CN.ok_nil) (by kernel_rfl) (by kernel_rfl) (bodyOf_ok (by kernel_rfl)) e106
theorem c42 : Con.ok Tryz.prog TBL.gs 42 C42 := mkF_ok mixedZ TBL_ok FT.ok_nil (CN.ok_cons c106 CN.ok_nil) (by kernel_rfl) (by kernel_rfl) (bodyOf_ok (by kernel_rfl)) e42
theorem c43 : Con.ok Tryz.prog TBL.gs 43 C43 := mkF_ok mixedZ TBL_ok FT.ok_nil CN.ok_nil (by kernel_rfl) (by kernel_rfl) (bodyOf_ok (by kernel_rfl)) e43
theorem c44 : Con.ok Tryz.prog TBL.gs 44 C44 := mkF_ok mixedZ TBL_ok FT.ok_nil CN.ok_nil (by kernel_rfl) (by kernel_rfl) (bodyOf_ok (by kernel_rfl)) e44
theorem c15 : Con.ok Tryz.prog TBL.gs 15 C15 := mkF_ok mixedZ TBL_ok FT.ok_nil (CN.ok_cons c42 (CN.ok_cons c43 (CN.ok_cons c44 CN.ok_nil))) (by kernel_rfl) (by kernel_rfl) (bodyOf_ok (by kernel_rfl)) e15
theorem c111 : Con.ok Tryz.prog TBL.gs 111 C111 := mkF_ok mixedZ TBL_ok FT.ok_nil CN.ok_nil (by kernel_rfl) (by kernel_rfl) (bodyOf_ok (by kernel_rfl)) e111
theorem c47 : Con.ok Tryz.prog TBL.gs 47 C47 := mkF_ok mixedZ TBL_ok (FT.ok_cons (by kernel_rfl) (by kernel_rfl) (FT.ok_cons (by kernel_rfl) (by kernel_rfl) (FT.ok_cons (by kernel_rfl) (by kernel_rfl) (FT.ok_cons (by kernel_rfl) (by kernel_rfl) (FT.ok_cons (by kernel_rfl) (by kernel_rfl) (FT.ok_cons (by kernel_rfl) (by kernel_rfl) (FT.ok_cons (by kernel_rfl) (by kernel_rfl) (FT.ok_cons (by kernel_rfl) (by kernel_rfl) (FT.ok_cons (by kernel_rfl) (by kernel_rfl) (FT.ok_cons (by kernel_rfl) (by kernel_rfl) FT.ok_nil)))))))))) (CN.ok_cons c111 CN.ok_nil) (by kernel_rfl) (by kernel_rfl) (bodyOf_ok (by kernel_rfl)) e47
theorem c48 : Con.ok Tryz.prog TBL.gs 48 C48 := mkF_ok mixedZ TBL_ok FT.ok_nil CN.ok_nil (by kernel_rfl) (by kernel_rfl) (bodyOf_ok (by kernel_rfl)) e48
theorem c49 : Con.ok Tryz.prog TBL.gs 49 C49 := mkF_ok mixedZ TBL_ok FT.ok_nil CN.ok_nil (by kernel_rfl) (by kernel_rfl) (bodyOf_ok (by kernel_rfl)) e49
theorem c50 : Con.ok Tryz.prog TBL.gs 50 C50 := mkF_ok mixedZ TBL_ok FT.ok_nil CN.ok_nil (by kernel_rfl) (by kernel_rfl) (bodyOf_ok (by kernel_rfl)) e50
theorem c18 : Con.ok Tryz.prog TBL.gs 18 C18 := mkF_ok mixedZ TBL_ok FT.ok_nil (CN.ok_cons c47 (CN.ok_cons c48 (CN.ok_cons c49 (CN.ok_cons c50 CN.ok_nil)))) (by kernel_rfl) (by kernel_rfl) (bodyOf_ok (by kernel_rfl)) e18
theorem c29 : Con.ok Tryz.prog TBL.gs 29 C29 := mkF_ok mixedZ TBL_ok FT.ok_nil (CN.ok_cons c15 (CN.ok_cons c18 CN.ok_nil)) (by kernel_rfl) (by kernel_rfl) (bodyOf_ok (by kernel_rfl)) e29
theorem c99 : Con.ok Tryz.prog TBL.gs 99 C99 := mkF_ok mixedZ TBL_ok FT.ok_nil CN.ok_nil (by kernel_rfl) (by kernel_rfl) (bodyOf_ok (by kernel_rfl)) e99
theorem c60 : Con.ok Tryz.prog TBL.gs 60 C60 := mkF_ok mixedZ TBL_ok FT.ok_nil (CN.ok_cons c99 CN.ok_nil) (by kernel_rfl) (by kernel_rfl) (bodyOf_ok (by kernel_rfl)) e60
theorem c64 : Con.ok Tryz.prog TBL.gs 64 C64 := mkF_ok mixedZ TBL_ok FT.ok_nil (CN.ok_cons c99 CN.ok_nil) (by kernel_rfl) (by kernel_rfl) (bodyOf_ok (by kernel_rfl)) e64
theorem c26 : Con.ok Tryz.prog TBL.gs 26 C26 := mkF_ok mixedZ TBL_ok (FT.ok_cons (by kernel_rfl) (by kernel_rfl) (FT.ok_cons (by kernel_rfl) (by kernel_rfl) (FT.ok_cons (by kernel_rfl) (by kernel_rfl) (FT.ok_cons (by kernel_rfl) (by kernel_rfl) (FT.ok_cons (by kernel_rfl) (by kernel_rfl) (FT.ok_cons (by kernel_rfl) (by kernel_rfl) (FT.ok_cons (by kernel_rfl) (by kernel_rfl) (FT.ok_cons (by kernel_rfl) (by kernel_rfl) (FT.ok_cons (by kernel_rfl) (by kernel_rfl) (FT.ok_cons (by kernel_rfl) (by kernel_rfl) (FT.ok_cons (by kernel_rfl) (by kernel_rfl) (FT.ok_cons (by kernel_rfl) (by kernel_rfl) (FT.ok_cons (by kernel_rfl) (by kernel_rfl) FT.ok_nil))))))))))))) (CN.ok_cons c29 (CN.ok_cons c60 (CN.ok_cons c64 CN.ok_nil))) (by kernel_rfl) (by kernel_rfl) (bodyOf_ok (by kernel_rfl)) e26
theorem c22 : Con.ok Tryz.prog TBL.gs 22 C22 := mkF_ok mixedZ TBL_ok FT.ok_nil (CN.ok_cons c56 (CN.ok_cons c26 CN.ok_nil)) (by kernel_rfl) (by kernel_rfl) (bodyOf_ok (by kernel_rfl)) e22
theorem c27 : Con.ok Tryz.prog TBL.gs 27 C27 := mkF_ok mixedZ TBL_ok FT.ok_nil CN.ok_nil (by kernel_rfl) (by kernel_rfl) (bodyOf_ok (by kernel_rfl)) e27
theorem c7 : Con.ok Tryz.prog TBL.gs 7 C7 := mkF_ok mixedZ TBL_ok FT.ok_nil (CN.ok_cons c22 (CN.ok_cons c27 (CN.ok_cons c26 CN.ok_nil))) (by kernel_rfl) (by kernel_rfl) (bodyOf_ok (by kernel_rfl)) e7
theorem c25 : Con.ok Tryz.prog TBL.gs 25 C25 := mkF_ok mixedZ TBL_ok FT.ok_nil CN.ok_nil (by kernel_rfl) (by kernel_rfl) (bodyOf_ok (by kernel_rfl)) e25
theorem c6 : Con.ok Tryz.prog TBL.gs 6 C6 := mkF_ok mixedZ TBL_ok FT.ok_nil (CN.ok_cons c22 (CN.ok_cons c26 CN.ok_nil)) (by kernel_rfl) (by kernel_rfl) (bodyOf_ok (by kernel_rfl)) e6
end Go.GX
namespace Go.GX
open Go.RowKit Go.SL
set_option linter.unusedVariables false
theorem T253 : Tot (F253 () ()) (fun r => r.1.1.length = 8) := Tot.s (by simp)
theorem T267 (x : (BitVec 32) × (Int) × Unit) : Tot (F267 x ()) (fun _ => True) :=
  Tot.bnd (Q := fun _ => True) (Tot.s trivial) fun a _ => Tot.s trivial
theorem T254 (h : List (BitVec 32)) (m : List (BitVec 8)) (hh : h.length = 8) (hm : m.length = 64) : Tot (F254 (h, (m, ())) ()) (fun r => r.1.1.length = 8) := by
  refine Tot.count 64 (fun i v => v.1.1 = (i : Int) ∧ v.2.1.length = 64) ⟨rfl, by simp⟩ (by decide) ?_
  rintro i ⟨⟨t, ⟨⟩⟩, w, ⟨⟩⟩ hi ⟨ht, hw⟩ k hk
  dsimp only at ht hw ⊢
  subst ht
  refine Tot.brd (fun hlt => ?_) (fun hge => ?_)
  · have hi' : i < 64 := by omega
    refine Tot.brd (fun h16 => ?_) (fun h16 => ?_)
    · repeat' (first | refine Tot.gdE ?_ | refine Tot.gd (by (first | decide | omega | (simp (disch := omega) only [w64_id, few, few9, List.length_set, List.length_append, List.length_take, List.length_drop, List.length_replicate, List.length_cons, List.length_nil, Int.toNat_natCast]; done) | (simp (disch := omega) only [w64_id, few, few9, List.length_set, List.length_append, List.length_take, List.length_drop, List.length_replicate, List.length_cons, List.length_nil, Int.toNat_natCast]; omega) | (simp [few, few9] <;> omega))) ?_ | refine Tot.idx (by (first | decide | omega | (simp (disch := omega) only [w64_id, few, few9, List.length_set, List.length_append, List.length_take, List.length_drop, List.length_replicate, List.length_cons, List.length_nil, Int.toNat_natCast]; done) | (simp (disch := omega) only [w64_id, few, few9, List.length_set, List.length_append, List.length_take, List.length_drop, List.length_replicate, List.length_cons, List.length_nil, Int.toNat_natCast]; omega) | (simp [few, few9] <;> omega))) (fun _ _ => ?_))
      refine hk hi' _ ⟨?_, ?_⟩
      · dsimp only; (first | decide | omega | (simp (disch := omega) only [w64_id, few, few9, List.length_set, List.length_append, List.length_take, List.length_drop, List.length_replicate, List.length_cons, List.length_nil, Int.toNat_natCast]; done) | (simp (disch := omega) only [w64_id, few, few9, List.length_set, List.length_append, List.length_take, List.length_drop, List.length_replicate, List.length_cons, List.length_nil, Int.toNat_natCast]; omega) | (simp [few, few9] <;> omega))
      · dsimp only; (first | decide | omega | (simp (disch := omega) only [w64_id, few, few9, List.length_set, List.length_append, List.length_take, List.length_drop, List.length_replicate, List.length_cons, List.length_nil, Int.toNat_natCast]; done) | (simp (disch := omega) only [w64_id, few, few9, List.length_set, List.length_append, List.length_take, List.length_drop, List.length_replicate, List.length_cons, List.length_nil, Int.toNat_natCast]; omega) | (simp [few, few9] <;> omega))
    · repeat' (first | refine Tot.gdE ?_ | refine Tot.gd (by (first | decide | omega | (simp (disch := omega) only [w64_id, few, few9, List.length_set, List.length_append, List.length_take, List.length_drop, List.length_replicate, List.length_cons, List.length_nil, Int.toNat_natCast]; done) | (simp (disch := omega) only [w64_id, few, few9, List.length_set, List.length_append, List.length_take, List.length_drop, List.length_replicate, List.length_cons, List.length_nil, Int.toNat_natCast]; omega) | (simp [few, few9] <;> omega))) ?_ | refine Tot.idx (by (first | decide | omega | (simp (disch := omega) only [w64_id, few, few9, List.length_set, List.length_append, List.length_take, List.length_drop, List.length_replicate, List.length_cons, List.length_nil, Int.toNat_natCast]; done) | (simp (disch := omega) only [w64_id, few, few9, List.length_set, List.length_append, List.length_take, List.length_drop, List.length_replicate, List.length_cons, List.length_nil, Int.toNat_natCast]; omega) | (simp [few, few9] <;> omega))) (fun _ _ => ?_) | refine Tot.bnd (T267 _) (fun _ _ => ?_))
      refine hk hi' _ ⟨?_, ?_⟩
      · dsimp only; (first | decide | omega | (simp (disch := omega) only [w64_id, few, few9, List.length_set, List.length_append, List.length_take, List.length_drop, List.length_replicate, List.length_cons, List.length_nil, Int.toNat_natCast]; done) | (simp (disch := omega) only [w64_id, few, few9, List.length_set, List.length_append, List.length_take, List.length_drop, List.length_replicate, List.length_cons, List.length_nil, Int.toNat_natCast]; omega) | (simp [few, few9] <;> omega))
      · dsimp only; (first | decide | omega | (simp (disch := omega) only [w64_id, few, few9, List.length_set, List.length_append, List.length_take, List.length_drop, List.length_replicate, List.length_cons, List.length_nil, Int.toNat_natCast]; done) | (simp (disch := omega) only [w64_id, few, few9, List.length_set, List.length_append, List.length_take, List.length_drop, List.length_replicate, List.length_cons, List.length_nil, Int.toNat_natCast]; omega) | (simp [few, few9] <;> omega))
  · repeat' (first | refine Tot.gdE ?_ | refine Tot.gd (by (first | decide | omega | (simp (disch := omega) only [w64_id, few, few9, List.length_set, List.length_append, List.length_take, List.length_drop, List.length_replicate, List.length_cons, List.length_nil, Int.toNat_natCast]; done) | (simp (disch := omega) only [w64_id, few, few9, List.length_set, List.length_append, List.length_take, List.length_drop, List.length_replicate, List.length_cons, List.length_nil, Int.toNat_natCast]; omega) | (simp [few, few9] <;> omega))) ?_ | refine Tot.idx (by (first | decide | omega | (simp (disch := omega) only [w64_id, few, few9, List.length_set, List.length_append, List.length_take, List.length_drop, List.length_replicate, List.length_cons, List.length_nil, Int.toNat_natCast]; done) | (simp (disch := omega) only [w64_id, few, few9, List.length_set, List.length_append, List.length_take, List.length_drop, List.length_replicate, List.length_cons, List.length_nil, Int.toNat_natCast]; omega) | (simp [few, few9] <;> omega))) (fun _ _ => ?_))
    refine Tot.count 64 (fun i v => v.1.1 = (i : Int)) rfl (by decide) ?_
    rintro j ⟨⟨t, ra, rb, rc, rd, re, rf, rg, rz, ⟨⟩⟩, ⟨⟩⟩ hj ht k2 hk2
    dsimp only at ht ⊢
    subst ht
    refine Tot.brd (fun hlt => ?_) (fun hge2 => ?_)
    · have hj' : j < 64 := by omega
      have hsh : shaAdd.length = 64 := rfl
      repeat' (first | refine Tot.gdE ?_ | refine Tot.gd (by (first | decide | omega | (simp (disch := omega) only [w64_id, few, few9, List.length_set, List.length_append, List.length_take, List.length_drop, List.length_replicate, List.length_cons, List.length_nil, Int.toNat_natCast]; done) | (simp (disch := omega) only [w64_id, few, few9, List.length_set, List.length_append, List.length_take, List.length_drop, List.length_replicate, List.length_cons, List.length_nil, Int.toNat_natCast]; omega) | (simp [few, few9] <;> omega))) ?_ | refine Tot.idx (by (first | decide | omega | (simp (disch := omega) only [w64_id, few, few9, List.length_set, List.length_append, List.length_take, List.length_drop, List.length_replicate, List.length_cons, List.length_nil, Int.toNat_natCast]; done) | (simp (disch := omega) only [w64_id, few, few9, List.length_set, List.length_append, List.length_take, List.length_drop, List.length_replicate, List.length_cons, List.length_nil, Int.toNat_natCast]; omega) | (simp [few, few9] <;> omega))) (fun _ _ => ?_) | refine Tot.bnd (T267 _) (fun _ _ => ?_))
      refine hk2 hj' _ ?_
      dsimp only; (first | decide | omega | (simp (disch := omega) only [w64_id, few, few9, List.length_set, List.length_append, List.length_take, List.length_drop, List.length_replicate, List.length_cons, List.length_nil, Int.toNat_natCast]; done) | (simp (disch := omega) only [w64_id, few, few9, List.length_set, List.length_append, List.length_take, List.length_drop, List.length_replicate, List.length_cons, List.length_nil, Int.toNat_natCast]; omega) | (simp [few, few9] <;> omega))
    · refine Tot.count 8 (fun i v => v.1.1 = (i : Int) ∧ v.2.1.length = 8) ⟨rfl, hh⟩ (by decide) ?_
      rintro j2 ⟨⟨t, ⟨⟩⟩, h2, ⟨⟩⟩ hj2 ⟨ht, hh2⟩ k3 hk3
      dsimp only at ht hh2 ⊢
      subst ht
      refine Tot.brd (fun hlt => ?_) (fun hge3 => ?_)
      · repeat' (first | refine Tot.gdE ?_ | refine Tot.gd (by (first | decide | omega | (simp (disch := omega) only [w64_id, few, few9, List.length_set, List.length_append, List.length_take, List.length_drop, List.length_replicate, List.length_cons, List.length_nil, Int.toNat_natCast]; done) | (simp (disch := omega) only [w64_id, few, few9, List.length_set, List.length_append, List.length_take, List.length_drop, List.length_replicate, List.length_cons, List.length_nil, Int.toNat_natCast]; omega) | (simp [few, few9] <;> omega))) ?_ | refine Tot.idx (by (first | decide | omega | (simp (disch := omega) only [w64_id, few, few9, List.length_set, List.length_append, List.length_take, List.length_drop, List.length_replicate, List.length_cons, List.length_nil, Int.toNat_natCast]; done) | (simp (disch := omega) only [w64_id, few, few9, List.length_set, List.length_append, List.length_take, List.length_drop, List.length_replicate, List.length_cons, List.length_nil, Int.toNat_natCast]; omega) | (simp [few, few9] <;> omega))) (fun _ _ => ?_))
        refine hk3 (by omega) _ ⟨?_, ?_⟩
        · dsimp only; (first | decide | omega | (simp (disch := omega) only [w64_id, few, few9, List.length_set, List.length_append, List.length_take, List.length_drop, List.length_replicate, List.length_cons, List.length_nil, Int.toNat_natCast]; done) | (simp (disch := omega) only [w64_id, few, few9, List.length_set, List.length_append, List.length_take, List.length_drop, List.length_replicate, List.length_cons, List.length_nil, Int.toNat_natCast]; omega) | (simp [few, few9] <;> omega))
        · dsimp only; (first | decide | omega | (simp (disch := omega) only [w64_id, few, few9, List.length_set, List.length_append, List.length_take, List.length_drop, List.length_replicate, List.length_cons, List.length_nil, Int.toNat_natCast]; done) | (simp (disch := omega) only [w64_id, few, few9, List.length_set, List.length_append, List.length_take, List.length_drop, List.length_replicate, List.length_cons, List.length_nil, Int.toNat_natCast]; omega) | (simp [few, few9] <;> omega))
      · exact Tot.s hh2
theorem T171 (b : List (BitVec 8)) (h : b.length ≤ 4294967296) : Tot (F171 () (b, ())) (fun r => r.1.1 = b) := by
  refine Tot.nlq (Tot.gd (by simpa [few] using h) (Tot.s (by simp))) fun q => ?_
  have : b = [] := by simpa using q
  subst this
  rw [gd_t (by simp [few])]; rfl
theorem T201 (ls : List (List (BitVec 8))) (h1 : ls.length ≤ 10) (h2 : ∀ l ∈ ls, l.length ≤ 10000000) : Tot (F201 () (ls, ())) (fun r => r.1.1 = ls.flatten) := by
  have hsum : ∀ i, (ls.take i).flatten.length ≤ i * 10000000 := by
    intro i
    induction i generalizing ls with
    | zero => simp
    | succ i ih =>
      cases ls with
      | nil => simp
      | cons x ls =>
        simp only [List.take_succ_cons, List.flatten_cons, List.length_append]
        have := ih ls (by simp at h1; omega) (fun l hl => h2 l (by simp [hl]))
        have := h2 x (by simp)
        omega
  have hstep : ∀ i (hi : i < ls.length), (ls.take (i + 1)).flatten = (ls.take i).flatten ++ ls[i] := by
    intro i hi
    rw [List.take_add_one, List.getElem?_eq_getElem hi, List.flatten_append]
    simp only [Option.toList_some, List.flatten_cons, List.flatten_nil, List.append_nil]
  refine Tot.count ls.length (fun i v => v.1.1 = (i : Int) ∧ v.1.2.1 = ((ls.take i).flatten.length : Int)) ⟨rfl, by simp⟩ (by omega) ?_
  rintro i ⟨⟨t, n, ⟨⟩⟩, ⟨⟩⟩ hi ⟨ht, hn⟩ k hk
  dsimp only at ht hn ⊢
  subst ht; subst hn
  have hs := hsum i
  have hs' := hsum (i + 1)
  refine Tot.brd (fun hlt => ?_) (fun hge => ?_)
  · have hi' : i < ls.length := by omega
    refine Tot.gd (by omega) (Tot.idx (by simpa using hi') fun a ha => ?_)
    have hal : a.length ≤ 10000000 := h2 a (List.mem_of_getElem? ha)
    have ha' : ls[i] = a := by
      have : ls[i]? = some a := by simpa using ha
      rw [List.getElem?_eq_getElem hi'] at this; exact Option.some.inj this
    refine Tot.brd (fun hbad => ?_) (fun _ => ?_)
    · rw [w64_id (by omega) (by omega)] at hbad; omega
    · refine hk hi' _ ⟨?_, ?_⟩
      · dsimp only; (first | decide | omega | (simp (disch := omega) only [w64_id, few, few9, List.length_set, List.length_append, List.length_take, List.length_drop, List.length_replicate, List.length_cons, List.length_nil, Int.toNat_natCast]; done) | (simp (disch := omega) only [w64_id, few, few9, List.length_set, List.length_append, List.length_take, List.length_drop, List.length_replicate, List.length_cons, List.length_nil, Int.toNat_natCast]; omega) | (simp [few, few9] <;> omega))
      · dsimp only
        rw [hstep i hi', ha', List.length_append, w64_id (by omega) (by omega)]
        push_cast; rfl
  · have hie : i = ls.length := by omega
    subst hie
    rw [List.take_length] at hs ⊢
    have hloop : ∀ (xs : List (BitVec 8)), xs = [] → Tot (iter (fun (v9 : ((Int) × (List (BitVec 8)) × Unit) × Unit) => fun r10 => br (decide (v9.1.1 < (Nat.cast (List.length ls) : Int)))
 (gd (0 ≤ v9.1.1) <| bnd (ls[Int.toNat v9.1.1]?) fun a11 => gd (few (List.length v9.1.2.1) (List.length a11)) <| r10 ((Go.SL.w64 (v9.1.1 + 1), ((v9.1.2.1 ++ a11), ())), ()))
 (some ((v9.1.2.1, ()), ()))) ((0, (xs, ())), ())) (fun r : ((List (BitVec 8)) × Unit) × Unit => r.1.1 = ls.flatten) := by
      rintro xs rfl
      refine Tot.count ls.length (fun i v => v.1.1 = (i : Int) ∧ v.1.2.1 = (ls.take i).flatten) ⟨rfl, by simp⟩ (by omega) ?_
      rintro i ⟨⟨t, n, ⟨⟩⟩, ⟨⟩⟩ hi ⟨ht, hn⟩ k hk
      dsimp only at ht hn ⊢
      subst ht; subst hn
      have hs := hsum i
      refine Tot.brd (fun hlt => ?_) (fun hge => ?_)
      · have hi' : i < ls.length := by omega
        refine Tot.gd (by omega) (Tot.idx (by simpa using hi') fun a ha => ?_)
        have hal : a.length ≤ 10000000 := h2 a (List.mem_of_getElem? ha)
        have ha' : ls[i] = a := by
          have : ls[i]? = some a := by simpa using ha
          rw [List.getElem?_eq_getElem hi'] at this; exact Option.some.inj this
        refine Tot.gd (by unfold few; omega) (hk hi' _ ⟨?_, ?_⟩)
        · dsimp only; (first | decide | omega | (simp (disch := omega) only [w64_id, few, few9, List.length_set, List.length_append, List.length_take, List.length_drop, List.length_replicate, List.length_cons, List.length_nil, Int.toNat_natCast]; done) | (simp (disch := omega) only [w64_id, few, few9, List.length_set, List.length_append, List.length_take, List.length_drop, List.length_replicate, List.length_cons, List.length_nil, Int.toNat_natCast]; omega) | (simp [few, few9] <;> omega))
        · dsimp only; rw [hstep i hi', ha']
      · have hie : i = ls.length := by omega
        subst hie
        exact Tot.s (by rw [List.take_length])
    refine Tot.jn ?_
    refine Tot.brd (fun hbad => by omega) (fun _ => ?_)
    have hw : Go.SL.w64 ((ls.flatten.length : Int) - 0) = (ls.flatten.length : Int) := by rw [w64_id (by omega) (by omega)]; omega
    dsimp only
    rw [hw]
    refine Tot.brd (fun _ => ?_) (fun _ => ?_)
    · repeat' (first | refine Tot.gdE ?_ | refine Tot.gd (by (first | decide | omega | (simp (disch := omega) only [w64_id, few, few9, List.length_set, List.length_append, List.length_take, List.length_drop, List.length_replicate, List.length_cons, List.length_nil, Int.toNat_natCast]; done) | (simp (disch := omega) only [w64_id, few, few9, List.length_set, List.length_append, List.length_take, List.length_drop, List.length_replicate, List.length_cons, List.length_nil, Int.toNat_natCast]; omega) | (simp [few, few9] <;> omega))) ?_)
      exact hloop _ (by simp)
    · exact hloop _ rfl
theorem tm64 (j : Nat) : Int.tmod (j : Int) 64 = ((j % 64 : Nat) : Int) := rfl
theorem tm4 (j : Nat) : Int.tmod (j : Int) 4 = ((j % 4 : Nat) : Int) := rfl
theorem td4 (j : Nat) : Int.tdiv (j : Int) 4 = ((j / 4 : Nat) : Int) := rfl
theorem T235 (b : List (BitVec 8)) (h : b.length ≤ 100000000) : Tot (F235 () (b, ())) (fun r => r.1.1.length = 32) := by
  refine Tot.bnd (T171 b (by omega)) ?_
  rintro ⟨⟨x, ⟨⟩⟩, ⟨⟩⟩ hx
  dsimp only at hx ⊢
  subst hx
  have e1 : (Nat.cast (List.length (x ++ (128#8 :: []))) : Int) = x.length + 1 := by simp
  rw [e1, show (x.length + 1 : Int) = ((x.length + 1 : Nat) : Int) by push_cast; rfl, tm64]
  have hq := Nat.mod_lt (x.length + 1) (show 64 > 0 by decide)
  have e2 : Go.SL.w64 (120 - ((x.length + 1) % 64 : Nat)) = ((120 - (x.length + 1) % 64 : Nat) : Int) := by
    rw [w64_id (by omega) (by omega)]; omega
  rw [e2, tm64]
  have hp := Nat.mod_lt (120 - (x.length + 1) % 64) (show 64 > 0 by decide)
  generalize hpd : (120 - (x.length + 1) % 64) % 64 = pd at hp ⊢
  have hmod : (x.length + 1 + pd + 8) % 64 = 0 := by omega
  repeat' (first | refine Tot.gd (by (first | decide | omega | (simp (disch := omega) only [w64_id, few, few9, List.length_set, List.length_append, List.length_take, List.length_drop, List.length_replicate, List.length_cons, List.length_nil, Int.toNat_natCast]; done) | (simp (disch := omega) only [w64_id, few, few9, List.length_set, List.length_append, List.length_take, List.length_drop, List.length_replicate, List.length_cons, List.length_nil, Int.toNat_natCast]; omega) | (simp [few, few9] <;> omega))) ?_)
  refine Tot.count 8 (fun i v => v.1.1 = (i : Int) ∧ v.1.2.1.length = x.length + 1 + pd + i) ⟨rfl, by simp; omega⟩ (by decide) ?_
  rintro i ⟨⟨t, m, ⟨⟩⟩, ⟨⟩⟩ hi ⟨ht, hm⟩ k hk
  dsimp only at ht hm ⊢
  subst ht
  refine Tot.brd (fun hlt => ?_) (fun hge => ?_)
  · repeat' (first | refine Tot.gdE ?_ | refine Tot.gd (by (first | decide | omega | (simp (disch := omega) only [w64_id, few, few9, List.length_set, List.length_append, List.length_take, List.length_drop, List.length_replicate, List.length_cons, List.length_nil, Int.toNat_natCast]; done) | (simp (disch := omega) only [w64_id, few, few9, List.length_set, List.length_append, List.length_take, List.length_drop, List.length_replicate, List.length_cons, List.length_nil, Int.toNat_natCast]; omega) | (simp [few, few9] <;> omega))) ?_)
    refine hk (by omega) _ ⟨?_, ?_⟩
    · dsimp only; (first | decide | omega | (simp (disch := omega) only [w64_id, few, few9, List.length_set, List.length_append, List.length_take, List.length_drop, List.length_replicate, List.length_cons, List.length_nil, Int.toNat_natCast]; done) | (simp (disch := omega) only [w64_id, few, few9, List.length_set, List.length_append, List.length_take, List.length_drop, List.length_replicate, List.length_cons, List.length_nil, Int.toNat_natCast]; omega) | (simp [few, few9] <;> omega))
    · dsimp only; simp; omega
  · have hi8 : i = 8 := by omega
    subst hi8
    refine Tot.bnd T253 fun h0 hh0 => ?_
    refine Tot.iter (fun n v => v.1.1.length = 64 * n ∧ v.2.1.length = 8) ((x.length + 1 + pd + 8) / 64) ⟨by dsimp only; omega, hh0⟩ (by omega) ?_
    rintro n ⟨⟨m2, ⟨⟩⟩, h2, ⟨⟩⟩ ⟨hm2, hh2⟩ k2 hk2
    dsimp only at hm2 hh2 ⊢
    refine Tot.brd (fun hlt => ?_) (fun hge => ?_)
    · refine Tot.gd (by omega) ?_
      refine Tot.bnd (T254 h2 (List.take 64 m2) hh2 (by rw [List.length_take]; omega)) fun r hr => ?_
      repeat' (first | refine Tot.gdE ?_ | refine Tot.gd (by first | decide | omega) ?_)
      refine hk2 (n - 1) _ (by omega) ⟨?_, hr⟩
      dsimp only
      rw [List.length_drop, List.length_take]; omega
    · refine Tot.count 32 (fun i v => v.1.1 = (i : Int) ∧ v.2.1.length = 32) ⟨rfl, by simp⟩ (by decide) ?_
      rintro j ⟨⟨t, ⟨⟩⟩, o, ⟨⟩⟩ hj ⟨ht, ho⟩ k3 hk3
      dsimp only at ht ho ⊢
      subst ht
      refine Tot.brd (fun hlt => ?_) (fun hge3 => ?_)
      · have d1 := td4 j
        have d2 := tm4 j
        rw [d1, d2]
        repeat' (first | refine Tot.gdE ?_ | refine Tot.gd (by (first | decide | omega | (simp (disch := omega) only [w64_id, few, few9, List.length_set, List.length_append, List.length_take, List.length_drop, List.length_replicate, List.length_cons, List.length_nil, Int.toNat_natCast]; done) | (simp (disch := omega) only [w64_id, few, few9, List.length_set, List.length_append, List.length_take, List.length_drop, List.length_replicate, List.length_cons, List.length_nil, Int.toNat_natCast]; omega) | (simp [few, few9] <;> omega))) ?_ | refine Tot.idx (by (first | decide | omega | (simp (disch := omega) only [w64_id, few, few9, List.length_set, List.length_append, List.length_take, List.length_drop, List.length_replicate, List.length_cons, List.length_nil, Int.toNat_natCast]; done) | (simp (disch := omega) only [w64_id, few, few9, List.length_set, List.length_append, List.length_take, List.length_drop, List.length_replicate, List.length_cons, List.length_nil, Int.toNat_natCast]; omega) | (simp [few, few9] <;> omega))) (fun _ _ => ?_))
        refine hk3 (by omega) _ ⟨?_, ?_⟩
        · dsimp only; (first | decide | omega | (simp (disch := omega) only [w64_id, few, few9, List.length_set, List.length_append, List.length_take, List.length_drop, List.length_replicate, List.length_cons, List.length_nil, Int.toNat_natCast]; done) | (simp (disch := omega) only [w64_id, few, few9, List.length_set, List.length_append, List.length_take, List.length_drop, List.length_replicate, List.length_cons, List.length_nil, Int.toNat_natCast]; omega) | (simp [few, few9] <;> omega))
        · dsimp only; (first | decide | omega | (simp (disch := omega) only [w64_id, few, few9, List.length_set, List.length_append, List.length_take, List.length_drop, List.length_replicate, List.length_cons, List.length_nil, Int.toNat_natCast]; done) | (simp (disch := omega) only [w64_id, few, few9, List.length_set, List.length_append, List.length_take, List.length_drop, List.length_replicate, List.length_cons, List.length_nil, Int.toNat_natCast]; omega) | (simp [few, few9] <;> omega))
      · exact Tot.s ho
theorem T214 (k b : List (BitVec 8)) (hk : k.length ≤ 64) (h : b.length ≤ 9000000) : Tot (F214 () (k, (b, ()))) (fun r => r.1.1.length = 32) := by
  refine Tot.jn ?_
  refine Tot.brd (fun hb => by dsimp only at hb; omega) (fun _ => ?_)
  refine Tot.gdE ?_
  dsimp only
  repeat' (first | refine Tot.gd (by decide) ?_)
  have hov : (ovl (List.replicate 64 0#8) 0 (List.take 64 k)).length = 64 := by rw [ovl_len] <;> simp <;> omega
  refine Tot.count 64 (fun i v => v.1.1 = (i : Int) ∧ v.2.1.length = 64 ∧ v.2.2.1.length = 64) ⟨rfl, hov, hov⟩ (by decide) ?_
  rintro i ⟨⟨t, ⟨⟩⟩, u, w, ⟨⟩⟩ hi ⟨ht, hu, hw⟩ k2 hk2
  dsimp only at ht hu hw ⊢
  subst ht
  refine Tot.brd (fun hlt => ?_) (fun hge => ?_)
  · repeat' (first | refine Tot.gdE ?_ | refine Tot.gd (by (first | decide | omega | (simp (disch := omega) only [w64_id, few, few9, List.length_set, List.length_append, List.length_take, List.length_drop, List.length_replicate, List.length_cons, List.length_nil, Int.toNat_natCast]; done) | (simp (disch := omega) only [w64_id, few, few9, List.length_set, List.length_append, List.length_take, List.length_drop, List.length_replicate, List.length_cons, List.length_nil, Int.toNat_natCast]; omega) | (simp [few, few9] <;> omega))) ?_ | refine Tot.idx (by (first | decide | omega | (simp (disch := omega) only [w64_id, few, few9, List.length_set, List.length_append, List.length_take, List.length_drop, List.length_replicate, List.length_cons, List.length_nil, Int.toNat_natCast]; done) | (simp (disch := omega) only [w64_id, few, few9, List.length_set, List.length_append, List.length_take, List.length_drop, List.length_replicate, List.length_cons, List.length_nil, Int.toNat_natCast]; omega) | (simp [few, few9] <;> omega))) (fun _ _ => ?_))
    refine hk2 (by omega) _ ⟨?_, ?_, ?_⟩
    · dsimp only; (first | decide | omega | (simp (disch := omega) only [w64_id, few, few9, List.length_set, List.length_append, List.length_take, List.length_drop, List.length_replicate, List.length_cons, List.length_nil, Int.toNat_natCast]; done) | (simp (disch := omega) only [w64_id, few, few9, List.length_set, List.length_append, List.length_take, List.length_drop, List.length_replicate, List.length_cons, List.length_nil, Int.toNat_natCast]; omega) | (simp [few, few9] <;> omega))
    · dsimp only; (first | decide | omega | (simp (disch := omega) only [w64_id, few, few9, List.length_set, List.length_append, List.length_take, List.length_drop, List.length_replicate, List.length_cons, List.length_nil, Int.toNat_natCast]; done) | (simp (disch := omega) only [w64_id, few, few9, List.length_set, List.length_append, List.length_take, List.length_drop, List.length_replicate, List.length_cons, List.length_nil, Int.toNat_natCast]; omega) | (simp [few, few9] <;> omega))
    · dsimp only; (first | decide | omega | (simp (disch := omega) only [w64_id, few, few9, List.length_set, List.length_append, List.length_take, List.length_drop, List.length_replicate, List.length_cons, List.length_nil, Int.toNat_natCast]; done) | (simp (disch := omega) only [w64_id, few, few9, List.length_set, List.length_append, List.length_take, List.length_drop, List.length_replicate, List.length_cons, List.length_nil, Int.toNat_natCast]; omega) | (simp [few, few9] <;> omega))
  · repeat' (first | refine Tot.gd (by (first | decide | omega | (simp (disch := omega) only [w64_id, few, few9, List.length_set, List.length_append, List.length_take, List.length_drop, List.length_replicate, List.length_cons, List.length_nil, Int.toNat_natCast]; done) | (simp (disch := omega) only [w64_id, few, few9, List.length_set, List.length_append, List.length_take, List.length_drop, List.length_replicate, List.length_cons, List.length_nil, Int.toNat_natCast]; omega) | (simp [few, few9] <;> omega))) ?_)
    refine Tot.bnd (T201 _ (by simp) (by simp; omega)) fun r1 hr1 => ?_
    refine Tot.bnd (T235 r1.1.1 (by rw [hr1]; simp; omega)) fun r2 hr2 => ?_
    repeat' (first | refine Tot.gd (by (first | decide | omega | (simp (disch := omega) only [w64_id, few, few9, List.length_set, List.length_append, List.length_take, List.length_drop, List.length_replicate, List.length_cons, List.length_nil, Int.toNat_natCast]; done) | (simp (disch := omega) only [w64_id, few, few9, List.length_set, List.length_append, List.length_take, List.length_drop, List.length_replicate, List.length_cons, List.length_nil, Int.toNat_natCast]; omega) | (simp [few, few9] <;> omega))) ?_)
    refine Tot.bnd (T201 _ (by simp) (by simp; omega)) fun r3 hr3 => ?_
    refine Tot.bnd (T235 r3.1.1 (by rw [hr3]; simp; omega)) fun r4 hr4 => ?_
    exact Tot.s hr4
theorem T168 (k v b : List (BitVec 8)) (c : Int) (hk : k.length = 32) (hv : v.length = 32) (hb : b.length ≤ 1000000) : Tot (F168 ((k, (v, (c, ()))), ()) (b, ())) (fun r => r.2.1.1.length = 32 ∧ r.2.1.2.1.length = 32) := by
  unfold F168
  dsimp only
  repeat' (first | refine Tot.gd (by (first | decide | omega | (simp (disch := omega) only [w64_id, few, few9, List.length_set, List.length_append, List.length_take, List.length_drop, List.length_replicate, List.length_cons, List.length_nil, Int.toNat_natCast]; done) | (simp (disch := omega) only [w64_id, few, few9, List.length_set, List.length_append, List.length_take, List.length_drop, List.length_replicate, List.length_cons, List.length_nil, Int.toNat_natCast]; omega) | (simp [few, few9] <;> omega))) ?_)
  refine Tot.bnd (T201 _ (by simp) (by simp; omega)) fun r1 hr1 => ?_
  repeat' (first | refine Tot.gd (by (first | decide | omega | (simp (disch := omega) only [w64_id, few, few9, List.length_set, List.length_append, List.length_take, List.length_drop, List.length_replicate, List.length_cons, List.length_nil, Int.toNat_natCast]; done) | (simp (disch := omega) only [w64_id, few, few9, List.length_set, List.length_append, List.length_take, List.length_drop, List.length_replicate, List.length_cons, List.length_nil, Int.toNat_natCast]; omega) | (simp [few, few9] <;> omega))) ?_)
  refine Tot.bnd (T214 _ _ (by rw [List.length_take]; omega) (by rw [hr1]; simp; omega)) fun r2 hr2 => ?_
  repeat' (first | refine Tot.gd (by (first | decide | omega | (simp (disch := omega) only [w64_id, few, few9, List.length_set, List.length_append, List.length_take, List.length_drop, List.length_replicate, List.length_cons, List.length_nil, Int.toNat_natCast]; done) | (simp (disch := omega) only [w64_id, few, few9, List.length_set, List.length_append, List.length_take, List.length_drop, List.length_replicate, List.length_cons, List.length_nil, Int.toNat_natCast]; omega) | (simp [few, few9] <;> omega))) ?_)
  refine Tot.bnd (T201 _ (by simp) (by simp; omega)) fun r3 hr3 => ?_
  repeat' (first | refine Tot.gd (by (first | decide | omega | (simp (disch := omega) only [w64_id, few, few9, List.length_set, List.length_append, List.length_take, List.length_drop, List.length_replicate, List.length_cons, List.length_nil, Int.toNat_natCast]; done) | (simp (disch := omega) only [w64_id, few, few9, List.length_set, List.length_append, List.length_take, List.length_drop, List.length_replicate, List.length_cons, List.length_nil, Int.toNat_natCast]; omega) | (simp [few, few9] <;> omega))) ?_)
  refine Tot.bnd (T214 _ _ (by rw [List.length_take]; omega) (by rw [hr3]; simp; omega)) fun r4 hr4 => ?_
  refine Tot.brd (fun _ => ?_) (fun _ => Tot.s ⟨hr2, hr4⟩)
  repeat' (first | refine Tot.gd (by (first | decide | omega | (simp (disch := omega) only [w64_id, few, few9, List.length_set, List.length_append, List.length_take, List.length_drop, List.length_replicate, List.length_cons, List.length_nil, Int.toNat_natCast]; done) | (simp (disch := omega) only [w64_id, few, few9, List.length_set, List.length_append, List.length_take, List.length_drop, List.length_replicate, List.length_cons, List.length_nil, Int.toNat_natCast]; omega) | (simp [few, few9] <;> omega))) ?_)
  refine Tot.bnd (T201 _ (by simp) (by simp; omega)) fun r5 hr5 => ?_
  repeat' (first | refine Tot.gd (by (first | decide | omega | (simp (disch := omega) only [w64_id, few, few9, List.length_set, List.length_append, List.length_take, List.length_drop, List.length_replicate, List.length_cons, List.length_nil, Int.toNat_natCast]; done) | (simp (disch := omega) only [w64_id, few, few9, List.length_set, List.length_append, List.length_take, List.length_drop, List.length_replicate, List.length_cons, List.length_nil, Int.toNat_natCast]; omega) | (simp [few, few9] <;> omega))) ?_)
  refine Tot.bnd (T214 _ _ (by rw [List.length_take]; omega) (by rw [hr5]; simp; omega)) fun r6 hr6 => ?_
  repeat' (first | refine Tot.gd (by (first | decide | omega | (simp (disch := omega) only [w64_id, few, few9, List.length_set, List.length_append, List.length_take, List.length_drop, List.length_replicate, List.length_cons, List.length_nil, Int.toNat_natCast]; done) | (simp (disch := omega) only [w64_id, few, few9, List.length_set, List.length_append, List.length_take, List.length_drop, List.length_replicate, List.length_cons, List.length_nil, Int.toNat_natCast]; omega) | (simp [few, few9] <;> omega))) ?_)
  refine Tot.bnd (T201 _ (by simp) (by simp; omega)) fun r7 hr7 => ?_
  repeat' (first | refine Tot.gd (by (first | decide | omega | (simp (disch := omega) only [w64_id, few, few9, List.length_set, List.length_append, List.length_take, List.length_drop, List.length_replicate, List.length_cons, List.length_nil, Int.toNat_natCast]; done) | (simp (disch := omega) only [w64_id, few, few9, List.length_set, List.length_append, List.length_take, List.length_drop, List.length_replicate, List.length_cons, List.length_nil, Int.toNat_natCast]; omega) | (simp [few, few9] <;> omega))) ?_)
  refine Tot.bnd (T214 _ _ (by rw [List.length_take]; omega) (by rw [hr7]; simp; omega)) fun r8 hr8 => ?_
  exact Tot.s ⟨hr6, hr8⟩
theorem T106 (k v b : List (BitVec 8)) (c : Int) (hk : k.length = 32) (hv : v.length = 32) (hb : b.length ≤ 1000000) : Tot (F106 ((k, (v, (c, ()))), ()) (b, ())) (fun r => r.2.1.1.length = 32 ∧ r.2.1.2.1.length = 32) := by
  unfold F106
  exact Tot.bnd (T168 k v b c hk hv hb) fun r hr => Tot.s hr
theorem T42 (b : List (BitVec 8)) (hb : b.length ≤ 1000000) : Tot (F42 () (b, ())) (fun r => r.1.1.1.length = 32 ∧ r.1.1.2.1.length = 32) := by
  refine Tot.count 32 (fun i v => v.1.1 = (i : Int) ∧ v.2.1.1.length = 32 ∧ v.2.1.2.1.length = 32) ⟨rfl, by simp, by simp⟩ (by decide) ?_
  rintro i ⟨⟨t, ⟨⟩⟩, ⟨k0, v0, c0, ⟨⟩⟩, ⟨⟩⟩ hi ⟨ht, hk0, hv0⟩ k hk
  dsimp only at ht hk0 hv0 ⊢
  subst ht
  refine Tot.brd (fun hlt => ?_) (fun hge => ?_)
  · repeat' (first | refine Tot.gd (by (first | decide | omega | (simp (disch := omega) only [w64_id, few, few9, List.length_set, List.length_append, List.length_take, List.length_drop, List.length_replicate, List.length_cons, List.length_nil, Int.toNat_natCast]; done) | (simp (disch := omega) only [w64_id, few, few9, List.length_set, List.length_append, List.length_take, List.length_drop, List.length_replicate, List.length_cons, List.length_nil, Int.toNat_natCast]; omega) | (simp [few, few9] <;> omega))) ?_)
    refine hk (by omega) _ ⟨?_, ?_, ?_⟩
    · dsimp only; (first | decide | omega | (simp (disch := omega) only [w64_id, few, few9, List.length_set, List.length_append, List.length_take, List.length_drop, List.length_replicate, List.length_cons, List.length_nil, Int.toNat_natCast]; done) | (simp (disch := omega) only [w64_id, few, few9, List.length_set, List.length_append, List.length_take, List.length_drop, List.length_replicate, List.length_cons, List.length_nil, Int.toNat_natCast]; omega) | (simp [few, few9] <;> omega))
    · exact hk0
    · dsimp only; (first | decide | omega | (simp (disch := omega) only [w64_id, few, few9, List.length_set, List.length_append, List.length_take, List.length_drop, List.length_replicate, List.length_cons, List.length_nil, Int.toNat_natCast]; done) | (simp (disch := omega) only [w64_id, few, few9, List.length_set, List.length_append, List.length_take, List.length_drop, List.length_replicate, List.length_cons, List.length_nil, Int.toNat_natCast]; omega) | (simp [few, few9] <;> omega))
  · exact Tot.bnd (T106 k0 v0 b c0 hk0 hv0 hb) fun r hr => Tot.s hr
theorem T15 (b : List (BitVec 8)) (hb : b.length ≤ 1000000) : Tot (F15 () (b, ())) (fun r => r.1.1.2.2.1 = ([], (1, ()))) := by
  unfold F15
  refine Tot.bnd (T42 b hb) fun r _ => ?_
  refine Tot.bnd (Q := fun _ => True) (Tot.s trivial) fun r _ => ?_
  refine Tot.bnd (Q := fun r => r.1.1 = ([], (1, ()))) (Tot.s rfl) fun r hr => ?_
  exact Tot.s hr
end Go.GX
namespace Go.GX
open Go.RowKit Go.SL
set_option linter.unusedVariables false
abbrev Cmd := Int × Int × Int × Int × Int × List (BitVec 8) × List (BitVec 8) × Unit
abbrev Rep := Int × Int × Int × List (BitVec 8) × Unit
abbrev App := Int × Cmd × Rep × Unit
abbrev Cal := Int × Int × Int × Int × Int × Cmd × Bool × Rep × Unit
abbrev Flt := Int × Int × Unit
def repEq (a b : Rep) : Bool := a.1 == b.1 && (a.2.1 == b.2.1 && (a.2.2.1 == b.2.2.1 && a.2.2.2.1 == b.2.2.2.1))
def cmdEq (a b : Cmd) : Bool := a.1 == b.1 && (a.2.1 == b.2.1 && (a.2.2.1 == b.2.2.1 && (a.2.2.2.1 == b.2.2.2.1 && (a.2.2.2.2.1 == b.2.2.2.2.1 && (a.2.2.2.2.2.1 == b.2.2.2.2.2.1 && a.2.2.2.2.2.2.1 == b.2.2.2.2.2.2.1)))))
theorem T99 (a b : List (BitVec 8)) : F99 () (a, (b, ())) = some (((a == b), ()), ()) := rfl
theorem T60 (a b : Rep) : F60 () (a, (b, ())) = some ((repEq a b, ()), ()) := by
  unfold F60 repEq
  dsimp only
  simp only [T99, bnd_s]
  cases a.1 == b.1 <;> cases a.2.1 == b.2.1 <;> cases a.2.2.1 == b.2.2.1 <;> simp
theorem T64 (a b : Cmd) : F64 () (a, (b, ())) = some ((cmdEq a b, ()), ()) := by
  unfold F64 cmdEq
  dsimp only
  simp only [T99, bnd_s]
  cases a.1 == b.1 <;> cases a.2.1 == b.2.1 <;> cases a.2.2.1 == b.2.2.1 <;> cases a.2.2.2.1 == b.2.2.2.1 <;> cases a.2.2.2.2.1 == b.2.2.2.2.1 <;> cases a.2.2.2.2.2.1 == b.2.2.2.2.2.1 <;> simp
/-- the faults of a rule -/
def flts (rule : Int) (n : Nat) (bad : Nat → Bool) : List Flt := (List.range n).filterMap fun i => if bad i then some ((i : Int), (rule, ())) else none
theorem flts_s (rule : Int) (n : Nat) (bad : Nat → Bool) : flts rule (n + 1) bad = flts rule n bad ++ (if bad n then [((n : Int), (rule, ()))] else []) := by
  unfold flts
  rw [List.range_succ, List.filterMap_append]
  cases hb : bad n <;> simp [hb]
theorem flts_len (rule : Int) (n : Nat) (bad : Nat → Bool) : (flts rule n bad).length ≤ n := by
  unfold flts
  exact Nat.le_trans (List.length_filterMap_le _ _) (by simp)
def bad1 (l : List App) (i : Nat) : Bool := match l[i]? with
  | some a => decide (a.1 ≤ if i = 0 then 0 else ((l[i - 1]?).map (·.1)).getD 0)
  | none => false
def bad2 (l : List App) (t : List Rep) (i : Nat) : Bool := match l[i]?, t[i]? with
  | some a, some r => !repEq a.2.2.1 r
  | _, _ => false
def meets (x : Cal) (a : App) : Bool := a.1 == x.2.2.2.2.1 && (cmdEq a.2.1 x.2.2.2.2.2.1 && repEq a.2.2.1 x.2.2.2.2.2.2.2.1)
def bad3 (l : List App) (c : List Cal) (i : Nat) : Bool := match c[i]? with
  | some x => x.2.2.2.2.2.2.1 && !(l.any (meets x))
  | none => false
def bad4 (c : List Cal) (i : Nat) : Bool := match c[i]? with
  | some x => x.2.2.2.2.2.2.1 && (c.take i).any fun d => d.2.2.2.2.2.2.1 && d.2.2.2.2.1 == x.2.2.2.2.1
  | none => false
def bad5 (c : List Cal) (i : Nat) : Bool := match c[i]? with
  | some x => x.2.2.2.2.2.2.1 && c.any fun d => d.2.2.2.2.2.2.1 && (decide (d.2.2.1 > x.2.2.2.1) && decide (d.2.2.2.2.1 < x.2.2.2.2.1))
  | none => false
theorem any_s {α : Type} {l : List α} {i : Nat} {a : α} {p : α → Bool} (h : l[i]? = some a) : (l.take (i + 1)).any p = ((l.take i).any p || p a) := by
  rw [List.take_add_one, h, List.any_append]; simp
theorem any_of {α : Type} {l : List α} {i : Nat} {a : α} {p : α → Bool} (h : l[i]? = some a) (hp : p a = true) : l.any p = true := List.any_eq_true.2 ⟨a, List.mem_of_getElem? h, hp⟩
theorem gdE_T {β : Type} (x : Option β) : gdE True x = x := gdE_t trivial x
theorem T26 (b : List (BitVec 8)) (l : List App) (c : List Cal) (t : List Rep) (hl : l.length ≤ 1000) (hc : c.length ≤ 1000) (ht : t.length = l.length) (h29 : Tot (F29 () (b, (l, ()))) (fun r => r.1.1 = t)) (R : (List Flt × Unit) × Unit → Prop)
    (hR : R ((flts 1 l.length (bad1 l) ++ flts 2 l.length (bad2 l t) ++ flts 3 c.length (bad3 l c) ++ flts 4 c.length (bad4 c) ++ flts 5 c.length (bad5 c), ()), ())) : Tot (F26 () (b, (l, (c, ())))) R := by
  unfold F26
  simp only [gdE_rfl, gdE_T]
  refine Tot.bnd h29 fun r29 hr29 => ?_
  refine Tot.count l.length (fun i v => v.1.1 = (i : Int) ∧ v.2.1 = flts 1 i (bad1 l)) ⟨rfl, rfl⟩ (by omega) ?_
  rintro i ⟨⟨x, ⟨⟩⟩, o, ⟨⟩⟩ hi ⟨hx, ho⟩ k hk
  dsimp only at hx ho ⊢
  subst hx; subst ho
  have hfl := flts_len 1 i (bad1 l)
  refine Tot.brd (fun hlt => ?_) (fun hge => ?_)
  · have hi' : i < l.length := by omega
    refine Tot.jn ?_
    have hgo : ∀ z : Int, (z = if i = 0 then 0 else ((l[i - 1]?).map (·.1)).getD 0) → Tot (gd (0 ≤ (i : Int)) <| bnd (l[Int.toNat (i : Int)]?) fun a6 => br (decide (a6.1 ≤ z))
      (gd (few (List.length (flts 1 i (bad1 l))) (List.length ((((i : Int), (1, ())) :: []) : List Flt))) <| k ((Go.SL.w64 ((i : Int) + 1), ()), ((flts 1 i (bad1 l) ++ (((i : Int), (1, ())) :: [])), ())))
      (k ((Go.SL.w64 ((i : Int) + 1), ()), (flts 1 i (bad1 l), ())))) R := by
      intro z hz
      refine Tot.gd (by omega) (Tot.idx (by simpa using hi') fun a ha => ?_)
      have ha' : l[i]? = some a := by simpa using ha
      refine Tot.brd (fun hle => ?_) (fun hle => ?_)
      · have hb : bad1 l i = true := by unfold bad1; rw [ha']; simp only [← hz, hle, decide_true]
        refine Tot.gd (by simp [few]; omega) (hk hi' _ ⟨?_, ?_⟩)
        · dsimp only; (first | decide | omega | (simp (disch := omega) only [w64_id, few, few9, List.length_set, List.length_append, List.length_take, List.length_drop, List.length_replicate, List.length_cons, List.length_nil, Int.toNat_natCast]; done) | (simp (disch := omega) only [w64_id, few, few9, List.length_set, List.length_append, List.length_take, List.length_drop, List.length_replicate, List.length_cons, List.length_nil, Int.toNat_natCast]; omega) | (simp [few, few9] <;> omega))
        · dsimp only; rw [flts_s, hb, if_pos rfl]
      · have hb : bad1 l i = false := by unfold bad1; rw [ha']; simp only [← hz, hle, decide_false]
        refine hk hi' _ ⟨?_, ?_⟩
        · dsimp only; (first | decide | omega | (simp (disch := omega) only [w64_id, few, few9, List.length_set, List.length_append, List.length_take, List.length_drop, List.length_replicate, List.length_cons, List.length_nil, Int.toNat_natCast]; done) | (simp (disch := omega) only [w64_id, few, few9, List.length_set, List.length_append, List.length_take, List.length_drop, List.length_replicate, List.length_cons, List.length_nil, Int.toNat_natCast]; omega) | (simp [few, few9] <;> omega))
        · dsimp only; rw [flts_s, hb]; simp
    refine Tot.brd (fun hp => ?_) (fun hp => ?_)
    · have hw : Int.toNat (Go.SL.w64 ((i : Int) - 1)) = i - 1 := by rw [w64_id (by omega) (by omega)]; omega
      refine Tot.gd (by rw [w64_id (by omega) (by omega)]; omega) ?_
      rw [hw]
      refine Tot.idx (show i - 1 < l.length by omega) fun a8 ha8 => hgo _ ?_
      rw [if_neg (by omega), ha8]; rfl
    · exact hgo _ (by rw [if_pos (by omega)])
  · have hie : i = l.length := by omega
    subst hie
    clear hge hi hk k
    generalize hP1 : flts 1 l.length (bad1 l) = P1 at hR hfl ⊢
    refine Tot.count l.length (fun i v => v.1.1 = (i : Int) ∧ v.2.1 = P1 ++ flts 2 i (bad2 l t)) ⟨rfl, by simp [flts]⟩ (by omega) ?_
    rintro i ⟨⟨x, ⟨⟩⟩, o, ⟨⟩⟩ hi ⟨hx, ho⟩ k hk
    dsimp only at hx ho ⊢
    subst hx; subst ho
    have hfl2 := flts_len 2 i (bad2 l t)
    refine Tot.brd (fun hlt => ?_) (fun hge => ?_)
    · have hi' : i < l.length := by omega
      refine Tot.gd (by omega) (Tot.idx (by simpa using hi') fun a ha => ?_)
      have ha' : l[i]? = some a := by simpa using ha
      refine Tot.gd (by omega) (Tot.idx (by rw [hr29, ht]; simpa using hi') fun a2 ha2 => ?_)
      have ha2' : t[i]? = some a2 := by rw [hr29] at ha2; simpa using ha2
      rw [T60, bnd_s]
      dsimp only
      have hb : bad2 l t i = !repEq a.2.2.1 a2 := by unfold bad2; rw [ha', ha2']
      refine Tot.br (fun q => ?_) (fun q => ?_)
      · refine Tot.gd (by simp [few]; omega) (hk hi' _ ⟨?_, ?_⟩)
        · dsimp only; (first | decide | omega | (simp (disch := omega) only [w64_id, few, few9, List.length_set, List.length_append, List.length_take, List.length_drop, List.length_replicate, List.length_cons, List.length_nil, Int.toNat_natCast]; done) | (simp (disch := omega) only [w64_id, few, few9, List.length_set, List.length_append, List.length_take, List.length_drop, List.length_replicate, List.length_cons, List.length_nil, Int.toNat_natCast]; omega) | (simp [few, few9] <;> omega))
        · dsimp only; rw [flts_s, hb, q, if_pos rfl, List.append_assoc]
      · refine hk hi' _ ⟨?_, ?_⟩
        · dsimp only; (first | decide | omega | (simp (disch := omega) only [w64_id, few, few9, List.length_set, List.length_append, List.length_take, List.length_drop, List.length_replicate, List.length_cons, List.length_nil, Int.toNat_natCast]; done) | (simp (disch := omega) only [w64_id, few, few9, List.length_set, List.length_append, List.length_take, List.length_drop, List.length_replicate, List.length_cons, List.length_nil, Int.toNat_natCast]; omega) | (simp [few, few9] <;> omega))
        · dsimp only; rw [flts_s, hb, q]; simp
    · have hie : i = l.length := by omega
      subst hie
      clear hge hi hk k
      generalize hP2 : P1 ++ flts 2 l.length (bad2 l t) = P2 at hR ⊢
      have hfl2' : P2.length ≤ 2 * l.length := by rw [← hP2, List.length_append]; omega
      refine Tot.count c.length (fun i v => v.1.1 = (i : Int) ∧ v.2.1 = P2 ++ flts 3 i (bad3 l c)) ⟨rfl, by simp [flts]⟩ (by omega) ?_
      rintro i ⟨⟨x, ⟨⟩⟩, o, ⟨⟩⟩ hi ⟨hx, ho⟩ k hk
      dsimp only at hx ho ⊢
      subst hx; subst ho
      have hfl3 := flts_len 3 i (bad3 l c)
      refine Tot.brd (fun hlt => ?_) (fun hge => ?_)
      · have hi' : i < c.length := by omega
        refine Tot.gd (by omega) (Tot.idx (by simpa using hi') fun a ha => ?_)
        have ha' : c[i]? = some a := by simpa using ha
        have hb : bad3 l c i = (a.2.2.2.2.2.2.1 && !(l.any (meets a))) := by unfold bad3; rw [ha']
        have hno : bad3 l c i = false → Tot (k ((Go.SL.w64 ((i : Int) + 1), ()), (P2 ++ flts 3 i (bad3 l c), ()))) R := fun q => by
          refine hk hi' _ ⟨?_, ?_⟩
          · dsimp only; (first | decide | omega | (simp (disch := omega) only [w64_id, few, few9, List.length_set, List.length_append, List.length_take, List.length_drop, List.length_replicate, List.length_cons, List.length_nil, Int.toNat_natCast]; done) | (simp (disch := omega) only [w64_id, few, few9, List.length_set, List.length_append, List.length_take, List.length_drop, List.length_replicate, List.length_cons, List.length_nil, Int.toNat_natCast]; omega) | (simp [few, few9] <;> omega))
          · dsimp only; rw [flts_s, q]; simp
        have hyes : bad3 l c i = true → Tot (gd (few (List.length (P2 ++ flts 3 i (bad3 l c))) (List.length ((((i : Int), (3, ())) :: []) : List Flt))) <| k ((Go.SL.w64 ((i : Int) + 1), ()), (((P2 ++ flts 3 i (bad3 l c)) ++ (((i : Int), (3, ())) :: [])), ()))) R := fun q => by
          refine Tot.gd (by simp [few]; omega) (hk hi' _ ⟨?_, ?_⟩)
          · dsimp only; (first | decide | omega | (simp (disch := omega) only [w64_id, few, few9, List.length_set, List.length_append, List.length_take, List.length_drop, List.length_replicate, List.length_cons, List.length_nil, Int.toNat_natCast]; done) | (simp (disch := omega) only [w64_id, few, few9, List.length_set, List.length_append, List.length_take, List.length_drop, List.length_replicate, List.length_cons, List.length_nil, Int.toNat_natCast]; omega) | (simp [few, few9] <;> omega))
          · dsimp only; rw [flts_s, q, if_pos rfl, List.append_assoc]
        refine Tot.br (fun q => ?_) (fun q => ?_)
        · refine Tot.count l.length (fun j v => v.1.1 = (j : Int) ∧ (l.take j).any (meets a) = false) ⟨rfl, by simp⟩ (by omega) ?_
          rintro j ⟨⟨y, ⟨⟩⟩, ⟨⟩⟩ hj ⟨hy, hany⟩ k2 hk2
          dsimp only at hy ⊢
          subst hy
          refine Tot.brd (fun hlt2 => ?_) (fun hge2 => ?_)
          · have hj' : j < l.length := by omega
            refine Tot.gd (by omega) (Tot.idx (by simpa using hj') fun d hd => ?_)
            have hd' : l[j]? = some d := by simpa using hd
            have hnext : meets a d = false → Tot (k2 ((Go.SL.w64 ((j : Int) + 1), ()), ())) R := fun q2 => by
              refine hk2 hj' _ ⟨?_, ?_⟩
              · dsimp only; (first | decide | omega | (simp (disch := omega) only [w64_id, few, few9, List.length_set, List.length_append, List.length_take, List.length_drop, List.length_replicate, List.length_cons, List.length_nil, Int.toNat_natCast]; done) | (simp (disch := omega) only [w64_id, few, few9, List.length_set, List.length_append, List.length_take, List.length_drop, List.length_replicate, List.length_cons, List.length_nil, Int.toNat_natCast]; omega) | (simp [few, few9] <;> omega))
              · rw [any_s hd', hany, q2]; rfl
            refine Tot.br (fun q1 => ?_) (fun q1 => hnext (by unfold meets; rw [q1]; rfl))
            rw [T64, bnd_s]
            dsimp only
            refine Tot.br (fun q2 => ?_) (fun q2 => hnext (by unfold meets; simp only [cond_true] at q2; rw [show cmdEq d.2.1 a.2.2.2.2.2.1 = false from q2]; simp))
            rw [T60, bnd_s]
            dsimp only
            refine Tot.br (fun q3 => ?_) (fun q3 => hnext (by unfold meets; simp only [cond_true] at q3; rw [show repEq d.2.2.1 a.2.2.2.2.2.2.2.1 = false from q3]; simp))
            have hm : meets a d = true := by unfold meets; rw [q1, show cmdEq d.2.1 a.2.2.2.2.2.1 = true from q2, show repEq d.2.2.1 a.2.2.2.2.2.2.2.1 = true from q3]; rfl
            refine Tot.br (fun q4 => by simp at q4) (fun q4 => ?_)
            exact hno (by rw [hb, any_of hd' hm]; simp)
          · have hje : j = l.length := by omega
            subst hje
            rw [List.take_length] at hany
            rw [br_t]
            exact hyes (by rw [hb, q, hany]; rfl)
        · exact hno (by rw [hb, q]; rfl)
      · have hie : i = c.length := by omega
        subst hie
        clear hge hi hk k
        generalize hP3 : P2 ++ flts 3 c.length (bad3 l c) = P3 at hR ⊢
        have hfl3' : P3.length ≤ 3000 := by rw [← hP3, List.length_append]; omega
        refine Tot.count c.length (fun i v => v.1.1 = (i : Int) ∧ v.2.1 = P3 ++ flts 4 i (bad4 c)) ⟨rfl, by simp [flts]⟩ (by omega) ?_
        rintro i ⟨⟨x, ⟨⟩⟩, o, ⟨⟩⟩ hi ⟨hx, ho⟩ k hk
        dsimp only at hx ho ⊢
        subst hx; subst ho
        have hfl4 := flts_len 4 i (bad4 c)
        refine Tot.brd (fun hlt => ?_) (fun hge => ?_)
        · have hi' : i < c.length := by omega
          refine Tot.gd (by omega) (Tot.idx (by simpa using hi') fun a ha => ?_)
          have ha' : c[i]? = some a := by simpa using ha
          have hb : bad4 c i = (a.2.2.2.2.2.2.1 && (c.take i).any fun d => d.2.2.2.2.2.2.1 && d.2.2.2.2.1 == a.2.2.2.2.1) := by unfold bad4; rw [ha']
          have hno : bad4 c i = false → Tot (k ((Go.SL.w64 ((i : Int) + 1), ()), (P3 ++ flts 4 i (bad4 c), ()))) R := fun q => by
            refine hk hi' _ ⟨?_, ?_⟩
            · dsimp only; (first | decide | omega | (simp (disch := omega) only [w64_id, few, few9, List.length_set, List.length_append, List.length_take, List.length_drop, List.length_replicate, List.length_cons, List.length_nil, Int.toNat_natCast]; done) | (simp (disch := omega) only [w64_id, few, few9, List.length_set, List.length_append, List.length_take, List.length_drop, List.length_replicate, List.length_cons, List.length_nil, Int.toNat_natCast]; omega) | (simp [few, few9] <;> omega))
            · dsimp only; rw [flts_s, q]; simp
          have hyes : bad4 c i = true → Tot (gd (few (List.length (P3 ++ flts 4 i (bad4 c))) (List.length ((((i : Int), (4, ())) :: []) : List Flt))) <| k ((Go.SL.w64 ((i : Int) + 1), ()), (((P3 ++ flts 4 i (bad4 c)) ++ (((i : Int), (4, ())) :: [])), ()))) R := fun q => by
            refine Tot.gd (by simp [few]; omega) (hk hi' _ ⟨?_, ?_⟩)
            · dsimp only; (first | decide | omega | (simp (disch := omega) only [w64_id, few, few9, List.length_set, List.length_append, List.length_take, List.length_drop, List.length_replicate, List.length_cons, List.length_nil, Int.toNat_natCast]; done) | (simp (disch := omega) only [w64_id, few, few9, List.length_set, List.length_append, List.length_take, List.length_drop, List.length_replicate, List.length_cons, List.length_nil, Int.toNat_natCast]; omega) | (simp [few, few9] <;> omega))
            · dsimp only; rw [flts_s, q, if_pos rfl, List.append_assoc]
          refine Tot.br (fun q => ?_) (fun q => hno (by rw [hb, q]; rfl))
          refine Tot.gd (by omega) (Tot.gd (by omega) (Tot.gd (by simpa using hi) ?_))
          have hdt : List.drop 0 (List.take (Int.toNat (i : Int)) c) = c.take i := by simp
          rw [hdt]
          refine Tot.count (c.take i).length (fun j v => v.1.1 = (j : Int) ∧ ((c.take i).take j).any (fun d => d.2.2.2.2.2.2.1 && d.2.2.2.2.1 == a.2.2.2.2.1) = false) ⟨rfl, by simp⟩ (by simp; omega) ?_
          rintro j ⟨⟨y, ⟨⟩⟩, ⟨⟩⟩ hj ⟨hy, hany⟩ k2 hk2
          dsimp only at hy ⊢
          subst hy
          refine Tot.brd (fun hlt2 => ?_) (fun hge2 => ?_)
          · have hj' : j < (c.take i).length := by omega
            refine Tot.gd (by omega) (Tot.idx (by simpa using hj') fun d hd => ?_)
            have hd' : (c.take i)[j]? = some d := by simpa using hd
            have hnext : (d.2.2.2.2.2.2.1 && d.2.2.2.2.1 == a.2.2.2.2.1) = false → Tot (k2 ((Go.SL.w64 ((j : Int) + 1), ()), ())) R := fun q2 => by
              refine hk2 hj' _ ⟨?_, ?_⟩
              · dsimp only
                have := List.length_take_le i c
                rw [w64_id (by omega) (by omega)]; omega
              · rw [any_s hd', hany, q2]; rfl
            refine Tot.br (fun q1 => ?_) (fun q1 => hnext (by rw [q1]; rfl))
            refine Tot.gd (by omega) (Tot.idx (by simpa using hi') fun a' ha2 => ?_)
            have : a' = a := by
              have : c[i]? = some a' := by simpa using ha2
              rw [ha'] at this; exact (Option.some.inj this).symm
            subst this
            refine Tot.br (fun q2 => ?_) (fun q2 => hnext (by rw [q1]; simpa using q2))
            refine Tot.br (fun q4 => ?_) (fun q4 => by simp at q4)
            exact hyes (by rw [hb, q, any_of hd' (by rw [q1]; simpa using q2)]; rfl)
          · have hje : j = (c.take i).length := by omega
            subst hje
            rw [List.take_length] at hany
            rw [br_f]
            exact hno (by rw [hb, q, hany]; rfl)
        · have hie : i = c.length := by omega
          subst hie
          clear hge hi hk k
          generalize hP4 : P3 ++ flts 4 c.length (bad4 c) = P4 at hR ⊢
          have hfl4' : P4.length ≤ 4000 := by rw [← hP4, List.length_append]; omega
          refine Tot.count c.length (fun i v => v.1.1 = (i : Int) ∧ v.2.1 = P4 ++ flts 5 i (bad5 c)) ⟨rfl, by simp [flts]⟩ (by omega) ?_
          rintro i ⟨⟨x, ⟨⟩⟩, o, ⟨⟩⟩ hi ⟨hx, ho⟩ k hk
          dsimp only at hx ho ⊢
          subst hx; subst ho
          have hfl5 := flts_len 5 i (bad5 c)
          refine Tot.brd (fun hlt => ?_) (fun hge => ?_)
          · have hi' : i < c.length := by omega
            refine Tot.gd (by omega) (Tot.idx (by simpa using hi') fun a ha => ?_)
            have ha' : c[i]? = some a := by simpa using ha
            have hb : bad5 c i = (a.2.2.2.2.2.2.1 && c.any fun d => d.2.2.2.2.2.2.1 && (decide (d.2.2.1 > a.2.2.2.1) && decide (d.2.2.2.2.1 < a.2.2.2.2.1))) := by unfold bad5; rw [ha']
            have hno : bad5 c i = false → Tot (k ((Go.SL.w64 ((i : Int) + 1), ()), (P4 ++ flts 5 i (bad5 c), ()))) R := fun q => by
              refine hk hi' _ ⟨?_, ?_⟩
              · dsimp only; (first | decide | omega | (simp (disch := omega) only [w64_id, few, few9, List.length_set, List.length_append, List.length_take, List.length_drop, List.length_replicate, List.length_cons, List.length_nil, Int.toNat_natCast]; done) | (simp (disch := omega) only [w64_id, few, few9, List.length_set, List.length_append, List.length_take, List.length_drop, List.length_replicate, List.length_cons, List.length_nil, Int.toNat_natCast]; omega) | (simp [few, few9] <;> omega))
              · dsimp only; rw [flts_s, q]; simp
            have hyes : bad5 c i = true → Tot (gd (few (List.length (P4 ++ flts 5 i (bad5 c))) (List.length ((((i : Int), (5, ())) :: []) : List Flt))) <| k ((Go.SL.w64 ((i : Int) + 1), ()), (((P4 ++ flts 5 i (bad5 c)) ++ (((i : Int), (5, ())) :: [])), ()))) R := fun q => by
              refine Tot.gd (by simp [few]; omega) (hk hi' _ ⟨?_, ?_⟩)
              · dsimp only; (first | decide | omega | (simp (disch := omega) only [w64_id, few, few9, List.length_set, List.length_append, List.length_take, List.length_drop, List.length_replicate, List.length_cons, List.length_nil, Int.toNat_natCast]; done) | (simp (disch := omega) only [w64_id, few, few9, List.length_set, List.length_append, List.length_take, List.length_drop, List.length_replicate, List.length_cons, List.length_nil, Int.toNat_natCast]; omega) | (simp [few, few9] <;> omega))
              · dsimp only; rw [flts_s, q, if_pos rfl, List.append_assoc]
            refine Tot.br (fun q => ?_) (fun q => hno (by rw [hb, q]; rfl))
            refine Tot.count c.length (fun j v => v.1.1 = (j : Int) ∧ (c.take j).any (fun d => d.2.2.2.2.2.2.1 && (decide (d.2.2.1 > a.2.2.2.1) && decide (d.2.2.2.2.1 < a.2.2.2.2.1))) = false) ⟨rfl, by simp⟩ (by omega) ?_
            rintro j ⟨⟨y, ⟨⟩⟩, ⟨⟩⟩ hj ⟨hy, hany⟩ k2 hk2
            dsimp only at hy ⊢
            subst hy
            refine Tot.brd (fun hlt2 => ?_) (fun hge2 => ?_)
            · have hj' : j < c.length := by omega
              refine Tot.gd (by omega) (Tot.idx (by simpa using hj') fun d hd => ?_)
              have hd' : c[j]? = some d := by simpa using hd
              have hnext : (d.2.2.2.2.2.2.1 && (decide (d.2.2.1 > a.2.2.2.1) && decide (d.2.2.2.2.1 < a.2.2.2.2.1))) = false → Tot (k2 ((Go.SL.w64 ((j : Int) + 1), ()), ())) R := fun q2 => by
                refine hk2 hj' _ ⟨?_, ?_⟩
                · dsimp only; (first | decide | omega | (simp (disch := omega) only [w64_id, few, few9, List.length_set, List.length_append, List.length_take, List.length_drop, List.length_replicate, List.length_cons, List.length_nil, Int.toNat_natCast]; done) | (simp (disch := omega) only [w64_id, few, few9, List.length_set, List.length_append, List.length_take, List.length_drop, List.length_replicate, List.length_cons, List.length_nil, Int.toNat_natCast]; omega) | (simp [few, few9] <;> omega))
                · rw [any_s hd', hany, q2]; rfl
              refine Tot.br (fun q1 => ?_) (fun q1 => hnext (by rw [q1]; rfl))
              refine Tot.br (fun q2 => ?_) (fun q2 => hnext (by simp only [cond_true] at q2; rw [q1, q2]; rfl))
              refine Tot.br (fun q3 => ?_) (fun q3 => hnext (by simp only [cond_true] at q3; rw [q3]; simp))
              refine Tot.br (fun q4 => ?_) (fun q4 => by simp at q4)
              exact hyes (by rw [hb, q, any_of hd' (by simp only [cond_true] at q2 q3; rw [q1, q2, q3]; rfl)]; rfl)
            · have hje : j = c.length := by omega
              subst hje
              rw [List.take_length] at hany
              rw [br_f]
              exact hno (by rw [hb, q, hany]; rfl)
          · have hie : i = c.length := by omega
            subst hie
            exact ⟨_, rfl, hR⟩
end Go.GX
namespace Go.GX
open Go.RowKit Go.SL
set_option linter.unusedVariables false
theorem T111 (a b c : Int) : F111 (a, (b, (c, ()))) () = some ((decide (a ≥ b) && decide (a ≤ c), ()), ()) := by
  unfold F111
  dsimp only
  cases decide (a ≥ b) <;> simp
def cmdO : Cmd := (1, (0, (0, (0, (0, ([], ([], ())))))))
def cmdE (id : Int) : Cmd := (2, (0, (0, (id, (0, ([], ([], ())))))))
def repN (n : Int) : Rep := (0, (n, (0, ([], ()))))
def repE : Rep := (150, (0, (0, ([], ()))))
theorem T47o : F47 () (cmdO, ()) = some ((0, ()), ()) := by
  unfold F47 cmdO
  simp [T111, gd_t, gdE_T, jn_e]
theorem T47e : F47 () (cmdE 5, ()) = some ((0, ()), ()) ∧ F47 () (cmdE 77, ()) = some ((0, ()), ()) := by
  unfold F47 cmdE
  constructor <;> simp [T111, gdE_T, jn_e]
theorem T48 (r : Rep) (e : Int) : F48 (r, (e, ())) () = some (((if e = 0 then r else (e, (0, (0, ([], ()))))), ()), ()) := by
  unfold F48
  by_cases h : e = 0
  · subst h; simp
  · rw [if_neg h, show (e != 0) = true from by simpa using h, br_t]
abbrev Tab := List (Int × Int × Int × (Int × Int × Int × List (BitVec 8) × Unit) × Unit) × Int × Unit
theorem T49 : Tot (F49 ((([], (1, ())) : Tab), ()) ()) (fun r => r.1.1 = 1 ∧ r.1.2.1 = 0) := by
  unfold F49
  refine Tot.brd (fun h => by simp at h) (fun _ => ?_)
  refine Tot.br (fun h => by simp at h) (fun _ => ?_)
  exact Tot.s ⟨rfl, rfl⟩
theorem T50 (id : Int) : F50 ((([], (1, ())) : Tab), (id, ())) () = some ((150, ()), ((([], (1, ())) : Tab), ())) := by
  unfold F50
  simp [mget]
theorem T18o (s : List (BitVec 8) × List (BitVec 8) × Int × Unit) (ks) : Tot (F18 ((s, (ks, ((([], (1, ())) : Tab), ()))), ()) (cmdO, ())) (fun r => r.1.1 = repN 1) := by
  have h47 : F47 () ((cmdO.1, (cmdO.2.1, (cmdO.2.2.1, (cmdO.2.2.2.1, (cmdO.2.2.2.2.1, (cmdO.2.2.2.2.2.1, (cmdO.2.2.2.2.2.2.1, ()))))))), ()) = some ((0, ()), ()) := T47o
  unfold F18
  dsimp only
  rw [h47, bnd_s]
  refine Tot.br (fun h => by simp at h) (fun _ => ?_)
  refine Tot.br (fun _ => ?_) (fun h => by simp [cmdO] at h)
  refine Tot.bnd T49 fun r hr => ?_
  rw [T48, bnd_s]
  refine Tot.s ?_
  dsimp only
  rw [hr.1, hr.2, if_pos rfl]; rfl
theorem T18e (id : Int) (h47' : F47 () (cmdE id, ()) = some ((0, ()), ())) (s : List (BitVec 8) × List (BitVec 8) × Int × Unit) (ks) : Tot (F18 ((s, (ks, ((([], (1, ())) : Tab), ()))), ()) (cmdE id, ())) (fun r => r.1.1 = repE ∧ r.2.1.2.2.1 = ([], (1, ()))) := by
  have h47 : F47 () (((cmdE id).1, ((cmdE id).2.1, ((cmdE id).2.2.1, ((cmdE id).2.2.2.1, ((cmdE id).2.2.2.2.1, ((cmdE id).2.2.2.2.2.1, ((cmdE id).2.2.2.2.2.2.1, ()))))))), ()) = some ((0, ()), ()) := h47'
  unfold F18
  dsimp only
  rw [h47, bnd_s]
  refine Tot.br (fun h => by simp at h) (fun _ => ?_)
  refine Tot.br (fun h => by simp [cmdE] at h) (fun _ => ?_)
  refine Tot.br (fun _ => ?_) (fun h => by simp [cmdE] at h)
  rw [T50, bnd_s, T48, bnd_s]
  refine Tot.s ⟨?_, rfl⟩
  dsimp only
  rw [if_neg (by decide)]; rfl
/-- nothing that took effect: nothing is told -/
theorem T29n (b : List (BitVec 8)) (hb : b.length ≤ 1000000) : Tot (F29 () (b, ([], ()))) (fun r => r.1.1 = []) := by
  unfold F29
  refine Tot.bnd (T15 b hb) fun r hr => ?_
  refine Tot.count 0 (fun i v => v.1.1 = (i : Int) ∧ v.1.2.1 = []) ⟨rfl, rfl⟩ (by decide) ?_
  rintro i ⟨⟨x, o, ⟨⟩⟩, st, ⟨⟩⟩ hi ⟨hx, ho⟩ k hk
  dsimp only at hx ho ⊢
  subst hx; subst ho
  refine Tot.brd (fun hlt => ?_) (fun hge => Tot.s rfl)
  simp at hlt; omega
/-- ends of sessions that are not there -/
theorem T29e (id : Int) (h47' : F47 () (cmdE id, ()) = some ((0, ()), ())) (b : List (BitVec 8)) (hb : b.length ≤ 1000000) (l : List App) (hl : ∀ a ∈ l, a.2.1 = cmdE id) (hn : l.length ≤ 1000) : Tot (F29 () (b, (l, ()))) (fun r => r.1.1 = List.replicate l.length repE) := by
  unfold F29
  refine Tot.bnd (T15 b hb) fun r hr => ?_
  refine Tot.count l.length (fun i v => v.1.1 = (i : Int) ∧ v.1.2.1 = List.replicate i repE ∧ v.2.1.2.2.1 = ([], (1, ()))) ⟨rfl, rfl, hr⟩ (by omega) ?_
  rintro i ⟨⟨x, o, ⟨⟩⟩, ⟨src, ks, tab, ⟨⟩⟩, ⟨⟩⟩ hi ⟨hx, ho, hs⟩ k hk
  dsimp only at hx ho hs ⊢
  subst hx; subst ho; subst hs
  refine Tot.brd (fun hlt => ?_) (fun hge => ?_)
  · have hi' : i < l.length := by omega
    refine Tot.gd (by omega) (Tot.idx (by simpa using hi') fun a ha => ?_)
    have ha' : l[i]? = some a := by simpa using ha
    have hc := hl a (List.mem_of_getElem? ha')
    have he : ((a.2.1.1, (a.2.1.2.1, (a.2.1.2.2.1, (a.2.1.2.2.2.1, (a.2.1.2.2.2.2.1, (a.2.1.2.2.2.2.2.1, (a.2.1.2.2.2.2.2.2.1, ()))))))) : Cmd) = cmdE id := hc
    rw [he]
    refine Tot.bnd (T18e id h47' src ks) fun r2 hr2 => ?_
    refine Tot.gd (by simp [few]; omega) (hk hi' _ ⟨?_, ?_, hr2.2⟩)
    · dsimp only; (first | decide | omega | (simp (disch := omega) only [w64_id, few, few9, List.length_set, List.length_append, List.length_take, List.length_drop, List.length_replicate, List.length_cons, List.length_nil, Int.toNat_natCast]; done) | (simp (disch := omega) only [w64_id, few, few9, List.length_set, List.length_append, List.length_take, List.length_drop, List.length_replicate, List.length_cons, List.length_nil, Int.toNat_natCast]; omega) | (simp [few, few9] <;> omega))
    · dsimp only; rw [hr2.1, List.replicate_succ']
  · have hie : i = l.length := by omega
    subst hie
    exact Tot.s rfl
/-- one session is opened -/
theorem T29o (b : List (BitVec 8)) (hb : b.length ≤ 1000000) (k0 : Int) (r0 : Rep) : Tot (F29 () (b, ([(k0, (cmdO, (r0, ())))], ()))) (fun r => r.1.1 = [repN 1]) := by
  unfold F29
  refine Tot.bnd (T15 b hb) fun r hr => ?_
  refine Tot.count 1 (fun i v => v.1.1 = (i : Int) ∧ (i = 0 → v.1.2.1 = [] ∧ v.2.1.2.2.1 = ([], (1, ()))) ∧ (i = 1 → v.1.2.1 = [repN 1])) ⟨rfl, fun _ => ⟨rfl, hr⟩, fun h => by cases h⟩ (by omega) ?_
  rintro i ⟨⟨x, o, ⟨⟩⟩, ⟨src, ks, tab, ⟨⟩⟩, ⟨⟩⟩ hi ⟨hx, h0, h1⟩ k hk
  dsimp only at hx h0 h1 ⊢
  subst hx
  refine Tot.brd (fun hlt => ?_) (fun hge => ?_)
  · have hi0 : i = 0 := by simp at hlt; omega
    subst hi0
    obtain ⟨rfl, rfl⟩ := h0 rfl
    refine Tot.gd (by omega) (Tot.idx (by simp) fun a ha => ?_)
    have ha' : a = (k0, (cmdO, (r0, ()))) := by simpa using ha.symm
    subst ha'
    refine Tot.bnd (T18o src ks) fun r2 hr2 => ?_
    refine Tot.gd (by simp [few]) (hk (by omega) _ ⟨?_, fun h => (by cases h), fun _ => ?_⟩)
    · dsimp only; (first | decide | omega | (simp (disch := omega) only [w64_id, few, few9, List.length_set, List.length_append, List.length_take, List.length_drop, List.length_replicate, List.length_cons, List.length_nil, Int.toNat_natCast]; done) | (simp (disch := omega) only [w64_id, few, few9, List.length_set, List.length_append, List.length_take, List.length_drop, List.length_replicate, List.length_cons, List.length_nil, Int.toNat_natCast]; omega) | (simp [few, few9] <;> omega))
    · dsimp only; rw [hr2]; rfl
  · have hi1 : i = 1 := by simp at hge; omega
    exact Tot.s (h1 hi1)
end Go.GX
namespace Go.GX
open Go.RowKit Go.SL
set_option linter.unusedVariables false
def app1 (n : Int) : App := (2, (cmdO, (repN n, ())))
def cal1 (n : Int) : Cal := (0, (0, (0, (0, (2, (cmdO, (true, (repN n, ()))))))))
theorem T56 (n m : Int) : F56 (n, (m, ())) () = some (([app1 n], ([cal1 m], ())), ()) := by
  unfold F56
  rw [bth_self]; rfl
theorem T26x (n : Int) (c : List Cal) (hc : c.length ≤ 1000) (f : List Flt) (h : flts 1 1 (bad1 [app1 n]) ++ flts 2 1 (bad2 [app1 n] [repN 1]) ++ flts 3 c.length (bad3 [app1 n] c) ++ flts 4 c.length (bad4 c) ++ flts 5 c.length (bad5 c) = f) :
    F26 () ([], ([app1 n], (c, ()))) = some ((f, ()), ()) := by
  refine Tot.get (T26 [] [app1 n] c [repN 1] (by simp) hc rfl (T29o [] (by decide) 2 (repN n)) _ ?_)
  rw [← h]; rfl
theorem T22 : F22 () () = some ((true, ()), ()) := by
  unfold F22
  rw [T56, bnd_s, T56, bnd_s, T56, bnd_s]
  dsimp only
  rw [T26x 1 [cal1 1] (by decide) [] (by decide), bnd_s, T26x 1 [cal1 2] (by decide) [(0, (3, ()))] (by decide), bnd_s, T26x 5 [] (by decide) [(0, (2, ()))] (by decide), bnd_s]
  simp [gd_t, eqIL]
theorem flts_no (rule : Int) (n : Nat) (bad : Nat → Bool) (h : ∀ i, i < n → bad i = false) : flts rule n bad = [] := by
  induction n with
  | zero => rfl
  | succ n ih => rw [flts_s, ih (fun i hi => h i (by omega)), h n (by omega)]; rfl
/-- calls that are not done have no faults -/
theorem T26n (b : List (BitVec 8)) (hb : b.length ≤ 1000000) (c : List Cal) (hc : c.length ≤ 1000) (hd : ∀ x ∈ c, x.2.2.2.2.2.2.1 = false) : F26 () (b, ([], (c, ()))) = some (([], ()), ()) := by
  refine Tot.get (T26 b [] c [] (by decide) hc rfl (T29n b hb) _ ?_)
  have h3 : ∀ i, bad3 [] c i = false := fun i => by
    unfold bad3
    split
    · rename_i x hx; rw [hd x (List.mem_of_getElem? hx)]; rfl
    · rfl
  have h4 : ∀ i, bad4 c i = false := fun i => by
    unfold bad4
    split
    · rename_i x hx; rw [hd x (List.mem_of_getElem? hx)]; rfl
    · rfl
  have h5 : ∀ i, bad5 c i = false := fun i => by
    unfold bad5
    split
    · rename_i x hx; rw [hd x (List.mem_of_getElem? hx)]; rfl
    · rfl
  rw [flts_no 3 _ _ fun i _ => h3 i, flts_no 4 _ _ fun i _ => h4 i, flts_no 5 _ _ fun i _ => h5 i]
  rfl
theorem T27 (b : List (BitVec 8)) : Tot (F27 (b, ()) ()) (fun r => r.1.1.length ≤ 100) := by
  unfold F27
  dsimp only
  refine Tot.brd (fun h => ?_) (fun h => Tot.s (by dsimp only; omega))
  refine Tot.gd (by decide) (Tot.gd (by decide) (Tot.gd (by omega) (Tot.s ?_)))
  simp; omega
/-- HistoryOpen -/
theorem T7 (b : List (BitVec 8)) (c : List Cal) : F7 (b, (c, ())) () = some ((true, ()), ()) := by
  refine Tot.get ?_
  unfold F7
  dsimp only
  rw [T22, bnd_s]
  have fin : ∀ o : List Cal, o.length ≤ 20 → (∀ x ∈ o, x.2.2.2.2.2.2.1 = false) → Tot (br true (bnd (F27 (b, ()) ()) fun a6 => bnd (F26 () (a6.1.1, ([], (o, ())))) fun a7 => some ((cond true ((Nat.cast (List.length a7.1.1) : Int) == 0) false, ()), ()))
    (some ((false, ()), ()))) (fun a : (Bool × Unit) × Unit => a = ((true, ()), ())) := by
    intro o ho hd
    rw [br_t]
    refine Tot.bnd (T27 b) fun r hr => ?_
    rw [T26n _ (by omega) o (by omega) hd, bnd_s]
    exact Tot.s rfl
  refine Tot.count 20 (fun i v => v.1.1 = (i : Int) ∧ v.1.2.1.length = i ∧ ∀ x ∈ v.1.2.1, x.2.2.2.2.2.2.1 = false) ⟨rfl, rfl, by simp⟩ (by decide) ?_
  rintro i ⟨⟨x, o, ⟨⟩⟩, ⟨⟩⟩ hi ⟨hx, ho, hd⟩ k hk
  dsimp only at hx ho hd ⊢
  subst hx
  refine Tot.brd (fun hlt => ?_) (fun hge => fin o (by omega) hd)
  refine Tot.br (fun h20 => ?_) (fun h20 => fin o (by omega) hd)
  have h20' : i < 20 := by
    have : decide ((i : Int) < 20) = true := h20
    simp at this; omega
  refine Tot.gd (by omega) (Tot.idx (by omega) fun a ha => ?_)
  refine Tot.gd (by simp [few]; omega) (hk h20' _ ⟨?_, ?_, ?_⟩)
  · dsimp only; (first | decide | omega | (simp (disch := omega) only [w64_id, few, few9, List.length_set, List.length_append, List.length_take, List.length_drop, List.length_replicate, List.length_cons, List.length_nil, Int.toNat_natCast]; done) | (simp (disch := omega) only [w64_id, few, few9, List.length_set, List.length_append, List.length_take, List.length_drop, List.length_replicate, List.length_cons, List.length_nil, Int.toNat_natCast]; omega) | (simp [few, few9] <;> omega))
  · dsimp only; simp; omega
  · dsimp only
    intro y hy
    rcases List.mem_append.1 hy with hy | hy
    · exact hd y hy
    · rw [List.mem_singleton.1 hy]
end Go.GX
namespace Go.GX
open Go.RowKit Go.SL
set_option linter.unusedVariables false
theorem Tot.kind {β : Type} {n : Int} {J : (Int × Unit) × Unit → Option β} {R : β → Prop} (h0 : -9223372036854775808 ≤ n) (h1 : n < 9223372036854775808)
    (h : ∀ x : Int, 0 ≤ x → x < 9223372036854775808 → Tot (J ((x, ()), ())) R) :
    Tot (GX.jn J fun j => GX.br (decide (n < 0)) (j ((w64 (0 - w64 (n + 1)), ()), ())) (j ((n, ()), ()))) R := by
  refine Tot.jn (Tot.brd (fun hn => ?_) (fun hn => h n (by omega) h1))
  rw [w64_id (z := n + 1) (by omega) (by omega), w64_id (by omega) (by omega)]
  exact h _ (by omega) (by omega)
def appE (j : Nat) : App := ((j : Int) + 1, (cmdE 77, (repE, ())))
def calE (j : Nat) : Cal := ((j : Int), (0, (3 * (j : Int), (3 * (j : Int) + 1, ((j : Int) + 1, (cmdE 77, (true, (repE, ()))))))))
def tookL (m : Nat) : List App := (List.range m).map appE
def askedL (m : Nat) : List Cal := (List.range m).map calE
theorem tookL_s (m : Nat) : tookL (m + 1) = tookL m ++ [appE m] := by unfold tookL; rw [List.range_succ, List.map_append]; rfl
theorem askedL_s (m : Nat) : askedL (m + 1) = askedL m ++ [calE m] := by unfold askedL; rw [List.range_succ, List.map_append]; rfl
theorem tookL_l (m : Nat) : (tookL m).length = m := by unfold tookL; simp
theorem askedL_l (m : Nat) : (askedL m).length = m := by unfold askedL; simp
theorem askedL_at {m k : Nat} {a : Cal} (h : (askedL m)[k]? = some a) : a = calE k := by
  unfold askedL at h
  rw [List.getElem?_map] at h
  cases hr : (List.range m)[k]? with
  | none => rw [hr] at h; cases h
  | some j =>
    rw [hr] at h
    have hk : k < m := by have := (List.getElem?_eq_some_iff.1 hr).1; simpa using this
    rw [List.getElem?_range hk] at hr
    cases hr; cases h; rfl
def turnA (k : Nat) : Cal := ((calE k).1, ((calE k).2.1, ((calE k).2.2.1, ((calE k).2.2.2.1, ((calE (k + 1)).2.2.2.2.1, (calE k).2.2.2.2.2)))))
def turnB (k : Nat) : Cal := ((calE (k + 1)).1, ((calE (k + 1)).2.1, ((calE (k + 1)).2.2.1, ((calE (k + 1)).2.2.2.1, ((calE k).2.2.2.2.1, (calE (k + 1)).2.2.2.2.2)))))
def turnL (m k : Nat) : List Cal := ((askedL m).set k (turnA k)).set (k + 1) (turnB k)
theorem turnL_l (m k : Nat) : (turnL m k).length = m := by unfold turnL; rw [List.length_set, List.length_set, askedL_l]
def fltsE (m : Nat) (c : List Cal) : List Flt := flts 1 m (bad1 (tookL m)) ++ flts 2 m (bad2 (tookL m) (List.replicate m repE)) ++ flts 3 m (bad3 (tookL m) c) ++ flts 4 m (bad4 c) ++ flts 5 m (bad5 c)
theorem fltsE_no : ∀ m, m < 11 → fltsE m (askedL m) = [] := by decide +kernel
theorem fltsE_one : ∀ m, m < 11 → ∀ k, k < m - 1 → fltsE m (turnL m k) = [((k : Int), (5, ()))] := by decide +kernel
theorem T26e (m : Nat) (hm : m < 11) (c : List Cal) (hc : c.length = m) (f : List Flt) (h : fltsE m c = f) : F26 () ([], (tookL m, (c, ()))) = some ((f, ()), ()) := by
  have hl := tookL_l m
  refine Tot.get (T26 [] (tookL m) c (List.replicate m repE) (by omega) (by omega) (by rw [List.length_replicate, hl]) ?_ _ ?_)
  · have := T29e 77 T47e.2 [] (by decide) (tookL m) (fun a ha => by
      unfold tookL at ha
      obtain ⟨j, _, rfl⟩ := List.mem_map.1 ha
      rfl) (by omega)
    rw [hl] at this
    exact this
  · rw [hl, hc, ← h]; rfl
/-- HistoryTurned -/
theorem T6 (n t : Int) (hn0 : -9223372036854775808 ≤ n) (hn1 : n < 9223372036854775808) (ht0 : -9223372036854775808 ≤ t) (ht1 : t < 9223372036854775808) : F6 (n, (t, ())) () = some ((true, ()), ()) := by
  refine Tot.get ?_
  unfold F6
  simp only [gdE_rfl, gdE_T]
  rw [T22, bnd_s]
  dsimp only
  refine Tot.kind hn0 hn1 fun x hx0 hx1 => ?_
  dsimp only
  refine Tot.kind ht0 ht1 fun y hy0 hy1 => ?_
  dsimp only
  obtain ⟨m, hm, h2, h10⟩ : ∃ m : Nat, w64 (2 + Int.tmod x 9) = (m : Int) ∧ 2 ≤ m ∧ m < 11 := by
    have h := Int.tmod_eq_emod_of_nonneg hx0 (b := 9)
    refine ⟨(2 + x % 9).toNat, ?_, by omega, by omega⟩
    rw [h, w64_id (by omega) (by omega)]; omega
  rw [hm, show w64 ((m : Int) - 1) = ((m - 1 : Nat) : Int) from by rw [w64_id (by omega) (by omega)]; omega]
  obtain ⟨k, hk, hkm⟩ : ∃ k : Nat, Int.tmod y ((m - 1 : Nat) : Int) = (k : Int) ∧ k < m - 1 := by
    have h := Int.tmod_eq_emod_of_nonneg hy0 (b := ((m - 1 : Nat) : Int))
    have h3 := Int.emod_nonneg y (b := ((m - 1 : Nat) : Int)) (by omega)
    have h4 := Int.emod_lt_of_pos y (b := ((m - 1 : Nat) : Int)) (by omega)
    exact ⟨(y % ((m - 1 : Nat) : Int)).toNat, by omega, by omega⟩
  rw [hk, show w64 ((k : Int) + 1) = ((k + 1 : Nat) : Int) from by rw [w64_id (by omega) (by omega)]; omega]
  rw [Int.toNat_natCast, Int.toNat_natCast]
  refine Tot.gd (by decide) (Tot.gd (by omega) ?_)
  refine Tot.count m (fun i v => v.1.1 = (i : Int) ∧ v.1.2.1 = askedL i ∧ v.1.2.2.1 = tookL i) ⟨rfl, rfl, rfl⟩ (by omega) ?_
  rintro i ⟨⟨z, c, l, ⟨⟩⟩, ⟨⟩⟩ hi ⟨hz, hc, hl⟩ r hr
  dsimp only at hz hc hl ⊢
  subst hz; subst hc; subst hl
  refine Tot.brd (fun hlt => ?_) (fun hge => ?_)
  · have e1 : w64 ((i : Int) + 1) = (i : Int) + 1 := w64_id (by omega) (by omega)
    have e3 : w64 (3 * (i : Int)) = 3 * (i : Int) := w64_id (by omega) (by omega)
    have e4 : w64 (3 * (i : Int) + 1) = 3 * (i : Int) + 1 := w64_id (by omega) (by omega)
    rw [e1, e3, e4]
    refine Tot.gd (by rw [tookL_l]; simp [few]; omega) (Tot.gd (by rw [askedL_l]; simp [few]; omega) (hr (by omega) _ ⟨?_, ?_, ?_⟩))
    · dsimp only; omega
    · dsimp only; rw [askedL_s]; rfl
    · dsimp only; rw [tookL_s]; rfl
  · have him : i = m := by omega
    subst him
    rw [T26e i h10 (askedL i) (askedL_l i) [] (fltsE_no i h10), bnd_s]
    refine Tot.br (fun h => by simp at h) (fun _ => ?_)
    refine Tot.gd (by omega) (Tot.gd (by rw [askedL_l]; omega) (Tot.idx (by rw [askedL_l]; omega) fun a8 h8 => ?_))
    refine Tot.gd (by omega) (Tot.gd (by rw [askedL_l]; omega) (Tot.idx (by rw [askedL_l]; omega) fun a9 h9 => ?_))
    refine Tot.gd (by omega) (Tot.gd (by rw [askedL_l]; omega) (Tot.idx (by rw [askedL_l]; omega) fun a10 h10' => ?_))
    refine Tot.gd (by omega) (Tot.gd (by rw [List.length_set, askedL_l]; omega) (Tot.idx (by rw [List.length_set, askedL_l]; omega) fun a11 h11 => ?_))
    rw [List.getElem?_set_ne (by omega)] at h11
    obtain rfl := askedL_at h8
    obtain rfl := askedL_at h9
    obtain rfl := askedL_at h10'
    obtain rfl := askedL_at h11
    have ht := T26e i h10 (turnL i k) (turnL_l i k) _ (fltsE_one i h10 k hkm)
    unfold turnL turnA turnB at ht
    rw [ht, bnd_s]
    refine Tot.br (fun _ => ?_) (fun h => by simp at h)
    refine Tot.br (fun _ => ?_) (fun h => by simp at h)
    refine Tot.gd (by decide) (Tot.idx (by simp) fun a13 h13 => ?_)
    have : a13 = ((k : Int), (5, ())) := by simpa using h13.symm
    subst this
    exact Tot.s (by simp [eqIL])
end Go.GX
namespace Go.GX
open Go.RowKit Go.SL
set_option linter.unusedVariables false
theorem T25s (l : List Flt) (hl : l.length ≤ 1000) : F25 () (l, (l, ())) = some ((true, ()), ()) := by
  refine Tot.get ?_
  unfold F25
  refine Tot.br (fun h => by simp at h) (fun _ => ?_)
  refine Tot.count l.length (fun i v => v.1.1 = (i : Int)) rfl (by omega) ?_
  rintro i ⟨⟨x, ⟨⟩⟩, ⟨⟩⟩ hi hx k hk
  dsimp only at hx ⊢
  subst hx
  refine Tot.brd (fun hlt => ?_) (fun hge => Tot.s rfl)
  have hi' : i < l.length := by omega
  refine Tot.gd (by omega) (Tot.idx (by rw [Int.toNat_natCast]; exact hi') fun a ha => ?_)
  refine Tot.gd (by omega) ?_
  rw [ha, bnd_s]
  refine Tot.br (fun h => ?_) (fun _ => hk hi' _ ?_)
  · simp [eqIL] at h
  · dsimp only; rw [w64_id (by omega) (by omega)]; omega
def appK (k : Nat) : App := ((k : Int), (cmdE 5, (repE, ())))
def calK (k : Nat) : Cal := (0, (0, (0, (0, ((k : Int), (cmdE 5, (true, (repE, ()))))))))
def fltsK (l : List App) (c : List Cal) : List Flt := flts 1 l.length (bad1 l) ++ flts 2 l.length (bad2 l (List.replicate l.length repE)) ++ flts 3 c.length (bad3 l c) ++ flts 4 c.length (bad4 c) ++ flts 5 c.length (bad5 c)
theorem T26k (b : List (BitVec 8)) (hb : b.length ≤ 1000000) (l : List App) (hl : ∀ a ∈ l, a.2.1 = cmdE 5) (hn : l.length ≤ 1000) (c : List Cal) (hc : c.length ≤ 1000) (f : List Flt) (h : fltsK l c = f) : F26 () (b, (l, (c, ()))) = some ((f, ()), ()) := by
  refine Tot.get (T26 b l c (List.replicate l.length repE) hn hc (by rw [List.length_replicate]) (T29e 5 T47e.1 b hb l hl hn) _ ?_)
  rw [← h]; rfl
theorem once_two : ∀ k, k < 1000 → fltsK [appK (k + 1)] [calK (k + 1), calK (k + 1)] = [(1, (4, ()))] := by decide +kernel
theorem once_none : ∀ k, k < 1000 → fltsK [] [calK (k + 1)] = [(0, (3, ()))] := by decide +kernel
theorem once_again : ∀ k, k < 1000 → fltsK [appK (k + 1), appK (k + 1)] [calK (k + 1)] = [(1, (1, ()))] := by decide +kernel
end Go.GX
namespace Go.GX
open Go.RowKit Go.ChangeShapes Go.Joins Go.Deep Go.SL
set_option linter.unusedVariables false
def isI64 (P : Program) (t : Nat) : Bool := match P.underlying t with
  | some (.int .i64) => true
  | _ => false
def isU8 (P : Program) (t : Nat) : Bool := match P.underlying t with
  | some (.int .u8) => true
  | _ => false
def isBl (P : Program) (t : Nat) : Bool := match P.underlying t with
  | some .bool => true
  | _ => false
def rdSl (P : Program) (g : Nat → Bool) (w t : Nat) : Bool := match P.underlying t with
  | some (.slice e) => g e && Nat.beq (P.cellsOf e) w && Nat.ble 1 w
  | _ => false
def rdFs (P : Program) (g : Nat → Bool) (w : Nat) (h : List Field → Nat → Bool) : List Field → Nat → Bool
  | f :: r, o => Nat.beq f.offset o && g f.type && Nat.beq (P.cellsOf f.type) w && h r (o + w)
  | [], _ => false
def rdSt (P : Program) (g : List Field → Nat → Bool) (w t : Nat) : Bool := match P.underlying t with
  | some (.struct fs) => g fs.toList 0 && Nat.beq (P.cellsOf t) w
  | _ => false
/-- is a type of the program read as this kind? -/
def tyRd (P : Program) : Ty → (Nat → Bool) × (List Field → Nat → Bool)
  | .int => (isI64 P, fun _ _ => false)
  | .u8 => (isU8 P, fun _ _ => false)
  | .bool => (isBl P, fun _ _ => false)
  | .fz a => (rdSl P (tyRd P a).1 a.w, fun _ _ => false)
  | .unit => (fun _ => false, fun fs _ => fs.isEmpty)
  | .pair a b => (rdSt P (rdFs P (tyRd P a).1 a.w (tyRd P b).2) (a.w + b.w), rdFs P (tyRd P a).1 a.w (tyRd P b).2)
  | _ => (fun _ => false, fun _ _ => false)
theorem read_bool {H : Type} {enc : TypeId × Value → H} {P : Program} {W : World} {base : Nat} {spare : Nat → Bool} {held : Bool} {t fuel : Nat} {cs : List Value} {y : DataW H × List MemPlace} (ht : P.underlying t = some .bool) (h : DataW.trod enc P W base spare held fuel t cs = some y) : ∃ b, cs = [.bool b] := by
  obtain ⟨b, hb, _⟩ := DataW.trod_bool ht h
  exact ⟨b, hb⟩
theorem cat_of {m : Mem} {a : Ty} : ∀ {xs : List {cs : List Value // cs.length = a.w}}, (∀ c ∈ xs, ∃ x, DenT m a x c.1) → ∃ l : List a.T, l.length = xs.length ∧ Cat (fun x c => DenT m a x c) l (xs.flatMap Subtype.val) := by
  intro xs
  induction xs with
  | nil => intro _; exact ⟨[], rfl, rfl⟩
  | cons c xs ih =>
    intro h
    obtain ⟨x, hx⟩ := h c (by simp)
    obtain ⟨l, hl, hc⟩ := ih fun d hd => h d (by simp [hd])
    exact ⟨x :: l, by simp [hl], c.1, _, by rw [List.flatMap_cons], hx, hc⟩
section
variable {H : Type} {enc : TypeId × Value → H} {P : Program} {W : World} {base : Nat} {spare : Nat → Bool} {held : Bool}
theorem rd_ok : ∀ {ty : Ty},
    (∀ {t fuel : Nat} {cs : List Value} {y : DataW H × List MemPlace}, (tyRd P ty).1 t = true → DataW.trod enc P W base spare held fuel t cs = some y → ∃ x, DenT (P0 W).h ty x cs) ∧
    (∀ {fs : List Field} {o : Nat} {cs : List Value}, (tyRd P ty).2 fs o = true → cs.length = o + ty.w → (∀ f ∈ fs, ∃ n z, DataW.trod enc P W base spare held n f.type ((cs.drop f.offset).take (P.cellsOf f.type)) = some z) → ∃ x, DenT (P0 W).h ty x (cs.drop o)) := by
  intro ty
  induction ty with
  | int =>
    refine ⟨fun {t fuel cs y} h hr => ?_, fun h => by cases h⟩
    simp only [tyRd, isI64] at h
    split at h <;> try (cases h; done)
    rename_i hu
    obtain ⟨n, hcs, _, hw⟩ := DataW.trod_int hu hr
    exact ⟨n, hcs⟩
  | u8 =>
    refine ⟨fun {t fuel cs y} h hr => ?_, fun h => by cases h⟩
    simp only [tyRd, isU8] at h
    split at h <;> try (cases h; done)
    rename_i hu
    obtain ⟨n, hcs, _, hw⟩ := DataW.trod_int hu hr
    have hb := bounds_u8 hw
    refine ⟨BitVec.ofInt 8 n, ?_⟩
    show cs = [_]
    rw [hcs]
    congr 2
    rw [BitVec.toNat_ofInt]
    show n = ((n % 256).toNat : Int)
    omega
  | bool =>
    refine ⟨fun {t fuel cs y} h hr => ?_, fun h => by cases h⟩
    simp only [tyRd, isBl] at h
    split at h <;> try (cases h; done)
    rename_i hu
    obtain ⟨b, hb⟩ := read_bool hu hr
    exact ⟨b, hb⟩
  | fz a ih =>
    refine ⟨fun {t fuel cs y} h hr => ?_, fun h => by cases h⟩
    simp only [tyRd, rdSl] at h
    split at h <;> try (cases h; done)
    rename_i e hu
    simp only [Bool.and_eq_true] at h
    obtain ⟨⟨h1, h2⟩, h3⟩ := h
    have hc := Nat.eq_of_beq_eq_true h2
    have hw := Nat.le_of_ble_eq_true h3
    have hone : ∃ v, cs = [v] := by
      rcases open_slice hu hr with ⟨hcs, _⟩ | ⟨_, _, _, _, _, _, _, hcs, _⟩
      · exact ⟨_, hcs⟩
      · exact ⟨_, hcs⟩
    obtain ⟨v, rfl⟩ := hone
    obtain ⟨X, xs, c, rfl, hxc, _, hlas, hq⟩ := read_slice (α := {cs : List Value // cs.length = a.w}) (enc' := Subtype.val) (Q := fun c => ∃ x, DenT (P0 W).h a x c.1) hu hc (by omega) (fun a => a.2)
      (fun cs n z hz => by
        obtain ⟨x, hx⟩ := ih.1 h1 hz
        exact ⟨⟨cs, DenT.length hx⟩, rfl, x, hx⟩) hr
    obtain ⟨l, hl, hcat⟩ := cat_of hq
    refine ⟨l, X, c, by rw [hl], by rw [hl]; exact hxc, ?_⟩
    obtain ⟨_, X', c', e1, _, h0⟩ := hlas
    cases e1
    rcases h0 with h0 | ⟨b, o, cur, e, fr, rfl, hb, hg⟩
    · exact .inl (by rw [hl]; exact h0)
    · exact .inr ⟨b, o, _, rfl, ⟨cur, e, fr, hb, hg⟩, hcat⟩
  | unit =>
    refine ⟨fun {t fuel cs y} h hr => (by cases h), fun {fs o cs} h hl _ => ?_⟩
    refine ⟨(), ?_⟩
    show cs.drop o = []
    exact List.drop_eq_nil_of_le (by rw [hl]; simp [Ty.w])
  | pair a b iha ihb =>
    have fld : ∀ {fs : List Field} {o : Nat} {cs : List Value}, rdFs P (tyRd P a).1 a.w (tyRd P b).2 fs o = true → cs.length = o + (a.w + b.w) → (∀ f ∈ fs, ∃ n z, DataW.trod enc P W base spare held n f.type ((cs.drop f.offset).take (P.cellsOf f.type)) = some z) → ∃ x, DenT (P0 W).h (.pair a b) x (cs.drop o) := by
      intro fs o cs h hl hf
      cases fs with
      | nil => cases h
      | cons f r =>
        simp only [rdFs, Bool.and_eq_true] at h
        obtain ⟨⟨⟨h1, h2⟩, h3⟩, h4⟩ := h
        have ho := Nat.eq_of_beq_eq_true h1
        have hc := Nat.eq_of_beq_eq_true h3
        obtain ⟨n, z, hz⟩ := hf f (by simp)
        obtain ⟨x, hx⟩ := iha.1 h2 hz
        obtain ⟨y, hy⟩ := ihb.2 h4 (cs := cs) (by omega) fun g hg => hf g (by simp [hg])
        rw [ho, hc] at hx
        refine ⟨(x, y), _, _, ?_, hx, hy⟩
        rw [← List.drop_drop, List.take_append_drop]
    refine ⟨fun {t fuel cs y} h hr => ?_, fun {fs o cs} h hl hf => fld h hl hf⟩
    simp only [tyRd, rdSt] at h
    split at h <;> try (cases h; done)
    rename_i fs hu
    simp only [Bool.and_eq_true] at h
    have hc := Nat.eq_of_beq_eq_true h.2
    have hlen := read_len hu hr
    have := fld h.1 (cs := cs) (by rw [hlen, hc, Nat.zero_add]) fun f hf => by
      obtain ⟨i, hi, rfl⟩ := List.getElem_of_mem hf
      exact read_sub (i := i) hu (by simp at hi ⊢) hr
    simpa using this
  | _ => exact ⟨fun h => (by cases h), fun h => (by cases h)⟩
end
end Go.GX
