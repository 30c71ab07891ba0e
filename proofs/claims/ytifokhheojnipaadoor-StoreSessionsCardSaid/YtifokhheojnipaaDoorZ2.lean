/- Contracts. -/
import Derived.Test.YtifokhheojnipaaDoorE1
import Derived.Test.YtifokhheojnipaaDoorE2
import Derived.Test.YtifokhheojnipaaDoorZ1
import Derived.Test.YtifokhheojnipaaDoorG7
import Derived.Test.YtifokhheojnipaaDoorA1
set_option linter.unusedVariables false
set_option linter.unusedSimpArgs false
set_option linter.unnecessarySimpa false
namespace Go.GX
open Go.RowKit Go.SL Go.Proofs
set_option maxRecDepth 100000
set_option linter.unusedVariables false

theorem mixedZ : Tryd.prog.follows .mixedOrders = true := by kernel_rfl
theorem c58 : Con.ok Tryd.prog TBL.gs 58 C58 := mkF_ok mixedZ TBL_ok (FT.ok_cons (by kernel_rfl) (by kernel_rfl) FT.ok_nil) CN.ok_nil (by kernel_rfl) (by kernel_rfl) (bodyOf_ok (by kernel_rfl)) e58
theorem c45 : Con.ok Tryd.prog TBL.gs 45 C45 := mkF_ok mixedZ TBL_ok FT.ok_nil CN.ok_nil (by kernel_rfl) (by kernel_rfl) (bodyOf_ok (by kernel_rfl)) e45
theorem c80 : Con.ok Tryd.prog TBL.gs 80 C80 := mkF_ok mixedZ TBL_ok FT.ok_nil CN.ok_nil (by kernel_rfl) (by kernel_rfl) (bodyOf_ok (by kernel_rfl)) e80
theorem c87 : Con.ok Tryd.prog TBL.gs 87 C87 := mkF_ok mixedZ TBL_ok FT.ok_nil CN.ok_nil (by kernel_rfl) (by kernel_rfl) (bodyOf_ok (by kernel_rfl)) e87
theorem c86 : Con.ok Tryd.prog TBL.gs 86 C86 := mkF_ok mixedZ TBL_ok FT.ok_nil (CN.ok_cons c87 CN.ok_nil) (by kernel_rfl) (by kernel_rfl) (bodyOf_ok (by kernel_rfl)) e86
theorem c81 : Con.ok Tryd.prog TBL.gs 81 C81 := mkF_ok mixedZ TBL_ok FT.ok_nil (CN.ok_cons c86 CN.ok_nil) (by kernel_rfl) (by kernel_rfl) (bodyOf_ok (by kernel_rfl)) e81
theorem c73 : Con.ok Tryd.prog TBL.gs 73 C73 := mkF_ok mixedZ TBL_ok FT.ok_nil (CN.ok_cons c45 (CN.ok_cons c80 (CN.ok_cons c81 CN.ok_nil))) (by kernel_rfl) (by kernel_rfl) (bodyOf_ok (by kernel_rfl)) e73
theorem c62 : Con.ok Tryd.prog TBL.gs 62 C62 := mkF_ok mixedZ TBL_ok FT.ok_nil (CN.ok_cons c73 (CN.ok_cons c58 CN.ok_nil)) (by kernel_rfl) (by kernel_rfl) (bodyOf_ok (by kernel_rfl)) e62
theorem c44 : Con.ok Tryd.prog TBL.gs 44 C44 := mkF_ok mixedZ TBL_ok (FT.ok_cons (by kernel_rfl) (by kernel_rfl) FT.ok_nil) (CN.ok_cons c58 (CN.ok_cons c62 CN.ok_nil)) (by kernel_rfl) (by kernel_rfl) (bodyOf_ok (by kernel_rfl)) e44
theorem c20 : Con.ok Tryd.prog TBL.gs 20 C20 := mkF_ok mixedZ TBL_ok FT.ok_nil (CN.ok_cons c44 CN.ok_nil) (by kernel_rfl) (by kernel_rfl) (bodyOf_ok (by kernel_rfl)) e20
theorem c9 : Con.ok Tryd.prog TBL.gs 9 C9 := mkF_ok mixedZ TBL_ok FT.ok_nil (CN.ok_cons c20 CN.ok_nil) (by kernel_rfl) (by kernel_rfl) (bodyOf_ok (by kernel_rfl)) e9
theorem c10 : Con.ok Tryd.prog TBL.gs 10 C10 := mkF_ok mixedZ TBL_ok FT.ok_nil CN.ok_nil (by kernel_rfl) (by kernel_rfl) (bodyOf_ok (by kernel_rfl)) e10
theorem c11 : Con.ok Tryd.prog TBL.gs 11 C11 := mkF_ok mixedZ TBL_ok FT.ok_nil CN.ok_nil (by kernel_rfl) (by kernel_rfl) (bodyOf_ok (by kernel_rfl)) e11
theorem c5 : Con.ok Tryd.prog TBL.gs 5 C5 := mkF_ok mixedZ TBL_ok FT.ok_nil (CN.ok_cons c9 (CN.ok_cons c10 (CN.ok_cons c11 CN.ok_nil))) (by kernel_rfl) (by kernel_rfl) (bodyOf_ok (by kernel_rfl)) e5
theorem c23 : Con.ok Tryd.prog TBL.gs 23 C23 := mkF_ok mixedZ TBL_ok FT.ok_nil CN.ok_nil (by kernel_rfl) (by kernel_rfl) (bodyOf_ok (by kernel_rfl)) e23
theorem c12 : Con.ok Tryd.prog TBL.gs 12 C12 := mkF_ok mixedZ TBL_ok (FT.ok_cons (by kernel_rfl) (by kernel_rfl) (FT.ok_cons (by kernel_rfl) (by kernel_rfl) (FT.ok_cons (by kernel_rfl) (by kernel_rfl) (FT.ok_cons (by kernel_rfl) (by kernel_rfl) (FT.ok_cons (by kernel_rfl) (by kernel_rfl) (FT.ok_cons (by kernel_rfl) (by kernel_rfl) (FT.ok_cons (by kernel_rfl) (by kernel_rfl) (FT.ok_cons (by kernel_rfl) (by kernel_rfl) (FT.ok_cons (by kernel_rfl) (by kernel_rfl) (FT.ok_cons (by kernel_rfl) (by kernel_rfl) FT.ok_nil)))))))))) (CN.ok_cons c23 CN.ok_nil) (by kernel_rfl) (by kernel_rfl) (bodyOf_ok (by kernel_rfl)) e12
theorem c13 : Con.ok Tryd.prog TBL.gs 13 C13 := mkF_ok mixedZ TBL_ok FT.ok_nil CN.ok_nil (by kernel_rfl) (by kernel_rfl) (bodyOf_ok (by kernel_rfl)) e13
theorem c14 : Con.ok Tryd.prog TBL.gs 14 C14 := mkF_ok mixedZ TBL_ok FT.ok_nil CN.ok_nil (by kernel_rfl) (by kernel_rfl) (bodyOf_ok (by kernel_rfl)) e14
theorem c15 : Con.ok Tryd.prog TBL.gs 15 C15 := mkF_ok mixedZ TBL_ok FT.ok_nil CN.ok_nil (by kernel_rfl) (by kernel_rfl) (bodyOf_ok (by kernel_rfl)) e15
theorem c32 : Con.ok Tryd.prog TBL.gs 32 C32 := mkF_ok mixedZ TBL_ok FT.ok_nil (CN.ok_cons c45 CN.ok_nil) (by kernel_rfl) (by kernel_rfl) (bodyOf_ok (by kernel_rfl)) e32
theorem c16 : Con.ok Tryd.prog TBL.gs 16 C16 := mkF_ok mixedZ TBL_ok FT.ok_nil (CN.ok_cons c32 CN.ok_nil) (by kernel_rfl) (by kernel_rfl) (bodyOf_ok (by kernel_rfl)) e16
theorem c35 : Con.ok Tryd.prog TBL.gs 35 C35 := mkF_ok mixedZ TBL_ok FT.ok_nil CN.ok_nil (by kernel_rfl) (by kernel_rfl) (bodyOf_ok (by kernel_rfl)) e35
theorem c46 : Con.ok Tryd.prog TBL.gs 46 C46 := mkF_ok mixedZ TBL_ok (FT.ok_cons (by kernel_rfl) (by kernel_rfl) FT.ok_nil) (CN.ok_cons c44 (CN.ok_cons c58 (CN.ok_cons c62 CN.ok_nil))) (by kernel_rfl) (by kernel_rfl) (bodyOf_ok (by kernel_rfl)) e46
theorem c37 : Con.ok Tryd.prog TBL.gs 37 C37 := mkF_ok mixedZ TBL_ok (FT.ok_cons (by kernel_rfl) (by kernel_rfl) FT.ok_nil) CN.ok_nil (by kernel_rfl) (by kernel_rfl) (bodyOf_ok (by kernel_rfl)) e37
theorem c38 : Con.ok Tryd.prog TBL.gs 38 C38 := mkF_ok mixedZ TBL_ok (FT.ok_cons (by kernel_rfl) (by kernel_rfl) FT.ok_nil) CN.ok_nil (by kernel_rfl) (by kernel_rfl) (bodyOf_ok (by kernel_rfl)) e38
theorem c39 : Con.ok Tryd.prog TBL.gs 39 C39 := mkF_ok mixedZ TBL_ok (FT.ok_cons (by kernel_rfl) (by kernel_rfl) (FT.ok_cons (by kernel_rfl) (by kernel_rfl) FT.ok_nil)) CN.ok_nil (by kernel_rfl) (by kernel_rfl) (bodyOf_ok (by kernel_rfl)) e39
theorem c49 : Con.ok Tryd.prog TBL.gs 49 C49 := mkF_ok mixedZ TBL_ok (FT.ok_cons (by kernel_rfl) (by kernel_rfl) FT.ok_nil) CN.ok_nil (by kernel_rfl) (by kernel_rfl) (bodyOf_ok (by kernel_rfl)) e49
theorem c82 : Con.ok Tryd.prog TBL.gs 82 C82 := mkF_ok mixedZ TBL_ok FT.ok_nil CN.ok_nil (by kernel_rfl) (by kernel_rfl) (bodyOf_ok (by kernel_rfl)) e82
theorem c76 : Con.ok Tryd.prog TBL.gs 76 C76 := mkF_ok mixedZ TBL_ok FT.ok_nil (CN.ok_cons c82 CN.ok_nil) (by kernel_rfl) (by kernel_rfl) (bodyOf_ok (by kernel_rfl)) e76
theorem c77 : Con.ok Tryd.prog TBL.gs 77 C77 := mkF_ok mixedZ TBL_ok FT.ok_nil CN.ok_nil (by kernel_rfl) (by kernel_rfl) (bodyOf_ok (by kernel_rfl)) e77
theorem c65 : Con.ok Tryd.prog TBL.gs 65 C65 := mkF_ok mixedZ TBL_ok FT.ok_nil (CN.ok_cons c76 (CN.ok_cons c77 CN.ok_nil)) (by kernel_rfl) (by kernel_rfl) (bodyOf_ok (by kernel_rfl)) e65
theorem c66 : Con.ok Tryd.prog TBL.gs 66 C66 := mkF_ok mixedZ TBL_ok FT.ok_nil CN.ok_nil (by kernel_rfl) (by kernel_rfl) (bodyOf_ok (by kernel_rfl)) e66
theorem c67 : Con.ok Tryd.prog TBL.gs 67 C67 := mkF_ok mixedZ TBL_ok FT.ok_nil CN.ok_nil (by kernel_rfl) (by kernel_rfl) (bodyOf_ok (by kernel_rfl)) e67
theorem c70 : Con.ok Tryd.prog TBL.gs 70 C70 := mkF_ok mixedZ TBL_ok FT.ok_nil CN.ok_nil (by kernel_rfl) (by kernel_rfl) (bodyOf_ok (by kernel_rfl)) e70
theorem c83 : Con.ok Tryd.prog TBL.gs 83 C83 := mkF_ok mixedZ TBL_ok FT.ok_nil (CN.ok_cons c77 CN.ok_nil) (by kernel_rfl) (by kernel_rfl) (bodyOf_ok (by kernel_rfl)) e83
theorem c78 : Con.ok Tryd.prog TBL.gs 78 C78 := mkF_ok mixedZ TBL_ok FT.ok_nil (CN.ok_cons c82 (CN.ok_cons c83 CN.ok_nil)) (by kernel_rfl) (by kernel_rfl) (bodyOf_ok (by kernel_rfl)) e78
theorem c68 : Con.ok Tryd.prog TBL.gs 68 C68 := mkF_ok mixedZ TBL_ok FT.ok_nil (CN.ok_cons c70 (CN.ok_cons c78 CN.ok_nil)) (by kernel_rfl) (by kernel_rfl) (bodyOf_ok (by kernel_rfl)) e68
theorem c59 : Con.ok Tryd.prog TBL.gs 59 C59 := mkF_ok mixedZ TBL_ok FT.ok_nil (CN.ok_cons c65 (CN.ok_cons c45 (CN.ok_cons c66 (CN.ok_cons c67 (CN.ok_cons c68 CN.ok_nil))))) (by kernel_rfl) (by kernel_rfl) (bodyOf_ok (by kernel_rfl)) e59
theorem c69 : Con.ok Tryd.prog TBL.gs 69 C69 := mkF_ok mixedZ TBL_ok FT.ok_nil CN.ok_nil (by kernel_rfl) (by kernel_rfl) (bodyOf_ok (by kernel_rfl)) e69
theorem c84 : Con.ok Tryd.prog TBL.gs 84 C84 := mkF_ok mixedZ TBL_ok FT.ok_nil CN.ok_nil (by kernel_rfl) (by kernel_rfl) (bodyOf_ok (by kernel_rfl)) e84
theorem c85 : Con.ok Tryd.prog TBL.gs 85 C85 := mkF_ok mixedZ TBL_ok FT.ok_nil CN.ok_nil (by kernel_rfl) (by kernel_rfl) (bodyOf_ok (by kernel_rfl)) e85
theorem c79 : Con.ok Tryd.prog TBL.gs 79 C79 := mkF_ok mixedZ TBL_ok FT.ok_nil (CN.ok_cons c84 (CN.ok_cons c85 CN.ok_nil)) (by kernel_rfl) (by kernel_rfl) (bodyOf_ok (by kernel_rfl)) e79
theorem c71 : Con.ok Tryd.prog TBL.gs 71 C71 := mkF_ok mixedZ TBL_ok FT.ok_nil (CN.ok_cons c70 (CN.ok_cons c79 CN.ok_nil)) (by kernel_rfl) (by kernel_rfl) (bodyOf_ok (by kernel_rfl)) e71
theorem c60 : Con.ok Tryd.prog TBL.gs 60 C60 := mkF_ok mixedZ TBL_ok FT.ok_nil (CN.ok_cons c65 (CN.ok_cons c45 (CN.ok_cons c69 (CN.ok_cons c68 (CN.ok_cons c71 (CN.ok_cons c66 (CN.ok_cons c70 CN.ok_nil))))))) (by kernel_rfl) (by kernel_rfl) (bodyOf_ok (by kernel_rfl)) e60
theorem c51 : Con.ok Tryd.prog TBL.gs 51 C51 := mkF_ok mixedZ TBL_ok FT.ok_nil (CN.ok_cons c59 (CN.ok_cons c60 CN.ok_nil)) (by kernel_rfl) (by kernel_rfl) (bodyOf_ok (by kernel_rfl)) e51
theorem c74 : Con.ok Tryd.prog TBL.gs 74 C74 := mkF_ok mixedZ TBL_ok FT.ok_nil CN.ok_nil (by kernel_rfl) (by kernel_rfl) (bodyOf_ok (by kernel_rfl)) e74
theorem c75 : Con.ok Tryd.prog TBL.gs 75 C75 := mkF_ok mixedZ TBL_ok FT.ok_nil CN.ok_nil (by kernel_rfl) (by kernel_rfl) (bodyOf_ok (by kernel_rfl)) e75
theorem c63 : Con.ok Tryd.prog TBL.gs 63 C63 := mkF_ok mixedZ TBL_ok FT.ok_nil (CN.ok_cons c74 (CN.ok_cons c75 CN.ok_nil)) (by kernel_rfl) (by kernel_rfl) (bodyOf_ok (by kernel_rfl)) e63
theorem c57 : Con.ok Tryd.prog TBL.gs 57 C57 := mkF_ok mixedZ TBL_ok FT.ok_nil (CN.ok_cons c63 (CN.ok_cons c45 CN.ok_nil)) (by kernel_rfl) (by kernel_rfl) (bodyOf_ok (by kernel_rfl)) e57
theorem c50 : Con.ok Tryd.prog TBL.gs 50 C50 := mkF_ok mixedZ TBL_ok FT.ok_nil (CN.ok_cons c57 (CN.ok_cons c58 CN.ok_nil)) (by kernel_rfl) (by kernel_rfl) (bodyOf_ok (by kernel_rfl)) e50
theorem c40 : Con.ok Tryd.prog TBL.gs 40 C40 := mkF_ok mixedZ TBL_ok FT.ok_nil (CN.ok_cons c49 (CN.ok_cons c51 (CN.ok_cons c50 CN.ok_nil))) (by kernel_rfl) (by kernel_rfl) (bodyOf_ok (by kernel_rfl)) e40
theorem c61 : Con.ok Tryd.prog TBL.gs 61 C61 := mkF_ok mixedZ TBL_ok (FT.ok_cons (by kernel_rfl) (by kernel_rfl) FT.ok_nil) (CN.ok_cons c63 (CN.ok_cons c45 CN.ok_nil)) (by kernel_rfl) (by kernel_rfl) (bodyOf_ok (by kernel_rfl)) e61
theorem c52 : Con.ok Tryd.prog TBL.gs 52 C52 := mkF_ok mixedZ TBL_ok FT.ok_nil (CN.ok_cons c61 CN.ok_nil) (by kernel_rfl) (by kernel_rfl) (bodyOf_ok (by kernel_rfl)) e52
theorem c53 : Con.ok Tryd.prog TBL.gs 53 C53 := mkF_ok mixedZ TBL_ok (FT.ok_cons (by kernel_rfl) (by kernel_rfl) (FT.ok_cons (by kernel_rfl) (by kernel_rfl) FT.ok_nil)) CN.ok_nil (by kernel_rfl) (by kernel_rfl) (bodyOf_ok (by kernel_rfl)) e53
theorem c54 : Con.ok Tryd.prog TBL.gs 54 C54 := mkF_ok mixedZ TBL_ok FT.ok_nil (CN.ok_cons c60 (CN.ok_cons c59 CN.ok_nil)) (by kernel_rfl) (by kernel_rfl) (bodyOf_ok (by kernel_rfl)) e54
theorem c41 : Con.ok Tryd.prog TBL.gs 41 C41 := mkF_ok mixedZ TBL_ok FT.ok_nil (CN.ok_cons c52 (CN.ok_cons c53 (CN.ok_cons c54 CN.ok_nil))) (by kernel_rfl) (by kernel_rfl) (bodyOf_ok (by kernel_rfl)) e41
theorem c42 : Con.ok Tryd.prog TBL.gs 42 C42 := mkF_ok mixedZ TBL_ok FT.ok_nil (CN.ok_cons c41 (CN.ok_cons c52 (CN.ok_cons c40 CN.ok_nil))) (by kernel_rfl) (by kernel_rfl) (bodyOf_ok (by kernel_rfl)) e42
theorem c17 : Con.ok Tryd.prog TBL.gs 17 C17 := mkF_ok mixedZ TBL_ok (FT.ok_cons (by kernel_rfl) (by kernel_rfl) (FT.ok_cons (by kernel_rfl) (by kernel_rfl) (FT.ok_cons (by kernel_rfl) (by kernel_rfl) FT.ok_nil))) (CN.ok_cons c35 (CN.ok_cons c46 (CN.ok_cons c37 (CN.ok_cons c38 (CN.ok_cons c39 (CN.ok_cons c40 (CN.ok_cons c41 (CN.ok_cons c42 (CN.ok_cons c20 CN.ok_nil))))))))) (by kernel_rfl) (by kernel_rfl) (bodyOf_ok (by kernel_rfl)) e17
theorem c18 : Con.ok Tryd.prog TBL.gs 18 C18 := mkF_ok mixedZ TBL_ok FT.ok_nil (CN.ok_cons c32 CN.ok_nil) (by kernel_rfl) (by kernel_rfl) (bodyOf_ok (by kernel_rfl)) e18
theorem c7 : Con.ok Tryd.prog TBL.gs 7 C7 := mkF_ok mixedZ TBL_ok FT.ok_nil (CN.ok_cons c12 (CN.ok_cons c13 (CN.ok_cons c14 (CN.ok_cons c15 (CN.ok_cons c16 (CN.ok_cons c17 (CN.ok_cons c18 CN.ok_nil))))))) (by kernel_rfl) (by kernel_rfl) (bodyOf_ok (by kernel_rfl)) e7
theorem c4 : Con.ok Tryd.prog TBL.gs 4 C4 := mkF_ok mixedZ TBL_ok FT.ok_nil (CN.ok_cons c5 (CN.ok_cons c7 CN.ok_nil)) (by kernel_rfl) (by kernel_rfl) (bodyOf_ok (by kernel_rfl)) e4
theorem c6 : Con.ok Tryd.prog TBL.gs 6 C6 := mkF_ok mixedZ TBL_ok FT.ok_nil CN.ok_nil (by kernel_rfl) (by kernel_rfl) (bodyOf_ok (by kernel_rfl)) e6
theorem c19 : Con.ok Tryd.prog TBL.gs 19 C19 := mkF_ok mixedZ TBL_ok (FT.ok_cons (by kernel_rfl) (by kernel_rfl) (FT.ok_cons (by kernel_rfl) (by kernel_rfl) FT.ok_nil)) CN.ok_nil (by kernel_rfl) (by kernel_rfl) (bodyOf_ok (by kernel_rfl)) e19
theorem c8 : Con.ok Tryd.prog TBL.gs 8 C8 := mkF_ok mixedZ TBL_ok FT.ok_nil (CN.ok_cons c19 CN.ok_nil) (by kernel_rfl) (by kernel_rfl) (bodyOf_ok (by kernel_rfl)) e8
theorem c3 : Con.ok Tryd.prog TBL.gs 3 C3 := mkF_ok mixedZ TBL_ok FT.ok_nil (CN.ok_cons c4 (CN.ok_cons c6 (CN.ok_cons c5 (CN.ok_cons c7 (CN.ok_cons c8 CN.ok_nil))))) (by kernel_rfl) (by kernel_rfl) (bodyOf_ok (by kernel_rfl)) e3
end Go.GX
namespace Go.GX
open Go.RowKit Go.SL
set_option linter.unusedVariables false
theorem T253 : Tot (F80 () ()) (fun r => r.1.1.length = 8) := Tot.s (by simp)
theorem T267 (x : (BitVec 32) × (Int) × Unit) : Tot (F86 x ()) (fun _ => True) :=
  Tot.bnd (Q := fun _ => True) (Tot.s trivial) fun a _ => Tot.s trivial
theorem T254 (h : List (BitVec 32)) (m : List (BitVec 8)) (hh : h.length = 8) (hm : m.length = 64) : Tot (F81 (h, (m, ())) ()) (fun r => r.1.1.length = 8) := by
  refine Tot.count 64 (fun i v => v.1.1 = (i : Int) ∧ v.2.1.length = 64) ⟨rfl, by simp⟩ (by decide) ?_
  rintro i ⟨⟨t, ⟨⟩⟩, w, ⟨⟩⟩ hi ⟨ht, hw⟩ k hk
  dsimp only at ht hw ⊢
  subst ht
  refine Tot.brd (fun hlt => ?_) (fun hge => ?_)
  · have hi' : i < 64 := by omega
    refine Tot.brd (fun h16 => ?_) (fun h16 => ?_)
    · repeat' (first | refine Tot.gdE ?_ | refine Tot.gd (by (first | decide | omega | (simp (disch := omega) only [w64_id, few, few9, List.length_set, List.length_append, List.length_take, List.length_drop, List.length_replicate, List.length_cons, List.length_nil, Int.toNat_natCast]; done) | (simp (disch := omega) only [w64_id, few, few9, List.length_set, List.length_append, List.length_take, List.length_drop, List.length_replicate, List.length_cons, List.length_nil, Int.toNat_natCast]; omega) | (simp [few, few9] <;> omega))) ?_ | refine Tot.idx (by (first | decide | omega | (simp (disch := omega) only [w64_id, few, few9, List.length_set, List.length_append, List.length_take, List.length_drop, List.length_replicate, List.length_cons, List.length_nil, Int.toNat_natCast]; done) | (simp (disch := omega) only [w64_id, few, few9, List.length_set, List.length_append, List.length_take, List.length_drop, List.length_replicate, List.length_cons, List.length_nil, Int.toNat_natCast]; omega) | (simp [few, few9] <;> omega))) (fun _ _ => ?_))
      refine hk hi' _ ⟨?_, ?_⟩
      · dsimp only; (first | decide | omega | (simp (disch := omega) only [w64_id, few, few9, List.length_set, List.length_append, List.length_take, List.length_drop, List.length_replicate, List.length_cons, List.length_nil, Int.toNat_natCast]; done) | (simp (disch := omega) only [w64_id, few, few9, List.length_set, List.length_append, List.length_take, List.length_drop, List.length_replicate, List.length_cons, List.length_nil, Int.toNat_natCast]; omega) | (simp [few, few9] <;> omega))
      · dsimp only; (first | decide | omega | (simp (disch := omega) only [w64_id, few, few9, List.length_set, List.length_append, List.length_take, List.length_drop, List.length_replicate, List.length_cons, List.length_nil, Int.toNat_natCast]; done) | (simp (disch := omega) only [w64_id, few, few9, List.length_set, List.length_append, List.length_take, List.length_drop, List.length_replicate, List.length_cons, List.length_nil, Int.toNat_natCast]; omega) | (simp [few, few9] <;> omega))
    · repeat' (first | refine Tot.gdE ?_ | refine Tot.gd (by (first | decide | omega | (simp (disch := omega) only [w64_id, few, few9, List.length_set, List.length_append, List.length_take, List.length_drop, List.length_replicate, List.length_cons, List.length_nil, Int.toNat_natCast]; done) | (simp (disch := omega) only [w64_id, few, few9, List.length_set, List.length_append, List.length_take, List.length_drop, List.length_replicate, List.length_cons, List.length_nil, Int.toNat_natCast]; omega) | (simp [few, few9] <;> omega))) ?_ | refine Tot.idx (by (first | decide | omega | (simp (disch := omega) only [w64_id, few, few9, List.length_set, List.length_append, List.length_take, List.length_drop, List.length_replicate, List.length_cons, List.length_nil, Int.toNat_natCast]; done) | (simp (disch := omega) only [w64_id, few, few9, List.length_set, List.length_append, List.length_take, List.length_drop, List.length_replicate, List.length_cons, List.length_nil, Int.toNat_natCast]; omega) | (simp [few, few9] <;> omega))) (fun _ _ => ?_) | refine Tot.bnd (T267 _) (fun _ _ => ?_))
      refine hk hi' _ ⟨?_, ?_⟩
      · dsimp only; (first | decide | omega | (simp (disch := omega) only [w64_id, few, few9, List.length_set, List.length_append, List.length_take, List.length_drop, List.length_replicate, List.length_cons, List.length_nil, Int.toNat_natCast]; done) | (simp (disch := omega) only [w64_id, few, few9, List.length_set, List.length_append, List.length_take, List.length_drop, List.length_replicate, List.length_cons, List.length_nil, Int.toNat_natCast]; omega) | (simp [few, few9] <;> omega))
      · dsimp only; (first | decide | omega | (simp (disch := omega) only [w64_id, few, few9, List.length_set, List.length_append, List.length_take, List.length_drop, List.length_replicate, List.length_cons, List.length_nil, Int.toNat_natCast]; done) | (simp (disch := omega) only [w64_id, few, few9, List.length_set, List.length_append, List.length_take, List.length_drop, List.length_replicate, List.length_cons, List.length_nil, Int.toNat_natCast]; omega) | (simp [few, few9] <;> omega))
  · repeat' (first | refine Tot.gdE ?_ | refine Tot.gd (by (first | decide | omega | (simp (disch := omega) only [w64_id, few, few9, List.length_set, List.length_append, List.length_take, List.length_drop, List.length_replicate, List.length_cons, List.length_nil, Int.toNat_natCast]; done) | (simp (disch := omega) only [w64_id, few, few9, List.length_set, List.length_append, List.length_take, List.length_drop, List.length_replicate, List.length_cons, List.length_nil, Int.toNat_natCast]; omega) | (simp [few, few9] <;> omega))) ?_ | refine Tot.idx (by (first | decide | omega | (simp (disch := omega) only [w64_id, few, few9, List.length_set, List.length_append, List.length_take, List.length_drop, List.length_replicate, List.length_cons, List.length_nil, Int.toNat_natCast]; done) | (simp (disch := omega) only [w64_id, few, few9, List.length_set, List.length_append, List.length_take, List.length_drop, List.length_replicate, List.length_cons, List.length_nil, Int.toNat_natCast]; omega) | (simp [few, few9] <;> omega))) (fun _ _ => ?_))
    refine Tot.count 64 (fun i v => v.1.1 = (i : Int)) rfl (by decide) ?_
    rintro j ⟨⟨t, ra, rb, rc, rd, re, rf, rg, rz, ⟨⟩⟩, ⟨⟩⟩ hj ht k2 hk2
    dsimp only at ht ⊢
    subst ht
    refine Tot.brd (fun hlt => ?_) (fun hge2 => ?_)
    · have hj' : j < 64 := by omega
      have hsh : shaAdd.length = 64 := rfl
      repeat' (first | refine Tot.gdE ?_ | refine Tot.gd (by (first | decide | omega | (simp (disch := omega) only [w64_id, few, few9, List.length_set, List.length_append, List.length_take, List.length_drop, List.length_replicate, List.length_cons, List.length_nil, Int.toNat_natCast]; done) | (simp (disch := omega) only [w64_id, few, few9, List.length_set, List.length_append, List.length_take, List.length_drop, List.length_replicate, List.length_cons, List.length_nil, Int.toNat_natCast]; omega) | (simp [few, few9] <;> omega))) ?_ | refine Tot.idx (by (first | decide | omega | (simp (disch := omega) only [w64_id, few, few9, List.length_set, List.length_append, List.length_take, List.length_drop, List.length_replicate, List.length_cons, List.length_nil, Int.toNat_natCast]; done) | (simp (disch := omega) only [w64_id, few, few9, List.length_set, List.length_append, List.length_take, List.length_drop, List.length_replicate, List.length_cons, List.length_nil, Int.toNat_natCast]; omega) | (simp [few, few9] <;> omega))) (fun _ _ => ?_) | refine Tot.bnd (T267 _) (fun _ _ => ?_))
      refine hk2 hj' _ ?_
      dsimp only; (first | decide | omega | (simp (disch := omega) only [w64_id, few, few9, List.length_set, List.length_append, List.length_take, List.length_drop, List.length_replicate, List.length_cons, List.length_nil, Int.toNat_natCast]; done) | (simp (disch := omega) only [w64_id, few, few9, List.length_set, List.length_append, List.length_take, List.length_drop, List.length_replicate, List.length_cons, List.length_nil, Int.toNat_natCast]; omega) | (simp [few, few9] <;> omega))
    · refine Tot.count 8 (fun i v => v.1.1 = (i : Int) ∧ v.2.1.length = 8) ⟨rfl, hh⟩ (by decide) ?_
      rintro j2 ⟨⟨t, ⟨⟩⟩, h2, ⟨⟩⟩ hj2 ⟨ht, hh2⟩ k3 hk3
      dsimp only at ht hh2 ⊢
      subst ht
      refine Tot.brd (fun hlt => ?_) (fun hge3 => ?_)
      · repeat' (first | refine Tot.gdE ?_ | refine Tot.gd (by (first | decide | omega | (simp (disch := omega) only [w64_id, few, few9, List.length_set, List.length_append, List.length_take, List.length_drop, List.length_replicate, List.length_cons, List.length_nil, Int.toNat_natCast]; done) | (simp (disch := omega) only [w64_id, few, few9, List.length_set, List.length_append, List.length_take, List.length_drop, List.length_replicate, List.length_cons, List.length_nil, Int.toNat_natCast]; omega) | (simp [few, few9] <;> omega))) ?_ | refine Tot.idx (by (first | decide | omega | (simp (disch := omega) only [w64_id, few, few9, List.length_set, List.length_append, List.length_take, List.length_drop, List.length_replicate, List.length_cons, List.length_nil, Int.toNat_natCast]; done) | (simp (disch := omega) only [w64_id, few, few9, List.length_set, List.length_append, List.length_take, List.length_drop, List.length_replicate, List.length_cons, List.length_nil, Int.toNat_natCast]; omega) | (simp [few, few9] <;> omega))) (fun _ _ => ?_))
        refine hk3 (by omega) _ ⟨?_, ?_⟩
        · dsimp only; (first | decide | omega | (simp (disch := omega) only [w64_id, few, few9, List.length_set, List.length_append, List.length_take, List.length_drop, List.length_replicate, List.length_cons, List.length_nil, Int.toNat_natCast]; done) | (simp (disch := omega) only [w64_id, few, few9, List.length_set, List.length_append, List.length_take, List.length_drop, List.length_replicate, List.length_cons, List.length_nil, Int.toNat_natCast]; omega) | (simp [few, few9] <;> omega))
        · dsimp only; (first | decide | omega | (simp (disch := omega) only [w64_id, few, few9, List.length_set, List.length_append, List.length_take, List.length_drop, List.length_replicate, List.length_cons, List.length_nil, Int.toNat_natCast]; done) | (simp (disch := omega) only [w64_id, few, few9, List.length_set, List.length_append, List.length_take, List.length_drop, List.length_replicate, List.length_cons, List.length_nil, Int.toNat_natCast]; omega) | (simp [few, few9] <;> omega))
      · exact Tot.s hh2
theorem T171 (b : List (BitVec 8)) (h : b.length ≤ 4294967296) : Tot (F45 () (b, ())) (fun r => r.1.1 = b) := by
  refine Tot.nlq (Tot.gd (by simpa [few] using h) (Tot.s (by simp))) fun q => ?_
  have : b = [] := by simpa using q
  subst this
  rw [gd_t (by simp [few])]; rfl
theorem T201 (ls : List (List (BitVec 8))) (h1 : ls.length ≤ 10) (h2 : ∀ l ∈ ls, l.length ≤ 10000000) : Tot (F58 () (ls, ())) (fun r => r.1.1 = ls.flatten) := by
  have hsum : ∀ i, (ls.take i).flatten.length ≤ i * 10000000 := by
    intro i
    induction i generalizing ls with
    | zero => simp
    | succ i ih =>
      cases ls with
      | nil => simp
      | cons x ls =>
        simp only [List.take_succ_cons, List.flatten_cons, List.length_append]
        have := ih ls (by simp at h1; omega) (fun l hl => h2 l (by simp [hl]))
        have := h2 x (by simp)
        omega
  have hstep : ∀ i (hi : i < ls.length), (ls.take (i + 1)).flatten = (ls.take i).flatten ++ ls[i] := by
    intro i hi
    rw [List.take_add_one, List.getElem?_eq_getElem hi, List.flatten_append]
    simp only [Option.toList_some, List.flatten_cons, List.flatten_nil, List.append_nil]
  refine Tot.count ls.length (fun i v => v.1.1 = (i : Int) ∧ v.1.2.1 = ((ls.take i).flatten.length : Int)) ⟨rfl, by simp⟩ (by omega) ?_
  rintro i ⟨⟨t, n, ⟨⟩⟩, ⟨⟩⟩ hi ⟨ht, hn⟩ k hk
  dsimp only at ht hn ⊢
  subst ht; subst hn
  have hs := hsum i
  have hs' := hsum (i + 1)
  refine Tot.brd (fun hlt => ?_) (fun hge => ?_)
  · have hi' : i < ls.length := by omega
    refine Tot.gd (by omega) (Tot.idx (by simpa using hi') fun a ha => ?_)
    have hal : a.length ≤ 10000000 := h2 a (List.mem_of_getElem? ha)
    have ha' : ls[i] = a := by
      have : ls[i]? = some a := by simpa using ha
      rw [List.getElem?_eq_getElem hi'] at this; exact Option.some.inj this
    refine Tot.brd (fun hbad => ?_) (fun _ => ?_)
    · rw [w64_id (by omega) (by omega)] at hbad; omega
    · refine hk hi' _ ⟨?_, ?_⟩
      · dsimp only; (first | decide | omega | (simp (disch := omega) only [w64_id, few, few9, List.length_set, List.length_append, List.length_take, List.length_drop, List.length_replicate, List.length_cons, List.length_nil, Int.toNat_natCast]; done) | (simp (disch := omega) only [w64_id, few, few9, List.length_set, List.length_append, List.length_take, List.length_drop, List.length_replicate, List.length_cons, List.length_nil, Int.toNat_natCast]; omega) | (simp [few, few9] <;> omega))
      · dsimp only
        rw [hstep i hi', ha', List.length_append, w64_id (by omega) (by omega)]
        push_cast; rfl
  · have hie : i = ls.length := by omega
    subst hie
    rw [List.take_length] at hs ⊢
    have hloop : ∀ (xs : List (BitVec 8)), xs = [] → Tot (iter (fun (v9 : ((Int) × (List (BitVec 8)) × Unit) × Unit) => fun r10 => br (decide (v9.1.1 < (Nat.cast (List.length ls) : Int)))
 (gd (0 ≤ v9.1.1) <| bnd (ls[Int.toNat v9.1.1]?) fun a11 => gd (few (List.length v9.1.2.1) (List.length a11)) <| r10 ((Go.SL.w64 (v9.1.1 + 1), ((v9.1.2.1 ++ a11), ())), ()))
 (some ((v9.1.2.1, ()), ()))) ((0, (xs, ())), ())) (fun r : ((List (BitVec 8)) × Unit) × Unit => r.1.1 = ls.flatten) := by
      rintro xs rfl
      refine Tot.count ls.length (fun i v => v.1.1 = (i : Int) ∧ v.1.2.1 = (ls.take i).flatten) ⟨rfl, by simp⟩ (by omega) ?_
      rintro i ⟨⟨t, n, ⟨⟩⟩, ⟨⟩⟩ hi ⟨ht, hn⟩ k hk
      dsimp only at ht hn ⊢
      subst ht; subst hn
      have hs := hsum i
      refine Tot.brd (fun hlt => ?_) (fun hge => ?_)
      · have hi' : i < ls.length := by omega
        refine Tot.gd (by omega) (Tot.idx (by simpa using hi') fun a ha => ?_)
        have hal : a.length ≤ 10000000 := h2 a (List.mem_of_getElem? ha)
        have ha' : ls[i] = a := by
          have : ls[i]? = some a := by simpa using ha
          rw [List.getElem?_eq_getElem hi'] at this; exact Option.some.inj this
        refine Tot.gd (by unfold few; omega) (hk hi' _ ⟨?_, ?_⟩)
        · dsimp only; (first | decide | omega | (simp (disch := omega) only [w64_id, few, few9, List.length_set, List.length_append, List.length_take, List.length_drop, List.length_replicate, List.length_cons, List.length_nil, Int.toNat_natCast]; done) | (simp (disch := omega) only [w64_id, few, few9, List.length_set, List.length_append, List.length_take, List.length_drop, List.length_replicate, List.length_cons, List.length_nil, Int.toNat_natCast]; omega) | (simp [few, few9] <;> omega))
        · dsimp only; rw [hstep i hi', ha']
      · have hie : i = ls.length := by omega
        subst hie
        exact Tot.s (by rw [List.take_length])
    refine Tot.jn ?_
    refine Tot.brd (fun hbad => by omega) (fun _ => ?_)
    have hw : Go.SL.w64 ((ls.flatten.length : Int) - 0) = (ls.flatten.length : Int) := by rw [w64_id (by omega) (by omega)]; omega
    dsimp only
    rw [hw]
    refine Tot.brd (fun _ => ?_) (fun _ => ?_)
    · repeat' (first | refine Tot.gdE ?_ | refine Tot.gd (by (first | decide | omega | (simp (disch := omega) only [w64_id, few, few9, List.length_set, List.length_append, List.length_take, List.length_drop, List.length_replicate, List.length_cons, List.length_nil, Int.toNat_natCast]; done) | (simp (disch := omega) only [w64_id, few, few9, List.length_set, List.length_append, List.length_take, List.length_drop, List.length_replicate, List.length_cons, List.length_nil, Int.toNat_natCast]; omega) | (simp [few, few9] <;> omega))) ?_)
      exact hloop _ (by simp)
    · exact hloop _ rfl
theorem tm64 (j : Nat) : Int.tmod (j : Int) 64 = ((j % 64 : Nat) : Int) := rfl
theorem tm4 (j : Nat) : Int.tmod (j : Int) 4 = ((j % 4 : Nat) : Int) := rfl
theorem td4 (j : Nat) : Int.tdiv (j : Int) 4 = ((j / 4 : Nat) : Int) := rfl
theorem T235 (b : List (BitVec 8)) (h : b.length ≤ 100000000) : Tot (F73 () (b, ())) (fun r => r.1.1.length = 32) := by
  refine Tot.bnd (T171 b (by omega)) ?_
  rintro ⟨⟨x, ⟨⟩⟩, ⟨⟩⟩ hx
  dsimp only at hx ⊢
  subst hx
  have e1 : (Nat.cast (List.length (x ++ (128#8 :: []))) : Int) = x.length + 1 := by simp
  rw [e1, show (x.length + 1 : Int) = ((x.length + 1 : Nat) : Int) by push_cast; rfl, tm64]
  have hq := Nat.mod_lt (x.length + 1) (show 64 > 0 by decide)
  have e2 : Go.SL.w64 (120 - ((x.length + 1) % 64 : Nat)) = ((120 - (x.length + 1) % 64 : Nat) : Int) := by
    rw [w64_id (by omega) (by omega)]; omega
  rw [e2, tm64]
  have hp := Nat.mod_lt (120 - (x.length + 1) % 64) (show 64 > 0 by decide)
  generalize hpd : (120 - (x.length + 1) % 64) % 64 = pd at hp ⊢
  have hmod : (x.length + 1 + pd + 8) % 64 = 0 := by omega
  repeat' (first | refine Tot.gd (by (first | decide | omega | (simp (disch := omega) only [w64_id, few, few9, List.length_set, List.length_append, List.length_take, List.length_drop, List.length_replicate, List.length_cons, List.length_nil, Int.toNat_natCast]; done) | (simp (disch := omega) only [w64_id, few, few9, List.length_set, List.length_append, List.length_take, List.length_drop, List.length_replicate, List.length_cons, List.length_nil, Int.toNat_natCast]; omega) | (simp [few, few9] <;> omega))) ?_)
  refine Tot.count 8 (fun i v => v.1.1 = (i : Int) ∧ v.1.2.1.length = x.length + 1 + pd + i) ⟨rfl, by simp; omega⟩ (by decide) ?_
  rintro i ⟨⟨t, m, ⟨⟩⟩, ⟨⟩⟩ hi ⟨ht, hm⟩ k hk
  dsimp only at ht hm ⊢
  subst ht
  refine Tot.brd (fun hlt => ?_) (fun hge => ?_)
  · repeat' (first | refine Tot.gdE ?_ | refine Tot.gd (by (first | decide | omega | (simp (disch := omega) only [w64_id, few, few9, List.length_set, List.length_append, List.length_take, List.length_drop, List.length_replicate, List.length_cons, List.length_nil, Int.toNat_natCast]; done) | (simp (disch := omega) only [w64_id, few, few9, List.length_set, List.length_append, List.length_take, List.length_drop, List.length_replicate, List.length_cons, List.length_nil, Int.toNat_natCast]; omega) | (simp [few, few9] <;> omega))) ?_)
    refine hk (by omega) _ ⟨?_, ?_⟩
    · dsimp only; (first | decide | omega | (simp (disch := omega) only [w64_id, few, few9, List.length_set, List.length_append, List.length_take, List.length_drop, List.length_replicate, List.length_cons, List.length_nil, Int.toNat_natCast]; done) | (simp (disch := omega) only [w64_id, few, few9, List.length_set, List.length_append, List.length_take, List.length_drop, List.length_replicate, List.length_cons, List.length_nil, Int.toNat_natCast]; omega) | (simp [few, few9] <;> omega))
    · dsimp only; simp; omega
  · have hi8 : i = 8 := by omega
    subst hi8
    refine Tot.bnd T253 fun h0 hh0 => ?_
    refine Tot.iter (fun n v => v.1.1.length = 64 * n ∧ v.2.1.length = 8) ((x.length + 1 + pd + 8) / 64) ⟨by dsimp only; omega, hh0⟩ (by omega) ?_
    rintro n ⟨⟨m2, ⟨⟩⟩, h2, ⟨⟩⟩ ⟨hm2, hh2⟩ k2 hk2
    dsimp only at hm2 hh2 ⊢
    refine Tot.brd (fun hlt => ?_) (fun hge => ?_)
    · refine Tot.gd (by omega) ?_
      refine Tot.bnd (T254 h2 (List.take 64 m2) hh2 (by rw [List.length_take]; omega)) fun r hr => ?_
      repeat' (first | refine Tot.gdE ?_ | refine Tot.gd (by first | decide | omega) ?_)
      refine hk2 (n - 1) _ (by omega) ⟨?_, hr⟩
      dsimp only
      rw [List.length_drop, List.length_take]; omega
    · refine Tot.count 32 (fun i v => v.1.1 = (i : Int) ∧ v.2.1.length = 32) ⟨rfl, by simp⟩ (by decide) ?_
      rintro j ⟨⟨t, ⟨⟩⟩, o, ⟨⟩⟩ hj ⟨ht, ho⟩ k3 hk3
      dsimp only at ht ho ⊢
      subst ht
      refine Tot.brd (fun hlt => ?_) (fun hge3 => ?_)
      · have d1 := td4 j
        have d2 := tm4 j
        rw [d1, d2]
        repeat' (first | refine Tot.gdE ?_ | refine Tot.gd (by (first | decide | omega | (simp (disch := omega) only [w64_id, few, few9, List.length_set, List.length_append, List.length_take, List.length_drop, List.length_replicate, List.length_cons, List.length_nil, Int.toNat_natCast]; done) | (simp (disch := omega) only [w64_id, few, few9, List.length_set, List.length_append, List.length_take, List.length_drop, List.length_replicate, List.length_cons, List.length_nil, Int.toNat_natCast]; omega) | (simp [few, few9] <;> omega))) ?_ | refine Tot.idx (by (first | decide | omega | (simp (disch := omega) only [w64_id, few, few9, List.length_set, List.length_append, List.length_take, List.length_drop, List.length_replicate, List.length_cons, List.length_nil, Int.toNat_natCast]; done) | (simp (disch := omega) only [w64_id, few, few9, List.length_set, List.length_append, List.length_take, List.length_drop, List.length_replicate, List.length_cons, List.length_nil, Int.toNat_natCast]; omega) | (simp [few, few9] <;> omega))) (fun _ _ => ?_))
        refine hk3 (by omega) _ ⟨?_, ?_⟩
        · dsimp only; (first | decide | omega | (simp (disch := omega) only [w64_id, few, few9, List.length_set, List.length_append, List.length_take, List.length_drop, List.length_replicate, List.length_cons, List.length_nil, Int.toNat_natCast]; done) | (simp (disch := omega) only [w64_id, few, few9, List.length_set, List.length_append, List.length_take, List.length_drop, List.length_replicate, List.length_cons, List.length_nil, Int.toNat_natCast]; omega) | (simp [few, few9] <;> omega))
        · dsimp only; (first | decide | omega | (simp (disch := omega) only [w64_id, few, few9, List.length_set, List.length_append, List.length_take, List.length_drop, List.length_replicate, List.length_cons, List.length_nil, Int.toNat_natCast]; done) | (simp (disch := omega) only [w64_id, few, few9, List.length_set, List.length_append, List.length_take, List.length_drop, List.length_replicate, List.length_cons, List.length_nil, Int.toNat_natCast]; omega) | (simp [few, few9] <;> omega))
      · exact Tot.s ho
theorem T214 (k b : List (BitVec 8)) (hk : k.length ≤ 64) (h : b.length ≤ 9000000) : Tot (F62 () (k, (b, ()))) (fun r => r.1.1.length = 32) := by
  refine Tot.jn ?_
  refine Tot.brd (fun hb => by dsimp only at hb; omega) (fun _ => ?_)
  refine Tot.gdE ?_
  dsimp only
  repeat' (first | refine Tot.gd (by decide) ?_)
  have hov : (ovl (List.replicate 64 0#8) 0 (List.take 64 k)).length = 64 := by rw [ovl_len] <;> simp <;> omega
  refine Tot.count 64 (fun i v => v.1.1 = (i : Int) ∧ v.2.1.length = 64 ∧ v.2.2.1.length = 64) ⟨rfl, hov, hov⟩ (by decide) ?_
  rintro i ⟨⟨t, ⟨⟩⟩, u, w, ⟨⟩⟩ hi ⟨ht, hu, hw⟩ k2 hk2
  dsimp only at ht hu hw ⊢
  subst ht
  refine Tot.brd (fun hlt => ?_) (fun hge => ?_)
  · repeat' (first | refine Tot.gdE ?_ | refine Tot.gd (by (first | decide | omega | (simp (disch := omega) only [w64_id, few, few9, List.length_set, List.length_append, List.length_take, List.length_drop, List.length_replicate, List.length_cons, List.length_nil, Int.toNat_natCast]; done) | (simp (disch := omega) only [w64_id, few, few9, List.length_set, List.length_append, List.length_take, List.length_drop, List.length_replicate, List.length_cons, List.length_nil, Int.toNat_natCast]; omega) | (simp [few, few9] <;> omega))) ?_ | refine Tot.idx (by (first | decide | omega | (simp (disch := omega) only [w64_id, few, few9, List.length_set, List.length_append, List.length_take, List.length_drop, List.length_replicate, List.length_cons, List.length_nil, Int.toNat_natCast]; done) | (simp (disch := omega) only [w64_id, few, few9, List.length_set, List.length_append, List.length_take, List.length_drop, List.length_replicate, List.length_cons, List.length_nil, Int.toNat_natCast]; omega) | (simp [few, few9] <;> omega))) (fun _ _ => ?_))
    refine hk2 (by omega) _ ⟨?_, ?_, ?_⟩
    · dsimp only; (first | decide | omega | (simp (disch := omega) only [w64_id, few, few9, List.length_set, List.length_append, List.length_take, List.length_drop, List.length_replicate, List.length_cons, List.length_nil, Int.toNat_natCast]; done) | (simp (disch := omega) only [w64_id, few, few9, List.length_set, List.length_append, List.length_take, List.length_drop, List.length_replicate, List.length_cons, List.length_nil, Int.toNat_natCast]; omega) | (simp [few, few9] <;> omega))
    · dsimp only; (first | decide | omega | (simp (disch := omega) only [w64_id, few, few9, List.length_set, List.length_append, List.length_take, List.length_drop, List.length_replicate, List.length_cons, List.length_nil, Int.toNat_natCast]; done) | (simp (disch := omega) only [w64_id, few, few9, List.length_set, List.length_append, List.length_take, List.length_drop, List.length_replicate, List.length_cons, List.length_nil, Int.toNat_natCast]; omega) | (simp [few, few9] <;> omega))
    · dsimp only; (first | decide | omega | (simp (disch := omega) only [w64_id, few, few9, List.length_set, List.length_append, List.length_take, List.length_drop, List.length_replicate, List.length_cons, List.length_nil, Int.toNat_natCast]; done) | (simp (disch := omega) only [w64_id, few, few9, List.length_set, List.length_append, List.length_take, List.length_drop, List.length_replicate, List.length_cons, List.length_nil, Int.toNat_natCast]; omega) | (simp [few, few9] <;> omega))
  · repeat' (first | refine Tot.gd (by (first | decide | omega | (simp (disch := omega) only [w64_id, few, few9, List.length_set, List.length_append, List.length_take, List.length_drop, List.length_replicate, List.length_cons, List.length_nil, Int.toNat_natCast]; done) | (simp (disch := omega) only [w64_id, few, few9, List.length_set, List.length_append, List.length_take, List.length_drop, List.length_replicate, List.length_cons, List.length_nil, Int.toNat_natCast]; omega) | (simp [few, few9] <;> omega))) ?_)
    refine Tot.bnd (T201 _ (by simp) (by simp; omega)) fun r1 hr1 => ?_
    refine Tot.bnd (T235 r1.1.1 (by rw [hr1]; simp; omega)) fun r2 hr2 => ?_
    repeat' (first | refine Tot.gd (by (first | decide | omega | (simp (disch := omega) only [w64_id, few, few9, List.length_set, List.length_append, List.length_take, List.length_drop, List.length_replicate, List.length_cons, List.length_nil, Int.toNat_natCast]; done) | (simp (disch := omega) only [w64_id, few, few9, List.length_set, List.length_append, List.length_take, List.length_drop, List.length_replicate, List.length_cons, List.length_nil, Int.toNat_natCast]; omega) | (simp [few, few9] <;> omega))) ?_)
    refine Tot.bnd (T201 _ (by simp) (by simp; omega)) fun r3 hr3 => ?_
    refine Tot.bnd (T235 r3.1.1 (by rw [hr3]; simp; omega)) fun r4 hr4 => ?_
    exact Tot.s hr4
theorem T168 (k v b : List (BitVec 8)) (c : Int) (hk : k.length = 32) (hv : v.length = 32) (hb : b.length ≤ 1000000) : Tot (F44 ((k, (v, (c, ()))), ()) (b, ())) (fun r => r.2.1.1.length = 32 ∧ r.2.1.2.1.length = 32) := by
  unfold F44
  dsimp only
  repeat' (first | refine Tot.gd (by (first | decide | omega | (simp (disch := omega) only [w64_id, few, few9, List.length_set, List.length_append, List.length_take, List.length_drop, List.length_replicate, List.length_cons, List.length_nil, Int.toNat_natCast]; done) | (simp (disch := omega) only [w64_id, few, few9, List.length_set, List.length_append, List.length_take, List.length_drop, List.length_replicate, List.length_cons, List.length_nil, Int.toNat_natCast]; omega) | (simp [few, few9] <;> omega))) ?_)
  refine Tot.bnd (T201 _ (by simp) (by simp; omega)) fun r1 hr1 => ?_
  repeat' (first | refine Tot.gd (by (first | decide | omega | (simp (disch := omega) only [w64_id, few, few9, List.length_set, List.length_append, List.length_take, List.length_drop, List.length_replicate, List.length_cons, List.length_nil, Int.toNat_natCast]; done) | (simp (disch := omega) only [w64_id, few, few9, List.length_set, List.length_append, List.length_take, List.length_drop, List.length_replicate, List.length_cons, List.length_nil, Int.toNat_natCast]; omega) | (simp [few, few9] <;> omega))) ?_)
  refine Tot.bnd (T214 _ _ (by rw [List.length_take]; omega) (by rw [hr1]; simp; omega)) fun r2 hr2 => ?_
  repeat' (first | refine Tot.gd (by (first | decide | omega | (simp (disch := omega) only [w64_id, few, few9, List.length_set, List.length_append, List.length_take, List.length_drop, List.length_replicate, List.length_cons, List.length_nil, Int.toNat_natCast]; done) | (simp (disch := omega) only [w64_id, few, few9, List.length_set, List.length_append, List.length_take, List.length_drop, List.length_replicate, List.length_cons, List.length_nil, Int.toNat_natCast]; omega) | (simp [few, few9] <;> omega))) ?_)
  refine Tot.bnd (T201 _ (by simp) (by simp; omega)) fun r3 hr3 => ?_
  repeat' (first | refine Tot.gd (by (first | decide | omega | (simp (disch := omega) only [w64_id, few, few9, List.length_set, List.length_append, List.length_take, List.length_drop, List.length_replicate, List.length_cons, List.length_nil, Int.toNat_natCast]; done) | (simp (disch := omega) only [w64_id, few, few9, List.length_set, List.length_append, List.length_take, List.length_drop, List.length_replicate, List.length_cons, List.length_nil, Int.toNat_natCast]; omega) | (simp [few, few9] <;> omega))) ?_)
  refine Tot.bnd (T214 _ _ (by rw [List.length_take]; omega) (by rw [hr3]; simp; omega)) fun r4 hr4 => ?_
  refine Tot.brd (fun _ => ?_) (fun _ => Tot.s ⟨hr2, hr4⟩)
  repeat' (first | refine Tot.gd (by (first | decide | omega | (simp (disch := omega) only [w64_id, few, few9, List.length_set, List.length_append, List.length_take, List.length_drop, List.length_replicate, List.length_cons, List.length_nil, Int.toNat_natCast]; done) | (simp (disch := omega) only [w64_id, few, few9, List.length_set, List.length_append, List.length_take, List.length_drop, List.length_replicate, List.length_cons, List.length_nil, Int.toNat_natCast]; omega) | (simp [few, few9] <;> omega))) ?_)
  refine Tot.bnd (T201 _ (by simp) (by simp; omega)) fun r5 hr5 => ?_
  repeat' (first | refine Tot.gd (by (first | decide | omega | (simp (disch := omega) only [w64_id, few, few9, List.length_set, List.length_append, List.length_take, List.length_drop, List.length_replicate, List.length_cons, List.length_nil, Int.toNat_natCast]; done) | (simp (disch := omega) only [w64_id, few, few9, List.length_set, List.length_append, List.length_take, List.length_drop, List.length_replicate, List.length_cons, List.length_nil, Int.toNat_natCast]; omega) | (simp [few, few9] <;> omega))) ?_)
  refine Tot.bnd (T214 _ _ (by rw [List.length_take]; omega) (by rw [hr5]; simp; omega)) fun r6 hr6 => ?_
  repeat' (first | refine Tot.gd (by (first | decide | omega | (simp (disch := omega) only [w64_id, few, few9, List.length_set, List.length_append, List.length_take, List.length_drop, List.length_replicate, List.length_cons, List.length_nil, Int.toNat_natCast]; done) | (simp (disch := omega) only [w64_id, few, few9, List.length_set, List.length_append, List.length_take, List.length_drop, List.length_replicate, List.length_cons, List.length_nil, Int.toNat_natCast]; omega) | (simp [few, few9] <;> omega))) ?_)
  refine Tot.bnd (T201 _ (by simp) (by simp; omega)) fun r7 hr7 => ?_
  repeat' (first | refine Tot.gd (by (first | decide | omega | (simp (disch := omega) only [w64_id, few, few9, List.length_set, List.length_append, List.length_take, List.length_drop, List.length_replicate, List.length_cons, List.length_nil, Int.toNat_natCast]; done) | (simp (disch := omega) only [w64_id, few, few9, List.length_set, List.length_append, List.length_take, List.length_drop, List.length_replicate, List.length_cons, List.length_nil, Int.toNat_natCast]; omega) | (simp [few, few9] <;> omega))) ?_)
  refine Tot.bnd (T214 _ _ (by rw [List.length_take]; omega) (by rw [hr7]; simp; omega)) fun r8 hr8 => ?_
  exact Tot.s ⟨hr6, hr8⟩
theorem T106 (k v b : List (BitVec 8)) (c : Int) (hk : k.length = 32) (hv : v.length = 32) (hb : b.length ≤ 1000000) : Tot (F20 ((k, (v, (c, ()))), ()) (b, ())) (fun r => r.2.1.1.length = 32 ∧ r.2.1.2.1.length = 32) := by
  unfold F20
  exact Tot.bnd (T168 k v b c hk hv hb) fun r hr => Tot.s hr
theorem T42 (b : List (BitVec 8)) (hb : b.length ≤ 1000000) : Tot (F9 () (b, ())) (fun r => r.1.1.1.length = 32 ∧ r.1.1.2.1.length = 32) := by
  refine Tot.count 32 (fun i v => v.1.1 = (i : Int) ∧ v.2.1.1.length = 32 ∧ v.2.1.2.1.length = 32) ⟨rfl, by simp, by simp⟩ (by decide) ?_
  rintro i ⟨⟨t, ⟨⟩⟩, ⟨k0, v0, c0, ⟨⟩⟩, ⟨⟩⟩ hi ⟨ht, hk0, hv0⟩ k hk
  dsimp only at ht hk0 hv0 ⊢
  subst ht
  refine Tot.brd (fun hlt => ?_) (fun hge => ?_)
  · repeat' (first | refine Tot.gd (by (first | decide | omega | (simp (disch := omega) only [w64_id, few, few9, List.length_set, List.length_append, List.length_take, List.length_drop, List.length_replicate, List.length_cons, List.length_nil, Int.toNat_natCast]; done) | (simp (disch := omega) only [w64_id, few, few9, List.length_set, List.length_append, List.length_take, List.length_drop, List.length_replicate, List.length_cons, List.length_nil, Int.toNat_natCast]; omega) | (simp [few, few9] <;> omega))) ?_)
    refine hk (by omega) _ ⟨?_, ?_, ?_⟩
    · dsimp only; (first | decide | omega | (simp (disch := omega) only [w64_id, few, few9, List.length_set, List.length_append, List.length_take, List.length_drop, List.length_replicate, List.length_cons, List.length_nil, Int.toNat_natCast]; done) | (simp (disch := omega) only [w64_id, few, few9, List.length_set, List.length_append, List.length_take, List.length_drop, List.length_replicate, List.length_cons, List.length_nil, Int.toNat_natCast]; omega) | (simp [few, few9] <;> omega))
    · exact hk0
    · dsimp only; (first | decide | omega | (simp (disch := omega) only [w64_id, few, few9, List.length_set, List.length_append, List.length_take, List.length_drop, List.length_replicate, List.length_cons, List.length_nil, Int.toNat_natCast]; done) | (simp (disch := omega) only [w64_id, few, few9, List.length_set, List.length_append, List.length_take, List.length_drop, List.length_replicate, List.length_cons, List.length_nil, Int.toNat_natCast]; omega) | (simp [few, few9] <;> omega))
  · exact Tot.bnd (T106 k0 v0 b c0 hk0 hv0 hb) fun r hr => Tot.s hr
theorem T15 (b : List (BitVec 8)) (hb : b.length ≤ 1000000) : Tot (F5 () (b, ())) (fun r => r.1.1.2.2.1 = ([], (1, ()))) := by
  unfold F5
  refine Tot.bnd (T42 b hb) fun r _ => ?_
  refine Tot.bnd (Q := fun _ => True) (Tot.s trivial) fun r _ => ?_
  refine Tot.bnd (Q := fun r => r.1.1 = ([], (1, ()))) (Tot.s rfl) fun r hr => ?_
  exact Tot.s hr
end Go.GX
namespace Go.GX
open Go.RowKit Go.SL
set_option linter.unusedVariables false
set_option linter.unusedSimpArgs false
abbrev By := List (BitVec 8)
abbrev RepT := Int × Int × Int × By × Unit
abbrev SeaT := Int × Int × RepT × Unit
abbrev TabT := List (Int × SeaT) × Int × Unit
abbrev VerT := By × Int × Bool × Unit
abbrev RngT := Bool × List VerT × Unit
abbrev KeyT := List RngT × Unit
abbrev SrcT := By × By × Int × Unit
abbrev StoT := SrcT × KeyT × TabT × Unit
abbrev CmdT := Int × Int × Int × Int × Int × By × By × Unit
def rep0 : RepT := (0, (0, (0, ([], ()))))
def repC (e : Int) : RepT := (e, (0, (0, ([], ()))))
theorem U171 (b : By) (h : b.length ≤ 4294967296) : F45 () (b, ()) = some ((b, ()), ()) := by
  unfold F45
  have q : gd (few 0 (List.length b)) (some ((([] ++ b : By), ()), ())) = some ((b, ()), ()) := by rw [gd_t (by simpa [few] using h)]; rfl
  dsimp only
  rw [q]
  cases hb : decide (List.length b = 0) with
  | false => rw [nlq_f]
  | true =>
    have : b = [] := by simpa using hb
    subst this
    rw [nlq_t, bth_self]
theorem U120 (r : RepT) (h : r.2.2.2.1.length ≤ 4294967296) : F32 () (r, ()) = some ((r, ()), ()) := by
  unfold F32
  dsimp only
  rw [U171 _ h, bnd_s]
theorem U48 (r : RepT) (e : Int) : F13 (r, (e, ())) () = some (((if e = 0 then r else repC e), ()), ()) := by
  unfold F13
  by_cases h : e = 0
  · subst h; simp
  · rw [if_neg h, show (e != 0) = true from by simpa using h, br_t]; rfl
theorem U49 (l : List (Int × SeaT)) (n : Int) : F14 ((l, (n, ())), ()) () = some (if 8 ≤ l.length ∨ 1099511627776 ≤ n then ((0, (134, ())), ((l, (n, ())), ())) else ((n, (0, ())), ((mput l n (n, (0, (rep0, ()))), (Go.SL.w64 (n + 1), ())), ()))) := by
  unfold F14
  dsimp only
  by_cases h1 : 8 ≤ l.length
  · rw [show decide ((Nat.cast (List.length l) : Int) ≥ 8) = true from by simpa using (by omega), br_t, if_pos (.inl h1)]
  · rw [show decide ((Nat.cast (List.length l) : Int) ≥ 8) = false from by simpa using (by omega), br_f]
    by_cases h2 : 1099511627776 ≤ n
    · rw [show (cond false true (decide (n ≥ 1099511627776))) = true from by simpa using h2, br_t, if_pos (.inr h2)]
    · rw [show (cond false true (decide (n ≥ 1099511627776))) = false from by simpa using (by omega), br_f, if_neg (by omega)]; rfl
theorem U50 (l : List (Int × SeaT)) (n id : Int) : F15 ((l, (n, ())), (id, ())) () = some (match mget l id with
    | none => ((150, ()), ((l, (n, ())), ()))
    | some _ => ((0, ()), ((mdel l id, (n, ())), ()))) := by
  unfold F15
  dsimp only
  cases mget l id with
  | none => rw [ob_n, br_t]
  | some s => rw [ob_s, br_f]
/-- what Ask tells -/
noncomputable def askT (l : List (Int × SeaT)) (id seq : Int) : RepT × Bool × Int × Unit := match mget l id with
  | none => (rep0, (false, (150, ())))
  | some s => if seq < imax 1 s.2.1 then (rep0, (false, (151, ()))) else if seq = s.2.1 then (s.2.2.1, (true, (0, ()))) else (rep0, (false, (0, ())))
theorem U51 (l : List (Int × SeaT)) (n id seq : Int) (h : ∀ s, mget l id = some s → s.2.2.1.2.2.2.1.length ≤ 4294967296) : F16 ((l, (n, ())), (id, (seq, ()))) () = some (askT l id seq, ((l, (n, ())), ())) := by
  unfold F16 askT
  dsimp only
  cases hg : mget l id with
  | none => rw [ob_n, br_t]; rfl
  | some s =>
    rw [ob_s, br_f]
    dsimp only
    by_cases h1 : seq < imax 1 s.2.1
    · rw [show decide (seq < imax 1 s.2.1) = true from decide_eq_true h1, br_t, if_pos h1]; rfl
    · rw [show decide (seq < imax 1 s.2.1) = false from decide_eq_false h1, br_f, if_neg h1]
      by_cases h2 : seq = s.2.1
      · rw [show (seq == s.2.1) = true from by simpa using h2, br_t, if_pos h2, U120 _ (h s hg), bnd_s]
      · rw [show (seq == s.2.1) = false from by simpa using h2, br_f, if_neg h2]; rfl
theorem U53 (l : List (Int × SeaT)) (n id seq : Int) (r : RepT) (hr : r.2.2.2.1.length ≤ 4294967296) : F18 ((l, (n, ())), (id, (seq, (r, ())))) () = some (match mget l id with
    | none => ((150, ()), ((l, (n, ())), ()))
    | some s => if seq ≤ s.2.1 then ((151, ()), ((l, (n, ())), ())) else ((0, ()), ((mput l id (id, (seq, (r, ()))), (n, ())), ()))) := by
  unfold F18
  dsimp only
  cases hg : mget l id with
  | none => rw [ob_n, br_t]
  | some s =>
    rw [ob_s, br_f]
    dsimp only
    by_cases h1 : seq ≤ s.2.1
    · rw [show decide (seq ≤ s.2.1) = true from decide_eq_true h1, br_t, if_pos h1]
    · rw [show decide (seq ≤ s.2.1) = false from decide_eq_false h1, br_f, if_neg h1, U120 _ hr, bnd_s]
theorem U123 (l : List RngT) (m : By) (h : l.length ≤ 1000) : F35 ((l, ()), (m, ())) () = some (if 8 ≤ l.length then ((0, (134, ())), ((l, ()), ())) else ((((l.length + 1 : Nat) : Int), (0, ())), ((l ++ [(false, ([(m, (0, (false, ())))], ()))], ()), ()))) := by
  unfold F35
  dsimp only
  by_cases h1 : 8 ≤ l.length
  · rw [show decide ((Nat.cast (List.length l) : Int) ≥ 8) = true from by simpa using (by omega), br_t, if_pos h1]
  · rw [show decide ((Nat.cast (List.length l) : Int) ≥ 8) = false from by simpa using (by omega), br_f, if_neg h1, gd_t (by simp [few]; omega)]
    simp
/-- a source as it should be -/
def SrcOk (s : SrcT) : Prop := s.1.length = 32 ∧ s.2.1.length = 32
theorem T168c (k v b : List (BitVec 8)) (c : Int) (hk : k.length = 32) (hv : v.length = 32) (hb : b.length ≤ 1000000) : Tot (F44 ((k, (v, (c, ()))), ()) (b, ())) (fun r => r.2.1.1.length = 32 ∧ r.2.1.2.1.length = 32 ∧ r.2.1.2.2.1 = c) := by
  unfold F44
  dsimp only
  repeat' (first | refine Tot.gd (by (first | decide | omega | (simp (disch := omega) only [w64_id, few, few9, List.length_set, List.length_append, List.length_take, List.length_drop, List.length_replicate, List.length_cons, List.length_nil, Int.toNat_natCast]; done) | (simp (disch := omega) only [w64_id, few, few9, List.length_set, List.length_append, List.length_take, List.length_drop, List.length_replicate, List.length_cons, List.length_nil, Int.toNat_natCast]; omega) | (simp [few, few9] <;> omega))) ?_)
  refine Tot.bnd (T201 _ (by simp) (by simp; omega)) fun r1 hr1 => ?_
  repeat' (first | refine Tot.gd (by (first | decide | omega | (simp (disch := omega) only [w64_id, few, few9, List.length_set, List.length_append, List.length_take, List.length_drop, List.length_replicate, List.length_cons, List.length_nil, Int.toNat_natCast]; done) | (simp (disch := omega) only [w64_id, few, few9, List.length_set, List.length_append, List.length_take, List.length_drop, List.length_replicate, List.length_cons, List.length_nil, Int.toNat_natCast]; omega) | (simp [few, few9] <;> omega))) ?_)
  refine Tot.bnd (T214 _ _ (by rw [List.length_take]; omega) (by rw [hr1]; simp; omega)) fun r2 hr2 => ?_
  repeat' (first | refine Tot.gd (by (first | decide | omega | (simp (disch := omega) only [w64_id, few, few9, List.length_set, List.length_append, List.length_take, List.length_drop, List.length_replicate, List.length_cons, List.length_nil, Int.toNat_natCast]; done) | (simp (disch := omega) only [w64_id, few, few9, List.length_set, List.length_append, List.length_take, List.length_drop, List.length_replicate, List.length_cons, List.length_nil, Int.toNat_natCast]; omega) | (simp [few, few9] <;> omega))) ?_)
  refine Tot.bnd (T201 _ (by simp) (by simp; omega)) fun r3 hr3 => ?_
  repeat' (first | refine Tot.gd (by (first | decide | omega | (simp (disch := omega) only [w64_id, few, few9, List.length_set, List.length_append, List.length_take, List.length_drop, List.length_replicate, List.length_cons, List.length_nil, Int.toNat_natCast]; done) | (simp (disch := omega) only [w64_id, few, few9, List.length_set, List.length_append, List.length_take, List.length_drop, List.length_replicate, List.length_cons, List.length_nil, Int.toNat_natCast]; omega) | (simp [few, few9] <;> omega))) ?_)
  refine Tot.bnd (T214 _ _ (by rw [List.length_take]; omega) (by rw [hr3]; simp; omega)) fun r4 hr4 => ?_
  refine Tot.brd (fun _ => ?_) (fun _ => Tot.s ⟨hr2, hr4, rfl⟩)
  repeat' (first | refine Tot.gd (by (first | decide | omega | (simp (disch := omega) only [w64_id, few, few9, List.length_set, List.length_append, List.length_take, List.length_drop, List.length_replicate, List.length_cons, List.length_nil, Int.toNat_natCast]; done) | (simp (disch := omega) only [w64_id, few, few9, List.length_set, List.length_append, List.length_take, List.length_drop, List.length_replicate, List.length_cons, List.length_nil, Int.toNat_natCast]; omega) | (simp [few, few9] <;> omega))) ?_)
  refine Tot.bnd (T201 _ (by simp) (by simp; omega)) fun r5 hr5 => ?_
  repeat' (first | refine Tot.gd (by (first | decide | omega | (simp (disch := omega) only [w64_id, few, few9, List.length_set, List.length_append, List.length_take, List.length_drop, List.length_replicate, List.length_cons, List.length_nil, Int.toNat_natCast]; done) | (simp (disch := omega) only [w64_id, few, few9, List.length_set, List.length_append, List.length_take, List.length_drop, List.length_replicate, List.length_cons, List.length_nil, Int.toNat_natCast]; omega) | (simp [few, few9] <;> omega))) ?_)
  refine Tot.bnd (T214 _ _ (by rw [List.length_take]; omega) (by rw [hr5]; simp; omega)) fun r6 hr6 => ?_
  repeat' (first | refine Tot.gd (by (first | decide | omega | (simp (disch := omega) only [w64_id, few, few9, List.length_set, List.length_append, List.length_take, List.length_drop, List.length_replicate, List.length_cons, List.length_nil, Int.toNat_natCast]; done) | (simp (disch := omega) only [w64_id, few, few9, List.length_set, List.length_append, List.length_take, List.length_drop, List.length_replicate, List.length_cons, List.length_nil, Int.toNat_natCast]; omega) | (simp [few, few9] <;> omega))) ?_)
  refine Tot.bnd (T201 _ (by simp) (by simp; omega)) fun r7 hr7 => ?_
  repeat' (first | refine Tot.gd (by (first | decide | omega | (simp (disch := omega) only [w64_id, few, few9, List.length_set, List.length_append, List.length_take, List.length_drop, List.length_replicate, List.length_cons, List.length_nil, Int.toNat_natCast]; done) | (simp (disch := omega) only [w64_id, few, few9, List.length_set, List.length_append, List.length_take, List.length_drop, List.length_replicate, List.length_cons, List.length_nil, Int.toNat_natCast]; omega) | (simp [few, few9] <;> omega))) ?_)
  refine Tot.bnd (T214 _ _ (by rw [List.length_take]; omega) (by rw [hr7]; simp; omega)) fun r8 hr8 => ?_
  exact Tot.s ⟨hr6, hr8, rfl⟩
theorem V168 (s : SrcT) (hs : SrcOk s) (b : By) (hb : b.length ≤ 1000000) : Tot (F44 (s, ()) (b, ())) (fun r => SrcOk r.2.1 ∧ r.2.1.2.2.1 = s.2.2.1) := by
  obtain ⟨k, v, c, ⟨⟩⟩ := s
  exact (T168c k v b c hs.1 hs.2 hb).mono fun r h => ⟨⟨h.1, h.2.1⟩, h.2.2⟩
theorem tdl (l : List (BitVec 8)) (h : l.length = 32) : List.take 32 (List.drop 0 l) = l := by rw [List.drop_zero, List.take_of_length_le (by omega)]
/-- what is drawn: 32 bytes -/
theorem V172 (s : SrcT) (hs : SrcOk s) (hc : 0 ≤ s.2.2.1 ∧ s.2.2.1 ≤ 1048576) : Tot (F46 (s, (32, ())) ([], ())) (fun r => r.1.1.length = 32 ∧ r.1.2.1 = 0 ∧ SrcOk r.2.1 ∧ r.2.1.2.2.1 = s.2.2.1 + 1) := by
  obtain ⟨k, v, c, ⟨⟩⟩ := s
  obtain ⟨hk, hv⟩ := hs
  dsimp only at hk hv hc
  unfold F46
  dsimp only
  refine Tot.jn ?_
  refine Tot.brd (fun h => absurd h (by decide)) (fun _ => ?_)
  refine Tot.gdE ?_
  dsimp only
  refine Tot.brd (fun h => absurd h (by decide)) (fun _ => ?_)
  refine Tot.brd (fun h => by omega) (fun _ => ?_)
  refine Tot.jn ?_
  refine Tot.brd (fun h => absurd h (by simp)) (fun _ => ?_)
  dsimp only
  refine Tot.count 1 (fun i v => v.1.1.length = 32 * i ∧ SrcOk v.2.1 ∧ v.2.1.2.2.1 = c) ⟨rfl, ⟨hk, hv⟩, rfl⟩ (by decide) ?_
  rintro i ⟨⟨o, ⟨⟩⟩, ⟨k2, v2, c2, ⟨⟩⟩, ⟨⟩⟩ hi ⟨ho, ⟨hk2, hv2⟩, hc2⟩ rec hrec
  dsimp only at ho hk2 hv2 hc2 ⊢
  subst hc2
  refine Tot.brd (fun hlt => ?_) (fun hge => ?_)
  · have h0 : i = 0 := by omega
    subst h0
    refine Tot.gd (by decide) (Tot.gd (by decide) (Tot.gd (by decide) (Tot.gd (by decide) (Tot.gd (by omega) ?_))))
    rw [tdl _ hv2, tdl _ hk2]
    refine Tot.bnd (T201 _ (by simp) (by simp; omega)) fun r1 hr1 => ?_
    refine Tot.gd (by omega) ?_
    refine Tot.bnd (T214 _ _ (by omega) (by rw [hr1]; simp; omega)) fun r2 hr2 => ?_
    rw [tdl _ hr2]
    refine Tot.gd (by decide) (Tot.gd (by decide) (Tot.gd (by omega) (Tot.gd (by unfold few; omega) ?_)))
    refine hrec (by omega) _ ⟨?_, ⟨hk2, hr2⟩, rfl⟩
    dsimp only
    rw [List.length_append]; omega
  · have h1 : i = 1 := by omega
    subst h1
    refine Tot.bnd (V168 (k2, (v2, (c2, ()))) ⟨hk2, hv2⟩ [] (by decide)) fun r hr => ?_
    refine Tot.gd (by decide) (Tot.gd (by decide) (Tot.gd ?_ (Tot.gd ?_ (Tot.s ⟨?_, rfl, hr.1, ?_⟩))))
    · show (32 : Int).toNat ≤ _; omega
    · show 0 + ((32 : Int).toNat - 0) ≤ _; omega
    · show (List.take ((32 : Int).toNat - 0) (List.drop 0 o)).length = 32
      rw [List.drop_zero, List.length_take]; omega
    · show Go.SL.w64 (r.2.1.2.2.1 + 1) = _
      rw [hr.2, w64_id (by dsimp only; omega) (by dsimp only; omega)]
/-- a source that is new -/
theorem V106 (s : SrcT) (hs : SrcOk s) (b : By) (hb : b.length ≤ 1000000) : Tot (F20 (s, ()) (b, ())) (fun r => SrcOk r.2.1 ∧ r.2.1.2.2.1 = 1) := by
  unfold F20
  exact Tot.bnd (V168 s hs b hb) fun r hr => Tot.s ⟨hr.1, rfl⟩
theorem V42 (b : By) (hb : b.length ≤ 1000000) : Tot (F9 () (b, ())) (fun r => SrcOk r.1.1 ∧ r.1.1.2.2.1 = 1) := by
  refine Tot.count 32 (fun i v => v.1.1 = (i : Int) ∧ SrcOk v.2.1) ⟨rfl, by simp, by simp⟩ (by decide) ?_
  rintro i ⟨⟨t, ⟨⟩⟩, ⟨k0, v0, c0, ⟨⟩⟩, ⟨⟩⟩ hi ⟨ht, hk0, hv0⟩ k hk
  dsimp only at ht hk0 hv0 ⊢
  subst ht
  refine Tot.brd (fun hlt => ?_) (fun hge => ?_)
  · repeat' (first | refine Tot.gd (by (first | decide | omega | (simp (disch := omega) only [w64_id, few, few9, List.length_set, List.length_append, List.length_take, List.length_drop, List.length_replicate, List.length_cons, List.length_nil, Int.toNat_natCast]; done) | (simp (disch := omega) only [w64_id, few, few9, List.length_set, List.length_append, List.length_take, List.length_drop, List.length_replicate, List.length_cons, List.length_nil, Int.toNat_natCast]; omega) | (simp [few, few9] <;> omega))) ?_)
    refine hk (by omega) _ ⟨?_, ?_, ?_⟩
    · dsimp only; (first | decide | omega | (simp (disch := omega) only [w64_id, few, few9, List.length_set, List.length_append, List.length_take, List.length_drop, List.length_replicate, List.length_cons, List.length_nil, Int.toNat_natCast]; done) | (simp (disch := omega) only [w64_id, few, few9, List.length_set, List.length_append, List.length_take, List.length_drop, List.length_replicate, List.length_cons, List.length_nil, Int.toNat_natCast]; omega) | (simp [few, few9] <;> omega))
    · exact hk0
    · dsimp only; (first | decide | omega | (simp (disch := omega) only [w64_id, few, few9, List.length_set, List.length_append, List.length_take, List.length_drop, List.length_replicate, List.length_cons, List.length_nil, Int.toNat_natCast]; done) | (simp (disch := omega) only [w64_id, few, few9, List.length_set, List.length_append, List.length_take, List.length_drop, List.length_replicate, List.length_cons, List.length_nil, Int.toNat_natCast]; omega) | (simp [few, few9] <;> omega))
  · exact Tot.bnd (V106 (k0, (v0, (c0, ()))) ⟨hk0, hv0⟩ b hb) fun r hr => Tot.s hr
/-- a store that is new -/
theorem V15 (b : By) (hb : b.length ≤ 1000000) : Tot (F5 () (b, ())) (fun r => ∃ s : SrcT, SrcOk s ∧ s.2.2.1 = 1 ∧ r.1.1 = (s, (([], ()), (([], (1, ())), ())))) := by
  unfold F5
  refine Tot.bnd (V42 b hb) fun r hr => ?_
  refine Tot.bnd (Q := fun r => r.1.1 = ([], ())) (Tot.s rfl) fun r2 hr2 => ?_
  refine Tot.bnd (Q := fun r => r.1.1 = ([], (1, ()))) (Tot.s rfl) fun r3 hr3 => ?_
  refine Tot.s ⟨r.1.1, hr.1, hr.2, ?_⟩
  dsimp only
  rw [hr2, hr3]
end Go.GX
namespace Go.GX
open Go.RowKit Go.SL
set_option linter.unusedVariables false
set_option linter.unusedSimpArgs false
theorem U111 (a b c : Int) : F23 (a, (b, (c, ()))) () = some ((decide (a ≥ b) && decide (a ≤ c), ()), ()) := by
  unfold F23
  dsimp only
  cases decide (a ≥ b) <;> simp
theorem gdE_T' {β : Type} (x : Option β) : gdE True x = x := gdE_t trivial x
def cmdOpen : CmdT := (1, (0, (0, (0, (0, ([], ([], ())))))))
def cmdExp (id : Int) : CmdT := (2, (0, (0, (id, (0, ([], ([], ())))))))
def cmdNew (sid seq : Int) : CmdT := (3, (sid, (seq, (0, (0, ([], ([], ())))))))
theorem U47o : F12 () (cmdOpen, ()) = some ((0, ()), ()) := by
  unfold F12 cmdOpen
  simp [U111, gd_t, gdE_T', jn_e]
theorem U47e (id : Int) (h : 1 ≤ id ∧ id ≤ 1099511627776) : F12 () (cmdExp id, ()) = some ((0, ()), ()) := by
  unfold F12 cmdExp
  simp [U111, gd_t, gdE_T', jn_e, h.1, h.2]
theorem U47n (sid seq : Int) (h1 : 1 ≤ sid ∧ sid ≤ 1099511627776) (h2 : 1 ≤ seq ∧ seq ≤ 1099511627776) : F12 () (cmdNew sid seq, ()) = some ((0, ()), ()) := by
  unfold F12 cmdNew
  simp [U111, gd_t, gdE_T', jn_e, h1.1, h1.2, h2.1, h2.2]
/-- Open -/
theorem U18o (s : SrcT) (k : KeyT) (l : List (Int × SeaT)) (n : Int) (h8 : l.length < 8) (hn : n < 1099511627776) (h1 : 1 ≤ n) :
    F7 ((s, (k, ((l, (n, ())), ()))), ()) (cmdOpen, ()) = some (((0, (n, (0, ([], ())))), ()), ((s, (k, ((mput l n (n, (0, (rep0, ()))), (n + 1, ())), ()))), ())) := by
  have h47 : F12 () ((cmdOpen.1, (cmdOpen.2.1, (cmdOpen.2.2.1, (cmdOpen.2.2.2.1, (cmdOpen.2.2.2.2.1, (cmdOpen.2.2.2.2.2.1, (cmdOpen.2.2.2.2.2.2.1, ()))))))), ()) = some ((0, ()), ()) := U47o
  unfold F7
  dsimp only
  rw [h47, bnd_s]
  dsimp only
  rw [show ((0 : Int) != 0) = false from rfl, br_f, show (cmdOpen.1 == 1) = true from rfl, br_t, U49, if_neg (by omega), bnd_s, U48, bnd_s, if_pos rfl]
  rw [w64_id (by omega) (by omega)]
/-- Expire -/
theorem U18e (s : SrcT) (k : KeyT) (l : List (Int × SeaT)) (n id : Int) (h : 1 ≤ id ∧ id ≤ 1099511627776) (x : SeaT) (hx : mget l id = some x) :
    F7 ((s, (k, ((l, (n, ())), ()))), ()) (cmdExp id, ()) = some ((rep0, ()), ((s, (k, ((mdel l id, (n, ())), ()))), ())) := by
  have h47 : F12 () (((cmdExp id).1, ((cmdExp id).2.1, ((cmdExp id).2.2.1, ((cmdExp id).2.2.2.1, ((cmdExp id).2.2.2.2.1, ((cmdExp id).2.2.2.2.2.1, ((cmdExp id).2.2.2.2.2.2.1, ()))))))), ()) = some ((0, ()), ()) := U47e id h
  unfold F7
  dsimp only
  rw [h47, bnd_s]
  dsimp only
  rw [show ((0 : Int) != 0) = false from rfl, br_f, show ((cmdExp id).1 == 1) = false from rfl, br_f, show ((cmdExp id).1 == 2) = true from rfl, br_t]
  rw [show (cmdExp id).2.2.2.1 = id from rfl, U50, hx, bnd_s, U48, bnd_s, if_pos rfl]
  rfl
/-- a command in a session -/
theorem U18s (s : SrcT) (k : KeyT) (l : List (Int × SeaT)) (n : Int) (c : CmdT) (h47 : F12 () (c, ()) = some ((0, ()), ())) (h1 : c.1 ≠ 1) (h2 : c.1 ≠ 2) (hb : ∀ s, mget l c.2.1 = some s → s.2.2.1.2.2.2.1.length ≤ 4294967296) :
    F7 ((s, (k, ((l, (n, ())), ()))), ()) (c, ()) = (if (askT l c.2.1 c.2.2.1).2.2.1 ≠ 0 then some ((repC (askT l c.2.1 c.2.2.1).2.2.1, ()), ((s, (k, ((l, (n, ())), ()))), ()))
      else if (askT l c.2.1 c.2.2.1).2.1 = true then some (((askT l c.2.1 c.2.2.1).1, ()), ((s, (k, ((l, (n, ())), ()))), ()))
      else bnd (F17 ((s, (k, ((l, (n, ())), ()))), ()) (c, ())) fun a => bnd (F13 (a.1.1, (a.1.2.1, ())) ()) fun b => bnd (F18 (a.2.1.2.2.1, (c.2.1, (c.2.2.1, (b.1.1, ())))) ()) fun d => some ((b.1.1, ()), ((a.2.1.1, (a.2.1.2.1, (d.2.1, ()))), ()))) := by
  obtain ⟨k0, sid, seq, id, m, da, be, ⟨⟩⟩ := c
  dsimp only at h1 h2 hb ⊢
  have h47' : F12 () ((k0, (sid, (seq, (id, (m, (da, (be, ()))))))), ()) = some ((0, ()), ()) := h47
  unfold F7
  dsimp only
  rw [h47', bnd_s]
  dsimp only
  rw [show ((0 : Int) != 0) = false from rfl, br_f, show (k0 == 1) = false from by simpa using h1, br_f, show (k0 == 2) = false from by simpa using h2, br_f, bth_self]
  rw [U51 l n sid seq hb, bnd_s]
  dsimp only
  by_cases he : (askT l sid seq).2.2.1 = 0
  · rw [if_neg (by simpa using he), he, show ((0 : Int) != 0) = false from rfl, br_f]
    cases hs : (askT l sid seq).2.1 with
    | true => rw [if_pos rfl, show cond false true true = true from rfl, br_t, U48, bnd_s, if_pos rfl]
    | false => rw [if_neg (by decide), show cond false true false = false from rfl, br_f]
  · rw [if_pos he, show ((askT l sid seq).2.2.1 != 0) = true from by simpa using he, br_t, U48, bnd_s, if_neg he]
/-- Create -/
theorem V52 (s : SrcT) (hs : SrcOk s) (hc : 0 ≤ s.2.2.1 ∧ s.2.2.1 ≤ 1048576) (l : List RngT) (hl : l.length < 8) (t : TabT) (c : CmdT) (h : c.1 = 3) :
    Tot (F17 ((s, ((l, ()), (t, ()))), ()) (c, ())) (fun r => r.1.1 = (0, (((l.length + 1 : Nat) : Int), (1, ([], ())))) ∧ r.1.2.1 = 0 ∧ SrcOk r.2.1.1 ∧ r.2.1.1.2.2.1 = s.2.2.1 + 1 ∧ (∃ m : By, m.length = 32 ∧ r.2.1.2.1 = (l ++ [(false, ([(m, (0, (false, ())))], ()))], ())) ∧ r.2.1.2.2.1 = t) := by
  unfold F17
  dsimp only
  rw [show (c.1 == 3) = true from by simpa using h, br_t]
  refine Tot.bnd (V172 s hs hc) fun r hr => ?_
  obtain ⟨h1, h2, h3, h4⟩ := hr
  rw [h2, show ((0 : Int) != 0) = false from rfl, br_f]
  refine Tot.gd (by omega) ?_
  rw [U123 _ _ (by omega), if_neg (by omega), bnd_s]
  refine Tot.s ⟨rfl, rfl, h3, h4, ⟨_, ?_, rfl⟩, rfl⟩
  rw [List.length_take]; omega
end Go.GX
namespace Go.GX
open Go.RowKit Go.SL
set_option linter.unusedVariables false
set_option linter.unusedSimpArgs false
def ver0 (m : By) : VerT := (m, (0, (false, ())))
def rng0 (m : By) : RngT := (false, ([ver0 m], ()))
theorem V18n (s : SrcT) (hs : SrcOk s) (hc : 0 ≤ s.2.2.1 ∧ s.2.2.1 ≤ 1048576) (rl : List RngT) (hl : rl.length < 8) (l : List (Int × SeaT)) (n sid seq : Int) (h1 : 1 ≤ sid ∧ sid ≤ 1099511627776) (h2 : 1 ≤ seq ∧ seq ≤ 1099511627776)
    (x : SeaT) (hx : mget l sid = some x) (hq : x.2.1 < seq) (hb : x.2.2.1.2.2.2.1.length ≤ 4294967296) :
    Tot (F7 ((s, ((rl, ()), ((l, (n, ())), ()))), ()) (cmdNew sid seq, ())) (fun r => r.1.1 = (0, (((rl.length + 1 : Nat) : Int), (1, ([], ())))) ∧
      ∃ (s' : SrcT) (m : By), SrcOk s' ∧ s'.2.2.1 = s.2.2.1 + 1 ∧ m.length = 32 ∧ r.2.1 = (s', ((rl ++ [rng0 m], ()), ((mput l sid (sid, (seq, ((0, (((rl.length + 1 : Nat) : Int), (1, ([], ())))), ()))), (n, ())), ())))) := by
  have hm : imax 1 x.2.1 ≤ seq := by unfold imax; split <;> omega
  have ha : askT l sid seq = (rep0, (false, (0, ()))) := by
    unfold askT
    rw [hx]
    dsimp only
    rw [if_neg (by omega), if_neg (by omega)]
  rw [U18s s (rl, ()) l n (cmdNew sid seq) (U47n sid seq h1 h2) (show (3 : Int) ≠ 1 by decide) (show (3 : Int) ≠ 2 by decide) (fun y hy => by
    have : mget l sid = some y := hy
    rw [hx] at this; cases this; exact hb)]
  have e1 : (cmdNew sid seq).2.1 = sid := rfl
  have e2 : (cmdNew sid seq).2.2.1 = seq := rfl
  rw [e1, e2, ha, if_neg (by decide), if_neg (by decide)]
  refine Tot.bnd (V52 s hs hc rl hl (l, (n, ())) (cmdNew sid seq) rfl) fun r hr => ?_
  obtain ⟨g1, g2, g3, g4, ⟨m, hm1, g5⟩, g6⟩ := hr
  rw [g1, g2, U48, bnd_s, if_pos rfl, g6]
  dsimp only
  rw [U53 _ _ _ _ _ (by simp), hx]
  dsimp only
  rw [if_neg (by omega), bnd_s]
  refine Tot.s ⟨rfl, r.2.1.1, m, g3, g4, hm1, ?_⟩
  dsimp only
  rw [g5]; rfl
/-- all keys, told as they are -/
theorem V55 (l : List RngT) (h8 : l.length ≤ 1000) (h4 : ∀ x ∈ l, x.2.1.length ≤ 1000) : Tot (F19 ((l, ()), ()) ()) (fun r => r.1.1 = l ∧ r.2.1 = (l, ())) := by
  unfold F19
  dsimp only
  refine Tot.count l.length (fun i v => v.1.1 = (i : Int) ∧ v.1.2.1 = l.take i ∧ v.2.1 = l) ⟨rfl, rfl, rfl⟩ (by omega) ?_
  rintro i ⟨⟨t, o, ⟨⟩⟩, b, ⟨⟩⟩ hi ⟨ht, ho, hb⟩ k hk
  dsimp only at ht ho hb ⊢
  subst ht; subst ho; subst hb
  refine Tot.brd (fun hlt => ?_) (fun hge => ?_)
  · have hi' : i < b.length := by omega
    refine Tot.gd (by omega) (Tot.gd (by omega) (Tot.idx (by omega) fun a ha => ?_))
    have ha' : b[i]? = some a := by simpa using ha
    have ham := h4 a (List.mem_of_getElem? ha')
    have hst : List.set b i (a.1, (a.2.1, ())) = b := by
      apply List.ext_getElem?
      intro j
      rw [List.getElem?_set]
      split
      · rename_i e; subst e
        first | rw [if_pos hi', ha'] | rw [ha']
      · rfl
    have htk : List.take i b ++ [(a.1, (a.2.1, ()))] = List.take (i + 1) b := by
      rw [List.take_add_one, ha']; rfl
    have hfew : few (List.length (List.take i b)) 1 := by unfold few; rw [List.length_take]; omega
    have hrec : Tot (k ((Go.SL.w64 ((i : Int) + 1), (List.take i b ++ [(a.1, (a.2.1, ()))], ())), (List.set b (Int.toNat (i : Int)) (a.1, (a.2.1, ())), ()))) (fun r => r.1.1 = b ∧ r.2.1 = (b, ())) := by
      refine hk hi' _ ⟨?_, ?_, ?_⟩
      · dsimp only; (first | decide | omega | (simp (disch := omega) only [w64_id, few, few9, List.length_set, List.length_append, List.length_take, List.length_drop, List.length_replicate, List.length_cons, List.length_nil, Int.toNat_natCast]; done) | (simp (disch := omega) only [w64_id, few, few9, List.length_set, List.length_append, List.length_take, List.length_drop, List.length_replicate, List.length_cons, List.length_nil, Int.toNat_natCast]; omega) | (simp [few, few9] <;> omega))
      · exact htk
      · dsimp only; rw [Int.toNat_natCast]; exact hst
    refine Tot.nlq (Tot.gd (by simp [few]; omega) (Tot.gd hfew hrec)) fun hq => ?_
    have h0 : a.2.1 = [] := by simpa using hq
    rw [h0, gd_t (show few 0 (List.length ([] : List VerT)) from by simp [few])]
    rfl
  · have hie : i = b.length := by omega
    subst hie
    refine Tot.s ⟨?_, rfl⟩
    dsimp only
    rw [List.take_length]
/-- a seed of 100 bytes at most -/
theorem V16 (b : By) : Tot (F6 (b, ()) ()) (fun r => r.1.1.length ≤ 100) := by
  unfold F6
  dsimp only
  refine Tot.brd (fun h => ?_) (fun h => Tot.s (by dsimp only; omega))
  refine Tot.gd (by decide) (Tot.gd (by decide) (Tot.gd (by omega) (Tot.s ?_)))
  simp; omega
end Go.GX
namespace Go.GX
open Go.RowKit Go.SL
set_option linter.unusedVariables false
set_option linter.unusedSimpArgs false

theorem law16s (hsh : F4 () () = some ((true, ()), ())) (b : By) (q : Int) (hq : -9223372036854775808 ≤ q ∧ q ≤ 9223372036854775807) : F3 (b, (q, ())) () = some ((true, ()), ()) := by
  refine Tot.get ?_
  unfold F3
  dsimp only
  rw [hsh, bnd_s]
  refine Tot.bnd (V16 b) fun r0 hr0 => ?_
  refine Tot.bnd (V15 r0.1.1 (by omega)) fun r1 hr1 => ?_
  obtain ⟨s, hs, hc, he⟩ := hr1
  rw [he]
  dsimp only
  rw [show (!true) = false from rfl, br_f, br_f]
  refine Tot.brd (fun _ => Tot.s rfl) (fun h1 => ?_)
  refine Tot.br (fun _ => Tot.s rfl) (fun h2 => ?_)
  have h2' : q < 1099511627776 := by simpa using h2
  have e1 : F7 ((s, (([], ()), (([], (1, ())), ()))), ()) ((1, (0, (0, (0, (0, ([], ([], ()))))))), ()) = some (((0, (1, (0, ([], ())))), ()), ((s, (([], ()), (([((1 : Int), ((1 : Int), ((0 : Int), (rep0, ()))))], (2, ())), ()))), ())) := U18o s ([], ()) [] 1 (by simp) (by decide) (by decide)
  rw [e1, bnd_s]
  dsimp only
  refine Tot.bnd (V18n s hs (by omega) [] (by simp) [((1 : Int), ((1 : Int), ((0 : Int), (rep0, ()))))] 2 1 q (by decide) (by omega) (1, (0, (rep0, ()))) rfl (by dsimp only; omega) (by decide)) fun r2 hr2 => ?_
  obtain ⟨ha, s2, m2, hs2, hc2, hm2, hst2⟩ := hr2
  rw [hst2, ha]
  -- asked again
  have hget : mget (mput [((1 : Int), ((1 : Int), ((0 : Int), (rep0, ()))))] 1 (1, (q, ((0, (1, (1, ([], ())))), ())))) 1 = some (1, (q, ((0, (1, (1, ([], ())))), ()))) := rfl
  have e3 := U18s s2 (([] ++ [rng0 m2] : List RngT), ()) (mput [((1 : Int), ((1 : Int), ((0 : Int), (rep0, ()))))] 1 (1, (q, ((0, (1, (1, ([], ())))), ())))) 2 (cmdNew 1 q) (U47n 1 q (by decide) (by omega)) (show (3 : Int) ≠ 1 by decide) (show (3 : Int) ≠ 2 by decide) (fun y hy => by
    have : mget (mput [((1 : Int), ((1 : Int), ((0 : Int), (rep0, ()))))] 1 (1, (q, ((0, (1, (1, ([], ())))), ())))) 1 = some y := hy
    rw [hget] at this; cases this; exact (by decide : (0 : Nat) ≤ 4294967296))
  have hmx : ¬ q < imax 1 q := by unfold imax; split <;> omega
  have ha3 : askT (mput [((1 : Int), ((1 : Int), ((0 : Int), (rep0, ()))))] 1 (1, (q, ((0, (1, (1, ([], ())))), ())))) (cmdNew 1 q).2.1 (cmdNew 1 q).2.2.1 = ((0, (1, (1, ([], ())))), (true, (0, ()))) := by
    show askT _ 1 q = _
    unfold askT
    rw [hget]
    dsimp only
    rw [if_neg hmx, if_pos rfl]
  rw [ha3, if_neg (by decide), if_pos rfl] at e3
  refine Tot.bnd (Tot.eq e3) fun r3 hr3 => ?_
  subst hr3
  -- ended
  have e4 := U18e s2 (([] ++ [rng0 m2] : List RngT), ()) (mput [((1 : Int), ((1 : Int), ((0 : Int), (rep0, ()))))] 1 (1, (q, ((0, (1, (1, ([], ())))), ())))) 2 1 (by decide) _ hget
  refine Tot.bnd (Tot.eq e4) fun r4 hr4 => ?_
  subst hr4
  have hdel : mdel (mput [((1 : Int), ((1 : Int), ((0 : Int), (rep0, ()))))] 1 (1, (q, ((0, (1, (1, ([], ())))), ())))) 1 = [] := rfl
  dsimp only
  rw [hdel, w64_id (by omega) (by omega)]
  have e5 := U18s s2 (([] ++ [rng0 m2] : List RngT), ()) [] 2 (cmdNew 1 (q + 1)) (U47n 1 (q + 1) (by decide) (by omega)) (show (3 : Int) ≠ 1 by decide) (show (3 : Int) ≠ 2 by decide) (fun y hy => by cases hy)
  have ha5 : askT ([] : List (Int × SeaT)) (cmdNew 1 (q + 1)).2.1 (cmdNew 1 (q + 1)).2.2.1 = (rep0, (false, (150, ()))) := rfl
  rw [ha5, if_pos (by decide)] at e5
  refine Tot.bnd (Tot.eq e5) fun r5 hr5 => ?_
  subst hr5
  have e6 := U18o s2 (([] ++ [rng0 m2] : List RngT), ()) [] 2 (by simp) (by decide) (by decide)
  refine Tot.bnd (Tot.eq e6) fun r6 hr6 => ?_
  subst hr6
  refine Tot.bnd (V18n s2 hs2 (by omega) ([] ++ [rng0 m2]) (by simp) (mput [] 2 (2, (0, (rep0, ())))) (2 + 1) 2 1 (by decide) (by decide) (2, (0, (rep0, ()))) rfl (by decide) (by decide)) fun r7 hr7 => ?_
  obtain ⟨hb, s7, m7, hs7, hc7, hm7, hst7⟩ := hr7
  rw [hst7, hb]
  refine Tot.br (fun _ => ?_) (fun h => absurd h (by first | decide | (intro h2; cases h2)))
  refine Tot.br (fun _ => ?_) (fun h => absurd h (by first | decide | (intro h2; cases h2)))
  refine Tot.br (fun _ => ?_) (fun h => absurd h (by first | decide | (intro h2; cases h2)))
  refine Tot.br (fun _ => ?_) (fun h => absurd h (by first | decide | (intro h2; cases h2)))
  refine Tot.br (fun _ => ?_) (fun h => absurd h (by first | decide | (intro h2; cases h2)))
  refine Tot.br (fun _ => ?_) (fun h => absurd h (by simp))
  have h21 : Tot (F8 ((s7, (([] ++ [rng0 m2] ++ [rng0 m7], ()), ((mput (mput [] 2 (2, (0, (rep0, ())))) 2 (2, (1, ((0, (((([] ++ [rng0 m2] : List RngT).length + 1 : Nat) : Int), (1, ([], ())))), ()))), (2 + 1, ())), ()))), ()) ()) (fun r => r.1.1 = [] ++ [rng0 m2] ++ [rng0 m7]) := by
    unfold F8
    dsimp only
    exact Tot.bnd (V55 ([] ++ [rng0 m2] ++ [rng0 m7]) (by simp) (by intro x hx; simp at hx; rcases hx with rfl | rfl <;> exact (by decide : (1 : Nat) ≤ 1000))) fun r hr => Tot.s hr.1
  refine Tot.bnd h21 fun r8 hr8 => ?_
  rw [hr8]
  exact Tot.s rfl
end Go.GX
namespace Go.GX
open Go.RowKit Go.ChangeShapes Go.Joins Go.Deep Go.SL
set_option linter.unusedVariables false
def isI64 (P : Program) (t : Nat) : Bool := match P.underlying t with
  | some (.int .i64) => true
  | _ => false
def isU8 (P : Program) (t : Nat) : Bool := match P.underlying t with
  | some (.int .u8) => true
  | _ => false
def isBl (P : Program) (t : Nat) : Bool := match P.underlying t with
  | some .bool => true
  | _ => false
def rdSl (P : Program) (g : Nat → Bool) (w t : Nat) : Bool := match P.underlying t with
  | some (.slice e) => g e && Nat.beq (P.cellsOf e) w && Nat.ble 1 w
  | _ => false
def rdFs (P : Program) (g : Nat → Bool) (w : Nat) (h : List Field → Nat → Bool) : List Field → Nat → Bool
  | f :: r, o => Nat.beq f.offset o && g f.type && Nat.beq (P.cellsOf f.type) w && h r (o + w)
  | [], _ => false
def rdSt (P : Program) (g : List Field → Nat → Bool) (w t : Nat) : Bool := match P.underlying t with
  | some (.struct fs) => g fs.toList 0 && Nat.beq (P.cellsOf t) w
  | _ => false
/-- is a type of the program read as this kind? -/
def tyRd (P : Program) : Ty → (Nat → Bool) × (List Field → Nat → Bool)
  | .int => (isI64 P, fun _ _ => false)
  | .u8 => (isU8 P, fun _ _ => false)
  | .bool => (isBl P, fun _ _ => false)
  | .fz a => (rdSl P (tyRd P a).1 a.w, fun _ _ => false)
  | .unit => (fun _ => false, fun fs _ => fs.isEmpty)
  | .pair a b => (rdSt P (rdFs P (tyRd P a).1 a.w (tyRd P b).2) (a.w + b.w), rdFs P (tyRd P a).1 a.w (tyRd P b).2)
  | _ => (fun _ => false, fun _ _ => false)
theorem read_bool {H : Type} {enc : TypeId × Value → H} {P : Program} {W : World} {base : Nat} {spare : Nat → Bool} {held : Bool} {t fuel : Nat} {cs : List Value} {y : DataW H × List MemPlace} (ht : P.underlying t = some .bool) (h : DataW.trod enc P W base spare held fuel t cs = some y) : ∃ b, cs = [.bool b] := by
  obtain ⟨b, hb, _⟩ := DataW.trod_bool ht h
  exact ⟨b, hb⟩
theorem cat_of {m : Mem} {a : Ty} : ∀ {xs : List {cs : List Value // cs.length = a.w}}, (∀ c ∈ xs, ∃ x, DenT m a x c.1) → ∃ l : List a.T, l.length = xs.length ∧ Cat (fun x c => DenT m a x c) l (xs.flatMap Subtype.val) := by
  intro xs
  induction xs with
  | nil => intro _; exact ⟨[], rfl, rfl⟩
  | cons c xs ih =>
    intro h
    obtain ⟨x, hx⟩ := h c (by simp)
    obtain ⟨l, hl, hc⟩ := ih fun d hd => h d (by simp [hd])
    exact ⟨x :: l, by simp [hl], c.1, _, by rw [List.flatMap_cons], hx, hc⟩
section
variable {H : Type} {enc : TypeId × Value → H} {P : Program} {W : World} {base : Nat} {spare : Nat → Bool} {held : Bool}
theorem rd_ok : ∀ {ty : Ty},
    (∀ {t fuel : Nat} {cs : List Value} {y : DataW H × List MemPlace}, (tyRd P ty).1 t = true → DataW.trod enc P W base spare held fuel t cs = some y → ∃ x, DenT (P0 W).h ty x cs) ∧
    (∀ {fs : List Field} {o : Nat} {cs : List Value}, (tyRd P ty).2 fs o = true → cs.length = o + ty.w → (∀ f ∈ fs, ∃ n z, DataW.trod enc P W base spare held n f.type ((cs.drop f.offset).take (P.cellsOf f.type)) = some z) → ∃ x, DenT (P0 W).h ty x (cs.drop o)) := by
  intro ty
  induction ty with
  | int =>
    refine ⟨fun {t fuel cs y} h hr => ?_, fun h => by cases h⟩
    simp only [tyRd, isI64] at h
    split at h <;> try (cases h; done)
    rename_i hu
    obtain ⟨n, hcs, _, hw⟩ := DataW.trod_int hu hr
    exact ⟨n, hcs⟩
  | u8 =>
    refine ⟨fun {t fuel cs y} h hr => ?_, fun h => by cases h⟩
    simp only [tyRd, isU8] at h
    split at h <;> try (cases h; done)
    rename_i hu
    obtain ⟨n, hcs, _, hw⟩ := DataW.trod_int hu hr
    have hb := bounds_u8 hw
    refine ⟨BitVec.ofInt 8 n, ?_⟩
    show cs = [_]
    rw [hcs]
    congr 2
    rw [BitVec.toNat_ofInt]
    show n = ((n % 256).toNat : Int)
    omega
  | bool =>
    refine ⟨fun {t fuel cs y} h hr => ?_, fun h => by cases h⟩
    simp only [tyRd, isBl] at h
    split at h <;> try (cases h; done)
    rename_i hu
    obtain ⟨b, hb⟩ := read_bool hu hr
    exact ⟨b, hb⟩
  | fz a ih =>
    refine ⟨fun {t fuel cs y} h hr => ?_, fun h => by cases h⟩
    simp only [tyRd, rdSl] at h
    split at h <;> try (cases h; done)
    rename_i e hu
    simp only [Bool.and_eq_true] at h
    obtain ⟨⟨h1, h2⟩, h3⟩ := h
    have hc := Nat.eq_of_beq_eq_true h2
    have hw := Nat.le_of_ble_eq_true h3
    have hone : ∃ v, cs = [v] := by
      rcases open_slice hu hr with ⟨hcs, _⟩ | ⟨_, _, _, _, _, _, _, hcs, _⟩
      · exact ⟨_, hcs⟩
      · exact ⟨_, hcs⟩
    obtain ⟨v, rfl⟩ := hone
    obtain ⟨X, xs, c, rfl, hxc, _, hlas, hq⟩ := read_slice (α := {cs : List Value // cs.length = a.w}) (enc' := Subtype.val) (Q := fun c => ∃ x, DenT (P0 W).h a x c.1) hu hc (by omega) (fun a => a.2)
      (fun cs n z hz => by
        obtain ⟨x, hx⟩ := ih.1 h1 hz
        exact ⟨⟨cs, DenT.length hx⟩, rfl, x, hx⟩) hr
    obtain ⟨l, hl, hcat⟩ := cat_of hq
    refine ⟨l, X, c, by rw [hl], by rw [hl]; exact hxc, ?_⟩
    obtain ⟨_, X', c', e1, _, h0⟩ := hlas
    cases e1
    rcases h0 with h0 | ⟨b, o, cur, e, fr, rfl, hb, hg⟩
    · exact .inl (by rw [hl]; exact h0)
    · exact .inr ⟨b, o, _, rfl, ⟨cur, e, fr, hb, hg⟩, hcat⟩
  | unit =>
    refine ⟨fun {t fuel cs y} h hr => (by cases h), fun {fs o cs} h hl _ => ?_⟩
    refine ⟨(), ?_⟩
    show cs.drop o = []
    exact List.drop_eq_nil_of_le (by rw [hl]; simp [Ty.w])
  | pair a b iha ihb =>
    have fld : ∀ {fs : List Field} {o : Nat} {cs : List Value}, rdFs P (tyRd P a).1 a.w (tyRd P b).2 fs o = true → cs.length = o + (a.w + b.w) → (∀ f ∈ fs, ∃ n z, DataW.trod enc P W base spare held n f.type ((cs.drop f.offset).take (P.cellsOf f.type)) = some z) → ∃ x, DenT (P0 W).h (.pair a b) x (cs.drop o) := by
      intro fs o cs h hl hf
      cases fs with
      | nil => cases h
      | cons f r =>
        simp only [rdFs, Bool.and_eq_true] at h
        obtain ⟨⟨⟨h1, h2⟩, h3⟩, h4⟩ := h
        have ho := Nat.eq_of_beq_eq_true h1
        have hc := Nat.eq_of_beq_eq_true h3
        obtain ⟨n, z, hz⟩ := hf f (by simp)
        obtain ⟨x, hx⟩ := iha.1 h2 hz
        obtain ⟨y, hy⟩ := ihb.2 h4 (cs := cs) (by omega) fun g hg => hf g (by simp [hg])
        rw [ho, hc] at hx
        refine ⟨(x, y), _, _, ?_, hx, hy⟩
        rw [← List.drop_drop, List.take_append_drop]
    refine ⟨fun {t fuel cs y} h hr => ?_, fun {fs o cs} h hl hf => fld h hl hf⟩
    simp only [tyRd, rdSt] at h
    split at h <;> try (cases h; done)
    rename_i fs hu
    simp only [Bool.and_eq_true] at h
    have hc := Nat.eq_of_beq_eq_true h.2
    have hlen := read_len hu hr
    have := fld h.1 (cs := cs) (by rw [hlen, hc, Nat.zero_add]) fun f hf => by
      obtain ⟨i, hi, rfl⟩ := List.getElem_of_mem hf
      exact read_sub (i := i) hu (by simp at hi ⊢) hr
    simpa using this
  | _ => exact ⟨fun h => (by cases h), fun h => (by cases h)⟩
end
end Go.GX
