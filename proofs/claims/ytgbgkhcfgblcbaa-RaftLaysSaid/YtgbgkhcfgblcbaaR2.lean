/- Raft: copies of one's own, what members may be, a log's piece: what they tell. -/
import Derived.Test.YtgbgkhcfgblcbaaE1
import Derived.Test.YtgbgkhcfgblcbaaE2
import Derived.Test.YtgbgkhcfgblcbaaE3
import Derived.Test.YtgbgkhcfgblcbaaR0
import Derived.Test.YtgbgkhcfgblcbaaR1
set_option linter.unusedVariables false
set_option linter.unusedSimpArgs false
set_option linter.unnecessarySimpa false
namespace Go.GX
open Go.RowKit Go.SL Go.Proofs
set_option maxRecDepth 100000
set_option linter.unusedVariables false

theorem mixedZ : Try.prog.follows .mixedOrders = true := by kernel_rfl
theorem c34 : Con.ok Try.prog TBL.gs 34 C34 := mkF_ok mixedZ TBL_ok FT.ok_nil CN.ok_nil (by kernel_rfl) (by kernel_rfl) (bodyOf_ok (by kernel_rfl)) e34
theorem c62 : Con.ok Try.prog TBL.gs 62 C62 := mkF_ok mixedZ TBL_ok FT.ok_nil CN.ok_nil (by kernel_rfl) (by kernel_rfl) (bodyOf_ok (by kernel_rfl)) e62
theorem c25 : Con.ok Try.prog TBL.gs 25 C25 := mkF_ok mixedZ TBL_ok FT.ok_nil CN.ok_nil (by kernel_rfl) (by kernel_rfl) (bodyOf_ok (by kernel_rfl)) e25
theorem c61 : Con.ok Try.prog TBL.gs 61 C61 := mkF_ok mixedZ TBL_ok FT.ok_nil (CN.ok_cons c62 (CN.ok_cons c25 CN.ok_nil)) (by kernel_rfl) (by kernel_rfl) (bodyOf_ok (by kernel_rfl)) e61
theorem c35 : Con.ok Try.prog TBL.gs 35 C35 := mkF_ok mixedZ TBL_ok FT.ok_nil (CN.ok_cons c61 CN.ok_nil) (by kernel_rfl) (by kernel_rfl) (bodyOf_ok (by kernel_rfl)) e35
theorem c36 : Con.ok Try.prog TBL.gs 36 C36 := mkF_ok mixedZ TBL_ok FT.ok_nil (CN.ok_cons c25 (CN.ok_cons c62 CN.ok_nil)) (by kernel_rfl) (by kernel_rfl) (bodyOf_ok (by kernel_rfl)) e36
theorem c37 : Con.ok Try.prog TBL.gs 37 C37 := mkF_ok mixedZ TBL_ok FT.ok_nil CN.ok_nil (by kernel_rfl) (by kernel_rfl) (bodyOf_ok (by kernel_rfl)) e37
theorem c38 : Con.ok Try.prog TBL.gs 38 C38 := mkF_ok mixedZ TBL_ok FT.ok_nil (CN.ok_cons c34 CN.ok_nil) (by kernel_rfl) (by kernel_rfl) (bodyOf_ok (by kernel_rfl)) e38
theorem c14 : Con.ok Try.prog TBL.gs 14 C14 := mkF_ok mixedZ TBL_ok (FT.ok_cons (by kernel_rfl) (by kernel_rfl) FT.ok_nil) (CN.ok_cons c34 (CN.ok_cons c35 (CN.ok_cons c36 (CN.ok_cons c37 (CN.ok_cons c25 (CN.ok_cons c38 CN.ok_nil)))))) (by kernel_rfl) (by kernel_rfl) (bodyOf_ok (by kernel_rfl)) e14
theorem c79 : Con.ok Try.prog TBL.gs 79 C79 := mkF_ok mixedZ TBL_ok (FT.ok_cons (by kernel_rfl) (by kernel_rfl) (FT.ok_cons (by kernel_rfl) (by kernel_rfl) FT.ok_nil)) (CN.ok_cons c61 CN.ok_nil) (by kernel_rfl) (by kernel_rfl) (bodyOf_ok (by kernel_rfl)) e79
theorem c45 : Con.ok Try.prog TBL.gs 45 C45 := mkF_ok mixedZ TBL_ok (FT.ok_cons (by kernel_rfl) (by kernel_rfl) FT.ok_nil) (CN.ok_cons c79 (CN.ok_cons c37 CN.ok_nil)) (by kernel_rfl) (by kernel_rfl) (bodyOf_ok (by kernel_rfl)) e45
theorem c26 : Con.ok Try.prog TBL.gs 26 C26 := mkF_ok mixedZ TBL_ok (FT.ok_cons (by kernel_rfl) (by kernel_rfl) FT.ok_nil) (CN.ok_cons c45 CN.ok_nil) (by kernel_rfl) (by kernel_rfl) (bodyOf_ok (by kernel_rfl)) e26
theorem c98 : Con.ok Try.prog TBL.gs 98 C98 := mkF_ok mixedZ TBL_ok FT.ok_nil CN.ok_nil (by kernel_rfl) (by kernel_rfl) (bodyOf_ok (by kernel_rfl)) e98
theorem c84 : Con.ok Try.prog TBL.gs 84 C84 := mkF_ok mixedZ TBL_ok FT.ok_nil (CN.ok_cons c98 CN.ok_nil) (by kernel_rfl) (by kernel_rfl) (bodyOf_ok (by kernel_rfl)) e84
theorem c63 : Con.ok Try.prog TBL.gs 63 C63 := mkF_ok mixedZ TBL_ok FT.ok_nil (CN.ok_cons c84 CN.ok_nil) (by kernel_rfl) (by kernel_rfl) (bodyOf_ok (by kernel_rfl)) e63
theorem c44 : Con.ok Try.prog TBL.gs 44 C44 := mkF_ok mixedZ TBL_ok (FT.ok_cons (by kernel_rfl) (by kernel_rfl) (FT.ok_cons (by kernel_rfl) (by kernel_rfl) (FT.ok_cons (by kernel_rfl) (by kernel_rfl) FT.ok_nil))) CN.ok_nil (by kernel_rfl) (by kernel_rfl) (bodyOf_ok (by kernel_rfl)) e44
theorem c52 : Con.ok Try.prog TBL.gs 52 C52 := mkF_ok mixedZ TBL_ok FT.ok_nil CN.ok_nil (by kernel_rfl) (by kernel_rfl) (bodyOf_ok (by kernel_rfl)) e52
theorem c65 : Con.ok Try.prog TBL.gs 65 C65 := mkF_ok mixedZ TBL_ok (FT.ok_cons (by kernel_rfl) (by kernel_rfl) FT.ok_nil) (CN.ok_cons c36 (CN.ok_cons c44 (CN.ok_cons c79 (CN.ok_cons c52 CN.ok_nil)))) (by kernel_rfl) (by kernel_rfl) (bodyOf_ok (by kernel_rfl)) e65
theorem c57 : Con.ok Try.prog TBL.gs 57 C57 := mkF_ok mixedZ TBL_ok FT.ok_nil CN.ok_nil (by kernel_rfl) (by kernel_rfl) (bodyOf_ok (by kernel_rfl)) e57
theorem c82 : Con.ok Try.prog TBL.gs 82 C82 := mkF_ok mixedZ TBL_ok (FT.ok_cons (by kernel_rfl) (by kernel_rfl) (FT.ok_cons (by kernel_rfl) (by kernel_rfl) (FT.ok_cons (by kernel_rfl) (by kernel_rfl) FT.ok_nil))) (CN.ok_cons c25 (CN.ok_cons c63 CN.ok_nil)) (by kernel_rfl) (by kernel_rfl) (bodyOf_ok (by kernel_rfl)) e82
theorem c54 : Con.ok Try.prog TBL.gs 54 C54 := mkF_ok mixedZ TBL_ok (FT.ok_cons (by kernel_rfl) (by kernel_rfl) (FT.ok_cons (by kernel_rfl) (by kernel_rfl) (FT.ok_cons (by kernel_rfl) (by kernel_rfl) (FT.ok_cons (by kernel_rfl) (by kernel_rfl) FT.ok_nil)))) (CN.ok_cons c79 (CN.ok_cons c37 (CN.ok_cons c82 CN.ok_nil))) (by kernel_rfl) (by kernel_rfl) (bodyOf_ok (by kernel_rfl)) e54
theorem c75 : Con.ok Try.prog TBL.gs 75 C75 := mkF_ok mixedZ TBL_ok (FT.ok_cons (by kernel_rfl) (by kernel_rfl) FT.ok_nil) (CN.ok_cons c61 CN.ok_nil) (by kernel_rfl) (by kernel_rfl) (bodyOf_ok (by kernel_rfl)) e75
theorem c76 : Con.ok Try.prog TBL.gs 76 C76 := mkF_ok mixedZ TBL_ok FT.ok_nil (CN.ok_cons c79 CN.ok_nil) (by kernel_rfl) (by kernel_rfl) (bodyOf_ok (by kernel_rfl)) e76
theorem c105 : Con.ok Try.prog TBL.gs 105 C105 := mkF_ok mixedZ TBL_ok FT.ok_nil CN.ok_nil (by kernel_rfl) (by kernel_rfl) (bodyOf_ok (by kernel_rfl)) e105
theorem c106 : Con.ok Try.prog TBL.gs 106 C106 := mkF_ok mixedZ TBL_ok FT.ok_nil CN.ok_nil (by kernel_rfl) (by kernel_rfl) (bodyOf_ok (by kernel_rfl)) e106
theorem c99 : Con.ok Try.prog TBL.gs 99 C99 := mkF_ok mixedZ TBL_ok FT.ok_nil (CN.ok_cons c105 (CN.ok_cons c106 CN.ok_nil)) (by kernel_rfl) (by kernel_rfl) (bodyOf_ok (by kernel_rfl)) e99
theorem c93 : Con.ok Try.prog TBL.gs 93 C93 := mkF_ok mixedZ TBL_ok (FT.ok_cons (by kernel_rfl) (by kernel_rfl) (FT.ok_cons (by kernel_rfl) (by kernel_rfl) (FT.ok_cons (by kernel_rfl) (by kernel_rfl) (FT.ok_cons (by kernel_rfl) (by kernel_rfl) (FT.ok_cons (by kernel_rfl) (by kernel_rfl) FT.ok_nil))))) (CN.ok_cons c99 CN.ok_nil) (by kernel_rfl) (by kernel_rfl) (bodyOf_ok (by kernel_rfl)) e93
theorem c53 : Con.ok Try.prog TBL.gs 53 C53 := mkF_ok mixedZ TBL_ok FT.ok_nil (CN.ok_cons c57 CN.ok_nil) (by kernel_rfl) (by kernel_rfl) (bodyOf_ok (by kernel_rfl)) e53
theorem c77 : Con.ok Try.prog TBL.gs 77 C77 := mkF_ok mixedZ TBL_ok (FT.ok_cons (by kernel_rfl) (by kernel_rfl) FT.ok_nil) (CN.ok_cons c45 (CN.ok_cons c93 (CN.ok_cons c44 (CN.ok_cons c63 (CN.ok_cons c53 CN.ok_nil))))) (by kernel_rfl) (by kernel_rfl) (bodyOf_ok (by kernel_rfl)) e77
theorem c43 : Con.ok Try.prog TBL.gs 43 C43 := mkF_ok mixedZ TBL_ok (FT.ok_cons (by kernel_rfl) (by kernel_rfl) FT.ok_nil) (CN.ok_cons c75 (CN.ok_cons c76 (CN.ok_cons c77 (CN.ok_cons c65 (CN.ok_cons c26 CN.ok_nil))))) (by kernel_rfl) (by kernel_rfl) (bodyOf_ok (by kernel_rfl)) e43
theorem c58 : Con.ok Try.prog TBL.gs 58 C58 := mkF_ok mixedZ TBL_ok (FT.ok_cons (by kernel_rfl) (by kernel_rfl) FT.ok_nil) (CN.ok_cons c57 (CN.ok_cons c43 CN.ok_nil)) (by kernel_rfl) (by kernel_rfl) (bodyOf_ok (by kernel_rfl)) e58
theorem c85 : Con.ok Try.prog TBL.gs 85 C85 := mkF_ok mixedZ TBL_ok (FT.ok_cons (by kernel_rfl) (by kernel_rfl) FT.ok_nil) (CN.ok_cons c44 CN.ok_nil) (by kernel_rfl) (by kernel_rfl) (bodyOf_ok (by kernel_rfl)) e85
theorem c66 : Con.ok Try.prog TBL.gs 66 C66 := mkF_ok mixedZ TBL_ok (FT.ok_cons (by kernel_rfl) (by kernel_rfl) (FT.ok_cons (by kernel_rfl) (by kernel_rfl) FT.ok_nil)) (CN.ok_cons c85 (CN.ok_cons c52 (CN.ok_cons c26 CN.ok_nil))) (by kernel_rfl) (by kernel_rfl) (bodyOf_ok (by kernel_rfl)) e66
theorem c55 : Con.ok Try.prog TBL.gs 55 C55 := mkF_ok mixedZ TBL_ok FT.ok_nil (CN.ok_cons c57 (CN.ok_cons c54 (CN.ok_cons c58 (CN.ok_cons c66 CN.ok_nil)))) (by kernel_rfl) (by kernel_rfl) (bodyOf_ok (by kernel_rfl)) e55
theorem c39 : Con.ok Try.prog TBL.gs 39 C39 := mkF_ok mixedZ TBL_ok (FT.ok_cons (by kernel_rfl) (by kernel_rfl) (FT.ok_cons (by kernel_rfl) (by kernel_rfl) (FT.ok_cons (by kernel_rfl) (by kernel_rfl) (FT.ok_cons (by kernel_rfl) (by kernel_rfl) (FT.ok_cons (by kernel_rfl) (by kernel_rfl) FT.ok_nil))))) (CN.ok_cons c79 (CN.ok_cons c37 (CN.ok_cons c63 (CN.ok_cons c65 (CN.ok_cons c57 (CN.ok_cons c54 (CN.ok_cons c55 (CN.ok_cons c66 CN.ok_nil)))))))) (by kernel_rfl) (by kernel_rfl) (bodyOf_ok (by kernel_rfl)) e39
theorem c15 : Con.ok Try.prog TBL.gs 15 C15 := mkF_ok mixedZ TBL_ok (FT.ok_cons (by kernel_rfl) (by kernel_rfl) FT.ok_nil) (CN.ok_cons c39 CN.ok_nil) (by kernel_rfl) (by kernel_rfl) (bodyOf_ok (by kernel_rfl)) e15
theorem c10 : Con.ok Try.prog TBL.gs 10 C10 := mkF_ok mixedZ TBL_ok (FT.ok_cons (by kernel_rfl) (by kernel_rfl) (FT.ok_cons (by kernel_rfl) (by kernel_rfl) (FT.ok_cons (by kernel_rfl) (by kernel_rfl) (FT.ok_cons (by kernel_rfl) (by kernel_rfl) FT.ok_nil)))) (CN.ok_cons c79 (CN.ok_cons c37 (CN.ok_cons c25 CN.ok_nil))) (by kernel_rfl) (by kernel_rfl) (bodyOf_ok (by kernel_rfl)) e10
theorem c7 : Con.ok Try.prog TBL.gs 7 C7 := mkF_ok mixedZ TBL_ok FT.ok_nil (CN.ok_cons c14 (CN.ok_cons c15 (CN.ok_cons c10 CN.ok_nil))) (by kernel_rfl) (by kernel_rfl) (bodyOf_ok (by kernel_rfl)) e7
theorem c20 : Con.ok Try.prog TBL.gs 20 C20 := mkF_ok mixedZ TBL_ok FT.ok_nil CN.ok_nil (by kernel_rfl) (by kernel_rfl) (bodyOf_ok (by kernel_rfl)) e20
theorem c18 : Con.ok Try.prog TBL.gs 18 C18 := mkF_ok mixedZ TBL_ok FT.ok_nil CN.ok_nil (by kernel_rfl) (by kernel_rfl) (bodyOf_ok (by kernel_rfl)) e18
theorem c21 : Con.ok Try.prog TBL.gs 21 C21 := mkF_ok mixedZ TBL_ok FT.ok_nil (CN.ok_cons c20 (CN.ok_cons c18 CN.ok_nil)) (by kernel_rfl) (by kernel_rfl) (bodyOf_ok (by kernel_rfl)) e21
theorem c22 : Con.ok Try.prog TBL.gs 22 C22 := mkF_ok mixedZ TBL_ok FT.ok_nil CN.ok_nil (by kernel_rfl) (by kernel_rfl) (bodyOf_ok (by kernel_rfl)) e22
theorem c8 : Con.ok Try.prog TBL.gs 8 C8 := mkF_ok mixedZ TBL_ok FT.ok_nil (CN.ok_cons c20 (CN.ok_cons c21 (CN.ok_cons c22 (CN.ok_cons c14 CN.ok_nil)))) (by kernel_rfl) (by kernel_rfl) (bodyOf_ok (by kernel_rfl)) e8
theorem c9 : Con.ok Try.prog TBL.gs 9 C9 := mkF_ok mixedZ TBL_ok FT.ok_nil (CN.ok_cons c22 (CN.ok_cons c20 (CN.ok_cons c18 CN.ok_nil))) (by kernel_rfl) (by kernel_rfl) (bodyOf_ok (by kernel_rfl)) e9
theorem c67 : Con.ok Try.prog TBL.gs 67 C67 := mkF_ok mixedZ TBL_ok FT.ok_nil CN.ok_nil (by kernel_rfl) (by kernel_rfl) (bodyOf_ok (by kernel_rfl)) e67
theorem c69 : Con.ok Try.prog TBL.gs 69 C69 := mkF_ok mixedZ TBL_ok FT.ok_nil CN.ok_nil (by kernel_rfl) (by kernel_rfl) (bodyOf_ok (by kernel_rfl)) e69
theorem c88 : Con.ok Try.prog TBL.gs 88 C88 := mkF_ok mixedZ TBL_ok FT.ok_nil (CN.ok_cons c99 (CN.ok_cons c62 CN.ok_nil)) (by kernel_rfl) (by kernel_rfl) (bodyOf_ok (by kernel_rfl)) e88
theorem c71 : Con.ok Try.prog TBL.gs 71 C71 := mkF_ok mixedZ TBL_ok FT.ok_nil (CN.ok_cons c88 CN.ok_nil) (by kernel_rfl) (by kernel_rfl) (bodyOf_ok (by kernel_rfl)) e71
theorem c70 : Con.ok Try.prog TBL.gs 70 C70 := mkF_ok mixedZ TBL_ok FT.ok_nil (CN.ok_cons c88 CN.ok_nil) (by kernel_rfl) (by kernel_rfl) (bodyOf_ok (by kernel_rfl)) e70
theorem c89 : Con.ok Try.prog TBL.gs 89 C89 := mkF_ok mixedZ TBL_ok FT.ok_nil CN.ok_nil (by kernel_rfl) (by kernel_rfl) (bodyOf_ok (by kernel_rfl)) e89
theorem c72 : Con.ok Try.prog TBL.gs 72 C72 := mkF_ok mixedZ TBL_ok (FT.ok_cons (by kernel_rfl) (by kernel_rfl) (FT.ok_cons (by kernel_rfl) (by kernel_rfl) FT.ok_nil)) (CN.ok_cons c89 (CN.ok_cons c88 CN.ok_nil)) (by kernel_rfl) (by kernel_rfl) (bodyOf_ok (by kernel_rfl)) e72
theorem c40 : Con.ok Try.prog TBL.gs 40 C40 := mkF_ok mixedZ TBL_ok (FT.ok_cons (by kernel_rfl) (by kernel_rfl) (FT.ok_cons (by kernel_rfl) (by kernel_rfl) FT.ok_nil)) (CN.ok_cons c67 (CN.ok_cons c69 (CN.ok_cons c71 (CN.ok_cons c70 (CN.ok_cons c72 CN.ok_nil))))) (by kernel_rfl) (by kernel_rfl) (bodyOf_ok (by kernel_rfl)) e40
theorem c29 : Con.ok Try.prog TBL.gs 29 C29 := mkF_ok mixedZ TBL_ok (FT.ok_cons (by kernel_rfl) (by kernel_rfl) (FT.ok_cons (by kernel_rfl) (by kernel_rfl) (FT.ok_cons (by kernel_rfl) (by kernel_rfl) FT.ok_nil))) (CN.ok_cons c37 (CN.ok_cons c40 CN.ok_nil)) (by kernel_rfl) (by kernel_rfl) (bodyOf_ok (by kernel_rfl)) e29
theorem c51 : Con.ok Try.prog TBL.gs 51 C51 := mkF_ok mixedZ TBL_ok (FT.ok_cons (by kernel_rfl) (by kernel_rfl) FT.ok_nil) (CN.ok_cons c44 CN.ok_nil) (by kernel_rfl) (by kernel_rfl) (bodyOf_ok (by kernel_rfl)) e51
theorem c30 : Con.ok Try.prog TBL.gs 30 C30 := mkF_ok mixedZ TBL_ok FT.ok_nil (CN.ok_cons c51 (CN.ok_cons c52 CN.ok_nil)) (by kernel_rfl) (by kernel_rfl) (bodyOf_ok (by kernel_rfl)) e30
theorem c31 : Con.ok Try.prog TBL.gs 31 C31 := mkF_ok mixedZ TBL_ok FT.ok_nil (CN.ok_cons c53 (CN.ok_cons c54 (CN.ok_cons c55 CN.ok_nil))) (by kernel_rfl) (by kernel_rfl) (bodyOf_ok (by kernel_rfl)) e31
theorem c56 : Con.ok Try.prog TBL.gs 56 C56 := mkF_ok mixedZ TBL_ok (FT.ok_cons (by kernel_rfl) (by kernel_rfl) FT.ok_nil) (CN.ok_cons c52 CN.ok_nil) (by kernel_rfl) (by kernel_rfl) (bodyOf_ok (by kernel_rfl)) e56
theorem c32 : Con.ok Try.prog TBL.gs 32 C32 := mkF_ok mixedZ TBL_ok (FT.ok_cons (by kernel_rfl) (by kernel_rfl) FT.ok_nil) (CN.ok_cons c53 (CN.ok_cons c56 (CN.ok_cons c51 (CN.ok_cons c57 (CN.ok_cons c52 (CN.ok_cons c54 (CN.ok_cons c58 CN.ok_nil))))))) (by kernel_rfl) (by kernel_rfl) (bodyOf_ok (by kernel_rfl)) e32
theorem c11 : Con.ok Try.prog TBL.gs 11 C11 := mkF_ok mixedZ TBL_ok (FT.ok_cons (by kernel_rfl) (by kernel_rfl) (FT.ok_cons (by kernel_rfl) (by kernel_rfl) FT.ok_nil)) (CN.ok_cons c29 (CN.ok_cons c30 (CN.ok_cons c31 (CN.ok_cons c32 CN.ok_nil)))) (by kernel_rfl) (by kernel_rfl) (bodyOf_ok (by kernel_rfl)) e11
theorem c33 : Con.ok Try.prog TBL.gs 33 C33 := mkF_ok mixedZ TBL_ok FT.ok_nil CN.ok_nil (by kernel_rfl) (by kernel_rfl) (bodyOf_ok (by kernel_rfl)) e33
theorem c12 : Con.ok Try.prog TBL.gs 12 C12 := mkF_ok mixedZ TBL_ok FT.ok_nil (CN.ok_cons c33 CN.ok_nil) (by kernel_rfl) (by kernel_rfl) (bodyOf_ok (by kernel_rfl)) e12
theorem c3 : Con.ok Try.prog TBL.gs 3 C3 := mkF_ok mixedZ TBL_ok FT.ok_nil (CN.ok_cons c7 (CN.ok_cons c8 (CN.ok_cons c9 (CN.ok_cons c10 (CN.ok_cons c11 (CN.ok_cons c12 CN.ok_nil)))))) (by kernel_rfl) (by kernel_rfl) (bodyOf_ok (by kernel_rfl)) e3
theorem c13 : Con.ok Try.prog TBL.gs 13 C13 := mkF_ok mixedZ TBL_ok FT.ok_nil CN.ok_nil (by kernel_rfl) (by kernel_rfl) (bodyOf_ok (by kernel_rfl)) e13
theorem c4 : Con.ok Try.prog TBL.gs 4 C4 := mkF_ok mixedZ TBL_ok FT.ok_nil (CN.ok_cons c7 (CN.ok_cons c13 (CN.ok_cons c14 (CN.ok_cons c11 (CN.ok_cons c10 CN.ok_nil))))) (by kernel_rfl) (by kernel_rfl) (bodyOf_ok (by kernel_rfl)) e4
theorem c5 : Con.ok Try.prog TBL.gs 5 C5 := mkF_ok mixedZ TBL_ok FT.ok_nil (CN.ok_cons c7 (CN.ok_cons c8 (CN.ok_cons c9 (CN.ok_cons c10 (CN.ok_cons c11 (CN.ok_cons c12 CN.ok_nil)))))) (by kernel_rfl) (by kernel_rfl) (bodyOf_ok (by kernel_rfl)) e5
theorem c16 : Con.ok Try.prog TBL.gs 16 C16 := mkF_ok mixedZ TBL_ok (FT.ok_cons (by kernel_rfl) (by kernel_rfl) (FT.ok_cons (by kernel_rfl) (by kernel_rfl) (FT.ok_cons (by kernel_rfl) (by kernel_rfl) (FT.ok_cons (by kernel_rfl) (by kernel_rfl) FT.ok_nil)))) (CN.ok_cons c40 (CN.ok_cons c43 CN.ok_nil)) (by kernel_rfl) (by kernel_rfl) (bodyOf_ok (by kernel_rfl)) e16
theorem c80 : Con.ok Try.prog TBL.gs 80 C80 := mkF_ok mixedZ TBL_ok (FT.ok_cons (by kernel_rfl) (by kernel_rfl) FT.ok_nil) (CN.ok_cons c44 CN.ok_nil) (by kernel_rfl) (by kernel_rfl) (bodyOf_ok (by kernel_rfl)) e80
theorem c47 : Con.ok Try.prog TBL.gs 47 C47 := mkF_ok mixedZ TBL_ok FT.ok_nil (CN.ok_cons c80 (CN.ok_cons c36 CN.ok_nil)) (by kernel_rfl) (by kernel_rfl) (bodyOf_ok (by kernel_rfl)) e47
theorem c17 : Con.ok Try.prog TBL.gs 17 C17 := mkF_ok mixedZ TBL_ok (FT.ok_cons (by kernel_rfl) (by kernel_rfl) (FT.ok_cons (by kernel_rfl) (by kernel_rfl) (FT.ok_cons (by kernel_rfl) (by kernel_rfl) FT.ok_nil))) (CN.ok_cons c44 (CN.ok_cons c45 (CN.ok_cons c47 CN.ok_nil))) (by kernel_rfl) (by kernel_rfl) (bodyOf_ok (by kernel_rfl)) e17
theorem c48 : Con.ok Try.prog TBL.gs 48 C48 := mkF_ok mixedZ TBL_ok (FT.ok_cons (by kernel_rfl) (by kernel_rfl) (FT.ok_cons (by kernel_rfl) (by kernel_rfl) (FT.ok_cons (by kernel_rfl) (by kernel_rfl) FT.ok_nil))) (CN.ok_cons c61 CN.ok_nil) (by kernel_rfl) (by kernel_rfl) (bodyOf_ok (by kernel_rfl)) e48
theorem c19 : Con.ok Try.prog TBL.gs 19 C19 := mkF_ok mixedZ TBL_ok FT.ok_nil (CN.ok_cons c48 CN.ok_nil) (by kernel_rfl) (by kernel_rfl) (bodyOf_ok (by kernel_rfl)) e19
theorem c6 : Con.ok Try.prog TBL.gs 6 C6 := mkF_ok mixedZ TBL_ok FT.ok_nil (CN.ok_cons c7 (CN.ok_cons c14 (CN.ok_cons c15 (CN.ok_cons c13 (CN.ok_cons c16 (CN.ok_cons c10 (CN.ok_cons c18 (CN.ok_cons c17 (CN.ok_cons c19 CN.ok_nil))))))))) (by kernel_rfl) (by kernel_rfl) (bodyOf_ok (by kernel_rfl)) e6
end Go.GX
namespace Go.GX
open Go.RowKit Go.SL
set_option linter.unusedVariables false
set_option linter.unusedSimpArgs false
abbrev ET := Int × Int × List (BitVec 8) × List Int × Unit
abbrev MT := Int × Int × Int × Int × Int × Int × Int × Bool × List ET × List Int × List (BitVec 8) × Unit
abbrev SNT := Int × Int × List Int × List (BitVec 8) × Unit
abbrev LT := Int × Int × List ET × Unit
abbrev RDT := (Int × Int × Unit) × Bool × SNT × Int × List ET × List MT × Unit
abbrev RT := Int × (Int × Int × Unit) × Int × Int × LT × Int × SNT × List Int × Int × Int × List (Int × Int × Unit) × RDT × Unit
abbrev STT := Int × Int × Int × Int × Int × Int × Int × List Int × Unit
theorem gdE_T {β : Type} (x : Option β) : gdE True x = x := gdE_t trivial x
def EOk (e : ET) : Prop := e.2.2.1.length ≤ 1000 ∧ e.2.2.2.1.length ≤ 1000
theorem T25 (x : List Int) (h : x.length ≤ 1000) : F25 () (x, ()) = some ((x, ()), ()) := by
  refine Tot.get ?_
  unfold F25
  refine Tot.nlq (Tot.gd (by simp [few]; omega) (Tot.s (by simp))) fun h0 => ?_
  have : x = [] := List.eq_nil_of_length_eq_zero (by simpa using h0)
  subst this
  rw [gd_t (by simp [few])]; rfl
theorem T62 (x : List (BitVec 8)) (h : x.length ≤ 1000) : F62 () (x, ()) = some ((x, ()), ()) := by
  refine Tot.get ?_
  unfold F62
  refine Tot.nlq (Tot.gd (by simp [few]; omega) (Tot.s (by simp))) fun h0 => ?_
  have : x = [] := List.eq_nil_of_length_eq_zero (by simpa using h0)
  subst this
  rw [gd_t (by simp [few])]; rfl
theorem T61 (l : List ET) (hl : l.length ≤ 1000) (ho : ∀ e ∈ l, EOk e) : F61 () (l, ()) = some ((l, ()), ()) := by
  refine Tot.get ?_
  unfold F61
  refine Tot.count l.length (fun i v => v.1.1 = (i : Int) ∧ v.1.2.1 = l.take i) ⟨rfl, rfl⟩ (by omega) ?_
  rintro i ⟨⟨x, o, ⟨⟩⟩, ⟨⟩⟩ hi ⟨hx, hq⟩ k hk
  dsimp only at hx hq ⊢
  subst hx; subst hq
  refine Tot.brd (fun hlt => ?_) (fun hge => ?_)
  · have hi' : i < l.length := by omega
    refine Tot.gd (by omega) (Tot.idx (by simpa using hi') fun a ha => ?_)
    have ha' : l[i]? = some a := by simpa using ha
    have hoa := ho a (List.mem_of_getElem? ha')
    rw [T62 _ hoa.1, bnd_s, T25 _ hoa.2, bnd_s]
    refine Tot.gd (by simp [few]; omega) (hk hi' _ ⟨?_, ?_⟩)
    · dsimp only; rw [w64_id (by omega) (by omega)]; omega
    · dsimp only; rw [List.take_add_one, ha']; rfl
  · have : i = l.length := by omega
    subst this
    exact Tot.s (by rw [List.take_length])
theorem T37 (l : List Int) (hl : l.length ≤ 1000) : Tot (F37 () (l, ())) (fun _ => True) := by
  unfold F37
  refine Tot.count l.length (fun i v => v.1.1 = (i : Int)) rfl (by omega) ?_
  rintro i ⟨⟨x, o, ⟨⟩⟩, ⟨⟩⟩ hi hx k hk
  dsimp only at hx ⊢
  subst hx
  refine Tot.brd (fun hlt => ?_) (fun hge => ?_)
  · have hi' : i < l.length := by omega
    refine Tot.gd (by omega) (Tot.idx (by simpa using hi') fun a ha => ?_)
    refine Tot.brd (fun _ => Tot.s trivial) (fun _ => ?_)
    refine Tot.br (fun _ => Tot.s trivial) (fun _ => hk hi' _ ?_)
    dsimp only; rw [w64_id (by omega) (by omega)]; omega
  · exact Tot.br (fun _ => Tot.s trivial) (fun _ => Tot.s trivial)
def LOk (g : LT) : Prop := 0 ≤ g.1 ∧ g.1 ≤ 1099511627776 ∧ g.2.2.1.length ≤ 1000 ∧ ∀ e ∈ g.2.2.1, EOk e
theorem T79 (g : LT) (hg : LOk g) (i m : Int) (hi0 : -4611686018427387904 ≤ i) (hi1 : i ≤ 4611686018427387904) (hm0 : -4611686018427387904 ≤ m) (hm1 : m ≤ 4611686018427387904) :
    Tot (F79 (g, (i, (m, ()))) ()) (fun r => r.2.1 = g ∧ r.1.1.length ≤ 1000 ∧ ∀ e ∈ r.1.1, EOk e) := by
  obtain ⟨ix, tm, l, ⟨⟩⟩ := g
  obtain ⟨h0, h1, h2, h3⟩ := hg
  dsimp only at h0 h1 h2 h3
  unfold F79
  dsimp only
  rw [show w64 (ix + 1) = ix + 1 from w64_id (by omega) (by omega), show w64 (ix + (l.length : Int)) = ix + l.length from w64_id (by omega) (by omega)]
  have hM : ∃ a : Int, imax i (ix + 1) = a ∧ ix + 1 ≤ a ∧ a ≤ 4611686018427387904 := by
    unfold imax; split <;> exact ⟨_, rfl, by omega, by omega⟩
  obtain ⟨a, ha, ha1, ha2⟩ := hM
  rw [ha]
  refine Tot.brd (fun _ => Tot.s ⟨rfl, by simp, by simp⟩) (fun hn => ?_)
  refine Tot.br (fun _ => Tot.s ⟨rfl, by simp, by simp⟩) (fun hm => ?_)
  have hm' : ¬ m < 1 := by simpa using hm
  rw [show w64 (a - (ix + 1)) = a - (ix + 1) from w64_id (by omega) (by omega)]
  obtain ⟨c, hc⟩ : ∃ c : Nat, a - (ix + 1) = (c : Int) := ⟨(a - (ix + 1)).toNat, by omega⟩
  rw [hc, Int.toNat_natCast]
  have hcl : c < l.length := by omega
  have hN : ∃ q : Nat, imin ((l.length - c : Nat) : Int) m = (q : Int) ∧ q ≤ l.length - c := by
    unfold imin; split
    · exact ⟨m.toNat, by omega, by omega⟩
    · exact ⟨_, rfl, Nat.le_refl _⟩
  obtain ⟨q, hq, hqc⟩ := hN
  rw [hq, Int.toNat_natCast]
  refine Tot.gd (by omega) (Tot.gd (by omega) (Tot.gd (by omega) (Tot.gd (by omega) (Tot.gd (by omega) (Tot.gd (by omega) (Tot.gd (by omega) ?_))))))
  have hs : ∀ e ∈ List.take (q - 0) (List.drop (c + 0) l), EOk e := fun e he => h3 e (List.mem_of_mem_drop (List.mem_of_mem_take he))
  have hlen : (List.take (q - 0) (List.drop (c + 0) l)).length ≤ 1000 := by rw [List.length_take, List.length_drop]; omega
  rw [T61 _ hlen hs, bnd_s]
  exact Tot.s ⟨rfl, hlen, hs⟩
def ROk (s : RT) : Prop := LOk s.2.2.2.2.1 ∧ s.2.2.2.2.2.2.1.2.2.1.length ≤ 1000
/-- where it stands: told, and nothing changes -/
theorem T10 (s : RT) (h : ROk s) : Tot (F10 (s, ()) ()) (fun r => r.2.1 = s ∧ r.1.1.2.2.2.2.2.2.2.1.length ≤ 1000) := by
  obtain ⟨id, ⟨ht, hv, ⟨⟩⟩, ro, le, ⟨ix, tm, l, ⟨⟩⟩, co, ⟨si, st, sm, sd, ⟨⟩⟩, ys, pa, ti, pe, ⟨rh, rn, rs, rf, re, rm, ⟨⟩⟩, ⟨⟩⟩ := s
  obtain ⟨⟨h0, h1, h2, h3⟩, h4⟩ := h
  dsimp only at h0 h1 h2 h3 h4
  unfold F10
  dsimp only
  rw [show w64 (ix + 1) = ix + 1 from w64_id (by omega) (by omega), show w64 (ix + (l.length : Int)) = ix + l.length from w64_id (by omega) (by omega),
    show w64 (ix + (l.length : Int) - (ix + 1)) = l.length - 1 from by rw [w64_id (by omega) (by omega)]; omega, show w64 ((l.length : Int) - 1 + 1) = l.length from by rw [w64_id (by omega) (by omega)]; omega]
  refine Tot.bnd (T79 (ix, (tm, (l, ()))) ⟨h0, h1, h2, h3⟩ 0 l.length (by omega) (by omega) (by omega) (by omega)) ?_
  rintro ⟨⟨a, ⟨⟩⟩, g, ⟨⟩⟩ ⟨hg, ha, hae⟩
  dsimp only at hg ha hae ⊢
  subst hg
  simp only [gdE_rfl, gdE_T]
  refine Tot.iter (fun n v => v.1.1 = (n : Int) - 1 ∧ n ≤ a.length) a.length ⟨?_, Nat.le_refl _⟩ (by omega) ?_
  · dsimp only; rw [w64_id (by omega) (by omega)]
  · rintro n ⟨⟨x, ⟨⟩⟩, ⟨⟩⟩ ⟨hx, hn⟩ k hk
    dsimp only at hx ⊢
    subst hx
    have nxt : 1 ≤ n → Tot (k ((w64 ((n : Int) - 1 - 1), ()), ())) _ := fun h1 => hk (n - 1) _ (by omega) ⟨by dsimp only; rw [w64_id (by omega) (by omega)]; omega, by omega⟩
    refine Tot.brd (fun hge => ?_) (fun _ => ?_)
    · have hlt : n - 1 < a.length := by omega
      have hto : ((n : Int) - 1).toNat = n - 1 := by omega
      rw [hto]
      refine Tot.gd (by omega) (Tot.idx hlt fun e5 h5 => ?_)
      have hoe := hae e5 (List.mem_of_getElem? h5)
      rw [h5]
      simp only [bnd_s]
      refine Tot.br (fun _ => ?_) (fun _ => nxt (by omega))
      refine Tot.gd (by omega) (Tot.bnd (T37 _ hoe.2) fun r7 _ => ?_)
      refine Tot.br (fun _ => ?_) (fun _ => nxt (by omega))
      refine Tot.gd (by omega) ?_
      rw [T25 _ hoe.2, bnd_s]
      exact Tot.s ⟨rfl, hoe.2⟩
    · rw [T25 _ h4, bnd_s]
      exact Tot.s ⟨rfl, h4⟩
end Go.GX
namespace Go.GX
open Go.RowKit Go.SL
set_option linter.unusedVariables false
set_option linter.unusedSimpArgs false
theorem Tot.jnP {α β : Type} {j : α → Option β} {f : (α → Option β) → Option β} {R : β → Prop} (Q : α → Prop) (hj : ∀ a, Q a → Tot (j a) R) (hf : ∀ k : α → Option β, (∀ a, Q a → Tot (k a) R) → Tot (f k) R) : Tot (GX.jn j f) R := Tot.jn (hf j hj)
theorem T34 (a b c : Int) : F34 (a, (b, (c, ()))) () = some ((imax b (imin a c), ()), ()) := rfl
theorem T35 (i t : Int) (l : List ET) (hl : l.length ≤ 1000) (ho : ∀ e ∈ l, EOk e) : F35 (i, (t, ())) (l, ()) = some (((imax 0 (imin i 1099511627776), (t, (l, ()))), ()), ()) := by
  unfold F35
  rw [T61 l hl ho, bnd_s]
theorem T36 (s : SNT) (h1 : s.2.2.1.length ≤ 1000) (h2 : s.2.2.2.1.length ≤ 1000) : F36 () (s, ()) = some ((s, ()), ()) := by
  unfold F36
  rw [T25 _ h1, bnd_s, T62 _ h2, bnd_s]
def outE : RDT := ((0, (0, ())), (false, ((0, (0, ([], ([], ())))), (0, ([], ([], ()))))))
noncomputable def clamp (a : Int) : Int := imax 0 (imin a 1099511627776)
theorem clamp_in (a : Int) : 0 ≤ clamp a ∧ clamp a ≤ 1099511627776 := by
  unfold clamp imax imin
  split <;> split <;> omega
theorem clamp_id {a : Int} (h0 : 0 ≤ a) (h1 : a ≤ 1099511627776) : clamp a = a := by
  unfold clamp imax imin
  split <;> split <;> omega
/-- a node that has not done anything -/
structure Fresh (id : Int) (h : Int × Int × Unit) (s : RT) : Prop where
  ok : ROk s
  id : s.1 = id
  hard : s.2.1 = (clamp h.1, (clamp h.2.1, ()))
  role : s.2.2.1 = 0
  lead : s.2.2.2.1 = 0
  out : s.2.2.2.2.2.2.2.2.2.2.2.1 = outE
theorem T14 (id ti : Int) (h : Int × Int × Unit) (m : List Int) (s : SNT) (l : List ET) (hm : m.length ≤ 1000) (h1 : s.2.2.1.length ≤ 1000) (h2 : s.2.2.2.1.length ≤ 1000) (hl : l.length ≤ 1000) (ho : ∀ e ∈ l, EOk e) :
    Tot (F14 (id, (h, (ti, ()))) (m, (s, (l, ())))) (fun r => Fresh id h r.1.1) := by
  obtain ⟨ht, hv, ⟨⟩⟩ := h
  obtain ⟨si, st, sm, sd, ⟨⟩⟩ := s
  dsimp only at h1 h2
  unfold F14
  simp only [gdE_rfl, gdE_T]
  refine Tot.jnP (fun v : (RT × Unit) × Unit => v.1.1 = (id, (clamp ht, clamp hv, ()), 0, 0, (clamp si, st, l, ()), 0, (si, st, sm, sd, ()), [], 0, 0, List.replicate 8 (0, 0, ()), outE, ())) ?_ ?_
  · rintro ⟨⟨v, ⟨⟩⟩, ⟨⟩⟩ hv2
    dsimp only at hv2
    subst hv2
    dsimp only
    refine Tot.jnP (fun v : Unit × RT × Unit => ∃ mem : List Int, mem.length ≤ 1000 ∧ v.2.1 = (id, (clamp ht, clamp hv, ()), 0, 0, (clamp si, st, l, ()), 0, (si, st, mem, sd, ()), [], 0, 0, List.replicate 8 (0, 0, ()), outE, ())) ?_ ?_
    · rintro ⟨⟨⟩, v, ⟨⟩⟩ ⟨mem, hmem, hv2⟩
      dsimp only at hv2
      subst hv2
      dsimp only
      have hc := clamp_in si
      rw [show w64 (clamp si + 1) = clamp si + 1 from w64_id (by omega) (by omega), show w64 (clamp si + 1 - 1) = clamp si from by rw [w64_id (by omega) (by omega)]; omega]
      refine Tot.count 8 (fun i v => v.1.1 = (i : Int) ∧ ∃ pe : List (Int × Int × Unit), pe.length = 8 ∧ v.2.1 = (id, (clamp ht, clamp hv, ()), 0, 0, (), clamp si, (clamp si, st, mem, sd, ()), [], 0, 0, pe, outE, ())) ⟨rfl, _, by simp, rfl⟩ (by decide) ?_
      rintro i ⟨⟨x, ⟨⟩⟩, v, ⟨⟩⟩ hi ⟨hx, pe, hpe, hv2⟩ k hk
      dsimp only at hx hv2
      subst hx; subst hv2
      dsimp only
      refine Tot.brd (fun hlt => ?_) (fun hge => ?_)
      · have hi8 : i < 8 := by omega
        refine Tot.gd (by omega) (Tot.gd (by omega) (Tot.idx (by rw [Int.toNat_natCast]; omega) fun a ha => ?_))
        refine hk hi8 _ ⟨?_, _, ?_, rfl⟩
        · dsimp only; rw [w64_id (by omega) (by omega)]; omega
        · rw [List.length_set]; exact hpe
      · unfold F38
        rw [T34, bnd_s, bnd_s]
        exact Tot.s ⟨⟨⟨hc.1, hc.2, hl, ho⟩, hmem⟩, rfl, rfl, rfl, rfl, rfl⟩
    · intro k hk
      refine Tot.bnd (T37 sm h1) fun r9 _ => ?_
      refine Tot.br (fun _ => ?_) (fun _ => hk _ ⟨sm, h1, rfl⟩)
      refine Tot.bnd (T37 m hm) fun r10 _ => ?_
      refine Tot.br (fun _ => ?_) (fun _ => hk _ ⟨[], by simp, rfl⟩)
      rw [T25 m hm, bnd_s]
      exact hk _ ⟨m, hm, rfl⟩
  · intro k hk
    rw [T34, bnd_s, T34, bnd_s, T35 _ _ _ hl ho, bnd_s, T36 _ h1 h2, bnd_s]
    exact hk _ rfl
end Go.GX
namespace Go.GX
open Go.RowKit Go.SL
set_option linter.unusedVariables false
set_option linter.unusedSimpArgs false
theorem T33 (l : List Int) (hl : l.length ≤ 1000) : F33 () (l, (l, ())) = some ((true, ()), ()) := by
  refine Tot.get ?_
  unfold F33
  refine Tot.br (fun h => by simp at h) (fun _ => ?_)
  refine Tot.count l.length (fun i v => v.1.1 = (i : Int)) rfl (by omega) ?_
  rintro i ⟨⟨x, ⟨⟩⟩, ⟨⟩⟩ hi hx k hk
  dsimp only at hx ⊢
  subst hx
  refine Tot.brd (fun hlt => ?_) (fun hge => Tot.s rfl)
  have hi' : i < l.length := by omega
  refine Tot.gd (by omega) (Tot.idx (by rw [Int.toNat_natCast]; exact hi') fun a ha => ?_)
  refine Tot.gd (by omega) ?_
  rw [ha, bnd_s]
  refine Tot.br (fun h => by simp at h) (fun _ => hk hi' _ ?_)
  dsimp only; rw [w64_id (by omega) (by omega)]; omega
theorem T12 (s : STT) (hs : s.2.2.2.2.2.2.2.1.length ≤ 1000) : F12 () (s, (s, ())) = some ((true, ()), ()) := by
  unfold F12
  simp [T33 _ hs]
theorem T20 (x : List Int) : Tot (F20 () (x, ())) (fun r => r.1.1.length ≤ 9) := by
  unfold F20
  refine Tot.brd (fun h => ?_) (fun h => ?_)
  · refine Tot.gd (by decide) (Tot.gd (by decide) (Tot.gd (by dsimp only at h ⊢; omega) (Tot.gd (by simp [few]; omega) (Tot.s (by simp; omega)))))
  · refine Tot.gd (by dsimp only at h ⊢; simp [few]; omega) (Tot.s (by dsimp only at h ⊢; simp; omega))
theorem T18 (x : List (BitVec 8)) : Tot (F18 () (x, ())) (fun r => r.1.1.length ≤ 50) := by
  unfold F18
  refine Tot.brd (fun h => ?_) (fun h => ?_)
  · refine Tot.gd (by decide) (Tot.gd (by decide) (Tot.gd (by dsimp only at h ⊢; omega) (Tot.gd (by simp [few]; omega) (Tot.s (by simp; omega)))))
  · refine Tot.gd (by dsimp only at h ⊢; simp [few]; omega) (Tot.s (by dsimp only at h ⊢; simp; omega))
theorem T21 (s : SNT) : Tot (F21 () (s, ())) (fun r => r.1.1.2.2.1.length ≤ 9 ∧ r.1.1.2.2.2.1.length ≤ 50) := by
  unfold F21
  refine Tot.bnd (T20 _) fun a ha => Tot.bnd (T18 _) fun b hb => Tot.s ⟨ha, hb⟩
theorem T22 (l : List ET) : Tot (F22 () (l, ())) (fun r => r.1.1.length ≤ 12 ∧ ∀ e ∈ r.1.1, EOk e) := by
  unfold F22
  simp only [gdE_rfl, gdE_T]
  refine Tot.count 12 (fun i v => v.1.1 = (i : Int) ∧ v.1.2.1.length = i ∧ ∀ e ∈ v.1.2.1, EOk e) ⟨rfl, rfl, by simp⟩ (by omega) ?_
  rintro i ⟨⟨x, o, ⟨⟩⟩, ⟨⟩⟩ hi ⟨hx, hol, ho⟩ k hk
  dsimp only at hx hol ho ⊢
  subst hx
  refine Tot.brd (fun hlt => ?_) (fun _ => Tot.s ⟨by dsimp only; omega, ho⟩)
  refine Tot.br (fun h12 => ?_) (fun _ => Tot.s ⟨by dsimp only; omega, ho⟩)
  have h12' : i < 12 := by
    have : decide ((i : Int) < 12) = true := h12
    simp at this; omega
  refine Tot.gd (by omega) (Tot.idx (by rw [Int.toNat_natCast]; omega) fun a ha => ?_)
  refine Tot.jnP (fun v : Unit × ET × Unit => v.2.1.2.2.1.length ≤ 50) ?_ ?_
  · rintro ⟨⟨⟩, v, ⟨⟩⟩ hv
    dsimp only at hv
    refine Tot.jnP (fun v : Unit × ET × Unit => v.2.1.2.2.1.length ≤ 50 ∧ v.2.1.2.2.2.1.length ≤ 9) ?_ ?_
    · rintro ⟨⟨⟩, u, ⟨⟩⟩ ⟨hu1, hu2⟩
      dsimp only at hu1 hu2 ⊢
      refine Tot.gd (by simp [few]; omega) (Tot.gd (by simp [few]; omega) (Tot.gd (by simp [few]; omega) (hk h12' _ ⟨?_, ?_, ?_⟩)))
      · dsimp only; rw [w64_id (by omega) (by omega)]; omega
      · dsimp only; simp; omega
      · dsimp only
        intro e he
        rcases List.mem_append.1 he with he | he
        · exact ho e he
        · rw [List.mem_singleton.1 he]
          exact ⟨by simp; omega, by simp; omega⟩
    · intro k hk
      dsimp only
      refine Tot.brd (fun h => Tot.gd (by decide) (Tot.gd (by decide) (Tot.gd (by omega) (hk _ ⟨hv, ?_⟩)))) (fun h => hk _ ⟨hv, ?_⟩)
      · simp; omega
      · dsimp only; omega
  · intro k hk
    refine Tot.brd (fun h => Tot.gd (by decide) (Tot.gd (by decide) (Tot.gd (by omega) (hk _ ?_)))) (fun h => hk _ ?_)
    · simp; omega
    · dsimp only; omega
abbrev NT := Int × Int × List Int × (Int × Int × Unit) × SNT × List ET × Unit
theorem T8 (n : NT) : Tot (F8 () (n, ())) (fun r => Fresh n.1 n.2.2.2.1 r.1.1) := by
  unfold F8
  refine Tot.bnd (T20 _) fun a ha => Tot.bnd (T21 _) fun b hb => Tot.bnd (T22 _) fun c hc => ?_
  refine Tot.bnd (T14 _ _ _ _ _ _ (by omega) (by omega) (by omega) (by omega) hc.2) fun r hr => Tot.s hr
theorem T9 (m : MT) : Tot (F9 () (m, ())) (fun r => r.1.1.1 = m.1 ∧ r.1.1.2.2.2.2.2.2.2.2.1.length ≤ 12 ∧ (∀ e ∈ r.1.1.2.2.2.2.2.2.2.2.1, EOk e) ∧ r.1.1.2.2.2.2.2.2.2.2.2.1.length ≤ 9) := by
  unfold F9
  refine Tot.bnd (T22 _) fun a ha => Tot.bnd (T20 _) fun b hb => Tot.bnd (T18 _) fun c hc => Tot.s ⟨rfl, ha.1, ha.2, hb⟩
/-- a message that is odd at the first look -/
def OddM (id : Int) (m : MT) : Prop := (∀ x ∈ [m.2.2.2.2.1, m.2.2.2.2.2.1, m.2.2.2.2.2.2.1, m.2.2.2.1], 0 ≤ x ∧ x ≤ 1099511627776) → m.1 < 1 ∨ 8 < m.1 ∨ m.2.2.1 ≠ id ∨ m.2.1 = id ∨ m.2.1 < 1 ∨ 7 < m.2.1
theorem T29 (s : RT) (m : MT) (h : OddM s.1 m) : F29 (s, ()) (m, ()) = some ((true, ()), (s, ())) := by
  obtain ⟨id, hd, ro, le, lg, co, sn, ys, pa, ti, pe, ou, ⟨⟩⟩ := s
  obtain ⟨mk, mf, mt, mte, mi, ml, mc, my, me, mm, md, ⟨⟩⟩ := m
  refine Tot.get ?_
  unfold F29
  simp only [gdE_rfl, gdE_T]
  refine Tot.count 4 (fun i v => v.1.1 = (i : Int) ∧ ∀ j, j < i → ∀ x, [mi, ml, mc, mte][j]? = some x → 0 ≤ x ∧ x ≤ 1099511627776) ⟨rfl, fun j hj => by omega⟩ (by decide) ?_
  rintro i ⟨⟨x, ⟨⟩⟩, ⟨⟩⟩ hi ⟨hx, hr⟩ k hk
  dsimp only at hx ⊢
  subst hx
  refine Tot.brd (fun hlt => ?_) (fun hge => ?_)
  · have hi4 : i < 4 := by simp at hlt; omega
    refine Tot.gd (by omega) (Tot.gd (by simp; omega) (Tot.idx (by simp; omega) fun a ha => ?_))
    refine Tot.brd (fun _ => Tot.s rfl) (fun h0 => ?_)
    refine Tot.br (fun _ => Tot.s rfl) (fun h1 => hk hi4 _ ⟨?_, ?_⟩)
    · dsimp only; rw [w64_id (by omega) (by omega)]; omega
    · intro j hj x hx
      by_cases hji : j = i
      · subst hji
        rw [Int.toNat_natCast] at ha
        rw [ha] at hx; cases hx
        have h1' : ¬ a > 1099511627776 := by simpa using h1
        omega
      · exact hr j (by omega) x hx
  · have hi4 : i = 4 := by simp at hge; omega
    subst hi4
    have hodd := h (fun x hx => by
      obtain ⟨j, hj, rfl⟩ := List.getElem_of_mem hx
      exact hr j (by simpa using hj) _ (List.getElem?_eq_getElem hj))
    dsimp only at hodd
    refine Tot.brd (fun _ => Tot.s rfl) (fun g1 => ?_)
    refine Tot.br (fun _ => Tot.s rfl) (fun g2 => ?_)
    refine Tot.br (fun _ => Tot.s rfl) (fun g3 => ?_)
    refine Tot.br (fun _ => Tot.s rfl) (fun g4 => ?_)
    refine Tot.br (fun _ => Tot.s rfl) (fun g5 => ?_)
    refine Tot.br (fun _ => Tot.s rfl) (fun g6 => ?_)
    have g2' : ¬ mk > 8 := by simpa using g2
    have g3' : mt = id := by simpa using g3
    have g4' : ¬ mf = id := by simpa using g4
    have g5' : ¬ mf < 1 := by simpa using g5
    have g6' : ¬ mf > 7 := by simpa using g6
    omega
end Go.GX
namespace Go.GX
open Go.RowKit Go.SL
set_option linter.unusedVariables false
set_option linter.unusedSimpArgs false
theorem ixor_ne (n : Int) : ixor64 n 1 ≠ n := by
  intro h
  unfold ixor64 at h
  have h2 : BitVec.ofInt 64 n ^^^ BitVec.ofInt 64 1 = BitVec.ofInt 64 n := by
    have := congrArg (BitVec.ofInt 64) h
    rwa [BitVec.ofInt_toInt] at this
  have h3 : BitVec.ofInt 64 1 = 0#64 := by
    have := congrArg (fun x => BitVec.ofInt 64 n ^^^ x) h2
    simpa [← BitVec.xor_assoc] using this
  exact absurd h3 (by decide)
theorem T11o (s : RT) (m : MT) (h : OddM s.1 m) (ho : s.2.2.2.2.2.2.2.2.2.2.2.1 = outE) : F11 (s, ()) (m, ()) = some ((outE, ()), (s, ())) := by
  obtain ⟨id, ⟨ht, hv, ⟨⟩⟩, ro, le, lg, co, sn, ys, pa, ti, pe, ou, ⟨⟩⟩ := s
  obtain ⟨mk, mf, mt, mte, mi, ml, mc, my, me, mm, md, ⟨⟩⟩ := m
  dsimp only at ho
  subst ho
  have h29 := T29 _ _ h
  unfold F11
  dsimp only
  rw [h29, bnd_s]
  dsimp only
  rw [br_t, show (!(eqIL (ht :: hv :: []) (ht :: hv :: []))) = false from by simp [eqIL], br_f]
  rfl
theorem T3 (h7 : F7 () () = some ((true, ()), ())) (n : NT) (m : MT) : F3 (n, (m, ())) () = some ((true, ()), ()) := by
  refine Tot.get ?_
  unfold F3
  simp only [gdE_rfl, gdE_T]
  rw [h7, bnd_s]
  refine Tot.bnd (T8 n) ?_
  rintro ⟨⟨s, ⟨⟩⟩, ⟨⟩⟩ hs
  dsimp only at hs ⊢
  refine Tot.br (fun h => by simp at h) (fun _ => ?_)
  refine Tot.br (fun h => by cases h) (fun _ => ?_)
  refine Tot.bnd (T9 m) ?_
  rintro ⟨⟨q, ⟨⟩⟩, ⟨⟩⟩ _
  dsimp only
  obtain ⟨⟨⟨d, ⟨⟩⟩, s', ⟨⟩⟩, hd, hs', hdl⟩ := T10 s hs.ok
  dsimp only at hs' hdl
  subst hs'
  rw [hd, bnd_s]
  dsimp only
  refine Tot.count 6 (fun i v => v.1.1 = (i : Int) ∧ v.2.1 = s') ⟨rfl, rfl⟩ (by decide) ?_
  rintro i ⟨⟨x, ⟨⟩⟩, v, ⟨⟩⟩ hi ⟨hx, hv⟩ k hk
  dsimp only at hx hv
  subst hx; subst hv
  dsimp only
  refine Tot.brd (fun hlt => ?_) (fun _ => Tot.s rfl)
  have hi6 : i < 6 := by omega
  refine Tot.jnP (fun u : Unit × MT × Unit => OddM v.1 u.2.1) ?_ ?_
  · rintro ⟨⟨⟩, u, ⟨⟩⟩ hu
    dsimp only at hu ⊢
    rw [T11o v u hu hs.out, bnd_s]
    dsimp only
    rw [hd, bnd_s]
    dsimp only
    rw [T12 d hdl, bnd_s]
    simp only [outE]
    refine Tot.br (fun h => by simp at h) (fun _ => ?_)
    refine Tot.br (fun h => by simp at h) (fun _ => ?_)
    refine Tot.br (fun h => by simp at h) (fun _ => ?_)
    refine Tot.br (fun h => by simp at h) (fun _ => ?_)
    refine Tot.br (fun h => by simp at h) (fun _ => ?_)
    refine Tot.br (fun h => by simp at h) (fun _ => ?_)
    refine hk hi6 _ ⟨?_, rfl⟩
    dsimp only; rw [w64_id (by omega) (by omega)]; omega
  · intro j hj
    have hid := hs.id
    refine Tot.br (fun _ => hj _ ?_) (fun h0 => ?_)
    · intro _; dsimp only; omega
    refine Tot.br (fun _ => hj _ ?_) (fun h1 => ?_)
    · intro _; dsimp only; omega
    refine Tot.br (fun _ => hj _ ?_) (fun h2 => ?_)
    · intro _; dsimp only; omega
    refine Tot.br (fun _ => hj _ ?_) (fun h3 => ?_)
    · intro _; have := ixor_ne n.1; dsimp only; omega
    refine Tot.br (fun _ => hj _ ?_) (fun h4 => ?_)
    · intro hh
      have := hh (-1) (by simp)
      omega
    refine Tot.br (fun _ => hj _ ?_) (fun h5 => ?_)
    · intro hh
      have := hh (-1) (by simp)
      omega
    · simp at h0 h1 h2 h3 h4 h5; omega
end Go.GX
