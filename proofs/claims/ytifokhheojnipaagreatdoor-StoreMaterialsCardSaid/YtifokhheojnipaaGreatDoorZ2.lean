/- Contracts. -/
import Derived.Test.YtifokhheojnipaaGreatDoorE1
import Derived.Test.YtifokhheojnipaaGreatDoorE2
import Derived.Test.YtifokhheojnipaaGreatDoorS1
import Derived.Test.YtifokhheojnipaaGreatDoorE3
import Derived.Test.YtifokhheojnipaaGreatDoorZ1
import Derived.Test.YtifokhheojnipaaGreatDoorG7
import Derived.Test.YtifokhheojnipaaGreatDoorA1
set_option linter.unusedVariables false
set_option linter.unusedSimpArgs false
set_option linter.unnecessarySimpa false
namespace Go.GX
open Go.RowKit Go.SL Go.Proofs
set_option maxRecDepth 100000
set_option linter.unusedVariables false

theorem mixedZ : Tryz.prog.follows .mixedOrders = true := by kernel_rfl
theorem c201 : Con.ok Tryz.prog TBL.gs 201 C201 := mkF_ok mixedZ TBL_ok (FT.ok_cons (by kernel_rfl) (by kernel_rfl) FT.ok_nil) CN.ok_nil (by kernel_rfl) (by kernel_rfl) (bodyOf_ok (by kernel_rfl)) e201
theorem c171 : Con.ok Tryz.prog TBL.gs 171 C171 := mkF_ok mixedZ TBL_ok FT.ok_nil CN.ok_nil (by kernel_rfl) (by kernel_rfl) (bodyOf_ok (by kernel_rfl)) e171
theorem c253 : Con.ok Tryz.prog TBL.gs 253 C253 := mkF_ok mixedZ TBL_ok FT.ok_nil CN.ok_nil (by kernel_rfl) (by kernel_rfl) (bodyOf_ok (by kernel_rfl)) e253
theorem c269 : Con.ok Tryz.prog TBL.gs 269 C269 := mkF_ok mixedZ TBL_ok FT.ok_nil CN.ok_nil (by kernel_rfl) (by kernel_rfl) (bodyOf_ok (by kernel_rfl)) e269
theorem c267 : Con.ok Tryz.prog TBL.gs 267 C267 := mkF_ok mixedZ TBL_ok FT.ok_nil (CN.ok_cons c269 CN.ok_nil) (by kernel_rfl) (by kernel_rfl) (bodyOf_ok (by kernel_rfl)) e267
theorem c254 : Con.ok Tryz.prog TBL.gs 254 C254 := mkF_ok mixedZ TBL_ok FT.ok_nil (CN.ok_cons c267 CN.ok_nil) (by kernel_rfl) (by kernel_rfl) (bodyOf_ok (by kernel_rfl)) e254
theorem c235 : Con.ok Tryz.prog TBL.gs 235 C235 := mkF_ok mixedZ TBL_ok FT.ok_nil (CN.ok_cons c171 (CN.ok_cons c253 (CN.ok_cons c254 CN.ok_nil))) (by kernel_rfl) (by kernel_rfl) (bodyOf_ok (by kernel_rfl)) e235
theorem c214 : Con.ok Tryz.prog TBL.gs 214 C214 := mkF_ok mixedZ TBL_ok FT.ok_nil (CN.ok_cons c235 (CN.ok_cons c201 CN.ok_nil)) (by kernel_rfl) (by kernel_rfl) (bodyOf_ok (by kernel_rfl)) e214
theorem c168 : Con.ok Tryz.prog TBL.gs 168 C168 := mkF_ok mixedZ TBL_ok (FT.ok_cons (by kernel_rfl) (by kernel_rfl) FT.ok_nil) (CN.ok_cons c201 (CN.ok_cons c214 CN.ok_nil)) (by kernel_rfl) (by kernel_rfl) (bodyOf_ok (by kernel_rfl)) e168
theorem c106 : Con.ok Tryz.prog TBL.gs 106 C106 := mkF_ok mixedZ TBL_ok FT.ok_nil (CN.ok_cons c168 CN.ok_nil) (by kernel_rfl) (by kernel_rfl) (bodyOf_ok (by kernel_rfl)) e106
theorem c42 : Con.ok Tryz.prog TBL.gs 42 C42 := mkF_ok mixedZ TBL_ok FT.ok_nil (CN.ok_cons c106 CN.ok_nil) (by kernel_rfl) (by kernel_rfl) (bodyOf_ok (by kernel_rfl)) e42
theorem c43 : Con.ok Tryz.prog TBL.gs 43 C43 := mkF_ok mixedZ TBL_ok FT.ok_nil CN.ok_nil (by kernel_rfl) (by kernel_rfl) (bodyOf_ok (by kernel_rfl)) e43
theorem c44 : Con.ok Tryz.prog TBL.gs 44 C44 := mkF_ok mixedZ TBL_ok FT.ok_nil CN.ok_nil (by kernel_rfl) (by kernel_rfl) (bodyOf_ok (by kernel_rfl)) e44
theorem c15 : Con.ok Tryz.prog TBL.gs 15 C15 := mkF_ok mixedZ TBL_ok FT.ok_nil (CN.ok_cons c42 (CN.ok_cons c43 (CN.ok_cons c44 CN.ok_nil))) (by kernel_rfl) (by kernel_rfl) (bodyOf_ok (by kernel_rfl)) e15
theorem c111 : Con.ok Tryz.prog TBL.gs 111 C111 := mkF_ok mixedZ TBL_ok FT.ok_nil CN.ok_nil (by kernel_rfl) (by kernel_rfl) (bodyOf_ok (by kernel_rfl)) e111
theorem c47 : Con.ok Tryz.prog TBL.gs 47 C47 := mkF_ok mixedZ TBL_ok (FT.ok_cons (by kernel_rfl) (by kernel_rfl) (FT.ok_cons (by kernel_rfl) (by kernel_rfl) (FT.ok_cons (by kernel_rfl) (by kernel_rfl) (FT.ok_cons (by kernel_rfl) (by kernel_rfl) (FT.ok_cons (by kernel_rfl) (by kernel_rfl) (FT.ok_cons (by kernel_rfl) (by kernel_rfl) (FT.ok_cons (by kernel_rfl) (by kernel_rfl) (FT.ok_cons (by kernel_rfl) (by kernel_rfl) (FT.ok_cons (by kernel_rfl) (by kernel_rfl) (FT.ok_cons (by kernel_rfl) (by kernel_rfl) FT.ok_nil)))))))))) (CN.ok_cons c111 CN.ok_nil) (by kernel_rfl) (by kernel_rfl) (bodyOf_ok (by kernel_rfl)) e47
theorem c48 : Con.ok Tryz.prog TBL.gs 48 C48 := mkF_ok mixedZ TBL_ok FT.ok_nil CN.ok_nil (by kernel_rfl) (by kernel_rfl) (bodyOf_ok (by kernel_rfl)) e48
theorem c49 : Con.ok Tryz.prog TBL.gs 49 C49 := mkF_ok mixedZ TBL_ok FT.ok_nil CN.ok_nil (by kernel_rfl) (by kernel_rfl) (bodyOf_ok (by kernel_rfl)) e49
theorem c50 : Con.ok Tryz.prog TBL.gs 50 C50 := mkF_ok mixedZ TBL_ok FT.ok_nil CN.ok_nil (by kernel_rfl) (by kernel_rfl) (bodyOf_ok (by kernel_rfl)) e50
theorem c120 : Con.ok Tryz.prog TBL.gs 120 C120 := mkF_ok mixedZ TBL_ok FT.ok_nil (CN.ok_cons c171 CN.ok_nil) (by kernel_rfl) (by kernel_rfl) (bodyOf_ok (by kernel_rfl)) e120
theorem c51 : Con.ok Tryz.prog TBL.gs 51 C51 := mkF_ok mixedZ TBL_ok FT.ok_nil (CN.ok_cons c120 CN.ok_nil) (by kernel_rfl) (by kernel_rfl) (bodyOf_ok (by kernel_rfl)) e51
theorem c123 : Con.ok Tryz.prog TBL.gs 123 C123 := mkF_ok mixedZ TBL_ok FT.ok_nil CN.ok_nil (by kernel_rfl) (by kernel_rfl) (bodyOf_ok (by kernel_rfl)) e123
theorem c172 : Con.ok Tryz.prog TBL.gs 172 C172 := mkF_ok mixedZ TBL_ok (FT.ok_cons (by kernel_rfl) (by kernel_rfl) FT.ok_nil) (CN.ok_cons c168 (CN.ok_cons c201 (CN.ok_cons c214 CN.ok_nil))) (by kernel_rfl) (by kernel_rfl) (bodyOf_ok (by kernel_rfl)) e172
theorem c125 : Con.ok Tryz.prog TBL.gs 125 C125 := mkF_ok mixedZ TBL_ok (FT.ok_cons (by kernel_rfl) (by kernel_rfl) FT.ok_nil) CN.ok_nil (by kernel_rfl) (by kernel_rfl) (bodyOf_ok (by kernel_rfl)) e125
theorem c126 : Con.ok Tryz.prog TBL.gs 126 C126 := mkF_ok mixedZ TBL_ok (FT.ok_cons (by kernel_rfl) (by kernel_rfl) FT.ok_nil) CN.ok_nil (by kernel_rfl) (by kernel_rfl) (bodyOf_ok (by kernel_rfl)) e126
theorem c127 : Con.ok Tryz.prog TBL.gs 127 C127 := mkF_ok mixedZ TBL_ok (FT.ok_cons (by kernel_rfl) (by kernel_rfl) (FT.ok_cons (by kernel_rfl) (by kernel_rfl) FT.ok_nil)) CN.ok_nil (by kernel_rfl) (by kernel_rfl) (bodyOf_ok (by kernel_rfl)) e127
theorem c175 : Con.ok Tryz.prog TBL.gs 175 C175 := mkF_ok mixedZ TBL_ok (FT.ok_cons (by kernel_rfl) (by kernel_rfl) FT.ok_nil) CN.ok_nil (by kernel_rfl) (by kernel_rfl) (bodyOf_ok (by kernel_rfl)) e175
theorem c255 : Con.ok Tryz.prog TBL.gs 255 C255 := mkF_ok mixedZ TBL_ok FT.ok_nil CN.ok_nil (by kernel_rfl) (by kernel_rfl) (bodyOf_ok (by kernel_rfl)) e255
theorem c236 : Con.ok Tryz.prog TBL.gs 236 C236 := mkF_ok mixedZ TBL_ok FT.ok_nil (CN.ok_cons c255 CN.ok_nil) (by kernel_rfl) (by kernel_rfl) (bodyOf_ok (by kernel_rfl)) e236
theorem c237 : Con.ok Tryz.prog TBL.gs 237 C237 := mkF_ok mixedZ TBL_ok FT.ok_nil CN.ok_nil (by kernel_rfl) (by kernel_rfl) (bodyOf_ok (by kernel_rfl)) e237
theorem c217 : Con.ok Tryz.prog TBL.gs 217 C217 := mkF_ok mixedZ TBL_ok FT.ok_nil (CN.ok_cons c236 (CN.ok_cons c237 CN.ok_nil)) (by kernel_rfl) (by kernel_rfl) (bodyOf_ok (by kernel_rfl)) e217
theorem c218 : Con.ok Tryz.prog TBL.gs 218 C218 := mkF_ok mixedZ TBL_ok FT.ok_nil CN.ok_nil (by kernel_rfl) (by kernel_rfl) (bodyOf_ok (by kernel_rfl)) e218
theorem c219 : Con.ok Tryz.prog TBL.gs 219 C219 := mkF_ok mixedZ TBL_ok FT.ok_nil CN.ok_nil (by kernel_rfl) (by kernel_rfl) (bodyOf_ok (by kernel_rfl)) e219
theorem c222 : Con.ok Tryz.prog TBL.gs 222 C222 := mkF_ok mixedZ TBL_ok FT.ok_nil CN.ok_nil (by kernel_rfl) (by kernel_rfl) (bodyOf_ok (by kernel_rfl)) e222
theorem c256 : Con.ok Tryz.prog TBL.gs 256 C256 := mkF_ok mixedZ TBL_ok FT.ok_nil (CN.ok_cons c237 CN.ok_nil) (by kernel_rfl) (by kernel_rfl) (bodyOf_ok (by kernel_rfl)) e256
theorem c238 : Con.ok Tryz.prog TBL.gs 238 C238 := mkF_ok mixedZ TBL_ok FT.ok_nil (CN.ok_cons c255 (CN.ok_cons c256 CN.ok_nil)) (by kernel_rfl) (by kernel_rfl) (bodyOf_ok (by kernel_rfl)) e238
theorem c220 : Con.ok Tryz.prog TBL.gs 220 C220 := mkF_ok mixedZ TBL_ok FT.ok_nil (CN.ok_cons c222 (CN.ok_cons c238 CN.ok_nil)) (by kernel_rfl) (by kernel_rfl) (bodyOf_ok (by kernel_rfl)) e220
theorem c202 : Con.ok Tryz.prog TBL.gs 202 C202 := mkF_ok mixedZ TBL_ok FT.ok_nil (CN.ok_cons c217 (CN.ok_cons c171 (CN.ok_cons c218 (CN.ok_cons c219 (CN.ok_cons c220 CN.ok_nil))))) (by kernel_rfl) (by kernel_rfl) (bodyOf_ok (by kernel_rfl)) e202
theorem c221 : Con.ok Tryz.prog TBL.gs 221 C221 := mkF_ok mixedZ TBL_ok FT.ok_nil CN.ok_nil (by kernel_rfl) (by kernel_rfl) (bodyOf_ok (by kernel_rfl)) e221
theorem c257 : Con.ok Tryz.prog TBL.gs 257 C257 := mkF_ok mixedZ TBL_ok FT.ok_nil CN.ok_nil (by kernel_rfl) (by kernel_rfl) (bodyOf_ok (by kernel_rfl)) e257
theorem c258 : Con.ok Tryz.prog TBL.gs 258 C258 := mkF_ok mixedZ TBL_ok FT.ok_nil CN.ok_nil (by kernel_rfl) (by kernel_rfl) (bodyOf_ok (by kernel_rfl)) e258
theorem c239 : Con.ok Tryz.prog TBL.gs 239 C239 := mkF_ok mixedZ TBL_ok FT.ok_nil (CN.ok_cons c257 (CN.ok_cons c258 CN.ok_nil)) (by kernel_rfl) (by kernel_rfl) (bodyOf_ok (by kernel_rfl)) e239
theorem c223 : Con.ok Tryz.prog TBL.gs 223 C223 := mkF_ok mixedZ TBL_ok FT.ok_nil (CN.ok_cons c222 (CN.ok_cons c239 CN.ok_nil)) (by kernel_rfl) (by kernel_rfl) (bodyOf_ok (by kernel_rfl)) e223
theorem c203 : Con.ok Tryz.prog TBL.gs 203 C203 := mkF_ok mixedZ TBL_ok FT.ok_nil (CN.ok_cons c217 (CN.ok_cons c171 (CN.ok_cons c221 (CN.ok_cons c220 (CN.ok_cons c223 (CN.ok_cons c218 (CN.ok_cons c222 CN.ok_nil))))))) (by kernel_rfl) (by kernel_rfl) (bodyOf_ok (by kernel_rfl)) e203
theorem c177 : Con.ok Tryz.prog TBL.gs 177 C177 := mkF_ok mixedZ TBL_ok FT.ok_nil (CN.ok_cons c202 (CN.ok_cons c203 CN.ok_nil)) (by kernel_rfl) (by kernel_rfl) (bodyOf_ok (by kernel_rfl)) e177
theorem c207 : Con.ok Tryz.prog TBL.gs 207 C207 := mkF_ok mixedZ TBL_ok FT.ok_nil CN.ok_nil (by kernel_rfl) (by kernel_rfl) (bodyOf_ok (by kernel_rfl)) e207
theorem c208 : Con.ok Tryz.prog TBL.gs 208 C208 := mkF_ok mixedZ TBL_ok FT.ok_nil CN.ok_nil (by kernel_rfl) (by kernel_rfl) (bodyOf_ok (by kernel_rfl)) e208
theorem c190 : Con.ok Tryz.prog TBL.gs 190 C190 := mkF_ok mixedZ TBL_ok FT.ok_nil (CN.ok_cons c207 (CN.ok_cons c208 CN.ok_nil)) (by kernel_rfl) (by kernel_rfl) (bodyOf_ok (by kernel_rfl)) e190
theorem c149 : Con.ok Tryz.prog TBL.gs 149 C149 := mkF_ok mixedZ TBL_ok FT.ok_nil (CN.ok_cons c190 (CN.ok_cons c171 CN.ok_nil)) (by kernel_rfl) (by kernel_rfl) (bodyOf_ok (by kernel_rfl)) e149
theorem c176 : Con.ok Tryz.prog TBL.gs 176 C176 := mkF_ok mixedZ TBL_ok FT.ok_nil (CN.ok_cons c149 (CN.ok_cons c201 CN.ok_nil)) (by kernel_rfl) (by kernel_rfl) (bodyOf_ok (by kernel_rfl)) e176
theorem c128 : Con.ok Tryz.prog TBL.gs 128 C128 := mkF_ok mixedZ TBL_ok FT.ok_nil (CN.ok_cons c175 (CN.ok_cons c177 (CN.ok_cons c176 CN.ok_nil))) (by kernel_rfl) (by kernel_rfl) (bodyOf_ok (by kernel_rfl)) e128
theorem c158 : Con.ok Tryz.prog TBL.gs 158 C158 := mkF_ok mixedZ TBL_ok (FT.ok_cons (by kernel_rfl) (by kernel_rfl) FT.ok_nil) (CN.ok_cons c190 (CN.ok_cons c171 CN.ok_nil)) (by kernel_rfl) (by kernel_rfl) (bodyOf_ok (by kernel_rfl)) e158
theorem c178 : Con.ok Tryz.prog TBL.gs 178 C178 := mkF_ok mixedZ TBL_ok FT.ok_nil (CN.ok_cons c158 CN.ok_nil) (by kernel_rfl) (by kernel_rfl) (bodyOf_ok (by kernel_rfl)) e178
theorem c179 : Con.ok Tryz.prog TBL.gs 179 C179 := mkF_ok mixedZ TBL_ok (FT.ok_cons (by kernel_rfl) (by kernel_rfl) (FT.ok_cons (by kernel_rfl) (by kernel_rfl) FT.ok_nil)) CN.ok_nil (by kernel_rfl) (by kernel_rfl) (bodyOf_ok (by kernel_rfl)) e179
theorem c180 : Con.ok Tryz.prog TBL.gs 180 C180 := mkF_ok mixedZ TBL_ok FT.ok_nil (CN.ok_cons c203 (CN.ok_cons c202 CN.ok_nil)) (by kernel_rfl) (by kernel_rfl) (bodyOf_ok (by kernel_rfl)) e180
theorem c129 : Con.ok Tryz.prog TBL.gs 129 C129 := mkF_ok mixedZ TBL_ok FT.ok_nil (CN.ok_cons c178 (CN.ok_cons c179 (CN.ok_cons c180 CN.ok_nil))) (by kernel_rfl) (by kernel_rfl) (bodyOf_ok (by kernel_rfl)) e129
theorem c130 : Con.ok Tryz.prog TBL.gs 130 C130 := mkF_ok mixedZ TBL_ok FT.ok_nil (CN.ok_cons c129 (CN.ok_cons c178 (CN.ok_cons c128 CN.ok_nil))) (by kernel_rfl) (by kernel_rfl) (bodyOf_ok (by kernel_rfl)) e130
theorem c52 : Con.ok Tryz.prog TBL.gs 52 C52 := mkF_ok mixedZ TBL_ok (FT.ok_cons (by kernel_rfl) (by kernel_rfl) (FT.ok_cons (by kernel_rfl) (by kernel_rfl) (FT.ok_cons (by kernel_rfl) (by kernel_rfl) FT.ok_nil))) (CN.ok_cons c123 (CN.ok_cons c172 (CN.ok_cons c125 (CN.ok_cons c126 (CN.ok_cons c127 (CN.ok_cons c128 (CN.ok_cons c129 (CN.ok_cons c130 (CN.ok_cons c106 CN.ok_nil))))))))) (by kernel_rfl) (by kernel_rfl) (bodyOf_ok (by kernel_rfl)) e52
theorem c53 : Con.ok Tryz.prog TBL.gs 53 C53 := mkF_ok mixedZ TBL_ok FT.ok_nil (CN.ok_cons c120 CN.ok_nil) (by kernel_rfl) (by kernel_rfl) (bodyOf_ok (by kernel_rfl)) e53
theorem c18 : Con.ok Tryz.prog TBL.gs 18 C18 := mkF_ok mixedZ TBL_ok FT.ok_nil (CN.ok_cons c47 (CN.ok_cons c48 (CN.ok_cons c49 (CN.ok_cons c50 (CN.ok_cons c51 (CN.ok_cons c52 (CN.ok_cons c53 CN.ok_nil))))))) (by kernel_rfl) (by kernel_rfl) (bodyOf_ok (by kernel_rfl)) e18
theorem c14 : Con.ok Tryz.prog TBL.gs 14 C14 := mkF_ok mixedZ TBL_ok FT.ok_nil (CN.ok_cons c15 (CN.ok_cons c18 CN.ok_nil)) (by kernel_rfl) (by kernel_rfl) (bodyOf_ok (by kernel_rfl)) e14
theorem c16 : Con.ok Tryz.prog TBL.gs 16 C16 := mkF_ok mixedZ TBL_ok FT.ok_nil CN.ok_nil (by kernel_rfl) (by kernel_rfl) (bodyOf_ok (by kernel_rfl)) e16
theorem c55 : Con.ok Tryz.prog TBL.gs 55 C55 := mkF_ok mixedZ TBL_ok (FT.ok_cons (by kernel_rfl) (by kernel_rfl) (FT.ok_cons (by kernel_rfl) (by kernel_rfl) FT.ok_nil)) CN.ok_nil (by kernel_rfl) (by kernel_rfl) (bodyOf_ok (by kernel_rfl)) e55
theorem c21 : Con.ok Tryz.prog TBL.gs 21 C21 := mkF_ok mixedZ TBL_ok FT.ok_nil (CN.ok_cons c55 CN.ok_nil) (by kernel_rfl) (by kernel_rfl) (bodyOf_ok (by kernel_rfl)) e21
end Go.GX
namespace Go.GX
open Go.RowKit Go.SL Go.Proofs
set_option maxRecDepth 100000
set_option linter.unusedVariables false

theorem c169 : Con.ok Tryz.prog TBL.gs 169 C169 := mkF_ok mixedZ TBL_ok FT.ok_nil CN.ok_nil (by kernel_rfl) (by kernel_rfl) (bodyOf_ok (by kernel_rfl)) e169
theorem c215 : Con.ok Tryz.prog TBL.gs 215 C215 := mkF_ok mixedZ TBL_ok FT.ok_nil CN.ok_nil (by kernel_rfl) (by kernel_rfl) (bodyOf_ok (by kernel_rfl)) e215
theorem c200 : Con.ok Tryz.prog TBL.gs 200 C200 := mkF_ok mixedZ TBL_ok FT.ok_nil (CN.ok_cons c215 CN.ok_nil) (by kernel_rfl) (by kernel_rfl) (bodyOf_ok (by kernel_rfl)) e200
theorem c170 : Con.ok Tryz.prog TBL.gs 170 C170 := mkF_ok mixedZ TBL_ok FT.ok_nil (CN.ok_cons c200 CN.ok_nil) (by kernel_rfl) (by kernel_rfl) (bodyOf_ok (by kernel_rfl)) e170
theorem c107 : Con.ok Tryz.prog TBL.gs 107 C107 := mkF_ok mixedZ TBL_ok FT.ok_nil (CN.ok_cons c169 (CN.ok_cons c170 CN.ok_nil)) (by kernel_rfl) (by kernel_rfl) (bodyOf_ok (by kernel_rfl)) e107
theorem c108 : Con.ok Tryz.prog TBL.gs 108 C108 := mkF_ok mixedZ TBL_ok FT.ok_nil (CN.ok_cons c169 (CN.ok_cons c170 CN.ok_nil)) (by kernel_rfl) (by kernel_rfl) (bodyOf_ok (by kernel_rfl)) e108
theorem c45 : Con.ok Tryz.prog TBL.gs 45 C45 := mkF_ok mixedZ TBL_ok FT.ok_nil (CN.ok_cons c107 (CN.ok_cons c108 CN.ok_nil)) (by kernel_rfl) (by kernel_rfl) (bodyOf_ok (by kernel_rfl)) e45
theorem c204 : Con.ok Tryz.prog TBL.gs 204 C204 := mkF_ok mixedZ TBL_ok FT.ok_nil CN.ok_nil (by kernel_rfl) (by kernel_rfl) (bodyOf_ok (by kernel_rfl)) e204
theorem c181 : Con.ok Tryz.prog TBL.gs 181 C181 := mkF_ok mixedZ TBL_ok FT.ok_nil (CN.ok_cons c204 CN.ok_nil) (by kernel_rfl) (by kernel_rfl) (bodyOf_ok (by kernel_rfl)) e181
theorem c131 : Con.ok Tryz.prog TBL.gs 131 C131 := mkF_ok mixedZ TBL_ok FT.ok_nil (CN.ok_cons c181 CN.ok_nil) (by kernel_rfl) (by kernel_rfl) (bodyOf_ok (by kernel_rfl)) e131
theorem c54 : Con.ok Tryz.prog TBL.gs 54 C54 := mkF_ok mixedZ TBL_ok FT.ok_nil (CN.ok_cons c131 CN.ok_nil) (by kernel_rfl) (by kernel_rfl) (bodyOf_ok (by kernel_rfl)) e54
theorem c46 : Con.ok Tryz.prog TBL.gs 46 C46 := mkF_ok mixedZ TBL_ok FT.ok_nil (CN.ok_cons c54 CN.ok_nil) (by kernel_rfl) (by kernel_rfl) (bodyOf_ok (by kernel_rfl)) e46
theorem c17 : Con.ok Tryz.prog TBL.gs 17 C17 := mkF_ok mixedZ TBL_ok FT.ok_nil (CN.ok_cons c45 (CN.ok_cons c46 CN.ok_nil)) (by kernel_rfl) (by kernel_rfl) (bodyOf_ok (by kernel_rfl)) e17
theorem c19 : Con.ok Tryz.prog TBL.gs 19 C19 := mkF_ok mixedZ TBL_ok FT.ok_nil (CN.ok_cons c46 (CN.ok_cons c54 CN.ok_nil)) (by kernel_rfl) (by kernel_rfl) (bodyOf_ok (by kernel_rfl)) e19
theorem c20 : Con.ok Tryz.prog TBL.gs 20 C20 := mkF_ok mixedZ TBL_ok FT.ok_nil (CN.ok_cons c46 CN.ok_nil) (by kernel_rfl) (by kernel_rfl) (bodyOf_ok (by kernel_rfl)) e20
theorem c3 : Con.ok Tryz.prog TBL.gs 3 C3 := mkF_ok mixedZ TBL_ok FT.ok_nil (CN.ok_cons c14 (CN.ok_cons c16 (CN.ok_cons c15 (CN.ok_cons c17 (CN.ok_cons c18 (CN.ok_cons c19 (CN.ok_cons c20 (CN.ok_cons c21 CN.ok_nil)))))))) (by kernel_rfl) (by kernel_rfl) (bodyOf_ok (by kernel_rfl)) e3
end Go.GX
namespace Go.GX
open Go.RowKit Go.SL
set_option linter.unusedVariables false
theorem T201 (ls : List (List (BitVec 8))) (h1 : ls.length ≤ 10) (h2 : ∀ l ∈ ls, l.length ≤ 10000000) : Tot (F201 () (ls, ())) (fun r => r.1.1 = ls.flatten) := by
  have hsum : ∀ i, (ls.take i).flatten.length ≤ i * 10000000 := by
    intro i
    induction i generalizing ls with
    | zero => simp
    | succ i ih =>
      cases ls with
      | nil => simp
      | cons x ls =>
        simp only [List.take_succ_cons, List.flatten_cons, List.length_append]
        have := ih ls (by simp at h1; omega) (fun l hl => h2 l (by simp [hl]))
        have := h2 x (by simp)
        omega
  have hstep : ∀ i (hi : i < ls.length), (ls.take (i + 1)).flatten = (ls.take i).flatten ++ ls[i] := by
    intro i hi
    rw [List.take_add_one, List.getElem?_eq_getElem hi, List.flatten_append]
    simp only [Option.toList_some, List.flatten_cons, List.flatten_nil, List.append_nil]
  refine Tot.count ls.length (fun i v => v.1.1 = (i : Int) ∧ v.1.2.1 = ((ls.take i).flatten.length : Int)) ⟨rfl, by simp⟩ (by omega) ?_
  rintro i ⟨⟨t, n, ⟨⟩⟩, ⟨⟩⟩ hi ⟨ht, hn⟩ k hk
  dsimp only at ht hn ⊢
  subst ht; subst hn
  have hs := hsum i
  have hs' := hsum (i + 1)
  refine Tot.brd (fun hlt => ?_) (fun hge => ?_)
  · have hi' : i < ls.length := by omega
    refine Tot.gd (by omega) (Tot.idx (by simpa using hi') fun a ha => ?_)
    have hal : a.length ≤ 10000000 := h2 a (List.mem_of_getElem? ha)
    have ha' : ls[i] = a := by
      have : ls[i]? = some a := by simpa using ha
      rw [List.getElem?_eq_getElem hi'] at this; exact Option.some.inj this
    refine Tot.brd (fun hbad => ?_) (fun _ => ?_)
    · rw [w64_id (by omega) (by omega)] at hbad; omega
    · refine hk hi' _ ⟨?_, ?_⟩
      · dsimp only; (first | decide | omega | (simp (disch := omega) only [w64_id, few, few9, List.length_set, List.length_append, List.length_take, List.length_drop, List.length_replicate, List.length_cons, List.length_nil, Int.toNat_natCast]; done) | (simp (disch := omega) only [w64_id, few, few9, List.length_set, List.length_append, List.length_take, List.length_drop, List.length_replicate, List.length_cons, List.length_nil, Int.toNat_natCast]; omega) | (simp [few, few9] <;> omega))
      · dsimp only
        rw [hstep i hi', ha', List.length_append, w64_id (by omega) (by omega)]
        push_cast; rfl
  · have hie : i = ls.length := by omega
    subst hie
    rw [List.take_length] at hs ⊢
    have hloop : ∀ (xs : List (BitVec 8)), xs = [] → Tot (iter (fun (v9 : ((Int) × (List (BitVec 8)) × Unit) × Unit) => fun r10 => br (decide (v9.1.1 < (Nat.cast (List.length ls) : Int)))
 (gd (0 ≤ v9.1.1) <| bnd (ls[Int.toNat v9.1.1]?) fun a11 => gd (few (List.length v9.1.2.1) (List.length a11)) <| r10 ((Go.SL.w64 (v9.1.1 + 1), ((v9.1.2.1 ++ a11), ())), ()))
 (some ((v9.1.2.1, ()), ()))) ((0, (xs, ())), ())) (fun r : ((List (BitVec 8)) × Unit) × Unit => r.1.1 = ls.flatten) := by
      rintro xs rfl
      refine Tot.count ls.length (fun i v => v.1.1 = (i : Int) ∧ v.1.2.1 = (ls.take i).flatten) ⟨rfl, by simp⟩ (by omega) ?_
      rintro i ⟨⟨t, n, ⟨⟩⟩, ⟨⟩⟩ hi ⟨ht, hn⟩ k hk
      dsimp only at ht hn ⊢
      subst ht; subst hn
      have hs := hsum i
      refine Tot.brd (fun hlt => ?_) (fun hge => ?_)
      · have hi' : i < ls.length := by omega
        refine Tot.gd (by omega) (Tot.idx (by simpa using hi') fun a ha => ?_)
        have hal : a.length ≤ 10000000 := h2 a (List.mem_of_getElem? ha)
        have ha' : ls[i] = a := by
          have : ls[i]? = some a := by simpa using ha
          rw [List.getElem?_eq_getElem hi'] at this; exact Option.some.inj this
        refine Tot.gd (by unfold few; omega) (hk hi' _ ⟨?_, ?_⟩)
        · dsimp only; (first | decide | omega | (simp (disch := omega) only [w64_id, few, few9, List.length_set, List.length_append, List.length_take, List.length_drop, List.length_replicate, List.length_cons, List.length_nil, Int.toNat_natCast]; done) | (simp (disch := omega) only [w64_id, few, few9, List.length_set, List.length_append, List.length_take, List.length_drop, List.length_replicate, List.length_cons, List.length_nil, Int.toNat_natCast]; omega) | (simp [few, few9] <;> omega))
        · dsimp only; rw [hstep i hi', ha']
      · have hie : i = ls.length := by omega
        subst hie
        exact Tot.s (by rw [List.take_length])
    refine Tot.jn ?_
    refine Tot.brd (fun hbad => by omega) (fun _ => ?_)
    have hw : Go.SL.w64 ((ls.flatten.length : Int) - 0) = (ls.flatten.length : Int) := by rw [w64_id (by omega) (by omega)]; omega
    dsimp only
    rw [hw]
    refine Tot.brd (fun _ => ?_) (fun _ => ?_)
    · repeat' (first | refine Tot.gdE ?_ | refine Tot.gd (by (first | decide | omega | (simp (disch := omega) only [w64_id, few, few9, List.length_set, List.length_append, List.length_take, List.length_drop, List.length_replicate, List.length_cons, List.length_nil, Int.toNat_natCast]; done) | (simp (disch := omega) only [w64_id, few, few9, List.length_set, List.length_append, List.length_take, List.length_drop, List.length_replicate, List.length_cons, List.length_nil, Int.toNat_natCast]; omega) | (simp [few, few9] <;> omega))) ?_)
      exact hloop _ (by simp)
    · exact hloop _ rfl
theorem tm4 (j : Nat) : Int.tmod (j : Int) 4 = ((j % 4 : Nat) : Int) := rfl
end Go.GX
namespace Go.GX
open Go.RowKit Go.SL
set_option linter.unusedVariables false
set_option linter.unusedSimpArgs false
abbrev By := List (BitVec 8)
abbrev RepT := Int × Int × Int × By × Unit
abbrev SeaT := Int × Int × RepT × Unit
abbrev TabT := List (Int × SeaT) × Int × Unit
abbrev VerT := By × Int × Bool × Unit
abbrev RngT := Bool × List VerT × Unit
abbrev KeyT := List RngT × Unit
abbrev SrcT := By × By × Int × Unit
abbrev StoT := SrcT × KeyT × TabT × Unit
abbrev CmdT := Int × Int × Int × Int × Int × By × By × Unit
def rep0 : RepT := (0, (0, (0, ([], ()))))
def repC (e : Int) : RepT := (e, (0, (0, ([], ()))))
theorem U171 (b : By) (h : b.length ≤ 4294967296) : F171 () (b, ()) = some ((b, ()), ()) := by
  unfold F171
  have q : gd (few 0 (List.length b)) (some ((([] ++ b : By), ()), ())) = some ((b, ()), ()) := by rw [gd_t (by simpa [few] using h)]; rfl
  dsimp only
  rw [q]
  cases hb : decide (List.length b = 0) with
  | false => rw [nlq_f]
  | true =>
    have : b = [] := by simpa using hb
    subst this
    rw [nlq_t, bth_self]
theorem U120 (r : RepT) (h : r.2.2.2.1.length ≤ 4294967296) : F120 () (r, ()) = some ((r, ()), ()) := by
  unfold F120
  dsimp only
  rw [U171 _ h, bnd_s]
theorem U48 (r : RepT) (e : Int) : F48 (r, (e, ())) () = some (((if e = 0 then r else repC e), ()), ()) := by
  unfold F48
  by_cases h : e = 0
  · subst h; simp
  · rw [if_neg h, show (e != 0) = true from by simpa using h, br_t]; rfl
theorem U49 (l : List (Int × SeaT)) (n : Int) : F49 ((l, (n, ())), ()) () = some (if 8 ≤ l.length ∨ 1099511627776 ≤ n then ((0, (134, ())), ((l, (n, ())), ())) else ((n, (0, ())), ((mput l n (n, (0, (rep0, ()))), (Go.SL.w64 (n + 1), ())), ()))) := by
  unfold F49
  dsimp only
  by_cases h1 : 8 ≤ l.length
  · rw [show decide ((Nat.cast (List.length l) : Int) ≥ 8) = true from by simpa using (by omega), br_t, if_pos (.inl h1)]
  · rw [show decide ((Nat.cast (List.length l) : Int) ≥ 8) = false from by simpa using (by omega), br_f]
    by_cases h2 : 1099511627776 ≤ n
    · rw [show (cond false true (decide (n ≥ 1099511627776))) = true from by simpa using h2, br_t, if_pos (.inr h2)]
    · rw [show (cond false true (decide (n ≥ 1099511627776))) = false from by simpa using (by omega), br_f, if_neg (by omega)]; rfl
/-- what Ask tells -/
noncomputable def askT (l : List (Int × SeaT)) (id seq : Int) : RepT × Bool × Int × Unit := match mget l id with
  | none => (rep0, (false, (150, ())))
  | some s => if seq < imax 1 s.2.1 then (rep0, (false, (151, ()))) else if seq = s.2.1 then (s.2.2.1, (true, (0, ()))) else (rep0, (false, (0, ())))
theorem U51 (l : List (Int × SeaT)) (n id seq : Int) (h : ∀ s, mget l id = some s → s.2.2.1.2.2.2.1.length ≤ 4294967296) : F51 ((l, (n, ())), (id, (seq, ()))) () = some (askT l id seq, ((l, (n, ())), ())) := by
  unfold F51 askT
  dsimp only
  cases hg : mget l id with
  | none => rw [ob_n, br_t]; rfl
  | some s =>
    rw [ob_s, br_f]
    dsimp only
    by_cases h1 : seq < imax 1 s.2.1
    · rw [show decide (seq < imax 1 s.2.1) = true from decide_eq_true h1, br_t, if_pos h1]; rfl
    · rw [show decide (seq < imax 1 s.2.1) = false from decide_eq_false h1, br_f, if_neg h1]
      by_cases h2 : seq = s.2.1
      · rw [show (seq == s.2.1) = true from by simpa using h2, br_t, if_pos h2, U120 _ (h s hg), bnd_s]
      · rw [show (seq == s.2.1) = false from by simpa using h2, br_f, if_neg h2]; rfl
theorem U53 (l : List (Int × SeaT)) (n id seq : Int) (r : RepT) (hr : r.2.2.2.1.length ≤ 4294967296) : F53 ((l, (n, ())), (id, (seq, (r, ())))) () = some (match mget l id with
    | none => ((150, ()), ((l, (n, ())), ()))
    | some s => if seq ≤ s.2.1 then ((151, ()), ((l, (n, ())), ())) else ((0, ()), ((mput l id (id, (seq, (r, ()))), (n, ())), ()))) := by
  unfold F53
  dsimp only
  cases hg : mget l id with
  | none => rw [ob_n, br_t]
  | some s =>
    rw [ob_s, br_f]
    dsimp only
    by_cases h1 : seq ≤ s.2.1
    · rw [show decide (seq ≤ s.2.1) = true from decide_eq_true h1, br_t, if_pos h1]
    · rw [show decide (seq ≤ s.2.1) = false from decide_eq_false h1, br_f, if_neg h1, U120 _ hr, bnd_s]
theorem U123 (l : List RngT) (m : By) (h : l.length ≤ 1000) : F123 ((l, ()), (m, ())) () = some (if 8 ≤ l.length then ((0, (134, ())), ((l, ()), ())) else ((((l.length + 1 : Nat) : Int), (0, ())), ((l ++ [(false, ([(m, (0, (false, ())))], ()))], ()), ()))) := by
  unfold F123
  dsimp only
  by_cases h1 : 8 ≤ l.length
  · rw [show decide ((Nat.cast (List.length l) : Int) ≥ 8) = true from by simpa using (by omega), br_t, if_pos h1]
  · rw [show decide ((Nat.cast (List.length l) : Int) ≥ 8) = false from by simpa using (by omega), br_f, if_neg h1, gd_t (by simp [few]; omega)]
    simp
theorem tdl (l : List (BitVec 8)) (h : l.length = 32) : List.take 32 (List.drop 0 l) = l := by rw [List.drop_zero, List.take_of_length_le (by omega)]
end Go.GX
namespace Go.GX
open Go.RowKit Go.SL
set_option linter.unusedVariables false
set_option linter.unusedSimpArgs false
theorem U111 (a b c : Int) : F111 (a, (b, (c, ()))) () = some ((decide (a ≥ b) && decide (a ≤ c), ()), ()) := by
  unfold F111
  dsimp only
  cases decide (a ≥ b) <;> simp
theorem gdE_T' {β : Type} (x : Option β) : gdE True x = x := gdE_t trivial x
def cmdOpen : CmdT := (1, (0, (0, (0, (0, ([], ([], ())))))))
def cmdNew (sid seq : Int) : CmdT := (3, (sid, (seq, (0, (0, ([], ([], ())))))))
theorem U47o : F47 () (cmdOpen, ()) = some ((0, ()), ()) := by
  unfold F47 cmdOpen
  simp [U111, gd_t, gdE_T', jn_e]
theorem U47n (sid seq : Int) (h1 : 1 ≤ sid ∧ sid ≤ 1099511627776) (h2 : 1 ≤ seq ∧ seq ≤ 1099511627776) : F47 () (cmdNew sid seq, ()) = some ((0, ()), ()) := by
  unfold F47 cmdNew
  simp [U111, gd_t, gdE_T', jn_e, h1.1, h1.2, h2.1, h2.2]
/-- Open -/
theorem U18o (s : SrcT) (k : KeyT) (l : List (Int × SeaT)) (n : Int) (h8 : l.length < 8) (hn : n < 1099511627776) (h1 : 1 ≤ n) :
    F18 ((s, (k, ((l, (n, ())), ()))), ()) (cmdOpen, ()) = some (((0, (n, (0, ([], ())))), ()), ((s, (k, ((mput l n (n, (0, (rep0, ()))), (n + 1, ())), ()))), ())) := by
  have h47 : F47 () ((cmdOpen.1, (cmdOpen.2.1, (cmdOpen.2.2.1, (cmdOpen.2.2.2.1, (cmdOpen.2.2.2.2.1, (cmdOpen.2.2.2.2.2.1, (cmdOpen.2.2.2.2.2.2.1, ()))))))), ()) = some ((0, ()), ()) := U47o
  unfold F18
  dsimp only
  rw [h47, bnd_s]
  dsimp only
  rw [show ((0 : Int) != 0) = false from rfl, br_f, show (cmdOpen.1 == 1) = true from rfl, br_t, U49, if_neg (by omega), bnd_s, U48, bnd_s, if_pos rfl]
  rw [w64_id (by omega) (by omega)]
/-- a command in a session -/
theorem U18s (s : SrcT) (k : KeyT) (l : List (Int × SeaT)) (n : Int) (c : CmdT) (h47 : F47 () (c, ()) = some ((0, ()), ())) (h1 : c.1 ≠ 1) (h2 : c.1 ≠ 2) (hb : ∀ s, mget l c.2.1 = some s → s.2.2.1.2.2.2.1.length ≤ 4294967296) :
    F18 ((s, (k, ((l, (n, ())), ()))), ()) (c, ()) = (if (askT l c.2.1 c.2.2.1).2.2.1 ≠ 0 then some ((repC (askT l c.2.1 c.2.2.1).2.2.1, ()), ((s, (k, ((l, (n, ())), ()))), ()))
      else if (askT l c.2.1 c.2.2.1).2.1 = true then some (((askT l c.2.1 c.2.2.1).1, ()), ((s, (k, ((l, (n, ())), ()))), ()))
      else bnd (F52 ((s, (k, ((l, (n, ())), ()))), ()) (c, ())) fun a => bnd (F48 (a.1.1, (a.1.2.1, ())) ()) fun b => bnd (F53 (a.2.1.2.2.1, (c.2.1, (c.2.2.1, (b.1.1, ())))) ()) fun d => some ((b.1.1, ()), ((a.2.1.1, (a.2.1.2.1, (d.2.1, ()))), ()))) := by
  obtain ⟨k0, sid, seq, id, m, da, be, ⟨⟩⟩ := c
  dsimp only at h1 h2 hb ⊢
  have h47' : F47 () ((k0, (sid, (seq, (id, (m, (da, (be, ()))))))), ()) = some ((0, ()), ()) := h47
  unfold F18
  dsimp only
  rw [h47', bnd_s]
  dsimp only
  rw [show ((0 : Int) != 0) = false from rfl, br_f, show (k0 == 1) = false from by simpa using h1, br_f, show (k0 == 2) = false from by simpa using h2, br_f, bth_self]
  rw [U51 l n sid seq hb, bnd_s]
  dsimp only
  by_cases he : (askT l sid seq).2.2.1 = 0
  · rw [if_neg (by simpa using he), he, show ((0 : Int) != 0) = false from rfl, br_f]
    cases hs : (askT l sid seq).2.1 with
    | true => rw [if_pos rfl, show cond false true true = true from rfl, br_t, U48, bnd_s, if_pos rfl]
    | false => rw [if_neg (by decide), show cond false true false = false from rfl, br_f]
  · rw [if_pos he, show ((askT l sid seq).2.2.1 != 0) = true from by simpa using he, br_t, U48, bnd_s, if_neg he]
end Go.GX
namespace Go.GX
open Go.RowKit Go.SL
set_option linter.unusedVariables false
set_option linter.unusedSimpArgs false
def ver0 (m : By) : VerT := (m, (0, (false, ())))
def rng0 (m : By) : RngT := (false, ([ver0 m], ()))
/-- all keys, told as they are -/
theorem V55 (l : List RngT) (h8 : l.length ≤ 1000) (h4 : ∀ x ∈ l, x.2.1.length ≤ 1000) : Tot (F55 ((l, ()), ()) ()) (fun r => r.1.1 = l ∧ r.2.1 = (l, ())) := by
  unfold F55
  dsimp only
  refine Tot.count l.length (fun i v => v.1.1 = (i : Int) ∧ v.1.2.1 = l.take i ∧ v.2.1 = l) ⟨rfl, rfl, rfl⟩ (by omega) ?_
  rintro i ⟨⟨t, o, ⟨⟩⟩, b, ⟨⟩⟩ hi ⟨ht, ho, hb⟩ k hk
  dsimp only at ht ho hb ⊢
  subst ht; subst ho; subst hb
  refine Tot.brd (fun hlt => ?_) (fun hge => ?_)
  · have hi' : i < b.length := by omega
    refine Tot.gd (by omega) (Tot.gd (by omega) (Tot.idx (by omega) fun a ha => ?_))
    have ha' : b[i]? = some a := by simpa using ha
    have ham := h4 a (List.mem_of_getElem? ha')
    have hst : List.set b i (a.1, (a.2.1, ())) = b := by
      apply List.ext_getElem?
      intro j
      rw [List.getElem?_set]
      split
      · rename_i e; subst e
        first | rw [if_pos hi', ha'] | rw [ha']
      · rfl
    have htk : List.take i b ++ [(a.1, (a.2.1, ()))] = List.take (i + 1) b := by
      rw [List.take_add_one, ha']; rfl
    have hfew : few (List.length (List.take i b)) 1 := by unfold few; rw [List.length_take]; omega
    have hrec : Tot (k ((Go.SL.w64 ((i : Int) + 1), (List.take i b ++ [(a.1, (a.2.1, ()))], ())), (List.set b (Int.toNat (i : Int)) (a.1, (a.2.1, ())), ()))) (fun r => r.1.1 = b ∧ r.2.1 = (b, ())) := by
      refine hk hi' _ ⟨?_, ?_, ?_⟩
      · dsimp only; (first | decide | omega | (simp (disch := omega) only [w64_id, few, few9, List.length_set, List.length_append, List.length_take, List.length_drop, List.length_replicate, List.length_cons, List.length_nil, Int.toNat_natCast]; done) | (simp (disch := omega) only [w64_id, few, few9, List.length_set, List.length_append, List.length_take, List.length_drop, List.length_replicate, List.length_cons, List.length_nil, Int.toNat_natCast]; omega) | (simp [few, few9] <;> omega))
      · exact htk
      · dsimp only; rw [Int.toNat_natCast]; exact hst
    refine Tot.nlq (Tot.gd (by simp [few]; omega) (Tot.gd hfew hrec)) fun hq => ?_
    have h0 : a.2.1 = [] := by simpa using hq
    rw [h0, gd_t (show few 0 (List.length ([] : List VerT)) from by simp [few])]
    rfl
  · have hie : i = b.length := by omega
    subst hie
    refine Tot.s ⟨?_, rfl⟩
    dsimp only
    rw [List.take_length]
/-- a seed of 100 bytes at most -/
theorem V16 (b : By) : Tot (F16 (b, ()) ()) (fun r => r.1.1.length ≤ 100) := by
  unfold F16
  dsimp only
  refine Tot.brd (fun h => ?_) (fun h => Tot.s (by dsimp only; omega))
  refine Tot.gd (by decide) (Tot.gd (by decide) (Tot.gd (by omega) (Tot.s ?_)))
  simp; omega
end Go.GX
namespace Go.GX
open Go.RowKit Go.ChangeShapes Go.Joins Go.Deep Go.SL
set_option linter.unusedVariables false
def isI64 (P : Program) (t : Nat) : Bool := match P.underlying t with
  | some (.int .i64) => true
  | _ => false
def isU8 (P : Program) (t : Nat) : Bool := match P.underlying t with
  | some (.int .u8) => true
  | _ => false
def isBl (P : Program) (t : Nat) : Bool := match P.underlying t with
  | some .bool => true
  | _ => false
def rdSl (P : Program) (g : Nat → Bool) (w t : Nat) : Bool := match P.underlying t with
  | some (.slice e) => g e && Nat.beq (P.cellsOf e) w && Nat.ble 1 w
  | _ => false
def rdFs (P : Program) (g : Nat → Bool) (w : Nat) (h : List Field → Nat → Bool) : List Field → Nat → Bool
  | f :: r, o => Nat.beq f.offset o && g f.type && Nat.beq (P.cellsOf f.type) w && h r (o + w)
  | [], _ => false
def rdSt (P : Program) (g : List Field → Nat → Bool) (w t : Nat) : Bool := match P.underlying t with
  | some (.struct fs) => g fs.toList 0 && Nat.beq (P.cellsOf t) w
  | _ => false
/-- is a type of the program read as this kind? -/
def tyRd (P : Program) : Ty → (Nat → Bool) × (List Field → Nat → Bool)
  | .int => (isI64 P, fun _ _ => false)
  | .u8 => (isU8 P, fun _ _ => false)
  | .bool => (isBl P, fun _ _ => false)
  | .fz a => (rdSl P (tyRd P a).1 a.w, fun _ _ => false)
  | .unit => (fun _ => false, fun fs _ => fs.isEmpty)
  | .pair a b => (rdSt P (rdFs P (tyRd P a).1 a.w (tyRd P b).2) (a.w + b.w), rdFs P (tyRd P a).1 a.w (tyRd P b).2)
  | _ => (fun _ => false, fun _ _ => false)
theorem read_bool {H : Type} {enc : TypeId × Value → H} {P : Program} {W : World} {base : Nat} {spare : Nat → Bool} {held : Bool} {t fuel : Nat} {cs : List Value} {y : DataW H × List MemPlace} (ht : P.underlying t = some .bool) (h : DataW.trod enc P W base spare held fuel t cs = some y) : ∃ b, cs = [.bool b] := by
  obtain ⟨b, hb, _⟩ := DataW.trod_bool ht h
  exact ⟨b, hb⟩
theorem cat_of {m : Mem} {a : Ty} : ∀ {xs : List {cs : List Value // cs.length = a.w}}, (∀ c ∈ xs, ∃ x, DenT m a x c.1) → ∃ l : List a.T, l.length = xs.length ∧ Cat (fun x c => DenT m a x c) l (xs.flatMap Subtype.val) := by
  intro xs
  induction xs with
  | nil => intro _; exact ⟨[], rfl, rfl⟩
  | cons c xs ih =>
    intro h
    obtain ⟨x, hx⟩ := h c (by simp)
    obtain ⟨l, hl, hc⟩ := ih fun d hd => h d (by simp [hd])
    exact ⟨x :: l, by simp [hl], c.1, _, by rw [List.flatMap_cons], hx, hc⟩
section
variable {H : Type} {enc : TypeId × Value → H} {P : Program} {W : World} {base : Nat} {spare : Nat → Bool} {held : Bool}
theorem rd_ok : ∀ {ty : Ty},
    (∀ {t fuel : Nat} {cs : List Value} {y : DataW H × List MemPlace}, (tyRd P ty).1 t = true → DataW.trod enc P W base spare held fuel t cs = some y → ∃ x, DenT (P0 W).h ty x cs) ∧
    (∀ {fs : List Field} {o : Nat} {cs : List Value}, (tyRd P ty).2 fs o = true → cs.length = o + ty.w → (∀ f ∈ fs, ∃ n z, DataW.trod enc P W base spare held n f.type ((cs.drop f.offset).take (P.cellsOf f.type)) = some z) → ∃ x, DenT (P0 W).h ty x (cs.drop o)) := by
  intro ty
  induction ty with
  | int =>
    refine ⟨fun {t fuel cs y} h hr => ?_, fun h => by cases h⟩
    simp only [tyRd, isI64] at h
    split at h <;> try (cases h; done)
    rename_i hu
    obtain ⟨n, hcs, _, hw⟩ := DataW.trod_int hu hr
    exact ⟨n, hcs⟩
  | u8 =>
    refine ⟨fun {t fuel cs y} h hr => ?_, fun h => by cases h⟩
    simp only [tyRd, isU8] at h
    split at h <;> try (cases h; done)
    rename_i hu
    obtain ⟨n, hcs, _, hw⟩ := DataW.trod_int hu hr
    have hb := bounds_u8 hw
    refine ⟨BitVec.ofInt 8 n, ?_⟩
    show cs = [_]
    rw [hcs]
    congr 2
    rw [BitVec.toNat_ofInt]
    show n = ((n % 256).toNat : Int)
    omega
  | bool =>
    refine ⟨fun {t fuel cs y} h hr => ?_, fun h => by cases h⟩
    simp only [tyRd, isBl] at h
    split at h <;> try (cases h; done)
    rename_i hu
    obtain ⟨b, hb⟩ := read_bool hu hr
    exact ⟨b, hb⟩
  | fz a ih =>
    refine ⟨fun {t fuel cs y} h hr => ?_, fun h => by cases h⟩
    simp only [tyRd, rdSl] at h
    split at h <;> try (cases h; done)
    rename_i e hu
    simp only [Bool.and_eq_true] at h
    obtain ⟨⟨h1, h2⟩, h3⟩ := h
    have hc := Nat.eq_of_beq_eq_true h2
    have hw := Nat.le_of_ble_eq_true h3
    have hone : ∃ v, cs = [v] := by
      rcases open_slice hu hr with ⟨hcs, _⟩ | ⟨_, _, _, _, _, _, _, hcs, _⟩
      · exact ⟨_, hcs⟩
      · exact ⟨_, hcs⟩
    obtain ⟨v, rfl⟩ := hone
    obtain ⟨X, xs, c, rfl, hxc, _, hlas, hq⟩ := read_slice (α := {cs : List Value // cs.length = a.w}) (enc' := Subtype.val) (Q := fun c => ∃ x, DenT (P0 W).h a x c.1) hu hc (by omega) (fun a => a.2)
      (fun cs n z hz => by
        obtain ⟨x, hx⟩ := ih.1 h1 hz
        exact ⟨⟨cs, DenT.length hx⟩, rfl, x, hx⟩) hr
    obtain ⟨l, hl, hcat⟩ := cat_of hq
    refine ⟨l, X, c, by rw [hl], by rw [hl]; exact hxc, ?_⟩
    obtain ⟨_, X', c', e1, _, h0⟩ := hlas
    cases e1
    rcases h0 with h0 | ⟨b, o, cur, e, fr, rfl, hb, hg⟩
    · exact .inl (by rw [hl]; exact h0)
    · exact .inr ⟨b, o, _, rfl, ⟨cur, e, fr, hb, hg⟩, hcat⟩
  | unit =>
    refine ⟨fun {t fuel cs y} h hr => (by cases h), fun {fs o cs} h hl _ => ?_⟩
    refine ⟨(), ?_⟩
    show cs.drop o = []
    exact List.drop_eq_nil_of_le (by rw [hl]; simp [Ty.w])
  | pair a b iha ihb =>
    have fld : ∀ {fs : List Field} {o : Nat} {cs : List Value}, rdFs P (tyRd P a).1 a.w (tyRd P b).2 fs o = true → cs.length = o + (a.w + b.w) → (∀ f ∈ fs, ∃ n z, DataW.trod enc P W base spare held n f.type ((cs.drop f.offset).take (P.cellsOf f.type)) = some z) → ∃ x, DenT (P0 W).h (.pair a b) x (cs.drop o) := by
      intro fs o cs h hl hf
      cases fs with
      | nil => cases h
      | cons f r =>
        simp only [rdFs, Bool.and_eq_true] at h
        obtain ⟨⟨⟨h1, h2⟩, h3⟩, h4⟩ := h
        have ho := Nat.eq_of_beq_eq_true h1
        have hc := Nat.eq_of_beq_eq_true h3
        obtain ⟨n, z, hz⟩ := hf f (by simp)
        obtain ⟨x, hx⟩ := iha.1 h2 hz
        obtain ⟨y, hy⟩ := ihb.2 h4 (cs := cs) (by omega) fun g hg => hf g (by simp [hg])
        rw [ho, hc] at hx
        refine ⟨(x, y), _, _, ?_, hx, hy⟩
        rw [← List.drop_drop, List.take_append_drop]
    refine ⟨fun {t fuel cs y} h hr => ?_, fun {fs o cs} h hl hf => fld h hl hf⟩
    simp only [tyRd, rdSt] at h
    split at h <;> try (cases h; done)
    rename_i fs hu
    simp only [Bool.and_eq_true] at h
    have hc := Nat.eq_of_beq_eq_true h.2
    have hlen := read_len hu hr
    have := fld h.1 (cs := cs) (by rw [hlen, hc, Nat.zero_add]) fun f hf => by
      obtain ⟨i, hi, rfl⟩ := List.getElem_of_mem hf
      exact read_sub (i := i) hu (by simp at hi ⊢) hr
    simpa using this
  | _ => exact ⟨fun h => (by cases h), fun h => (by cases h)⟩
end
end Go.GX
