/- The functions come to their plain words. -/
import Derived.Test.YtifokhheojnipaaDoorZ1
set_option linter.unusedVariables false
set_option linter.unusedSimpArgs false
set_option linter.unnecessarySimpa false
namespace Go.GX
open Go.RowKit Go.SL Go.Proofs
set_option maxRecDepth 100000
set_option linter.unusedVariables false

theorem e86 : mkF TBL [] [(87, C87)] Tryd.f86 (bodyOf Tryd.f86) ⟨[], [], []⟩ [.v .u32, .v .int] [.u32] = F86 := by kernel_rfl
theorem e20 : mkF TBL [] [(44, C44)] Tryd.f20 (bodyOf Tryd.f20) ⟨[], [], []⟩ [.io 57 (.pair (.arr 32 .u8) (.pair (.arr 32 .u8) (.pair .int .unit))) [], .b (.fz .u8)] [] = F20 := by kernel_rfl
theorem e15 : mkF TBL [] [] Tryd.f15 (bodyOf Tryd.f15) ⟨[], [], []⟩ [.io 63 (.pair (.map (.pair .int (.pair .int (.pair (.pair .int (.pair .int (.pair .int (.pair (.fz .u8) .unit)))) .unit)))) (.pair .int .unit)) [], .v .int] [.int] = F15 := by kernel_rfl
theorem e9 : mkF TBL [] [(20, C20)] Tryd.f9 (bodyOf Tryd.f9) ⟨[], [(4, ⟨[(7, .d .int)], [(0, (.blk 57 (.pr (.d (.arr 32 .u8)) (.pr (.d (.arr 32 .u8)) (.pr (.d .int) .nl)))))], [], []⟩)], []⟩ [.b (.fz .u8)] [(.box 57 (.pair (.arr 32 .u8) (.pair (.arr 32 .u8) (.pair .int .unit))))] = F9 := by kernel_rfl
theorem e35 : mkF TBL [] [] Tryd.f35 (bodyOf Tryd.f35) ⟨[], [], [(3, [0])]⟩ [.io 60 (.pair (.vec 89 (.pair .bool (.pair (.vec 86 (.pair (.arr 32 .u8) (.pair .int (.pair .bool .unit)))) .unit))) .unit) [], .v (.arr 32 .u8)] [.int, .int] = F35 := by kernel_rfl
theorem e57 : mkF TBL [] [(63, C63), (45, C45)] Tryd.f57 (bodyOf Tryd.f57) ⟨[], [(7, ⟨[(8, .d .int), (7, .d (.vec 5 .u8))], [], [], [3]⟩)], []⟩ [.b (.fz .u8), .v .int] [(.vec 5 .u8), .int] = F57 := by kernel_rfl
theorem e37 : mkF TBL [(47, Tryd.f47, ⟨[], [], []⟩)] [] Tryd.f37 (bodyOf Tryd.f37) ⟨[], [], [(6, [2])]⟩ [.io 60 (.pair (.vec 89 (.pair .bool (.pair (.vec 86 (.pair (.arr 32 .u8) (.pair .int (.pair .bool .unit)))) .unit))) .unit) [], .v .int, .v (.arr 32 .u8)] [.int, .int] = F37 := by kernel_rfl
theorem e82 : mkF TBL [] [] Tryd.f82 (bodyOf Tryd.f82) ⟨[], [], []⟩ [.v .u8] [.u8] = F82 := by kernel_rfl
theorem e60 : mkF TBL [] [(65, C65), (45, C45), (69, C69), (68, C68), (71, C71), (66, C66), (70, C70)] Tryd.f60 (bodyOf Tryd.f60) ⟨[], [(6, ⟨[(29, .d .int), (10, .d (.vec 5 .u8))], [], [], [9]⟩), (9, ⟨[(33, .d .int), (10, .d (.vec 5 .u8))], [], [], [10]⟩)], [(13, [1])]⟩ [.v (.arr 32 .u8), .v (.arr 12 .u8), .b (.fz .u8), .b (.fz .u8)] [(.arr 16 .u8)] = F60 := by kernel_rfl
theorem e7 : mkF TBL [] [(12, C12), (13, C13), (14, C14), (15, C15), (16, C16), (17, C17), (18, C18)] Tryd.f7 (bodyOf Tryd.f7) ⟨[], [], [(10, [0, 1])]⟩ [.io 43 (.pair (.box 57 (.pair (.arr 32 .u8) (.pair (.arr 32 .u8) (.pair .int .unit)))) (.pair (.box 60 (.pair (.vec 89 (.pair .bool (.pair (.vec 86 (.pair (.arr 32 .u8) (.pair .int (.pair .bool .unit)))) .unit))) .unit)) (.pair (.box 63 (.pair (.map (.pair .int (.pair .int (.pair (.pair .int (.pair .int (.pair .int (.pair (.fz .u8) .unit)))) .unit)))) (.pair .int .unit))) .unit))) [], .b (.pair .int (.pair .int (.pair .int (.pair .int (.pair .int (.pair (.fz .u8) (.pair (.fz .u8) .unit)))))))] [(.pair .int (.pair .int (.pair .int (.pair (.fz .u8) .unit))))] = F7 := by kernel_rfl
theorem e65 : mkF TBL [] [(76, C76), (77, C77)] Tryd.f65 (bodyOf Tryd.f65) ⟨[(17, ⟨[(4, .d .u8)], [(2, (.blk 135 (.d (.arr 4 .u8))))], [], []⟩)], [(5, ⟨[(11, .d .int), (4, .d .u8)], [(1, (.blk 136 (.d (.arr 60 (.arr 4 .u8)))))], [], []⟩), (18, ⟨[(55, .d .int)], [(2, (.blk 135 (.d (.arr 4 .u8))))], [], []⟩), (26, ⟨[(75, .d .int)], [(2, (.blk 121 (.d (.arr 15 (.arr 16 .u8)))))], [], []⟩)], []⟩ [.b (.arr 32 .u8)] [(.arr 15 (.arr 16 .u8))] = F65 := by kernel_rfl
end Go.GX
namespace Go.GX
open Go.RowKit Go.SL Go.Proofs
set_option maxRecDepth 100000
set_option linter.unusedVariables false

theorem e63 : mkF TBL [] [(74, C74), (75, C75)] Tryd.f63 (bodyOf Tryd.f63) ⟨[], [], []⟩ [.v .u64] [.int] = F63 := by kernel_rfl
theorem e45 : mkF TBL [] [] Tryd.f45 (bodyOf Tryd.f45) ⟨[], [], []⟩ [.b (.fz .u8)] [(.vec 5 .u8)] = F45 := by kernel_rfl
theorem e5 : mkF TBL [] [(9, C9), (10, C10), (11, C11)] Tryd.f5 (bodyOf Tryd.f5) ⟨[], [], []⟩ [.b (.fz .u8)] [(.box 43 (.pair (.box 57 (.pair (.arr 32 .u8) (.pair (.arr 32 .u8) (.pair .int .unit)))) (.pair (.box 60 (.pair (.vec 89 (.pair .bool (.pair (.vec 86 (.pair (.arr 32 .u8) (.pair .int (.pair .bool .unit)))) .unit))) .unit)) (.pair (.box 63 (.pair (.map (.pair .int (.pair .int (.pair (.pair .int (.pair .int (.pair .int (.pair (.fz .u8) .unit)))) .unit)))) (.pair .int .unit))) .unit))))] = F5 := by kernel_rfl
theorem e76 : mkF TBL [] [(82, C82)] Tryd.f76 (bodyOf Tryd.f76) ⟨[], [], [(1, [0])]⟩ [.v (.arr 4 .u8)] [(.arr 4 .u8)] = F76 := by kernel_rfl
theorem e70 : mkF TBL [] [] Tryd.f70 (bodyOf Tryd.f70) ⟨[], [(3, ⟨[(6, .d .int)], [(0, (.blk 112 (.d (.arr 16 .u8))))], [], []⟩)], []⟩ [.v (.arr 16 .u8), .v (.arr 16 .u8)] [(.arr 16 .u8)] = F70 := by kernel_rfl
theorem e52 : mkF TBL [] [(61, C61)] Tryd.f52 (bodyOf Tryd.f52) ⟨[], [], []⟩ [.b (.fz .u8)] [.int, .int, (.arr 12 .u8), (.fz .u8), .int] = F52 := by kernel_rfl
theorem e19 : mkF TBL [(43, Tryd.f43, ⟨[], [(4, ⟨[(8, .d .int), (3, .d (.vec 89 (.pair .bool (.pair (.vec 86 (.pair (.arr 32 .u8) (.pair .int (.pair .bool .unit)))) .unit))))], [(1, (.row 89 (.pair .bool (.pair (.vec 86 (.pair (.arr 32 .u8) (.pair .int (.pair .bool .unit)))) .unit))))], [], [2]⟩)], [(5, [4])]⟩), (55, Tryd.f55, ⟨[], [], []⟩)] [] Tryd.f19 (bodyOf Tryd.f19) ⟨[], [], []⟩ [.io 60 (.pair (.vec 89 (.pair .bool (.pair (.vec 86 (.pair (.arr 32 .u8) (.pair .int (.pair .bool .unit)))) .unit))) .unit) []] [(.vec 89 (.pair .bool (.pair (.vec 86 (.pair (.arr 32 .u8) (.pair .int (.pair .bool .unit)))) .unit)))] = F19 := by kernel_rfl
theorem e4 : mkF TBL [] [(5, C5), (7, C7)] Tryd.f4 (bodyOf Tryd.f4) ⟨[], [], []⟩ [] [.bool] = F4 := by kernel_rfl
theorem e53 : mkF TBL [(48, Tryd.f48, ⟨[], [], []⟩), (47, Tryd.f47, ⟨[], [], []⟩)] [] Tryd.f53 (bodyOf Tryd.f53) ⟨[], [], []⟩ [.io 60 (.pair (.vec 89 (.pair .bool (.pair (.vec 86 (.pair (.arr 32 .u8) (.pair .int (.pair .bool .unit)))) .unit))) .unit) [], .v .int, .v .int] [(.arr 32 .u8), .int] = F53 := by kernel_rfl
theorem e67 : mkF TBL [] [] Tryd.f67 (bodyOf Tryd.f67) ⟨[], [], []⟩ [.v (.arr 16 .u8)] [(.arr 16 .u8)] = F67 := by kernel_rfl
theorem e54 : mkF TBL [] [(60, C60), (59, C59)] Tryd.f54 (bodyOf Tryd.f54) ⟨[], [(8, ⟨[(26, .d .int), (12, .d .u8)], [], [], []⟩)], [(4, [0, 1])]⟩ [.v (.arr 32 .u8), .v (.arr 12 .u8), .b (.fz .u8), .b (.fz .u8)] [(.fz .u8), .int] = F54 := by kernel_rfl
theorem e75 : mkF TBL [] [] Tryd.f75 (bodyOf Tryd.f75) ⟨[(5, ⟨[(2, .d .int), (0, .d .u64)], [], [], []⟩), (8, ⟨[(2, .d .int), (0, .d .u64)], [], [], []⟩)], [], []⟩ [.v .u64] [.int] = F75 := by kernel_rfl
end Go.GX
namespace Go.GX
open Go.RowKit Go.SL Go.Proofs
set_option maxRecDepth 100000
set_option linter.unusedVariables false

theorem e10 : mkF TBL [] [] Tryd.f10 (bodyOf Tryd.f10) ⟨[], [], []⟩ [] [(.box 60 (.pair (.vec 89 (.pair .bool (.pair (.vec 86 (.pair (.arr 32 .u8) (.pair .int (.pair .bool .unit)))) .unit))) .unit))] = F10 := by kernel_rfl
theorem e13 : mkF TBL [] [] Tryd.f13 (bodyOf Tryd.f13) ⟨[], [], []⟩ [.v (.pair .int (.pair .int (.pair .int (.pair (.fz .u8) .unit)))), .v .int] [(.pair .int (.pair .int (.pair .int (.pair (.fz .u8) .unit))))] = F13 := by kernel_rfl
theorem e80 : mkF TBL [] [] Tryd.f80 (bodyOf Tryd.f80) ⟨[], [], []⟩ [] [(.arr 8 .u32)] = F80 := by kernel_rfl
theorem e14 : mkF TBL [] [] Tryd.f14 (bodyOf Tryd.f14) ⟨[], [], []⟩ [.io 63 (.pair (.map (.pair .int (.pair .int (.pair (.pair .int (.pair .int (.pair .int (.pair (.fz .u8) .unit)))) .unit)))) (.pair .int .unit)) []] [.int, .int] = F14 := by kernel_rfl
theorem e41 : mkF TBL [] [(52, C52), (53, C53), (54, C54)] Tryd.f41 (bodyOf Tryd.f41) ⟨[], [], []⟩ [.io 60 (.pair (.vec 89 (.pair .bool (.pair (.vec 86 (.pair (.arr 32 .u8) (.pair .int (.pair .bool .unit)))) .unit))) .unit) [], .b (.fz .u8), .b (.fz .u8)] [(.fz .u8), .int] = F41 := by kernel_rfl
theorem e85 : mkF TBL [] [] Tryd.f85 (bodyOf Tryd.f85) ⟨[], [(4, ⟨[(7, .d .int)], [(1, (.blk 112 (.d (.arr 16 .u8))))], [], []⟩)], []⟩ [.v .u64, .v .u64] [(.arr 16 .u8)] = F85 := by kernel_rfl
theorem e79 : mkF TBL [] [(84, C84), (85, C85)] Tryd.f79 (bodyOf Tryd.f79) ⟨[(11, ⟨[(12, .d .u64)], [], [], []⟩)], [(6, ⟨[(25, .d .int), (10, .d .u64), (9, .d .u64), (8, .d .u64), (7, .d .u64)], [], [], []⟩)], []⟩ [.v (.arr 16 .u8), .v (.arr 16 .u8)] [(.arr 16 .u8)] = F79 := by kernel_rfl
theorem e44 : mkF TBL [(56, Tryd.f56, ⟨[], [], []⟩)] [(58, C58), (62, C62)] Tryd.f44 (bodyOf Tryd.f44) ⟨[], [], []⟩ [.io 57 (.pair (.arr 32 .u8) (.pair (.arr 32 .u8) (.pair .int .unit))) [], .b (.fz .u8)] [] = F44 := by kernel_rfl
theorem e46 : mkF TBL [(56, Tryd.f56, ⟨[], [], []⟩)] [(44, C44), (58, C58), (62, C62)] Tryd.f46 (bodyOf Tryd.f46) ⟨[(4, ⟨[(9, .d .bool)], [], [], []⟩), (9, ⟨[], [(0, (.blk 57 (.d (.pair (.arr 32 .u8) (.pair (.arr 32 .u8) (.pair .int .unit))))))], [], []⟩)], [(10, ⟨[(8, .d (.vec 5 .u8))], [(0, (.blk 57 (.d (.pair (.arr 32 .u8) (.pair (.arr 32 .u8) (.pair .int .unit))))))], [], [1]⟩)], []⟩ [.io 57 (.pair (.arr 32 .u8) (.pair (.arr 32 .u8) (.pair .int .unit))) [], .v .int, .b (.fz .u8)] [(.fz .u8), .int] = F46 := by kernel_rfl
theorem e78 : mkF TBL [] [(82, C82), (83, C83)] Tryd.f78 (bodyOf Tryd.f78) ⟨[(14, ⟨[], [(4, (.blk 135 (.d (.arr 4 .u8))))], [], []⟩)], [(4, ⟨[(12, .d .int)], [(3, (.blk 112 (.d (.arr 16 .u8))))], [], []⟩), (8, ⟨[(15, .d .int)], [(4, (.blk 135 (.d (.arr 4 .u8))))], [], []⟩), (15, ⟨[(35, .d .int)], [(3, (.blk 112 (.d (.arr 16 .u8))))], [], []⟩)], []⟩ [.v (.arr 16 .u8), .v (.arr 16 .u8), .v .bool] [(.arr 16 .u8)] = F78 := by kernel_rfl
theorem e73 : mkF TBL [] [(45, C45), (80, C80), (81, C81)] Tryd.f73 (bodyOf Tryd.f73) ⟨[], [(5, ⟨[(19, .d .int), (3, .d (.vec 5 .u8))], [], [], [5]⟩), (10, ⟨[(3, .d (.fz .u8))], [(6, (.blk 141 (.d (.arr 8 .u32))))], [7], []⟩), (15, ⟨[(45, .d .int)], [(7, (.blk 55 (.d (.arr 32 .u8))))], [], []⟩)], [(11, [6])]⟩ [.b (.fz .u8)] [(.arr 32 .u8)] = F73 := by kernel_rfl
theorem e74 : mkF TBL [] [] Tryd.f74 (bodyOf Tryd.f74) ⟨[(5, ⟨[(2, .d .int), (0, .d .u32)], [], [], []⟩)], [], []⟩ [.v .u32] [.int] = F74 := by kernel_rfl
end Go.GX
