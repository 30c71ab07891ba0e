/- The functions come to their plain words. -/
import Derived.Test.YtifokhheojnipaaGreatDoorZ1
set_option linter.unusedVariables false
set_option linter.unusedSimpArgs false
set_option linter.unnecessarySimpa false
namespace Go.GX
open Go.RowKit Go.SL Go.Proofs
set_option maxRecDepth 100000
set_option linter.unusedVariables false

theorem e111 : mkF TBL [] [] Tryz.f111 (bodyOf Tryz.f111) ⟨[], [], []⟩ [.v .int, .v .int, .v .int] [.bool] = F111 := by kernel_rfl
theorem e106 : mkF TBL [] [(168, C168)] Tryz.f106 (bodyOf Tryz.f106) ⟨[], [], []⟩ [.io 171 (.pair (.arr 32 .u8) (.pair (.arr 32 .u8) (.pair .int .unit))) [], .b (.fz .u8)] [] = F106 := by kernel_rfl
theorem e126 : mkF TBL [(173, Tryz.f173, ⟨[], [], []⟩)] [] Tryz.f126 (bodyOf Tryz.f126) ⟨[], [], []⟩ [.io 173 (.pair (.vec 42 (.pair .bool (.pair (.vec 46 (.pair (.arr 32 .u8) (.pair .int (.pair .bool .unit)))) .unit))) .unit) [], .v .int, .v .bool] [.int] = F126 := by kernel_rfl
theorem e127 : mkF TBL [(174, Tryz.f174, ⟨[], [], []⟩), (173, Tryz.f173, ⟨[], [], []⟩)] [] Tryz.f127 (bodyOf Tryz.f127) ⟨[], [], []⟩ [.io 173 (.pair (.vec 42 (.pair .bool (.pair (.vec 46 (.pair (.arr 32 .u8) (.pair .int (.pair .bool .unit)))) .unit))) .unit) [], .v .int, .v .int] [.int] = F127 := by kernel_rfl
theorem e52 : mkF TBL [(122, Tryz.f122, ⟨[], [], []⟩), (121, Tryz.f121, ⟨[], [], []⟩), (124, Tryz.f124, ⟨[], [], []⟩)] [(123, C123), (172, C172), (125, C125), (126, C126), (127, C127), (128, C128), (129, C129), (130, C130), (106, C106)] Tryz.f52 (bodyOf Tryz.f52) ⟨[], [], [(7, [3]), (9, [3])]⟩ [.io 91 (.pair (.box 171 (.pair (.arr 32 .u8) (.pair (.arr 32 .u8) (.pair .int .unit)))) (.pair (.box 173 (.pair (.vec 42 (.pair .bool (.pair (.vec 46 (.pair (.arr 32 .u8) (.pair .int (.pair .bool .unit)))) .unit))) .unit)) (.pair (.box 176 (.pair (.map (.pair .int (.pair .int (.pair (.pair .int (.pair .int (.pair .int (.pair (.fz .u8) .unit)))) .unit)))) (.pair .int .unit))) .unit))) [], .b (.pair .int (.pair .int (.pair .int (.pair .int (.pair .int (.pair (.fz .u8) (.pair (.fz .u8) .unit)))))))] [(.pair .int (.pair .int (.pair .int (.pair (.fz .u8) .unit)))), .int] = F52 := by kernel_rfl
theorem e217 : mkF TBL [] [(236, C236), (237, C237)] Tryz.f217 (bodyOf Tryz.f217) ⟨[(17, ⟨[(4, .d .u8)], [(2, (.blk 288 (.d (.arr 4 .u8))))], [], []⟩)], [(5, ⟨[(11, .d .int), (4, .d .u8)], [(1, (.blk 289 (.d (.arr 60 (.arr 4 .u8)))))], [], []⟩), (18, ⟨[(55, .d .int)], [(2, (.blk 288 (.d (.arr 4 .u8))))], [], []⟩), (26, ⟨[(75, .d .int)], [(2, (.blk 273 (.d (.arr 15 (.arr 16 .u8)))))], [], []⟩)], []⟩ [.b (.arr 32 .u8)] [(.arr 15 (.arr 16 .u8))] = F217 := by kernel_rfl
end Go.GX
namespace Go.GX
open Go.RowKit Go.SL Go.Proofs
set_option maxRecDepth 100000
set_option linter.unusedVariables false

theorem e190 : mkF TBL [] [(207, C207), (208, C208)] Tryz.f190 (bodyOf Tryz.f190) ⟨[], [], []⟩ [.v .u64] [.int] = F190 := by kernel_rfl
theorem e171 : mkF TBL [] [] Tryz.f171 (bodyOf Tryz.f171) ⟨[], [], []⟩ [.b (.fz .u8)] [(.vec 5 .u8)] = F171 := by kernel_rfl
theorem e176 : mkF TBL [] [(149, C149), (201, C201)] Tryz.f176 (bodyOf Tryz.f176) ⟨[], [], []⟩ [.v .int, .v .int, .v (.arr 12 .u8), .b (.fz .u8)] [(.vec 5 .u8)] = F176 := by kernel_rfl
theorem e50 : mkF TBL [] [] Tryz.f50 (bodyOf Tryz.f50) ⟨[], [], []⟩ [.io 176 (.pair (.map (.pair .int (.pair .int (.pair (.pair .int (.pair .int (.pair .int (.pair (.fz .u8) .unit)))) .unit)))) (.pair .int .unit)) [], .v .int] [.int] = F50 := by kernel_rfl
theorem e129 : mkF TBL [] [(178, C178), (179, C179), (180, C180)] Tryz.f129 (bodyOf Tryz.f129) ⟨[], [], []⟩ [.io 173 (.pair (.vec 42 (.pair .bool (.pair (.vec 46 (.pair (.arr 32 .u8) (.pair .int (.pair .bool .unit)))) .unit))) .unit) [], .b (.fz .u8), .b (.fz .u8)] [(.fz .u8), .int] = F129 := by kernel_rfl
theorem e258 : mkF TBL [] [] Tryz.f258 (bodyOf Tryz.f258) ⟨[], [(4, ⟨[(7, .d .int)], [(1, (.blk 257 (.d (.arr 16 .u8))))], [], []⟩)], []⟩ [.v .u64, .v .u64] [(.arr 16 .u8)] = F258 := by kernel_rfl
theorem e239 : mkF TBL [] [(257, C257), (258, C258)] Tryz.f239 (bodyOf Tryz.f239) ⟨[(11, ⟨[(12, .d .u64)], [], [], []⟩)], [(6, ⟨[(25, .d .int), (10, .d .u64), (9, .d .u64), (8, .d .u64), (7, .d .u64)], [], [], []⟩)], []⟩ [.v (.arr 16 .u8), .v (.arr 16 .u8)] [(.arr 16 .u8)] = F239 := by kernel_rfl
theorem e179 : mkF TBL [(174, Tryz.f174, ⟨[], [], []⟩), (173, Tryz.f173, ⟨[], [], []⟩)] [] Tryz.f179 (bodyOf Tryz.f179) ⟨[], [], []⟩ [.io 173 (.pair (.vec 42 (.pair .bool (.pair (.vec 46 (.pair (.arr 32 .u8) (.pair .int (.pair .bool .unit)))) .unit))) .unit) [], .v .int, .v .int] [(.arr 32 .u8), .int] = F179 := by kernel_rfl
theorem e18 : mkF TBL [] [(47, C47), (48, C48), (49, C49), (50, C50), (51, C51), (52, C52), (53, C53)] Tryz.f18 (bodyOf Tryz.f18) ⟨[], [], [(10, [0, 1])]⟩ [.io 91 (.pair (.box 171 (.pair (.arr 32 .u8) (.pair (.arr 32 .u8) (.pair .int .unit)))) (.pair (.box 173 (.pair (.vec 42 (.pair .bool (.pair (.vec 46 (.pair (.arr 32 .u8) (.pair .int (.pair .bool .unit)))) .unit))) .unit)) (.pair (.box 176 (.pair (.map (.pair .int (.pair .int (.pair (.pair .int (.pair .int (.pair .int (.pair (.fz .u8) .unit)))) .unit)))) (.pair .int .unit))) .unit))) [], .b (.pair .int (.pair .int (.pair .int (.pair .int (.pair .int (.pair (.fz .u8) (.pair (.fz .u8) .unit)))))))] [(.pair .int (.pair .int (.pair .int (.pair (.fz .u8) .unit))))] = F18 := by kernel_rfl
end Go.GX
namespace Go.GX
open Go.RowKit Go.SL Go.Proofs
set_option maxRecDepth 100000
set_option linter.unusedVariables false

theorem e237 : mkF TBL [] [] Tryz.f237 (bodyOf Tryz.f237) ⟨[], [], []⟩ [.v .u8] [.u8] = F237 := by kernel_rfl
theorem e269 : mkF TBL [] [] Tryz.f269 (bodyOf Tryz.f269) ⟨[], [], []⟩ [.v .u32, .v .int] [.u32] = F269 := by kernel_rfl
theorem e130 : mkF TBL [] [(129, C129), (178, C178), (128, C128)] Tryz.f130 (bodyOf Tryz.f130) ⟨[], [], []⟩ [.io 173 (.pair (.vec 42 (.pair .bool (.pair (.vec 46 (.pair (.arr 32 .u8) (.pair .int (.pair .bool .unit)))) .unit))) .unit) [], .b (.fz .u8), .b (.fz .u8)] [(.fz .u8), .int, .int] = F130 := by kernel_rfl
theorem e21 : mkF TBL [] [(55, C55)] Tryz.f21 (bodyOf Tryz.f21) ⟨[], [], []⟩ [.io 91 (.pair (.box 171 (.pair (.arr 32 .u8) (.pair (.arr 32 .u8) (.pair .int .unit)))) (.pair (.box 173 (.pair (.vec 42 (.pair .bool (.pair (.vec 46 (.pair (.arr 32 .u8) (.pair .int (.pair .bool .unit)))) .unit))) .unit)) (.pair (.box 176 (.pair (.map (.pair .int (.pair .int (.pair (.pair .int (.pair .int (.pair .int (.pair (.fz .u8) .unit)))) .unit)))) (.pair .int .unit))) .unit))) []] [(.vec 42 (.pair .bool (.pair (.vec 46 (.pair (.arr 32 .u8) (.pair .int (.pair .bool .unit)))) .unit)))] = F21 := by kernel_rfl
theorem e178 : mkF TBL [] [(158, C158)] Tryz.f178 (bodyOf Tryz.f178) ⟨[], [], []⟩ [.b (.fz .u8)] [.int, .int, (.arr 12 .u8), (.fz .u8), .int] = F178 := by kernel_rfl
theorem e55 : mkF TBL [(132, Tryz.f132, ⟨[], [(4, ⟨[(8, .d .int), (3, .d (.vec 42 (.pair .bool (.pair (.vec 46 (.pair (.arr 32 .u8) (.pair .int (.pair .bool .unit)))) .unit))))], [(1, (.row 42 (.pair .bool (.pair (.vec 46 (.pair (.arr 32 .u8) (.pair .int (.pair .bool .unit)))) .unit))))], [], [2]⟩)], [(5, [4])]⟩), (182, Tryz.f182, ⟨[], [], []⟩)] [] Tryz.f55 (bodyOf Tryz.f55) ⟨[], [], []⟩ [.io 173 (.pair (.vec 42 (.pair .bool (.pair (.vec 46 (.pair (.arr 32 .u8) (.pair .int (.pair .bool .unit)))) .unit))) .unit) []] [(.vec 42 (.pair .bool (.pair (.vec 46 (.pair (.arr 32 .u8) (.pair .int (.pair .bool .unit)))) .unit)))] = F55 := by kernel_rfl
theorem e255 : mkF TBL [] [] Tryz.f255 (bodyOf Tryz.f255) ⟨[], [], []⟩ [.v .u8] [.u8] = F255 := by kernel_rfl
theorem e180 : mkF TBL [] [(203, C203), (202, C202)] Tryz.f180 (bodyOf Tryz.f180) ⟨[], [(8, ⟨[(26, .d .int), (12, .d .u8)], [], [], []⟩)], [(4, [0, 1])]⟩ [.v (.arr 32 .u8), .v (.arr 12 .u8), .b (.fz .u8), .b (.fz .u8)] [(.fz .u8), .int] = F180 := by kernel_rfl
theorem e208 : mkF TBL [] [] Tryz.f208 (bodyOf Tryz.f208) ⟨[(5, ⟨[(2, .d .int), (0, .d .u64)], [], [], []⟩), (8, ⟨[(2, .d .int), (0, .d .u64)], [], [], []⟩)], [], []⟩ [.v .u64] [.int] = F208 := by kernel_rfl
end Go.GX
namespace Go.GX
open Go.RowKit Go.SL Go.Proofs
set_option maxRecDepth 100000
set_option linter.unusedVariables false

theorem e44 : mkF TBL [] [] Tryz.f44 (bodyOf Tryz.f44) ⟨[], [], []⟩ [] [(.box 176 (.pair (.map (.pair .int (.pair .int (.pair (.pair .int (.pair .int (.pair .int (.pair (.fz .u8) .unit)))) .unit)))) (.pair .int .unit)))] = F44 := by kernel_rfl
theorem e253 : mkF TBL [] [] Tryz.f253 (bodyOf Tryz.f253) ⟨[], [], []⟩ [] [(.arr 8 .u32)] = F253 := by kernel_rfl
theorem e236 : mkF TBL [] [(255, C255)] Tryz.f236 (bodyOf Tryz.f236) ⟨[], [], [(1, [0])]⟩ [.v (.arr 4 .u8)] [(.arr 4 .u8)] = F236 := by kernel_rfl
theorem e222 : mkF TBL [] [] Tryz.f222 (bodyOf Tryz.f222) ⟨[], [(3, ⟨[(6, .d .int)], [(0, (.blk 257 (.d (.arr 16 .u8))))], [], []⟩)], []⟩ [.v (.arr 16 .u8), .v (.arr 16 .u8)] [(.arr 16 .u8)] = F222 := by kernel_rfl
theorem e149 : mkF TBL [] [(190, C190), (171, C171)] Tryz.f149 (bodyOf Tryz.f149) ⟨[], [(7, ⟨[(8, .d .int), (7, .d (.vec 5 .u8))], [], [], [3]⟩)], []⟩ [.b (.fz .u8), .v .int] [(.vec 5 .u8), .int] = F149 := by kernel_rfl
theorem e125 : mkF TBL [(173, Tryz.f173, ⟨[], [], []⟩)] [] Tryz.f125 (bodyOf Tryz.f125) ⟨[], [], [(6, [2])]⟩ [.io 173 (.pair (.vec 42 (.pair .bool (.pair (.vec 46 (.pair (.arr 32 .u8) (.pair .int (.pair .bool .unit)))) .unit))) .unit) [], .v .int, .v (.arr 32 .u8)] [.int, .int] = F125 := by kernel_rfl
theorem e201 : mkF TBL [(216, Tryz.f216, ⟨[(4, ⟨[], [], [], []⟩)], [], []⟩)] [] Tryz.f201 (bodyOf Tryz.f201) ⟨[], [(4, ⟨[(11, .d .int), (3, .d .int)], [], [], []⟩), (12, ⟨[(27, .d .int), (6, .d (.vec 5 .u8))], [], [], [2, 0]⟩)], []⟩ [.b (.fz (.fz .u8))] [(.vec 5 .u8)] = F201 := by kernel_rfl
theorem e203 : mkF TBL [] [(217, C217), (171, C171), (221, C221), (220, C220), (223, C223), (218, C218), (222, C222)] Tryz.f203 (bodyOf Tryz.f203) ⟨[], [(6, ⟨[(29, .d .int), (10, .d (.vec 5 .u8))], [], [], [9]⟩), (9, ⟨[(33, .d .int), (10, .d (.vec 5 .u8))], [], [], [10]⟩)], [(13, [1])]⟩ [.v (.arr 32 .u8), .v (.arr 12 .u8), .b (.fz .u8), .b (.fz .u8)] [(.arr 16 .u8)] = F203 := by kernel_rfl
theorem e235 : mkF TBL [] [(171, C171), (253, C253), (254, C254)] Tryz.f235 (bodyOf Tryz.f235) ⟨[], [(5, ⟨[(19, .d .int), (3, .d (.vec 5 .u8))], [], [], [5]⟩), (10, ⟨[(3, .d (.fz .u8))], [(6, (.blk 94 (.d (.arr 8 .u32))))], [7], []⟩), (15, ⟨[(45, .d .int)], [(7, (.blk 98 (.d (.arr 32 .u8))))], [], []⟩)], [(11, [6])]⟩ [.b (.fz .u8)] [(.arr 32 .u8)] = F235 := by kernel_rfl
theorem e207 : mkF TBL [] [] Tryz.f207 (bodyOf Tryz.f207) ⟨[(5, ⟨[(2, .d .int), (0, .d .u32)], [], [], []⟩)], [], []⟩ [.v .u32] [.int] = F207 := by kernel_rfl
end Go.GX
