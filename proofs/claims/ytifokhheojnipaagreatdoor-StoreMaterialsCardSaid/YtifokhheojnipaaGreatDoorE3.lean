/- The functions come to their plain words. -/
import Derived.Test.YtifokhheojnipaaGreatDoorZ1
set_option linter.unusedVariables false
set_option linter.unusedSimpArgs false
set_option linter.unnecessarySimpa false
namespace Go.GX
open Go.RowKit Go.SL Go.Proofs
set_option maxRecDepth 100000
set_option linter.unusedVariables false

theorem e46 : mkF TBL [] [(54, C54)] Tryz.f46 (bodyOf Tryz.f46) ⟨[], [(2, ⟨[(4, .d .int)], [(0, .blk 100 (.d (.pair (.pair (.fz .u32) (.pair (.arr 8 .u32) .unit)) (.pair (.arr 32 .u8) (.pair (.arr 32 .u8) (.pair .int .unit))))))], [], []⟩)], [(4, [1000004]), (5, [1000004])]⟩ [.io 100 (.pair (.pair (.fz .u32) (.pair (.arr 8 .u32) .unit)) (.pair (.arr 32 .u8) (.pair (.arr 32 .u8) (.pair .int .unit)))) [], .b (.fz .u8)] [] = F46 := by kernel_rfl
end Go.GX
namespace Go.GX
open Go.RowKit Go.SL Go.Proofs
set_option maxRecDepth 100000
set_option linter.unusedVariables false

theorem e204 : mkF TBL [] [] Tryz.f204 (bodyOf Tryz.f204) ⟨[], [], []⟩ [.v .u32, .v .int] [.u32] = F204 := by kernel_rfl
theorem e170 : mkF TBL [] [(200, C200)] Tryz.f170 (bodyOf Tryz.f170) ⟨[], [(4, ⟨[(6, .d .int), (5, .d .u64)], [], [], []⟩)], []⟩ [.v .u64, .v .bool] [.u32] = F170 := by kernel_rfl
theorem e108 : mkF TBL [] [(169, C169), (170, C170)] Tryz.f108 (bodyOf Tryz.f108) ⟨[], [(5, ⟨[(3, .d .int)], [(1, (.blk 94 (.d (.arr 8 .u32))))], [], []⟩)], []⟩ [] [(.arr 8 .u32)] = F108 := by kernel_rfl
theorem e215 : mkF TBL [] [] Tryz.f215 (bodyOf Tryz.f215) ⟨[], [(4, ⟨[(6, .d .int)], [(3, (.blk 269 (.d (.arr 12 .u64))))], [], []⟩), (8, ⟨[(8, .d .int), (7, .d .u64)], [(3, (.blk 269 (.d (.arr 12 .u64))))], [], []⟩)], []⟩ [.v (.arr 8 .u64), .v (.arr 4 .u64)] [(.arr 12 .u64)] = F215 := by kernel_rfl
theorem e19 : mkF TBL [] [(46, C46), (54, C54)] Tryz.f19 (bodyOf Tryz.f19) ⟨[(8, ⟨[], [(0, (.blk 100 (.d (.pair (.pair (.fz .u32) (.pair (.arr 8 .u32) .unit)) (.pair (.arr 32 .u8) (.pair (.arr 32 .u8) (.pair .int .unit)))))))], [], []⟩)], [(9, ⟨[(8, .d (.vec 5 .u8))], [(0, (.blk 100 (.d (.pair (.pair (.fz .u32) (.pair (.arr 8 .u32) .unit)) (.pair (.arr 32 .u8) (.pair (.arr 32 .u8) (.pair .int .unit)))))))], [], [2]⟩)], []⟩ [.io 100 (.pair (.pair (.fz .u32) (.pair (.arr 8 .u32) .unit)) (.pair (.arr 32 .u8) (.pair (.arr 32 .u8) (.pair .int .unit)))) [], .v .int, .b (.fz .u8)] [(.fz .u8), .int] = F19 := by kernel_rfl
theorem e131 : mkF TBL [] [(181, C181)] Tryz.f131 (bodyOf Tryz.f131) ⟨[], [(3, ⟨[(5, .d (.vec 5 .u8))], [], [], [6]⟩), (6, ⟨[(6, .d .int), (5, .d (.vec 5 .u8))], [], [], [7]⟩), (11, ⟨[(8, .d .int)], [(8, (.blk 94 (.d (.arr 8 .u32))))], [], []⟩), (16, ⟨[(10, .d .int)], [(9, (.blk 98 (.d (.arr 32 .u8))))], [], []⟩)], []⟩ [.b (.pair (.fz .u32) (.pair (.arr 8 .u32) .unit)), .b (.fz .u8)] [(.arr 32 .u8)] = F131 := by kernel_rfl
theorem e181 : mkF TBL [] [(204, C204)] Tryz.f181 (bodyOf Tryz.f181) ⟨[(18, ⟨[(15, .d .u32)], [], [], []⟩), (19, ⟨[(16, .d .u32)], [], [], []⟩)], [(4, ⟨[(8, .d .int)], [(2, (.row 93 .u32))], [], []⟩), (13, ⟨[(12, .d .int)], [(3, (.blk 94 (.d (.arr 8 .u32))))], [], []⟩), (21, ⟨[(17, .d .int)], [(3, (.blk 94 (.d (.arr 8 .u32))))], [], []⟩)], [(9, [2]), (16, [3, 2]), (17, [3])]⟩ [.v (.arr 8 .u32), .b (.fz .u8), .b (.fz .u32)] [(.arr 8 .u32)] = F181 := by kernel_rfl
end Go.GX
namespace Go.GX
open Go.RowKit Go.SL Go.Proofs
set_option maxRecDepth 100000
set_option linter.unusedVariables false

theorem e45 : mkF TBL [] [(107, C107), (108, C108)] Tryz.f45 (bodyOf Tryz.f45) ⟨[], [], []⟩ [] [(.pair (.fz .u32) (.pair (.arr 8 .u32) .unit))] = F45 := by kernel_rfl
theorem e20 : mkF TBL [] [(46, C46)] Tryz.f20 (bodyOf Tryz.f20) ⟨[], [], []⟩ [.io 100 (.pair (.pair (.fz .u32) (.pair (.arr 8 .u32) .unit)) (.pair (.arr 32 .u8) (.pair (.arr 32 .u8) (.pair .int .unit)))) [], .b (.fz .u8)] [] = F20 := by kernel_rfl
theorem e107 : mkF TBL [] [(169, C169), (170, C170)] Tryz.f107 (bodyOf Tryz.f107) ⟨[], [(5, ⟨[(3, .d .int), (1, .d (.vec 93 .u32))], [], [], [0]⟩)], []⟩ [] [(.fz .u32)] = F107 := by kernel_rfl
theorem e17 : mkF TBL [] [(45, C45), (46, C46)] Tryz.f17 (bodyOf Tryz.f17) ⟨[], [(4, ⟨[(4, .d .int)], [(0, (.blk 100 (.pr (.d (.pair (.fz .u32) (.pair (.arr 8 .u32) .unit))) (.pr (.d (.arr 32 .u8)) (.pr (.d (.arr 32 .u8)) (.pr (.d .int) .nl))))))], [], []⟩)], []⟩ [.b (.fz .u8)] [(.box 100 (.pair (.pair (.fz .u32) (.pair (.arr 8 .u32) .unit)) (.pair (.arr 32 .u8) (.pair (.arr 32 .u8) (.pair .int .unit)))))] = F17 := by kernel_rfl
theorem e169 : mkF TBL [] [] Tryz.f169 (bodyOf Tryz.f169) ⟨[], [(4, ⟨[(4, .d .u64), (3, .d (.vec 224 .u64))], [], [], [0]⟩), (8, ⟨[(6, .d .int), (5, .d .bool)], [], [], []⟩)], []⟩ [.v .int] [(.fz .u64)] = F169 := by kernel_rfl
theorem e54 : mkF TBL [] [(131, C131)] Tryz.f54 (bodyOf Tryz.f54) ⟨[(5, ⟨[(1, .b (.fz .u8))], [], [], []⟩), (12, ⟨[(11, .d .u8)], [], [], []⟩)], [(7, ⟨[(10, .d .int), (9, .d (.vec 5 .u8)), (8, .d (.vec 5 .u8))], [], [], [3, 2]⟩)], [(13, [0]), (14, [0])]⟩ [.b (.pair (.fz .u32) (.pair (.arr 8 .u32) .unit)), .b (.fz .u8), .b (.fz .u8)] [(.arr 32 .u8)] = F54 := by kernel_rfl
theorem e3 : mkF TBL [] [(14, C14), (16, C16), (15, C15), (17, C17), (18, C18), (19, C19), (20, C20), (21, C21)] Tryz.f3 (bodyOf Tryz.f3) ⟨[(13, ⟨[], [(1, (.blk 100 (.d (.pair (.pair (.fz .u32) (.pair (.arr 8 .u32) .unit)) (.pair (.arr 32 .u8) (.pair (.arr 32 .u8) (.pair .int .unit)))))))], [], []⟩)], [], []⟩ [.v (.fz .u8), .v (.fz .u8)] [.bool] = F3 := by kernel_rfl
theorem e200 : mkF TBL [] [(215, C215)] Tryz.f200 (bodyOf Tryz.f200) ⟨[(8, ⟨[(9, .d .int)], [(1, (.blk 269 (.d (.arr 12 .u64))))], [], []⟩)], [(11, ⟨[(11, .d .int)], [], [], []⟩)], []⟩ [.v .u64, .v .u64, .v .bool] [.bool] = F200 := by kernel_rfl
end Go.GX
