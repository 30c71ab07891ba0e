/- parts of the proof -/
import Derived.Test.YtifokhheojnipaaGreatDoorZ1
set_option linter.unusedVariables false
set_option linter.unusedSimpArgs false
namespace Go.GX
open Go.RowKit Go.SL Go.Proofs
set_option maxRecDepth 100000
set_option linter.unusedVariables false

theorem e111 : mkF TBL [] [] Tryz.f111 (bodyOf Tryz.f111) ⟨[], [], []⟩ [.v .int, .v .int, .v .int] [.bool] = F111 := by kernel_rfl
theorem e15 : mkF TBL [] [(42, C42), (43, C43), (44, C44)] Tryz.f15 (bodyOf Tryz.f15) ⟨[], [], []⟩ [.b (.fz .u8)] [(.box 91 (.pair (.box 171 (.pair (.arr 32 .u8) (.pair (.arr 32 .u8) (.pair .int .unit)))) (.pair (.box 173 (.pair (.vec 42 (.pair .bool (.pair (.vec 46 (.pair (.arr 32 .u8) (.pair .int (.pair .bool .unit)))) .unit))) .unit)) (.pair (.box 176 (.pair (.map (.pair .int (.pair .int (.pair (.pair .int (.pair .int (.pair .int (.pair (.fz .u8) .unit)))) .unit)))) (.pair .int .unit))) .unit))))] = F15 := by kernel_rfl
theorem e48 : mkF TBL [] [] Tryz.f48 (bodyOf Tryz.f48) ⟨[], [], []⟩ [.v (.pair .int (.pair .int (.pair .int (.pair (.fz .u8) .unit)))), .v .int] [(.pair .int (.pair .int (.pair .int (.pair (.fz .u8) .unit))))] = F48 := by kernel_rfl
theorem e49 : mkF TBL [] [] Tryz.f49 (bodyOf Tryz.f49) ⟨[], [], []⟩ [.io 176 (.pair (.map (.pair .int (.pair .int (.pair (.pair .int (.pair .int (.pair .int (.pair (.fz .u8) .unit)))) .unit)))) (.pair .int .unit)) []] [.int, .int] = F49 := by kernel_rfl
theorem e25 : mkF TBL [] [] Tryz.f25 (bodyOf Tryz.f25) ⟨[], [(5, ⟨[(5, .d .int)], [], [], []⟩)], []⟩ [.b (.fz (.pair .int (.pair .int .unit))), .b (.fz (.pair .int (.pair .int .unit)))] [.bool] = F25 := by kernel_rfl
theorem e29 : mkF TBL [] [(15, C15), (18, C18)] Tryz.f29 (bodyOf Tryz.f29) ⟨[], [(5, ⟨[(13, .d .int), (6, .d (.vec 31 (.pair .int (.pair .int (.pair .int (.pair (.fz .u8) .unit))))))], [(0, (.blk 91 (.d (.pair (.box 171 (.pair (.arr 32 .u8) (.pair (.arr 32 .u8) (.pair .int .unit)))) (.pair (.box 173 (.pair (.vec 42 (.pair .bool (.pair (.vec 46 (.pair (.arr 32 .u8) (.pair .int (.pair .bool .unit)))) .unit))) .unit)) (.pair (.box 176 (.pair (.map (.pair .int (.pair .int (.pair (.pair .int (.pair .int (.pair .int (.pair (.fz .u8) .unit)))) .unit)))) (.pair .int .unit))) .unit))))))], [], [1]⟩)], []⟩ [.b (.fz .u8), .b (.fz (.pair .int (.pair (.pair .int (.pair .int (.pair .int (.pair .int (.pair .int (.pair (.fz .u8) (.pair (.fz .u8) .unit))))))) (.pair (.pair .int (.pair .int (.pair .int (.pair (.fz .u8) .unit)))) .unit))))] [(.fz (.pair .int (.pair .int (.pair .int (.pair (.fz .u8) .unit)))))] = F29 := by kernel_rfl
theorem e168 : mkF TBL [(199, Tryz.f199, ⟨[], [], []⟩)] [(201, C201), (214, C214)] Tryz.f168 (bodyOf Tryz.f168) ⟨[], [], []⟩ [.io 171 (.pair (.arr 32 .u8) (.pair (.arr 32 .u8) (.pair .int .unit))) [], .b (.fz .u8)] [] = F168 := by kernel_rfl
theorem e214 : mkF TBL [] [(235, C235), (201, C201)] Tryz.f214 (bodyOf Tryz.f214) ⟨[(5, ⟨[(0, .b (.fz .u8))], [], [], []⟩)], [(9, ⟨[(20, .d .int)], [(2, (.blk 286 (.d (.arr 64 .u8)))), (1, (.blk 286 (.d (.arr 64 .u8))))], [], []⟩)], []⟩ [.b (.fz .u8), .b (.fz .u8)] [(.arr 32 .u8)] = F214 := by kernel_rfl
end Go.GX
namespace Go.GX
open Go.RowKit Go.SL Go.Proofs
set_option maxRecDepth 100000
set_option linter.unusedVariables false

theorem e27 : mkF TBL [] [] Tryz.f27 (bodyOf Tryz.f27) ⟨[], [], []⟩ [.v (.fz .u8)] [(.fz .u8)] = F27 := by kernel_rfl
theorem e171 : mkF TBL [] [] Tryz.f171 (bodyOf Tryz.f171) ⟨[], [], []⟩ [.b (.fz .u8)] [(.vec 5 .u8)] = F171 := by kernel_rfl
theorem e269 : mkF TBL [] [] Tryz.f269 (bodyOf Tryz.f269) ⟨[], [], []⟩ [.v .u32, .v .int] [.u32] = F269 := by kernel_rfl
theorem e22 : mkF TBL [] [(56, C56), (26, C26)] Tryz.f22 (bodyOf Tryz.f22) ⟨[], [], []⟩ [] [.bool] = F22 := by kernel_rfl
theorem e56 : mkF TBL [] [] Tryz.f56 (bodyOf Tryz.f56) ⟨[], [], [(2, [0])]⟩ [.v .int, .v .int] [(.fz (.pair .int (.pair (.pair .int (.pair .int (.pair .int (.pair .int (.pair .int (.pair (.fz .u8) (.pair (.fz .u8) .unit))))))) (.pair (.pair .int (.pair .int (.pair .int (.pair (.fz .u8) .unit)))) .unit)))), (.fz (.pair .int (.pair .int (.pair .int (.pair .int (.pair .int (.pair (.pair .int (.pair .int (.pair .int (.pair .int (.pair .int (.pair (.fz .u8) (.pair (.fz .u8) .unit))))))) (.pair .bool (.pair (.pair .int (.pair .int (.pair .int (.pair (.fz .u8) .unit)))) .unit)))))))))] = F56 := by kernel_rfl
theorem e7 : mkF TBL [] [(22, C22), (27, C27), (26, C26)] Tryz.f7 (bodyOf Tryz.f7) ⟨[], [(5, ⟨[(7, .d .int), (6, .d (.vec 66 (.pair .int (.pair .int (.pair .int (.pair .int (.pair .int (.pair (.pair .int (.pair .int (.pair .int (.pair .int (.pair .int (.pair (.fz .u8) (.pair (.fz .u8) .unit))))))) (.pair .bool (.pair (.pair .int (.pair .int (.pair .int (.pair (.fz .u8) .unit)))) .unit))))))))))], [], [], [1]⟩)], []⟩ [.v (.fz .u8), .v (.fz (.pair .int (.pair .int (.pair .int (.pair .int (.pair .int (.pair (.pair .int (.pair .int (.pair .int (.pair .int (.pair .int (.pair (.fz .u8) (.pair (.fz .u8) .unit))))))) (.pair .bool (.pair (.pair .int (.pair .int (.pair .int (.pair (.fz .u8) .unit)))) .unit)))))))))] [.bool] = F7 := by kernel_rfl
theorem e201 : mkF TBL [(216, Tryz.f216, ⟨[(4, ⟨[], [], [], []⟩)], [], []⟩)] [] Tryz.f201 (bodyOf Tryz.f201) ⟨[], [(4, ⟨[(11, .d .int), (3, .d .int)], [], [], []⟩), (12, ⟨[(27, .d .int), (6, .d (.vec 5 .u8))], [], [], [2, 0]⟩)], []⟩ [.b (.fz (.fz .u8))] [(.vec 5 .u8)] = F201 := by kernel_rfl
theorem e18 : mkF TBL [] [(47, C47), (48, C48), (49, C49), (50, C50)] Tryz.f18 (bodyOf Tryz.f18) ⟨[], [], [(10, [0, 1])]⟩ [.io 91 (.pair (.box 171 (.pair (.arr 32 .u8) (.pair (.arr 32 .u8) (.pair .int .unit)))) (.pair (.box 173 (.pair (.vec 42 (.pair .bool (.pair (.vec 46 (.pair (.arr 32 .u8) (.pair .int (.pair .bool .unit)))) .unit))) .unit)) (.pair (.box 176 (.pair (.map (.pair .int (.pair .int (.pair (.pair .int (.pair .int (.pair .int (.pair (.fz .u8) .unit)))) .unit)))) (.pair .int .unit))) .unit))) [], .b (.pair .int (.pair .int (.pair .int (.pair .int (.pair .int (.pair (.fz .u8) (.pair (.fz .u8) .unit)))))))] [(.pair .int (.pair .int (.pair .int (.pair (.fz .u8) .unit))))] = F18 := by kernel_rfl
end Go.GX
