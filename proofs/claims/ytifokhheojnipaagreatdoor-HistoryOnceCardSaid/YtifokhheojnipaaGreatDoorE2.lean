/- parts of the proof -/
import Derived.Test.YtifokhheojnipaaGreatDoorZ1
set_option linter.unusedVariables false
set_option linter.unusedSimpArgs false
namespace Go.GX
open Go.RowKit Go.SL Go.Proofs
set_option maxRecDepth 100000
set_option linter.unusedVariables false

theorem e267 : mkF TBL [] [(269, C269)] Tryz.f267 (bodyOf Tryz.f267) ⟨[], [], []⟩ [.v .u32, .v .int] [.u32] = F267 := by kernel_rfl
theorem e106 : mkF TBL [] [(168, C168)] Tryz.f106 (bodyOf Tryz.f106) ⟨[], [], []⟩ [.io 171 (.pair (.arr 32 .u8) (.pair (.arr 32 .u8) (.pair .int .unit))) [], .b (.fz .u8)] [] = F106 := by kernel_rfl
theorem e253 : mkF TBL [] [] Tryz.f253 (bodyOf Tryz.f253) ⟨[], [], []⟩ [] [(.arr 8 .u32)] = F253 := by kernel_rfl
theorem e50 : mkF TBL [] [] Tryz.f50 (bodyOf Tryz.f50) ⟨[], [], []⟩ [.io 176 (.pair (.map (.pair .int (.pair .int (.pair (.pair .int (.pair .int (.pair .int (.pair (.fz .u8) .unit)))) .unit)))) (.pair .int .unit)) [], .v .int] [.int] = F50 := by kernel_rfl
theorem e42 : mkF TBL [] [(106, C106)] Tryz.f42 (bodyOf Tryz.f42) ⟨[], [(4, ⟨[(7, .d .int)], [(0, (.blk 171 (.pr (.d (.arr 32 .u8)) (.pr (.d (.arr 32 .u8)) (.pr (.d .int) .nl)))))], [], []⟩)], []⟩ [.b (.fz .u8)] [(.box 171 (.pair (.arr 32 .u8) (.pair (.arr 32 .u8) (.pair .int .unit))))] = F42 := by kernel_rfl
theorem e6 : mkF TBL [] [(22, C22), (26, C26)] Tryz.f6 (bodyOf Tryz.f6) ⟨[(5, ⟨[(0, .d .int)], [], [], []⟩), (7, ⟨[(1, .d .int)], [], [], []⟩)], [(14, ⟨[(12, .d .int), (9, .d (.vec 66 (.pair .int (.pair .int (.pair .int (.pair .int (.pair .int (.pair (.pair .int (.pair .int (.pair .int (.pair .int (.pair .int (.pair (.fz .u8) (.pair (.fz .u8) .unit))))))) (.pair .bool (.pair (.pair .int (.pair .int (.pair .int (.pair (.fz .u8) .unit)))) .unit)))))))))), (8, .d (.vec 64 (.pair .int (.pair (.pair .int (.pair .int (.pair .int (.pair .int (.pair .int (.pair (.fz .u8) (.pair (.fz .u8) .unit))))))) (.pair (.pair .int (.pair .int (.pair .int (.pair (.fz .u8) .unit)))) .unit)))))], [], [], [5, 4]⟩)], []⟩ [.v .int, .v .int] [.bool] = F6 := by kernel_rfl
end Go.GX
namespace Go.GX
open Go.RowKit Go.SL Go.Proofs
set_option maxRecDepth 100000
set_option linter.unusedVariables false

theorem e99 : mkF TBL [] [] Tryz.f99 (bodyOf Tryz.f99) ⟨[], [], []⟩ [.b (.fz .u8), .b (.fz .u8)] [.bool] = F99 := by kernel_rfl
theorem e43 : mkF TBL [] [] Tryz.f43 (bodyOf Tryz.f43) ⟨[], [], []⟩ [] [(.box 173 (.pair (.vec 42 (.pair .bool (.pair (.vec 46 (.pair (.arr 32 .u8) (.pair .int (.pair .bool .unit)))) .unit))) .unit))] = F43 := by kernel_rfl
theorem e44 : mkF TBL [] [] Tryz.f44 (bodyOf Tryz.f44) ⟨[], [], []⟩ [] [(.box 176 (.pair (.map (.pair .int (.pair .int (.pair (.pair .int (.pair .int (.pair .int (.pair (.fz .u8) .unit)))) .unit)))) (.pair .int .unit)))] = F44 := by kernel_rfl
theorem e60 : mkF TBL [] [(99, C99)] Tryz.f60 (bodyOf Tryz.f60) ⟨[], [], []⟩ [.b (.pair .int (.pair .int (.pair .int (.pair (.fz .u8) .unit)))), .b (.pair .int (.pair .int (.pair .int (.pair (.fz .u8) .unit))))] [.bool] = F60 := by kernel_rfl
theorem e64 : mkF TBL [] [(99, C99)] Tryz.f64 (bodyOf Tryz.f64) ⟨[], [], []⟩ [.b (.pair .int (.pair .int (.pair .int (.pair .int (.pair .int (.pair (.fz .u8) (.pair (.fz .u8) .unit))))))), .b (.pair .int (.pair .int (.pair .int (.pair .int (.pair .int (.pair (.fz .u8) (.pair (.fz .u8) .unit)))))))] [.bool] = F64 := by kernel_rfl
theorem e235 : mkF TBL [] [(171, C171), (253, C253), (254, C254)] Tryz.f235 (bodyOf Tryz.f235) ⟨[], [(5, ⟨[(19, .d .int), (3, .d (.vec 5 .u8))], [], [], [5]⟩), (10, ⟨[(3, .d (.fz .u8))], [(6, (.blk 94 (.d (.arr 8 .u32))))], [7], []⟩), (15, ⟨[(45, .d .int)], [(7, (.blk 98 (.d (.arr 32 .u8))))], [], []⟩)], [(11, [6])]⟩ [.b (.fz .u8)] [(.arr 32 .u8)] = F235 := by kernel_rfl
end Go.GX
