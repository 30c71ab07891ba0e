/- The functions come to their plain words. -/
import Derived.Test.YtifokhheojnipaaDoorZ1
set_option linter.unusedVariables false
set_option linter.unusedSimpArgs false
set_option linter.unnecessarySimpa false
namespace Go.GX
open Go.RowKit Go.SL Go.Proofs
set_option maxRecDepth 100000
set_option linter.unusedVariables false

theorem e77 : mkF TBL [] [] Tryd.f77 (bodyOf Tryd.f77) ⟨[], [], []⟩ [.v .u8] [.u8] = F77 := by kernel_rfl
theorem e87 : mkF TBL [] [] Tryd.f87 (bodyOf Tryd.f87) ⟨[], [], []⟩ [.v .u32, .v .int] [.u32] = F87 := by kernel_rfl
theorem e50 : mkF TBL [] [(57, C57), (58, C58)] Tryd.f50 (bodyOf Tryd.f50) ⟨[], [], []⟩ [.v .int, .v .int, .v (.arr 12 .u8), .b (.fz .u8)] [(.vec 5 .u8)] = F50 := by kernel_rfl
theorem e84 : mkF TBL [] [] Tryd.f84 (bodyOf Tryd.f84) ⟨[], [(3, ⟨[(5, .d .int), (3, .d .u64), (2, .d .u64)], [], [], []⟩)], []⟩ [.v (.arr 16 .u8)] [.u64, .u64] = F84 := by kernel_rfl
theorem e8 : mkF TBL [] [(19, C19)] Tryd.f8 (bodyOf Tryd.f8) ⟨[], [], []⟩ [.io 43 (.pair (.box 57 (.pair (.arr 32 .u8) (.pair (.arr 32 .u8) (.pair .int .unit)))) (.pair (.box 60 (.pair (.vec 89 (.pair .bool (.pair (.vec 86 (.pair (.arr 32 .u8) (.pair .int (.pair .bool .unit)))) .unit))) .unit)) (.pair (.box 63 (.pair (.map (.pair .int (.pair .int (.pair (.pair .int (.pair .int (.pair .int (.pair (.fz .u8) .unit)))) .unit)))) (.pair .int .unit))) .unit))) []] [(.vec 89 (.pair .bool (.pair (.vec 86 (.pair (.arr 32 .u8) (.pair .int (.pair .bool .unit)))) .unit)))] = F8 := by kernel_rfl
theorem e71 : mkF TBL [] [(70, C70), (79, C79)] Tryd.f71 (bodyOf Tryd.f71) ⟨[], [(3, ⟨[(1, .b (.fz .u8))], [(2, (.blk 112 (.d (.arr 16 .u8))))], [], []⟩)], [(5, [0])]⟩ [.v (.arr 16 .u8), .b (.fz .u8)] [(.arr 16 .u8)] = F71 := by kernel_rfl
theorem e40 : mkF TBL [] [(49, C49), (51, C51), (50, C50)] Tryd.f40 (bodyOf Tryd.f40) ⟨[], [(9, ⟨[(36, .d .int)], [(2, (.blk 97 (.d (.arr 12 .u8))))], [], []⟩)], [(12, [2])]⟩ [.io 60 (.pair (.vec 89 (.pair .bool (.pair (.vec 86 (.pair (.arr 32 .u8) (.pair .int (.pair .bool .unit)))) .unit))) .unit) [], .v .int, .b (.fz .u8), .b (.fz .u8)] [(.fz .u8), .int, .int] = F40 := by kernel_rfl
theorem e12 : mkF TBL [(21, Tryd.f21, ⟨[], [], []⟩), (22, Tryd.f22, ⟨[], [], [(0, [3])]⟩), (24, Tryd.f24, ⟨[], [], []⟩), (25, Tryd.f25, ⟨[], [], [(0, [3])]⟩), (26, Tryd.f26, ⟨[], [], []⟩), (27, Tryd.f27, ⟨[], [], []⟩), (28, Tryd.f28, ⟨[], [], []⟩), (29, Tryd.f29, ⟨[], [], []⟩), (30, Tryd.f30, ⟨[], [], []⟩), (31, Tryd.f31, ⟨[], [], []⟩)] [(23, C23)] Tryd.f12 (bodyOf Tryd.f12) ⟨[(9, ⟨[], [(1, (.blk 32 (.pr (.d .int) (.pr (.d .int) (.pr (.d .int) (.pr (.d .int) (.pr (.d .int) (.pr (.bw (.fz .u8)) (.pr (.bw (.fz .u8)) .nl))))))))), (2, (.blk 4 (.d .bool)))], [], []⟩), (13, ⟨[(29, .d .bool)], [], [], []⟩), (32, ⟨[], [(1, (.blk 32 (.pr (.d .int) (.pr (.d .int) (.pr (.d .int) (.pr (.d .int) (.pr (.d .int) (.pr (.bw (.fz .u8)) (.pr (.bw (.fz .u8)) .nl))))))))), (2, (.blk 4 (.d .bool)))], [], []⟩), (15, ⟨[(32, .d .bool)], [], [], []⟩), (28, ⟨[(70, .d .bool)], [], [], []⟩)], [], [(7, [3]), (17, [3])]⟩ [.b (.pair .int (.pair .int (.pair .int (.pair .int (.pair .int (.pair (.fz .u8) (.pair (.fz .u8) .unit)))))))] [.int] = F12 := by kernel_rfl
end Go.GX
namespace Go.GX
open Go.RowKit Go.SL Go.Proofs
set_option maxRecDepth 100000
set_option linter.unusedVariables false

theorem e11 : mkF TBL [] [] Tryd.f11 (bodyOf Tryd.f11) ⟨[], [], []⟩ [] [(.box 63 (.pair (.map (.pair .int (.pair .int (.pair (.pair .int (.pair .int (.pair .int (.pair (.fz .u8) .unit)))) .unit)))) (.pair .int .unit)))] = F11 := by kernel_rfl
theorem e32 : mkF TBL [] [(45, C45)] Tryd.f32 (bodyOf Tryd.f32) ⟨[], [], []⟩ [.b (.pair .int (.pair .int (.pair .int (.pair (.fz .u8) .unit))))] [(.pair .int (.pair .int (.pair .int (.pair (.fz .u8) .unit))))] = F32 := by kernel_rfl
theorem e42 : mkF TBL [] [(41, C41), (52, C52), (40, C40)] Tryd.f42 (bodyOf Tryd.f42) ⟨[], [], []⟩ [.io 60 (.pair (.vec 89 (.pair .bool (.pair (.vec 86 (.pair (.arr 32 .u8) (.pair .int (.pair .bool .unit)))) .unit))) .unit) [], .b (.fz .u8), .b (.fz .u8)] [(.fz .u8), .int, .int] = F42 := by kernel_rfl
theorem e68 : mkF TBL [] [(70, C70), (78, C78)] Tryd.f68 (bodyOf Tryd.f68) ⟨[], [(4, ⟨[(5, .d .int)], [(1, (.blk 112 (.d (.arr 16 .u8))))], [], []⟩)], []⟩ [.io 122 (.arr 15 (.arr 16 .u8)) [], .v (.arr 16 .u8)] [(.arr 16 .u8)] = F68 := by kernel_rfl
theorem e51 : mkF TBL [] [(59, C59), (60, C60)] Tryd.f51 (bodyOf Tryd.f51) ⟨[], [], []⟩ [.v (.arr 32 .u8), .v (.arr 12 .u8), .b (.fz .u8), .b (.fz .u8)] [(.vec 5 .u8)] = F51 := by kernel_rfl
theorem e83 : mkF TBL [] [(77, C77)] Tryd.f83 (bodyOf Tryd.f83) ⟨[], [(5, ⟨[(17, .d .int)], [(2, (.blk 135 (.d (.arr 4 .u8))))], [], []⟩)], [(6, [0])]⟩ [.v (.arr 4 .u8)] [(.arr 4 .u8)] = F83 := by kernel_rfl
theorem e3 : mkF TBL [] [(4, C4), (6, C6), (5, C5), (7, C7), (8, C8)] Tryd.f3 (bodyOf Tryd.f3) ⟨[], [], []⟩ [.v (.fz .u8), .v .int] [.bool] = F3 := by kernel_rfl
theorem e39 : mkF TBL [(48, Tryd.f48, ⟨[], [], []⟩), (47, Tryd.f47, ⟨[], [], []⟩)] [] Tryd.f39 (bodyOf Tryd.f39) ⟨[], [], []⟩ [.io 60 (.pair (.vec 89 (.pair .bool (.pair (.vec 86 (.pair (.arr 32 .u8) (.pair .int (.pair .bool .unit)))) .unit))) .unit) [], .v .int, .v .int] [.int] = F39 := by kernel_rfl
theorem e62 : mkF TBL [] [(73, C73), (58, C58)] Tryd.f62 (bodyOf Tryd.f62) ⟨[(5, ⟨[(0, .b (.fz .u8))], [], [], []⟩)], [(9, ⟨[(20, .d .int)], [(2, (.blk 130 (.d (.arr 64 .u8)))), (1, (.blk 130 (.d (.arr 64 .u8))))], [], []⟩)], []⟩ [.b (.fz .u8), .b (.fz .u8)] [(.arr 32 .u8)] = F62 := by kernel_rfl
theorem e17 : mkF TBL [(34, Tryd.f34, ⟨[], [], []⟩), (33, Tryd.f33, ⟨[], [], []⟩), (36, Tryd.f36, ⟨[], [], []⟩)] [(35, C35), (46, C46), (37, C37), (38, C38), (39, C39), (40, C40), (41, C41), (42, C42), (20, C20)] Tryd.f17 (bodyOf Tryd.f17) ⟨[], [], [(7, [3]), (9, [3])]⟩ [.io 43 (.pair (.box 57 (.pair (.arr 32 .u8) (.pair (.arr 32 .u8) (.pair .int .unit)))) (.pair (.box 60 (.pair (.vec 89 (.pair .bool (.pair (.vec 86 (.pair (.arr 32 .u8) (.pair .int (.pair .bool .unit)))) .unit))) .unit)) (.pair (.box 63 (.pair (.map (.pair .int (.pair .int (.pair (.pair .int (.pair .int (.pair .int (.pair (.fz .u8) .unit)))) .unit)))) (.pair .int .unit))) .unit))) [], .b (.pair .int (.pair .int (.pair .int (.pair .int (.pair .int (.pair (.fz .u8) (.pair (.fz .u8) .unit)))))))] [(.pair .int (.pair .int (.pair .int (.pair (.fz .u8) .unit)))), .int] = F17 := by kernel_rfl
theorem e59 : mkF TBL [] [(65, C65), (45, C45), (66, C66), (67, C67), (68, C68)] Tryd.f59 (bodyOf Tryd.f59) ⟨[], [(6, ⟨[(25, .d .int)], [(4, (.blk 112 (.d (.arr 16 .u8)))), (3, (.row 5 .u8)), (2, (.blk 122 (.d (.arr 15 (.arr 16 .u8)))))], [], []⟩), (14, ⟨[(52, .d .int)], [(3, (.row 5 .u8))], [], []⟩)], []⟩ [.v (.arr 32 .u8), .v (.arr 12 .u8), .v .u32, .b (.fz .u8)] [(.vec 5 .u8)] = F59 := by kernel_rfl
end Go.GX
namespace Go.GX
open Go.RowKit Go.SL Go.Proofs
set_option maxRecDepth 100000
set_option linter.unusedVariables false

theorem e23 : mkF TBL [] [] Tryd.f23 (bodyOf Tryd.f23) ⟨[], [], []⟩ [.v .int, .v .int, .v .int] [.bool] = F23 := by kernel_rfl
theorem e6 : mkF TBL [] [] Tryd.f6 (bodyOf Tryd.f6) ⟨[], [], []⟩ [.v (.fz .u8)] [(.fz .u8)] = F6 := by kernel_rfl
theorem e69 : mkF TBL [] [] Tryd.f69 (bodyOf Tryd.f69) ⟨[], [], []⟩ [.v (.vec 5 .u8)] [(.vec 5 .u8)] = F69 := by kernel_rfl
theorem e38 : mkF TBL [(47, Tryd.f47, ⟨[], [], []⟩)] [] Tryd.f38 (bodyOf Tryd.f38) ⟨[], [], []⟩ [.io 60 (.pair (.vec 89 (.pair .bool (.pair (.vec 86 (.pair (.arr 32 .u8) (.pair .int (.pair .bool .unit)))) .unit))) .unit) [], .v .int, .v .bool] [.int] = F38 := by kernel_rfl
theorem e18 : mkF TBL [] [(32, C32)] Tryd.f18 (bodyOf Tryd.f18) ⟨[], [], [(6, [0])]⟩ [.io 63 (.pair (.map (.pair .int (.pair .int (.pair (.pair .int (.pair .int (.pair .int (.pair (.fz .u8) .unit)))) .unit)))) (.pair .int .unit)) [], .v .int, .v .int, .v (.pair .int (.pair .int (.pair .int (.pair (.fz .u8) .unit))))] [.int] = F18 := by kernel_rfl
theorem e16 : mkF TBL [] [(32, C32)] Tryd.f16 (bodyOf Tryd.f16) ⟨[], [], []⟩ [.io 63 (.pair (.map (.pair .int (.pair .int (.pair (.pair .int (.pair .int (.pair .int (.pair (.fz .u8) .unit)))) .unit)))) (.pair .int .unit)) [], .v .int, .v .int] [(.pair .int (.pair .int (.pair .int (.pair (.fz .u8) .unit)))), .bool, .int] = F16 := by kernel_rfl
theorem e66 : mkF TBL [] [] Tryd.f66 (bodyOf Tryd.f66) ⟨[], [], []⟩ [.v (.arr 12 .u8), .v .u32] [(.arr 16 .u8)] = F66 := by kernel_rfl
theorem e58 : mkF TBL [(64, Tryd.f64, ⟨[(4, ⟨[], [], [], []⟩)], [], []⟩)] [] Tryd.f58 (bodyOf Tryd.f58) ⟨[], [(4, ⟨[(11, .d .int), (3, .d .int)], [], [], []⟩), (12, ⟨[(27, .d .int), (6, .d (.vec 5 .u8))], [], [], [2, 0]⟩)], []⟩ [.b (.fz (.fz .u8))] [(.vec 5 .u8)] = F58 := by kernel_rfl
theorem e61 : mkF TBL [(72, Tryd.f72, ⟨[], [(11, ⟨[(30, .d .int), (6, .d .int)], [], [], []⟩)], []⟩)] [(63, C63), (45, C45)] Tryd.f61 (bodyOf Tryd.f61) ⟨[], [], []⟩ [.b (.fz .u8)] [.int, (.fz .u8), .int] = F61 := by kernel_rfl
theorem e49 : mkF TBL [(47, Tryd.f47, ⟨[], [], []⟩)] [] Tryd.f49 (bodyOf Tryd.f49) ⟨[], [], []⟩ [.io 60 (.pair (.vec 89 (.pair .bool (.pair (.vec 86 (.pair (.arr 32 .u8) (.pair .int (.pair .bool .unit)))) .unit))) .unit) [], .v .int] [.int, .int, (.arr 32 .u8), .int] = F49 := by kernel_rfl
theorem e81 : mkF TBL [] [(86, C86)] Tryd.f81 (bodyOf Tryd.f81) ⟨[], [(4, ⟨[(22, .d .int)], [(3, (.blk 148 (.d (.arr 64 .u32))))], [], []⟩), (13, ⟨[(112, .d .int), (16, .d .u32), (15, .d .u32), (14, .d .u32), (13, .d .u32), (12, .d .u32), (11, .d .u32), (10, .d .u32), (9, .d .u32)], [], [], []⟩), (20, ⟨[(181, .d .int)], [(0, (.blk 141 (.d (.arr 8 .u32))))], [], []⟩)], [(8, [3]), (14, [3])]⟩ [.v (.arr 8 .u32), .v (.arr 64 .u8)] [(.arr 8 .u32)] = F81 := by kernel_rfl
end Go.GX
