/- The functions come to their plain words. -/
import Derived.Test.YtifokhheojnipaaGreatDoorZ1
set_option linter.unusedVariables false
set_option linter.unusedSimpArgs false
set_option linter.unnecessarySimpa false
namespace Go.GX
open Go.RowKit Go.SL Go.Proofs
set_option maxRecDepth 100000
set_option linter.unusedVariables false

theorem e16 : mkF TBL [] [] Tryz.f16 (bodyOf Tryz.f16) ⟨[], [], []⟩ [.v (.fz .u8)] [(.fz .u8)] = F16 := by kernel_rfl
theorem e220 : mkF TBL [] [(222, C222), (238, C238)] Tryz.f220 (bodyOf Tryz.f220) ⟨[], [(4, ⟨[(5, .d .int)], [(1, (.blk 257 (.d (.arr 16 .u8))))], [], []⟩)], []⟩ [.io 274 (.arr 15 (.arr 16 .u8)) [], .v (.arr 16 .u8)] [(.arr 16 .u8)] = F220 := by kernel_rfl
theorem e223 : mkF TBL [] [(222, C222), (239, C239)] Tryz.f223 (bodyOf Tryz.f223) ⟨[], [(3, ⟨[(1, .b (.fz .u8))], [(2, (.blk 257 (.d (.arr 16 .u8))))], [], []⟩)], [(5, [0])]⟩ [.v (.arr 16 .u8), .b (.fz .u8)] [(.arr 16 .u8)] = F223 := by kernel_rfl
theorem e47 : mkF TBL [(109, Tryz.f109, ⟨[], [], []⟩), (110, Tryz.f110, ⟨[], [], [(0, [3])]⟩), (112, Tryz.f112, ⟨[], [], []⟩), (113, Tryz.f113, ⟨[], [], [(0, [3])]⟩), (114, Tryz.f114, ⟨[], [], []⟩), (115, Tryz.f115, ⟨[], [], []⟩), (116, Tryz.f116, ⟨[], [], []⟩), (117, Tryz.f117, ⟨[], [], []⟩), (118, Tryz.f118, ⟨[], [], []⟩), (119, Tryz.f119, ⟨[], [], []⟩)] [(111, C111)] Tryz.f47 (bodyOf Tryz.f47) ⟨[(9, ⟨[], [(1, (.blk 34 (.pr (.d .int) (.pr (.d .int) (.pr (.d .int) (.pr (.d .int) (.pr (.d .int) (.pr (.bw (.fz .u8)) (.pr (.bw (.fz .u8)) .nl))))))))), (2, (.blk 4 (.d .bool)))], [], []⟩), (13, ⟨[(29, .d .bool)], [], [], []⟩), (32, ⟨[], [(1, (.blk 34 (.pr (.d .int) (.pr (.d .int) (.pr (.d .int) (.pr (.d .int) (.pr (.d .int) (.pr (.bw (.fz .u8)) (.pr (.bw (.fz .u8)) .nl))))))))), (2, (.blk 4 (.d .bool)))], [], []⟩), (15, ⟨[(32, .d .bool)], [], [], []⟩), (28, ⟨[(70, .d .bool)], [], [], []⟩)], [], [(7, [3]), (17, [3])]⟩ [.b (.pair .int (.pair .int (.pair .int (.pair .int (.pair .int (.pair (.fz .u8) (.pair (.fz .u8) .unit)))))))] [.int] = F47 := by kernel_rfl
end Go.GX
namespace Go.GX
open Go.RowKit Go.SL Go.Proofs
set_option maxRecDepth 100000
set_option linter.unusedVariables false

theorem e15 : mkF TBL [] [(42, C42), (43, C43), (44, C44)] Tryz.f15 (bodyOf Tryz.f15) ⟨[], [], []⟩ [.b (.fz .u8)] [(.box 91 (.pair (.box 171 (.pair (.arr 32 .u8) (.pair (.arr 32 .u8) (.pair .int .unit)))) (.pair (.box 173 (.pair (.vec 42 (.pair .bool (.pair (.vec 46 (.pair (.arr 32 .u8) (.pair .int (.pair .bool .unit)))) .unit))) .unit)) (.pair (.box 176 (.pair (.map (.pair .int (.pair .int (.pair (.pair .int (.pair .int (.pair .int (.pair (.fz .u8) .unit)))) .unit)))) (.pair .int .unit))) .unit))))] = F15 := by kernel_rfl
theorem e257 : mkF TBL [] [] Tryz.f257 (bodyOf Tryz.f257) ⟨[], [(3, ⟨[(5, .d .int), (3, .d .u64), (2, .d .u64)], [], [], []⟩)], []⟩ [.v (.arr 16 .u8)] [.u64, .u64] = F257 := by kernel_rfl
theorem e123 : mkF TBL [] [] Tryz.f123 (bodyOf Tryz.f123) ⟨[], [], [(3, [0])]⟩ [.io 173 (.pair (.vec 42 (.pair .bool (.pair (.vec 46 (.pair (.arr 32 .u8) (.pair .int (.pair .bool .unit)))) .unit))) .unit) [], .v (.arr 32 .u8)] [.int, .int] = F123 := by kernel_rfl
theorem e256 : mkF TBL [] [(237, C237)] Tryz.f256 (bodyOf Tryz.f256) ⟨[], [(5, ⟨[(17, .d .int)], [(2, (.blk 288 (.d (.arr 4 .u8))))], [], []⟩)], [(6, [0])]⟩ [.v (.arr 4 .u8)] [(.arr 4 .u8)] = F256 := by kernel_rfl
theorem e14 : mkF TBL [] [(15, C15), (18, C18)] Tryz.f14 (bodyOf Tryz.f14) ⟨[], [], []⟩ [] [.bool] = F14 := by kernel_rfl
theorem e214 : mkF TBL [] [(235, C235), (201, C201)] Tryz.f214 (bodyOf Tryz.f214) ⟨[(5, ⟨[(0, .b (.fz .u8))], [], [], []⟩)], [(9, ⟨[(20, .d .int)], [(2, (.blk 286 (.d (.arr 64 .u8)))), (1, (.blk 286 (.d (.arr 64 .u8))))], [], []⟩)], []⟩ [.b (.fz .u8), .b (.fz .u8)] [(.arr 32 .u8)] = F214 := by kernel_rfl
theorem e219 : mkF TBL [] [] Tryz.f219 (bodyOf Tryz.f219) ⟨[], [], []⟩ [.v (.arr 16 .u8)] [(.arr 16 .u8)] = F219 := by kernel_rfl
end Go.GX
namespace Go.GX
open Go.RowKit Go.SL Go.Proofs
set_option maxRecDepth 100000
set_option linter.unusedVariables false

theorem e43 : mkF TBL [] [] Tryz.f43 (bodyOf Tryz.f43) ⟨[], [], []⟩ [] [(.box 173 (.pair (.vec 42 (.pair .bool (.pair (.vec 46 (.pair (.arr 32 .u8) (.pair .int (.pair .bool .unit)))) .unit))) .unit))] = F43 := by kernel_rfl
theorem e48 : mkF TBL [] [] Tryz.f48 (bodyOf Tryz.f48) ⟨[], [], []⟩ [.v (.pair .int (.pair .int (.pair .int (.pair (.fz .u8) .unit)))), .v .int] [(.pair .int (.pair .int (.pair .int (.pair (.fz .u8) .unit))))] = F48 := by kernel_rfl
theorem e49 : mkF TBL [] [] Tryz.f49 (bodyOf Tryz.f49) ⟨[], [], []⟩ [.io 176 (.pair (.map (.pair .int (.pair .int (.pair (.pair .int (.pair .int (.pair .int (.pair (.fz .u8) .unit)))) .unit)))) (.pair .int .unit)) []] [.int, .int] = F49 := by kernel_rfl
theorem e53 : mkF TBL [] [(120, C120)] Tryz.f53 (bodyOf Tryz.f53) ⟨[], [], [(6, [0])]⟩ [.io 176 (.pair (.map (.pair .int (.pair .int (.pair (.pair .int (.pair .int (.pair .int (.pair (.fz .u8) .unit)))) .unit)))) (.pair .int .unit)) [], .v .int, .v .int, .v (.pair .int (.pair .int (.pair .int (.pair (.fz .u8) .unit))))] [.int] = F53 := by kernel_rfl
theorem e51 : mkF TBL [] [(120, C120)] Tryz.f51 (bodyOf Tryz.f51) ⟨[], [], []⟩ [.io 176 (.pair (.map (.pair .int (.pair .int (.pair (.pair .int (.pair .int (.pair .int (.pair (.fz .u8) .unit)))) .unit)))) (.pair .int .unit)) [], .v .int, .v .int] [(.pair .int (.pair .int (.pair .int (.pair (.fz .u8) .unit)))), .bool, .int] = F51 := by kernel_rfl
theorem e218 : mkF TBL [] [] Tryz.f218 (bodyOf Tryz.f218) ⟨[], [], []⟩ [.v (.arr 12 .u8), .v .u32] [(.arr 16 .u8)] = F218 := by kernel_rfl
theorem e172 : mkF TBL [(199, Tryz.f199, ⟨[], [], []⟩)] [(168, C168), (201, C201), (214, C214)] Tryz.f172 (bodyOf Tryz.f172) ⟨[(4, ⟨[(9, .d .bool)], [], [], []⟩), (9, ⟨[], [(0, (.blk 171 (.d (.pair (.arr 32 .u8) (.pair (.arr 32 .u8) (.pair .int .unit))))))], [], []⟩)], [(10, ⟨[(8, .d (.vec 5 .u8))], [(0, (.blk 171 (.d (.pair (.arr 32 .u8) (.pair (.arr 32 .u8) (.pair .int .unit))))))], [], [1]⟩)], []⟩ [.io 171 (.pair (.arr 32 .u8) (.pair (.arr 32 .u8) (.pair .int .unit))) [], .v .int, .b (.fz .u8)] [(.fz .u8), .int] = F172 := by kernel_rfl
theorem e238 : mkF TBL [] [(255, C255), (256, C256)] Tryz.f238 (bodyOf Tryz.f238) ⟨[(14, ⟨[], [(4, (.blk 288 (.d (.arr 4 .u8))))], [], []⟩)], [(4, ⟨[(12, .d .int)], [(3, (.blk 257 (.d (.arr 16 .u8))))], [], []⟩), (8, ⟨[(15, .d .int)], [(4, (.blk 288 (.d (.arr 4 .u8))))], [], []⟩), (15, ⟨[(35, .d .int)], [(3, (.blk 257 (.d (.arr 16 .u8))))], [], []⟩)], []⟩ [.v (.arr 16 .u8), .v (.arr 16 .u8), .v .bool] [(.arr 16 .u8)] = F238 := by kernel_rfl
theorem e202 : mkF TBL [] [(217, C217), (171, C171), (218, C218), (219, C219), (220, C220)] Tryz.f202 (bodyOf Tryz.f202) ⟨[], [(6, ⟨[(25, .d .int)], [(4, (.blk 257 (.d (.arr 16 .u8)))), (3, (.row 5 .u8)), (2, (.blk 274 (.d (.arr 15 (.arr 16 .u8)))))], [], []⟩), (14, ⟨[(52, .d .int)], [(3, (.row 5 .u8))], [], []⟩)], []⟩ [.v (.arr 32 .u8), .v (.arr 12 .u8), .v .u32, .b (.fz .u8)] [(.vec 5 .u8)] = F202 := by kernel_rfl
end Go.GX
namespace Go.GX
open Go.RowKit Go.SL Go.Proofs
set_option maxRecDepth 100000
set_option linter.unusedVariables false

theorem e267 : mkF TBL [] [(269, C269)] Tryz.f267 (bodyOf Tryz.f267) ⟨[], [], []⟩ [.v .u32, .v .int] [.u32] = F267 := by kernel_rfl
theorem e120 : mkF TBL [] [(171, C171)] Tryz.f120 (bodyOf Tryz.f120) ⟨[], [], []⟩ [.b (.pair .int (.pair .int (.pair .int (.pair (.fz .u8) .unit))))] [(.pair .int (.pair .int (.pair .int (.pair (.fz .u8) .unit))))] = F120 := by kernel_rfl
theorem e221 : mkF TBL [] [] Tryz.f221 (bodyOf Tryz.f221) ⟨[], [], []⟩ [.v (.vec 5 .u8)] [(.vec 5 .u8)] = F221 := by kernel_rfl
theorem e42 : mkF TBL [] [(106, C106)] Tryz.f42 (bodyOf Tryz.f42) ⟨[], [(4, ⟨[(7, .d .int)], [(0, (.blk 171 (.pr (.d (.arr 32 .u8)) (.pr (.d (.arr 32 .u8)) (.pr (.d .int) .nl)))))], [], []⟩)], []⟩ [.b (.fz .u8)] [(.box 171 (.pair (.arr 32 .u8) (.pair (.arr 32 .u8) (.pair .int .unit))))] = F42 := by kernel_rfl
theorem e177 : mkF TBL [] [(202, C202), (203, C203)] Tryz.f177 (bodyOf Tryz.f177) ⟨[], [], []⟩ [.v (.arr 32 .u8), .v (.arr 12 .u8), .b (.fz .u8), .b (.fz .u8)] [(.vec 5 .u8)] = F177 := by kernel_rfl
theorem e128 : mkF TBL [] [(175, C175), (177, C177), (176, C176)] Tryz.f128 (bodyOf Tryz.f128) ⟨[], [(9, ⟨[(36, .d .int)], [(2, (.blk 232 (.d (.arr 12 .u8))))], [], []⟩)], [(12, [2])]⟩ [.io 173 (.pair (.vec 42 (.pair .bool (.pair (.vec 46 (.pair (.arr 32 .u8) (.pair .int (.pair .bool .unit)))) .unit))) .unit) [], .v .int, .b (.fz .u8), .b (.fz .u8)] [(.fz .u8), .int, .int] = F128 := by kernel_rfl
theorem e168 : mkF TBL [(199, Tryz.f199, ⟨[], [], []⟩)] [(201, C201), (214, C214)] Tryz.f168 (bodyOf Tryz.f168) ⟨[], [], []⟩ [.io 171 (.pair (.arr 32 .u8) (.pair (.arr 32 .u8) (.pair .int .unit))) [], .b (.fz .u8)] [] = F168 := by kernel_rfl
theorem e158 : mkF TBL [(195, Tryz.f195, ⟨[], [(11, ⟨[(30, .d .int), (6, .d .int)], [], [], []⟩)], []⟩)] [(190, C190), (171, C171)] Tryz.f158 (bodyOf Tryz.f158) ⟨[], [], []⟩ [.b (.fz .u8)] [.int, (.fz .u8), .int] = F158 := by kernel_rfl
theorem e175 : mkF TBL [(173, Tryz.f173, ⟨[], [], []⟩)] [] Tryz.f175 (bodyOf Tryz.f175) ⟨[], [], []⟩ [.io 173 (.pair (.vec 42 (.pair .bool (.pair (.vec 46 (.pair (.arr 32 .u8) (.pair .int (.pair .bool .unit)))) .unit))) .unit) [], .v .int] [.int, .int, (.arr 32 .u8), .int] = F175 := by kernel_rfl
theorem e254 : mkF TBL [] [(267, C267)] Tryz.f254 (bodyOf Tryz.f254) ⟨[], [(4, ⟨[(22, .d .int)], [(3, (.blk 316 (.d (.arr 64 .u32))))], [], []⟩), (13, ⟨[(112, .d .int), (16, .d .u32), (15, .d .u32), (14, .d .u32), (13, .d .u32), (12, .d .u32), (11, .d .u32), (10, .d .u32), (9, .d .u32)], [], [], []⟩), (20, ⟨[(181, .d .int)], [(0, (.blk 94 (.d (.arr 8 .u32))))], [], []⟩)], [(8, [3]), (14, [3])]⟩ [.v (.arr 8 .u32), .v (.arr 64 .u8)] [(.arr 8 .u32)] = F254 := by kernel_rfl
end Go.GX
