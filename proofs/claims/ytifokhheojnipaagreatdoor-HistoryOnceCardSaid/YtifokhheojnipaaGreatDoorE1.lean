/- parts of the proof -/
import Derived.Test.YtifokhheojnipaaGreatDoorZ1
set_option linter.unusedVariables false
set_option linter.unusedSimpArgs false
namespace Go.GX
open Go.RowKit Go.SL Go.Proofs
set_option maxRecDepth 100000
set_option linter.unusedVariables false

theorem e254 : mkF TBL [] [(267, C267)] Tryz.f254 (bodyOf Tryz.f254) ⟨[], [(4, ⟨[(22, .d .int)], [(3, (.blk 316 (.d (.arr 64 .u32))))], [], []⟩), (13, ⟨[(112, .d .int), (16, .d .u32), (15, .d .u32), (14, .d .u32), (13, .d .u32), (12, .d .u32), (11, .d .u32), (10, .d .u32), (9, .d .u32)], [], [], []⟩), (20, ⟨[(181, .d .int)], [(0, (.blk 94 (.d (.arr 8 .u32))))], [], []⟩)], [(8, [3]), (14, [3])]⟩ [.v (.arr 8 .u32), .v (.arr 64 .u8)] [(.arr 8 .u32)] = F254 := by kernel_rfl
end Go.GX
namespace Go.GX
open Go.RowKit Go.SL Go.Proofs
set_option maxRecDepth 100000
set_option linter.unusedVariables false

theorem e47 : mkF TBL [(109, Tryz.f109, ⟨[], [], []⟩), (110, Tryz.f110, ⟨[], [], [(0, [3])]⟩), (112, Tryz.f112, ⟨[], [], []⟩), (113, Tryz.f113, ⟨[], [], [(0, [3])]⟩), (114, Tryz.f114, ⟨[], [], []⟩), (115, Tryz.f115, ⟨[], [], []⟩), (116, Tryz.f116, ⟨[], [], []⟩), (117, Tryz.f117, ⟨[], [], []⟩), (118, Tryz.f118, ⟨[], [], []⟩), (119, Tryz.f119, ⟨[], [], []⟩)] [(111, C111)] Tryz.f47 (bodyOf Tryz.f47) ⟨[(9, ⟨[], [(1, (.blk 34 (.pr (.d .int) (.pr (.d .int) (.pr (.d .int) (.pr (.d .int) (.pr (.d .int) (.pr (.bw (.fz .u8)) (.pr (.bw (.fz .u8)) .nl))))))))), (2, (.blk 4 (.d .bool)))], [], []⟩), (13, ⟨[(29, .d .bool)], [], [], []⟩), (32, ⟨[], [(1, (.blk 34 (.pr (.d .int) (.pr (.d .int) (.pr (.d .int) (.pr (.d .int) (.pr (.d .int) (.pr (.bw (.fz .u8)) (.pr (.bw (.fz .u8)) .nl))))))))), (2, (.blk 4 (.d .bool)))], [], []⟩), (15, ⟨[(32, .d .bool)], [], [], []⟩), (28, ⟨[(70, .d .bool)], [], [], []⟩)], [], [(7, [3]), (17, [3])]⟩ [.b (.pair .int (.pair .int (.pair .int (.pair .int (.pair .int (.pair (.fz .u8) (.pair (.fz .u8) .unit)))))))] [.int] = F47 := by kernel_rfl
end Go.GX
namespace Go.GX
open Go.RowKit Go.SL Go.Proofs
set_option maxRecDepth 100000
set_option linter.unusedVariables false

theorem e26 : mkF TBL [(57, Tryz.f57, ⟨[], [(2, ⟨[(9, .d .int)], [(2, (.blk 53 (.d (.vec 68 (.pair .int (.pair .int .unit))))))], [], []⟩)], []⟩), (58, Tryz.f58, ⟨[(5, ⟨[(4, .d .int)], [], [], []⟩)], [], []⟩), (59, Tryz.f59, ⟨[], [], []⟩), (61, Tryz.f61, ⟨[], [], []⟩), (63, Tryz.f63, ⟨[], [], []⟩), (62, Tryz.f62, ⟨[], [], []⟩), (133, Tryz.f133, ⟨[], [(3, ⟨[(8, .d .int)], [], [], []⟩)], []⟩), (65, Tryz.f65, ⟨[], [], []⟩), (67, Tryz.f67, ⟨[], [], []⟩), (66, Tryz.f66, ⟨[], [], []⟩), (134, Tryz.f134, ⟨[], [(3, ⟨[(8, .d .int)], [], [], []⟩)], []⟩), (68, Tryz.f68, ⟨[], [], []⟩), (69, Tryz.f69, ⟨[], [], []⟩)] [(29, C29), (60, C60), (64, C64)] Tryz.f26 (bodyOf Tryz.f26) ⟨[], [], []⟩ [.b (.fz .u8), .b (.fz (.pair .int (.pair (.pair .int (.pair .int (.pair .int (.pair .int (.pair .int (.pair (.fz .u8) (.pair (.fz .u8) .unit))))))) (.pair (.pair .int (.pair .int (.pair .int (.pair (.fz .u8) .unit)))) .unit)))), .b (.fz (.pair .int (.pair .int (.pair .int (.pair .int (.pair .int (.pair (.pair .int (.pair .int (.pair .int (.pair .int (.pair .int (.pair (.fz .u8) (.pair (.fz .u8) .unit))))))) (.pair .bool (.pair (.pair .int (.pair .int (.pair .int (.pair (.fz .u8) .unit)))) .unit)))))))))] [(.fz (.pair .int (.pair .int .unit)))] = F26 := by kernel_rfl
end Go.GX
