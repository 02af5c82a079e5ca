/- The types of the program as the abstract machine reads them. Printed by a program of mine. -/
import Derived.Test.YtnepcgaphhgbnaaGreatDoorVd
import Derived.Test.YtnepcgaphhgbnaaGreatDoorProg
set_option linter.unusedVariables false
set_option maxRecDepth 100000
namespace Go.JL
open Go.Proofs
def tys : List (Nat × Ty) := [(3, ⟨.int .i64, 1, 8, (.int .i64), [.s (.int .i64) 0], [(.int .i64)], false⟩),
 (4, ⟨.bool, 1, 1, .bool, [.s .bool false], [.bool], false⟩),
 (5, ⟨.int .u8, 1, 1, (.int .u8), [.s (.int .u8) 0], [(.int .u8)], false⟩),
 (9, ⟨.str, 1, 16, .str, [.s .str []], [.str], false⟩),
 (22, ⟨.slice 3, 1, 24, (.list (.int .i64)), [.nils], [(.list (.int .i64))], false⟩),
 (27, ⟨.slice 40, 1, 24, (.list (.pair .str (.int .i64))), [.nils], [(.list (.pair .str (.int .i64)))], false⟩),
 (28, ⟨.slice 77, 1, 24, (.list (.pair .str (.list (.int .i64)))), [.nils], [(.list (.pair .str (.list (.int .i64))))], false⟩),
 (29, ⟨.slice 48, 1, 24, (.list (.pair (.int .i64) (.pair (.int .i64) (.int .i64)))), [.nils], [(.list (.pair (.int .i64) (.pair (.int .i64) (.int .i64))))], false⟩),
 (31, ⟨.struct [(0, 27), (1, 28), (2, 29), (3, 3)], 4, 80, (.pair (.list (.pair .str (.int .i64))) (.pair (.list (.pair .str (.list (.int .i64)))) (.pair (.list (.pair (.int .i64) (.pair (.int .i64) (.int .i64)))) (.int .i64)))), [.nils, .nils, .nils, .s (.int .i64) 0], [(.list (.pair .str (.int .i64))), (.list (.pair .str (.list (.int .i64)))), (.list (.pair (.int .i64) (.pair (.int .i64) (.int .i64)))), (.int .i64)], false⟩),
 (33, ⟨.slice 42, 1, 24, (.list (.pair (.int .i64) (.pair (.int .i64) .str))), [.nils], [(.list (.pair (.int .i64) (.pair (.int .i64) .str)))], false⟩),
 (36, ⟨.slice 9, 1, 24, (.list .str), [.nils], [(.list .str)], false⟩),
 (40, ⟨.struct [(0, 9), (1, 3)], 2, 24, (.pair .str (.int .i64)), [.s .str [], .s (.int .i64) 0], [.str, (.int .i64)], true⟩),
 (42, ⟨.struct [(0, 3), (1, 3), (2, 9)], 3, 32, (.pair (.int .i64) (.pair (.int .i64) .str)), [.s (.int .i64) 0, .s (.int .i64) 0, .s .str []], [(.int .i64), (.int .i64), .str], true⟩),
 (48, ⟨.struct [(0, 3), (1, 3), (2, 3)], 3, 24, (.pair (.int .i64) (.pair (.int .i64) (.int .i64))), [.s (.int .i64) 0, .s (.int .i64) 0, .s (.int .i64) 0], [(.int .i64), (.int .i64), (.int .i64)], true⟩),
 (77, ⟨.struct [(0, 9), (1, 22)], 2, 40, (.pair .str (.list (.int .i64))), [.s .str [], .nils], [.str, (.list (.int .i64))], false⟩),
 (79, ⟨.struct [(0, 22), (1, 3)], 2, 32, (.pair (.list (.int .i64)) (.int .i64)), [.nils, .s (.int .i64) 0], [(.list (.int .i64)), (.int .i64)], false⟩),
 (87, ⟨.str, 1, 16, .str, [.s .str []], [.str], false⟩),
 (91, ⟨.other, 1, 8, (.fn .unit), [.s (.fn .unit) none], [(.fn .unit)], false⟩),
 (105, ⟨.str, 1, 16, .str, [.s .str []], [.str], false⟩),
 (110, ⟨.slice 4, 1, 24, (.list .bool), [.nils], [(.list .bool)], false⟩),
 (120, ⟨.slice 5, 1, 24, (.list (.int .u8)), [.nils], [(.list (.int .u8))], false⟩),
 (123, ⟨.struct [(0, 42)], 3, 32, (.one (.pair (.int .i64) (.pair (.int .i64) .str))), [.s (.int .i64) 0, .s (.int .i64) 0, .s .str []], [(.int .i64), (.int .i64), .str], false⟩),
 (127, ⟨.struct [(0, 4), (1, 22)], 2, 32, (.pair .bool (.list (.int .i64))), [.s .bool false, .nils], [.bool, (.list (.int .i64))], false⟩),
 (129, ⟨.struct [(0, 127), (2, 127)], 4, 64, (.pair (.pair .bool (.list (.int .i64))) (.pair .bool (.list (.int .i64)))), [.s .bool false, .nils, .s .bool false, .nils], [.bool, (.list (.int .i64)), .bool, (.list (.int .i64))], false⟩),
 (133, ⟨.array 2 33, 2, 48, .unit, [.nils, .nils], [(.list (.pair (.int .i64) (.pair (.int .i64) .str))), (.list (.pair (.int .i64) (.pair (.int .i64) .str)))], false⟩),
 (138, ⟨.slice 91, 1, 24, (.list (.fn .unit)), [.nils], [(.list (.fn .unit))], false⟩),
 (158, ⟨.slice 199, 1, 24, (.list (.int .u64)), [.nils], [(.list (.int .u64))], false⟩),
 (160, ⟨.struct [(0, 4), (1, 158)], 2, 32, (.pair .bool (.list (.int .u64))), [.s .bool false, .nils], [.bool, (.list (.int .u64))], false⟩),
 (162, ⟨.struct [(0, 160), (2, 160)], 4, 64, (.pair (.pair .bool (.list (.int .u64))) (.pair .bool (.list (.int .u64)))), [.s .bool false, .nils, .s .bool false, .nils], [.bool, (.list (.int .u64)), .bool, (.list (.int .u64))], false⟩),
 (167, ⟨.int .u64, 1, 8, (.int .u64), [.s (.int .u64) 0], [(.int .u64)], false⟩),
 (183, ⟨.slice 87, 1, 24, (.list .str), [.nils], [(.list .str)], false⟩),
 (199, ⟨.int .u64, 1, 8, (.int .u64), [.s (.int .u64) 0], [(.int .u64)], false⟩),
 (214, ⟨.iface, 1, 16, (.fn .bool), [.s (.fn .bool) none], [(.fn .bool)], false⟩),
 (220, ⟨.int .u64, 1, 8, (.int .u64), [.s (.int .u64) 0], [(.int .u64)], false⟩)]
theorem tys_all : (tys.all fun p => tyB Tryz.prog p.1 p.2) = true := by kernel_rfl
theorem tys_ok : ∀ t ty, look tys t = some ty → TyOk Tryz.prog t ty := look_ty tys_all
theorem follows_mixed : Tryz.prog.follows .mixedOrders = true := by kernel_rfl
end Go.JL
