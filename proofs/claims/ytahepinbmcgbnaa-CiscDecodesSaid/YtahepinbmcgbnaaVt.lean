/- What the reckoner over small memories asks of the program: its types, its functions. No condition. -/
import Derived.Test.YtahepinbmcgbnaaVmY
import Derived.Test.YtahepinbmcgbnaaProg
set_option linter.unusedVariables false
namespace Go.Proofs.Ytahepinbmcgbnaa.Vm
theorem mo : Try.prog.follows .mixedOrders = true := by kernel_rfl
theorem tA0 : (tiOf Try.prog 1 = some ⟨1, [.nilFunc], .other⟩) ∧
 (tiOf Try.prog 2 = some ⟨1, [.int .i64 0], .int .i64⟩) ∧
 (tiOf Try.prog 3 = some ⟨1, [.int .i64 0], .int .i64⟩) ∧
 (tiOf Try.prog 4 = some ⟨1, [.bool false], .bool⟩) ∧
 (tiOf Try.prog 5 = some ⟨1, [.int .u8 0], .int .u8⟩) ∧
 (tiOf Try.prog 6 = some ⟨1, [.int .u8 0], .int .u8⟩) ∧
 (tiOf Try.prog 7 = some ⟨4, [.int .i64 0, .int .i64 0, .bool false, .int .u8 0], .struct [(0, 1, false), (1, 1, false), (2, 1, false), (3, 1, false)]⟩) ∧
 (tiOf Try.prog 8 = some ⟨4, [.int .i64 0, .int .i64 0, .bool false, .int .u8 0], .struct [(0, 1, false), (1, 1, false), (2, 1, false), (3, 1, false)]⟩) := by
 refine ⟨?_, ?_, ?_, ?_, ?_, ?_, ?_, ?_⟩ <;> kernel_rfl
theorem tA1 : (tiOf Try.prog 9 = some ⟨1, [.string .empty], .str⟩) ∧
 (tiOf Try.prog 10 = some ⟨1, [.string .empty], .str⟩) ∧
 (tiOf Try.prog 11 = some ⟨1, [.string .empty], .str⟩) ∧
 (tiOf Try.prog 12 = some ⟨1, [.int .u64 0], .int .u64⟩) ∧
 (tiOf Try.prog 13 = some ⟨2, [.string .empty, .int .u64 0], .struct [(0, 1, false), (1, 1, false)]⟩) ∧
 (tiOf Try.prog 14 = some ⟨2, [.string .empty, .int .u64 0], .struct [(0, 1, false), (1, 1, false)]⟩) ∧
 (tiOf Try.prog 15 = some ⟨1, [.pointer none], .ptr⟩) ∧
 (tiOf Try.prog 16 = some ⟨1, [.pointer none], .ptr⟩) := by
 refine ⟨?_, ?_, ?_, ?_, ?_, ?_, ?_, ?_⟩ <;> kernel_rfl
theorem tA2 : (tiOf Try.prog 17 = some ⟨1, [.pointer none], .ptr⟩) ∧
 (tiOf Try.prog 18 = some ⟨1, [.pointer none], .struct [(0, 1, false)]⟩) ∧
 (tiOf Try.prog 19 = some ⟨1, [.pointer none], .struct [(0, 1, false)]⟩) ∧
 (tiOf Try.prog 20 = some ⟨1, [.nilIface], .iface⟩) ∧
 (tiOf Try.prog 21 = some ⟨1, [.int .i32 0], .int .i32⟩) ∧
 (tiOf Try.prog 22 = some ⟨1, [.slice none 0 0], .slice 25 5 40 [.int .i64 0, .int .i64 0, .int .i64 0, .int .u64 0, .int .u64 0]⟩) ∧
 (tiOf Try.prog 23 = some ⟨1, [.int .u64 0], .int .u64⟩) ∧
 (tiOf Try.prog 24 = some ⟨5, [.int .i64 0, .int .i64 0, .int .i64 0, .int .u64 0, .int .u64 0], .struct [(0, 1, false), (1, 1, false), (2, 1, false), (3, 1, false), (4, 1, false)]⟩) := by
 refine ⟨?_, ?_, ?_, ?_, ?_, ?_, ?_, ?_⟩ <;> kernel_rfl
theorem tA3 : (tiOf Try.prog 25 = some ⟨5, [.int .i64 0, .int .i64 0, .int .i64 0, .int .u64 0, .int .u64 0], .struct [(0, 1, false), (1, 1, false), (2, 1, false), (3, 1, false), (4, 1, false)]⟩) ∧
 (tiOf Try.prog 26 = some ⟨1, [.int .u64 0], .int .u64⟩) ∧
 (tiOf Try.prog 27 = some ⟨1, [.nilFunc], .other⟩) ∧
 (tiOf Try.prog 28 = some ⟨1, [.nilFunc], .other⟩) ∧
 (tiOf Try.prog 29 = some ⟨1, [.nilFunc], .other⟩) ∧
 (tiOf Try.prog 30 = some ⟨1, [.nilFunc], .other⟩) ∧
 (tiOf Try.prog 31 = some ⟨1, [.nilFunc], .other⟩) ∧
 (tiOf Try.prog 32 = some ⟨1, [.int .i64 0], .int .i64⟩) := by
 refine ⟨?_, ?_, ?_, ?_, ?_, ?_, ?_, ?_⟩ <;> kernel_rfl
theorem tA4 : (tiOf Try.prog 34 = some ⟨1, [.nilFunc], .other⟩) ∧
 (tiOf Try.prog 35 = some ⟨1, [.nilFunc], .other⟩) ∧
 (tiOf Try.prog 36 = some ⟨1, [.nilFunc], .other⟩) ∧
 (tiOf Try.prog 37 = some ⟨1, [.nilFunc], .other⟩) ∧
 (tiOf Try.prog 39 = some ⟨1, [.nilFunc], .other⟩) ∧
 (tiOf Try.prog 40 = some ⟨1, [.nilFunc], .other⟩) ∧
 (tiOf Try.prog 41 = some ⟨1, [.slice none 0 0], .slice 46 9 72 [.int .i64 0, .int .i64 0, .int .i64 0, .int .i64 0, .int .i64 0, .int .i64 0, .int .i64 0, .int .i64 0, .int .i64 0]⟩) ∧
 (tiOf Try.prog 42 = some ⟨1, [.slice none 0 0], .slice 5 1 1 [.int .u8 0]⟩) := by
 refine ⟨?_, ?_, ?_, ?_, ?_, ?_, ?_, ?_⟩ <;> kernel_rfl
theorem tA5 : (tiOf Try.prog 44 = some ⟨1, [.nilFunc], .other⟩) ∧
 (tiOf Try.prog 45 = some ⟨9, [.int .i64 0, .int .i64 0, .int .i64 0, .int .i64 0, .int .i64 0, .int .i64 0, .int .i64 0, .int .i64 0, .int .i64 0], .struct [(0, 1, false), (1, 1, false), (2, 1, false), (3, 1, false), (4, 1, false), (5, 1, false), (6, 1, false), (7, 1, false), (8, 1, false)]⟩) ∧
 (tiOf Try.prog 46 = some ⟨9, [.int .i64 0, .int .i64 0, .int .i64 0, .int .i64 0, .int .i64 0, .int .i64 0, .int .i64 0, .int .i64 0, .int .i64 0], .struct [(0, 1, false), (1, 1, false), (2, 1, false), (3, 1, false), (4, 1, false), (5, 1, false), (6, 1, false), (7, 1, false), (8, 1, false)]⟩) ∧
 (tiOf Try.prog 47 = some ⟨1, [.nilFunc], .other⟩) ∧
 (tiOf Try.prog 48 = some ⟨1, [.nilFunc], .other⟩) ∧
 (tiOf Try.prog 49 = some ⟨1, [.nilFunc], .other⟩) ∧
 (tiOf Try.prog 50 = some ⟨1, [.nilFunc], .other⟩) ∧
 (tiOf Try.prog 51 = some ⟨1, [.nilFunc], .other⟩) := by
 refine ⟨?_, ?_, ?_, ?_, ?_, ?_, ?_, ?_⟩ <;> kernel_rfl
theorem tA6 : (tiOf Try.prog 52 = some ⟨1, [.slice none 0 0], .slice 42 1 24 [.slice none 0 0]⟩) ∧
 (tiOf Try.prog 53 = some ⟨1, [.nilFunc], .other⟩) ∧
 (tiOf Try.prog 55 = some ⟨1, [.nilFunc], .other⟩) ∧
 (tiOf Try.prog 57 = some ⟨1, [.nilFunc], .other⟩) ∧
 (tiOf Try.prog 58 = some ⟨1, [.nilFunc], .other⟩) ∧
 (tiOf Try.prog 60 = some ⟨1, [.nilFunc], .other⟩) ∧
 (tiOf Try.prog 61 = some ⟨1, [.nilFunc], .other⟩) ∧
 (tiOf Try.prog 62 = some ⟨1, [.nilFunc], .other⟩) := by
 refine ⟨?_, ?_, ?_, ?_, ?_, ?_, ?_, ?_⟩ <;> kernel_rfl
theorem tA7 : (tiOf Try.prog 63 = some ⟨1, [.float .f64 0], .other⟩) ∧
 (tiOf Try.prog 64 = some ⟨1, [.nilFunc], .other⟩) ∧
 (tiOf Try.prog 65 = some ⟨1, [.nilFunc], .other⟩) ∧
 (tiOf Try.prog 66 = some ⟨1, [.nilFunc], .other⟩) ∧
 (tiOf Try.prog 67 = some ⟨2, [.bool false, .bool false], .struct [(0, 1, false), (1, 1, false)]⟩) ∧
 (tiOf Try.prog 68 = some ⟨2, [.bool false, .bool false], .struct [(0, 1, false), (1, 1, false)]⟩) ∧
 (tiOf Try.prog 69 = some ⟨1, [.nilFunc], .other⟩) ∧
 (tiOf Try.prog 70 = some ⟨1, [.nilFunc], .other⟩) := by
 refine ⟨?_, ?_, ?_, ?_, ?_, ?_, ?_, ?_⟩ <;> kernel_rfl
theorem tA8 : (tiOf Try.prog 71 = some ⟨1, [.nilFunc], .other⟩) ∧
 (tiOf Try.prog 73 = some ⟨1, [.nilFunc], .other⟩) ∧
 (tiOf Try.prog 74 = some ⟨1, [.nilFunc], .other⟩) ∧
 (tiOf Try.prog 75 = some ⟨1, [.nilFunc], .other⟩) ∧
 (tiOf Try.prog 76 = some ⟨5, [.int .i64 0, .int .i64 0, .int .i64 0, .int .i64 0, .int .i64 0], .struct [(0, 1, false), (1, 1, false), (2, 1, false), (3, 1, false), (4, 1, false)]⟩) ∧
 (tiOf Try.prog 77 = some ⟨5, [.int .i64 0, .int .i64 0, .int .i64 0, .int .i64 0, .int .i64 0], .struct [(0, 1, false), (1, 1, false), (2, 1, false), (3, 1, false), (4, 1, false)]⟩) ∧
 (tiOf Try.prog 79 = some ⟨1, [.nilFunc], .other⟩) ∧
 (tiOf Try.prog 80 = some ⟨1, [.int .u32 0], .int .u32⟩) := by
 refine ⟨?_, ?_, ?_, ?_, ?_, ?_, ?_, ?_⟩ <;> kernel_rfl
theorem tA9 : (tiOf Try.prog 81 = some ⟨1, [.nilFunc], .other⟩) ∧
 (tiOf Try.prog 82 = some ⟨1, [.nilFunc], .other⟩) ∧
 (tiOf Try.prog 83 = some ⟨1, [.nilFunc], .other⟩) ∧
 (tiOf Try.prog 84 = some ⟨1, [.nilFunc], .other⟩) ∧
 (tiOf Try.prog 85 = some ⟨1, [.nilFunc], .other⟩) ∧
 (tiOf Try.prog 86 = some ⟨1, [.pointer none], .ptr⟩) ∧
 (tiOf Try.prog 87 = some ⟨1, [.slice none 0 0], .struct [(0, 1, false)]⟩) ∧
 (tiOf Try.prog 88 = some ⟨1, [.slice none 0 0], .struct [(0, 1, false)]⟩) := by
 refine ⟨?_, ?_, ?_, ?_, ?_, ?_, ?_, ?_⟩ <;> kernel_rfl
theorem tA10 : (tiOf Try.prog 89 = some ⟨1, [.nilFunc], .other⟩) ∧
 (tiOf Try.prog 90 = some ⟨1, [.nilFunc], .other⟩) ∧
 (tiOf Try.prog 91 = some ⟨1, [.nilFunc], .other⟩) ∧
 (tiOf Try.prog 92 = some ⟨1, [.nilFunc], .other⟩) ∧
 (tiOf Try.prog 93 = some ⟨1, [.nilFunc], .other⟩) ∧
 (tiOf Try.prog 95 = some ⟨1, [.pointer none], .ptr⟩) ∧
 (tiOf Try.prog 96 = some ⟨3, [.slice none 0 0, .int .i64 0, .bool false], .struct [(0, 1, false), (1, 1, false), (2, 1, false)]⟩) ∧
 (tiOf Try.prog 97 = some ⟨3, [.slice none 0 0, .int .i64 0, .bool false], .struct [(0, 1, false), (1, 1, false), (2, 1, false)]⟩) := by
 refine ⟨?_, ?_, ?_, ?_, ?_, ?_, ?_, ?_⟩ <;> kernel_rfl
theorem tA11 : (tiOf Try.prog 98 = some ⟨1, [.nilFunc], .other⟩) ∧
 (tiOf Try.prog 99 = some ⟨1, [.nilFunc], .other⟩) ∧
 (tiOf Try.prog 100 = some ⟨1, [.nilFunc], .other⟩) ∧
 (tiOf Try.prog 101 = some ⟨1, [.nilFunc], .other⟩) ∧
 (tiOf Try.prog 102 = some ⟨1, [.nilFunc], .other⟩) ∧
 (tiOf Try.prog 103 = some ⟨1, [.nilFunc], .other⟩) ∧
 (tiOf Try.prog 104 = some ⟨2, [.int .i64 0, .int .i64 0], .struct [(0, 1, false), (1, 1, false)]⟩) ∧
 (tiOf Try.prog 105 = some ⟨2, [.int .i64 0, .int .i64 0], .struct [(0, 1, false), (1, 1, false)]⟩) := by
 refine ⟨?_, ?_, ?_, ?_, ?_, ?_, ?_, ?_⟩ <;> kernel_rfl
theorem tA12 : (tiOf Try.prog 106 = some ⟨1, [.nilFunc], .other⟩) ∧
 (tiOf Try.prog 107 = some ⟨1, [.nilFunc], .other⟩) ∧
 (tiOf Try.prog 108 = some ⟨1, [.pointer none], .ptr⟩) ∧
 (tiOf Try.prog 109 = some ⟨1, [.nilFunc], .other⟩) ∧
 (tiOf Try.prog 110 = some ⟨1, [.slice none 0 0], .slice 105 2 16 [.int .i64 0, .int .i64 0]⟩) ∧
 (tiOf Try.prog 111 = some ⟨1, [.nilFunc], .other⟩) ∧
 (tiOf Try.prog 112 = some ⟨1, [.nilFunc], .other⟩) ∧
 (tiOf Try.prog 113 = some ⟨1, [.nilFunc], .other⟩) := by
 refine ⟨?_, ?_, ?_, ?_, ?_, ?_, ?_, ?_⟩ <;> kernel_rfl
theorem tA13 : (tiOf Try.prog 114 = some ⟨1, [.nilFunc], .other⟩) ∧
 (tiOf Try.prog 115 = some ⟨1, [.nilFunc], .other⟩) ∧
 (tiOf Try.prog 116 = some ⟨1, [.nilFunc], .other⟩) ∧
 (tiOf Try.prog 117 = some ⟨1, [.nilFunc], .other⟩) ∧
 (tiOf Try.prog 118 = some ⟨1, [.nilFunc], .other⟩) ∧
 (tiOf Try.prog 119 = some ⟨1, [.slice none 0 0], .slice 3 1 8 [.int .i64 0]⟩) ∧
 (tiOf Try.prog 120 = some ⟨3, [.int .i64 0, .int .i64 0, .int .i64 0], .array 3 1 false⟩) ∧
 (tiOf Try.prog 121 = some ⟨1, [.nilFunc], .other⟩) := by
 refine ⟨?_, ?_, ?_, ?_, ?_, ?_, ?_, ?_⟩ <;> kernel_rfl
theorem tA14 : (tiOf Try.prog 122 = some ⟨4, [.pointer none, .pointer none, .pointer none, .string .empty], .struct [(0, 1, false), (1, 1, false), (2, 1, false), (3, 1, false)]⟩) ∧
 (tiOf Try.prog 123 = some ⟨4, [.pointer none, .pointer none, .pointer none, .string .empty], .struct [(0, 1, false), (1, 1, false), (2, 1, false), (3, 1, false)]⟩) ∧
 (tiOf Try.prog 124 = some ⟨0, [], .array 0 1 false⟩) ∧
 (tiOf Try.prog 127 = some ⟨1, [.int .u8 0], .int .u8⟩) ∧
 (tiOf Try.prog 128 = some ⟨1, [.int .u8 0], .int .u8⟩) ∧
 (tiOf Try.prog 129 = some ⟨1, [.nilFunc], .other⟩) ∧
 (tiOf Try.prog 130 = some ⟨1, [.pointer none], .ptr⟩) ∧
 (tiOf Try.prog 131 = some ⟨1, [.int .i32 0], .int .i32⟩) := by
 refine ⟨?_, ?_, ?_, ?_, ?_, ?_, ?_, ?_⟩ <;> kernel_rfl
theorem tA15 : (tiOf Try.prog 132 = some ⟨1, [.int .i32 0], .int .i32⟩) ∧
 (tiOf Try.prog 133 = some ⟨11, [.int .u64 0, .int .u64 0, .int .u32 0, .int .u8 0, .int .u8 0, .int .u8 0, .int .u8 0, .nilFunc, .pointer none, .int .i32 0, .int .i32 0], .struct [(0, 1, false), (1, 1, false), (2, 1, false), (3, 1, false), (4, 1, false), (5, 1, false), (6, 1, false), (7, 1, false), (8, 1, false), (9, 1, false), (10, 1, false)]⟩) ∧
 (tiOf Try.prog 134 = some ⟨11, [.int .u64 0, .int .u64 0, .int .u32 0, .int .u8 0, .int .u8 0, .int .u8 0, .int .u8 0, .nilFunc, .pointer none, .int .i32 0, .int .i32 0], .struct [(0, 1, false), (1, 1, false), (2, 1, false), (3, 1, false), (4, 1, false), (5, 1, false), (6, 1, false), (7, 1, false), (8, 1, false), (9, 1, false), (10, 1, false)]⟩) ∧
 (tiOf Try.prog 135 = some ⟨1, [.pointer none], .other⟩) ∧
 (structInts Try.prog 46 9 = true) ∧
 (zeroOf Try.prog 32 = some (.int .i64 0)) := by
 refine ⟨?_, ?_, ?_, ?_, ?_, ?_⟩ <;> kernel_rfl
theorem oA0 : fnOk Try.prog 14 = true ∧
 fnOk Try.prog 15 = true ∧
 fnOk Try.prog 16 = true ∧
 fnOk Try.prog 17 = true ∧
 fnOk Try.prog 18 = true ∧
 fnOk Try.prog 19 = true ∧
 fnOk Try.prog 20 = true ∧
 fnOk Try.prog 21 = true := by
 refine ⟨?_, ?_, ?_, ?_, ?_, ?_, ?_, ?_⟩ <;> kernel_rfl
theorem oA1 : fnOk Try.prog 22 = true ∧
 fnOk Try.prog 23 = true ∧
 fnOk Try.prog 24 = true ∧
 fnOk Try.prog 25 = true ∧
 fnOk Try.prog 26 = true ∧
 fnOk Try.prog 27 = true ∧
 fnOk Try.prog 28 = true ∧
 fnOk Try.prog 29 = true := by
 refine ⟨?_, ?_, ?_, ?_, ?_, ?_, ?_, ?_⟩ <;> kernel_rfl
theorem oA2 : fnOk Try.prog 30 = true ∧
 fnOk Try.prog 31 = true ∧
 fnOk Try.prog 32 = true ∧
 fnOk Try.prog 33 = true ∧
 fnOk Try.prog 34 = true ∧
 fnOk Try.prog 35 = true ∧
 fnOk Try.prog 36 = true ∧
 fnOk Try.prog 37 = true := by
 refine ⟨?_, ?_, ?_, ?_, ?_, ?_, ?_, ?_⟩ <;> kernel_rfl
theorem oA3 : fnOk Try.prog 38 = true ∧
 fnOk Try.prog 39 = true ∧
 fnOk Try.prog 40 = true ∧
 fnOk Try.prog 41 = true ∧
 fnOk Try.prog 42 = true ∧
 fnOk Try.prog 43 = true ∧
 fnOk Try.prog 44 = true ∧
 fnOk Try.prog 45 = true := by
 refine ⟨?_, ?_, ?_, ?_, ?_, ?_, ?_, ?_⟩ <;> kernel_rfl
theorem oA4 : fnOk Try.prog 46 = true ∧
 fnOk Try.prog 47 = true ∧
 fnOk Try.prog 48 = true ∧
 fnOk Try.prog 49 = true ∧
 fnOk Try.prog 50 = true ∧
 fnOk Try.prog 51 = true ∧
 fnOk Try.prog 52 = true ∧
 fnOk Try.prog 55 = true := by
 refine ⟨?_, ?_, ?_, ?_, ?_, ?_, ?_, ?_⟩ <;> kernel_rfl
theorem oA5 : fnOk Try.prog 56 = true ∧
 fnOk Try.prog 57 = true ∧
 fnOk Try.prog 58 = true ∧
 fnOk Try.prog 59 = true ∧
 fnOk Try.prog 60 = true ∧
 fnOk Try.prog 61 = true ∧
 fnOk Try.prog 62 = true ∧
 fnOk Try.prog 63 = true := by
 refine ⟨?_, ?_, ?_, ?_, ?_, ?_, ?_, ?_⟩ <;> kernel_rfl
theorem oA6 : fnOk Try.prog 64 = true ∧
 fnOk Try.prog 65 = true ∧
 fnOk Try.prog 66 = true ∧
 fnOk Try.prog 67 = true ∧
 fnOk Try.prog 68 = true ∧
 fnOk Try.prog 69 = true ∧
 fnOk Try.prog 70 = true ∧
 fnOk Try.prog 71 = true := by
 refine ⟨?_, ?_, ?_, ?_, ?_, ?_, ?_, ?_⟩ <;> kernel_rfl
theorem oA7 : fnOk Try.prog 72 = true ∧
 fnOk Try.prog 73 = true ∧
 fnOk Try.prog 74 = true ∧
 fnOk Try.prog 75 = true ∧
 fnOk Try.prog 76 = true ∧
 fnOk Try.prog 77 = true ∧
 fnOk Try.prog 78 = true ∧
 fnOk Try.prog 79 = true := by
 refine ⟨?_, ?_, ?_, ?_, ?_, ?_, ?_, ?_⟩ <;> kernel_rfl
theorem oA8 : fnOk Try.prog 80 = true ∧
 fnOk Try.prog 81 = true ∧
 fnOk Try.prog 82 = true ∧
 fnOk Try.prog 83 = true ∧
 fnOk Try.prog 84 = true ∧
 fnOk Try.prog 85 = true ∧
 fnOk Try.prog 86 = true ∧
 fnOk Try.prog 87 = true := by
 refine ⟨?_, ?_, ?_, ?_, ?_, ?_, ?_, ?_⟩ <;> kernel_rfl
theorem oA9 : fnOk Try.prog 88 = true ∧
 fnOk Try.prog 89 = true ∧
 fnOk Try.prog 90 = true ∧
 fnOk Try.prog 91 = true ∧
 fnOk Try.prog 92 = true ∧
 fnOk Try.prog 93 = true ∧
 fnOk Try.prog 94 = true ∧
 fnOk Try.prog 95 = true := by
 refine ⟨?_, ?_, ?_, ?_, ?_, ?_, ?_, ?_⟩ <;> kernel_rfl
theorem oA10 : fnOk Try.prog 96 = true ∧
 fnOk Try.prog 97 = true ∧
 fnOk Try.prog 98 = true ∧
 fnOk Try.prog 99 = true ∧
 fnOk Try.prog 100 = true ∧
 fnOk Try.prog 101 = true ∧
 fnOk Try.prog 102 = true ∧
 fnOk Try.prog 103 = true := by
 refine ⟨?_, ?_, ?_, ?_, ?_, ?_, ?_, ?_⟩ <;> kernel_rfl
theorem oA11 : fnOk Try.prog 104 = true ∧
 fnOk Try.prog 105 = true ∧
 fnOk Try.prog 106 = true ∧
 fnOk Try.prog 107 = true ∧
 fnOk Try.prog 108 = true ∧
 fnOk Try.prog 109 = true ∧
 fnOk Try.prog 110 = true ∧
 fnOk Try.prog 111 = true := by
 refine ⟨?_, ?_, ?_, ?_, ?_, ?_, ?_, ?_⟩ <;> kernel_rfl
theorem oA12 : fnOk Try.prog 112 = true ∧
 fnOk Try.prog 113 = true ∧
 fnOk Try.prog 114 = true ∧
 fnOk Try.prog 115 = true ∧
 fnOk Try.prog 116 = true ∧
 fnOk Try.prog 117 = true ∧
 fnOk Try.prog 118 = true ∧
 fnOk Try.prog 119 = true := by
 refine ⟨?_, ?_, ?_, ?_, ?_, ?_, ?_, ?_⟩ <;> kernel_rfl
theorem oA13 : fnOk Try.prog 120 = true ∧
 fnOk Try.prog 121 = true ∧
 fnOk Try.prog 122 = true ∧
 fnOk Try.prog 123 = true ∧
 fnOk Try.prog 124 = true ∧
 fnOk Try.prog 125 = true ∧
 fnOk Try.prog 126 = true ∧
 fnOk Try.prog 127 = true := by
 refine ⟨?_, ?_, ?_, ?_, ?_, ?_, ?_, ?_⟩ <;> kernel_rfl
theorem oA14 : fnOk Try.prog 128 = true ∧
 fnOk Try.prog 129 = true ∧
 fnOk Try.prog 130 = true ∧
 fnOk Try.prog 131 = true := by
 refine ⟨?_, ?_, ?_, ?_⟩ <;> kernel_rfl
theorem ok90 : fnOk Try.prog 90 = true := by kernel_rfl
end Go.Proofs.Ytahepinbmcgbnaa.Vm
