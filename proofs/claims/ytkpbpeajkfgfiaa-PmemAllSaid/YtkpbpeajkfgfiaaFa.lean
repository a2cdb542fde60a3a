/- Facts on the types' tables. -/
import Derived.Test.YtkpbpeajkfgfiaaProg
import Derived.Test.YtkpbpeajkfgfiaaWa
set_option linter.unusedVariables false
set_option linter.unusedSimpArgs false
namespace Go.Proofs.Ytkpbpeajkfgfiaa
open Go Go.Wk
theorem bld_48_0_1 (x0 : Int) (x1 : Int) (w : World) : (Instr.build 48 #[(0, Value.int .i64 x0), (1, Value.int .u64 x1)]).run Try.prog w = .ok (.agg #[Value.int .i64 x0, Value.int .u64 x1, Value.slice none 0 0]) w := by kernel_rfl
theorem bld_48_0_1_2 (x0 : Int) (x1 : Int) (x2a : Option Addr) (x2n x2c : Nat) (w : World) : (Instr.build 48 #[(0, Value.int .i64 x0), (1, Value.int .u64 x1), (2, Value.slice x2a x2n x2c)]).run Try.prog w = .ok (.agg #[Value.int .i64 x0, Value.int .u64 x1, Value.slice x2a x2n x2c]) w := by kernel_rfl
theorem bld_80_0_1_2 (x0a : Option Addr) (x0n x0c : Nat) (x1a : Option Addr) (x1n x1c : Nat) (x2 : Int) (w : World) : (Instr.build 80 #[(0, Value.slice x0a x0n x0c), (1, Value.slice x1a x1n x1c), (2, Value.int .u8 x2)]).run Try.prog w = .ok (.agg #[Value.slice x0a x0n x0c, Value.slice x1a x1n x1c, Value.int .u8 x2]) w := by kernel_rfl
theorem bld_84_0_4 (x0a : Option Addr) (x0n x0c : Nat) (x4 : Int) (w : World) : (Instr.build 84 #[(0, Value.slice x0a x0n x0c), (4, Value.int .i64 x4)]).run Try.prog w = .ok (.agg #[Value.slice x0a x0n x0c, Value.slice none 0 0, Value.slice none 0 0, Value.slice none 0 0, Value.int .i64 x4]) w := by kernel_rfl
theorem bld_97_ (w : World) : (Instr.build 97 #[]).run Try.prog w = .ok (.agg #[Value.slice none 0 0, Value.int .i64 0]) w := by kernel_rfl
-- no build of 100 (0, 1)
theorem bld_126_ (w : World) : (Instr.build 126 #[]).run Try.prog w = .ok (.agg #[Value.pointer none, Value.pointer none, Value.pointer none, Value.pointer none, Value.pointer none, Value.pointer none]) w := by kernel_rfl
theorem bld_134_0_3 (x0a : Option Addr) (x0n x0c : Nat) (x3 : Int) (w : World) : (Instr.build 134 #[(0, Value.slice x0a x0n x0c), (3, Value.int .i64 x3)]).run Try.prog w = .ok (.agg #[Value.slice x0a x0n x0c, Value.int .i64 0, Value.int .i64 0, Value.int .i64 x3]) w := by kernel_rfl
theorem bld_158_0_1_2 (x0 : Int) (x1 : Int) (x2 : Int) (w : World) : (Instr.build 158 #[(0, Value.int .i64 x0), (1, Value.int .u64 x1), (2, Value.int .i64 x2)]).run Try.prog w = .ok (.agg #[Value.int .i64 x0, Value.int .u64 x1, Value.int .i64 x2]) w := by kernel_rfl
theorem fo_32_0 (b o : Nat) (w : World) : (Instr.fieldAt 32 (.pointer (some ⟨b, o, none⟩)) 0).run Try.prog w = .ok (.pointer (some ⟨b, o + 0, none⟩)) w := by kernel_rfl
theorem fo_32_1 (b o : Nat) (w : World) : (Instr.fieldAt 32 (.pointer (some ⟨b, o, none⟩)) 1).run Try.prog w = .ok (.pointer (some ⟨b, o + 1, none⟩)) w := by kernel_rfl
theorem fo_32_2 (b o : Nat) (w : World) : (Instr.fieldAt 32 (.pointer (some ⟨b, o, none⟩)) 2).run Try.prog w = .ok (.pointer (some ⟨b, o + 2, none⟩)) w := by kernel_rfl
theorem fo_48_0 (b o : Nat) (w : World) : (Instr.fieldAt 48 (.pointer (some ⟨b, o, none⟩)) 0).run Try.prog w = .ok (.pointer (some ⟨b, o + 0, none⟩)) w := by kernel_rfl
theorem fo_48_1 (b o : Nat) (w : World) : (Instr.fieldAt 48 (.pointer (some ⟨b, o, none⟩)) 1).run Try.prog w = .ok (.pointer (some ⟨b, o + 1, none⟩)) w := by kernel_rfl
theorem fo_48_2 (b o : Nat) (w : World) : (Instr.fieldAt 48 (.pointer (some ⟨b, o, none⟩)) 2).run Try.prog w = .ok (.pointer (some ⟨b, o + 2, none⟩)) w := by kernel_rfl
theorem fo_52_0 (b o : Nat) (w : World) : (Instr.fieldAt 52 (.pointer (some ⟨b, o, none⟩)) 0).run Try.prog w = .ok (.pointer (some ⟨b, o + 0, none⟩)) w := by kernel_rfl
theorem fo_52_1 (b o : Nat) (w : World) : (Instr.fieldAt 52 (.pointer (some ⟨b, o, none⟩)) 1).run Try.prog w = .ok (.pointer (some ⟨b, o + 1, none⟩)) w := by kernel_rfl
theorem fo_52_2 (b o : Nat) (w : World) : (Instr.fieldAt 52 (.pointer (some ⟨b, o, none⟩)) 2).run Try.prog w = .ok (.pointer (some ⟨b, o + 2, none⟩)) w := by kernel_rfl
theorem fo_52_3 (b o : Nat) (w : World) : (Instr.fieldAt 52 (.pointer (some ⟨b, o, none⟩)) 3).run Try.prog w = .ok (.pointer (some ⟨b, o + 3, none⟩)) w := by kernel_rfl
theorem fo_52_4 (b o : Nat) (w : World) : (Instr.fieldAt 52 (.pointer (some ⟨b, o, none⟩)) 4).run Try.prog w = .ok (.pointer (some ⟨b, o + 4, none⟩)) w := by kernel_rfl
theorem fo_52_5 (b o : Nat) (w : World) : (Instr.fieldAt 52 (.pointer (some ⟨b, o, none⟩)) 5).run Try.prog w = .ok (.pointer (some ⟨b, o + 5, none⟩)) w := by kernel_rfl
theorem fo_65_0 (b o : Nat) (w : World) : (Instr.fieldAt 65 (.pointer (some ⟨b, o, none⟩)) 0).run Try.prog w = .ok (.pointer (some ⟨b, o + 0, none⟩)) w := by kernel_rfl
theorem fo_65_1 (b o : Nat) (w : World) : (Instr.fieldAt 65 (.pointer (some ⟨b, o, none⟩)) 1).run Try.prog w = .ok (.pointer (some ⟨b, o + 1, none⟩)) w := by kernel_rfl
theorem fo_65_2 (b o : Nat) (w : World) : (Instr.fieldAt 65 (.pointer (some ⟨b, o, none⟩)) 2).run Try.prog w = .ok (.pointer (some ⟨b, o + 2, none⟩)) w := by kernel_rfl
theorem fo_65_3 (b o : Nat) (w : World) : (Instr.fieldAt 65 (.pointer (some ⟨b, o, none⟩)) 3).run Try.prog w = .ok (.pointer (some ⟨b, o + 3, none⟩)) w := by kernel_rfl
theorem fo_69_0 (b o : Nat) (w : World) : (Instr.fieldAt 69 (.pointer (some ⟨b, o, none⟩)) 0).run Try.prog w = .ok (.pointer (some ⟨b, o + 0, none⟩)) w := by kernel_rfl
theorem fo_69_1 (b o : Nat) (w : World) : (Instr.fieldAt 69 (.pointer (some ⟨b, o, none⟩)) 1).run Try.prog w = .ok (.pointer (some ⟨b, o + 1, none⟩)) w := by kernel_rfl
theorem fo_69_2 (b o : Nat) (w : World) : (Instr.fieldAt 69 (.pointer (some ⟨b, o, none⟩)) 2).run Try.prog w = .ok (.pointer (some ⟨b, o + 2, none⟩)) w := by kernel_rfl
theorem fo_69_3 (b o : Nat) (w : World) : (Instr.fieldAt 69 (.pointer (some ⟨b, o, none⟩)) 3).run Try.prog w = .ok (.pointer (some ⟨b, o + 3, none⟩)) w := by kernel_rfl
theorem fo_69_4 (b o : Nat) (w : World) : (Instr.fieldAt 69 (.pointer (some ⟨b, o, none⟩)) 4).run Try.prog w = .ok (.pointer (some ⟨b, o + 4, none⟩)) w := by kernel_rfl
theorem fo_69_5 (b o : Nat) (w : World) : (Instr.fieldAt 69 (.pointer (some ⟨b, o, none⟩)) 5).run Try.prog w = .ok (.pointer (some ⟨b, o + 5, none⟩)) w := by kernel_rfl
theorem fo_80_0 (b o : Nat) (w : World) : (Instr.fieldAt 80 (.pointer (some ⟨b, o, none⟩)) 0).run Try.prog w = .ok (.pointer (some ⟨b, o + 0, none⟩)) w := by kernel_rfl
theorem fo_80_1 (b o : Nat) (w : World) : (Instr.fieldAt 80 (.pointer (some ⟨b, o, none⟩)) 1).run Try.prog w = .ok (.pointer (some ⟨b, o + 1, none⟩)) w := by kernel_rfl
theorem fo_80_2 (b o : Nat) (w : World) : (Instr.fieldAt 80 (.pointer (some ⟨b, o, none⟩)) 2).run Try.prog w = .ok (.pointer (some ⟨b, o + 2, none⟩)) w := by kernel_rfl
theorem fo_84_0 (b o : Nat) (w : World) : (Instr.fieldAt 84 (.pointer (some ⟨b, o, none⟩)) 0).run Try.prog w = .ok (.pointer (some ⟨b, o + 0, none⟩)) w := by kernel_rfl
theorem fo_84_1 (b o : Nat) (w : World) : (Instr.fieldAt 84 (.pointer (some ⟨b, o, none⟩)) 1).run Try.prog w = .ok (.pointer (some ⟨b, o + 1, none⟩)) w := by kernel_rfl
theorem fo_84_2 (b o : Nat) (w : World) : (Instr.fieldAt 84 (.pointer (some ⟨b, o, none⟩)) 2).run Try.prog w = .ok (.pointer (some ⟨b, o + 2, none⟩)) w := by kernel_rfl
theorem fo_84_3 (b o : Nat) (w : World) : (Instr.fieldAt 84 (.pointer (some ⟨b, o, none⟩)) 3).run Try.prog w = .ok (.pointer (some ⟨b, o + 3, none⟩)) w := by kernel_rfl
theorem fo_84_4 (b o : Nat) (w : World) : (Instr.fieldAt 84 (.pointer (some ⟨b, o, none⟩)) 4).run Try.prog w = .ok (.pointer (some ⟨b, o + 4, none⟩)) w := by kernel_rfl
theorem fo_97_0 (b o : Nat) (w : World) : (Instr.fieldAt 97 (.pointer (some ⟨b, o, none⟩)) 0).run Try.prog w = .ok (.pointer (some ⟨b, o + 0, none⟩)) w := by kernel_rfl
theorem fo_97_1 (b o : Nat) (w : World) : (Instr.fieldAt 97 (.pointer (some ⟨b, o, none⟩)) 1).run Try.prog w = .ok (.pointer (some ⟨b, o + 1, none⟩)) w := by kernel_rfl
theorem fo_100_0 (b o : Nat) (w : World) : (Instr.fieldAt 100 (.pointer (some ⟨b, o, none⟩)) 0).run Try.prog w = .ok (.pointer (some ⟨b, o + 0, none⟩)) w := by kernel_rfl
theorem fo_100_1 (b o : Nat) (w : World) : (Instr.fieldAt 100 (.pointer (some ⟨b, o, none⟩)) 1).run Try.prog w = .ok (.pointer (some ⟨b, o + 1, none⟩)) w := by kernel_rfl
theorem fo_100_2 (b o : Nat) (w : World) : (Instr.fieldAt 100 (.pointer (some ⟨b, o, none⟩)) 2).run Try.prog w = .ok (.pointer (some ⟨b, o + 2, none⟩)) w := by kernel_rfl
theorem fo_100_3 (b o : Nat) (w : World) : (Instr.fieldAt 100 (.pointer (some ⟨b, o, none⟩)) 3).run Try.prog w = .ok (.pointer (some ⟨b, o + 3, none⟩)) w := by kernel_rfl
theorem fo_100_4 (b o : Nat) (w : World) : (Instr.fieldAt 100 (.pointer (some ⟨b, o, none⟩)) 4).run Try.prog w = .ok (.pointer (some ⟨b, o + 4, none⟩)) w := by kernel_rfl
theorem fo_118_0 (b o : Nat) (w : World) : (Instr.fieldAt 118 (.pointer (some ⟨b, o, none⟩)) 0).run Try.prog w = .ok (.pointer (some ⟨b, o + 0, none⟩)) w := by kernel_rfl
theorem fo_118_1 (b o : Nat) (w : World) : (Instr.fieldAt 118 (.pointer (some ⟨b, o, none⟩)) 1).run Try.prog w = .ok (.pointer (some ⟨b, o + 1, none⟩)) w := by kernel_rfl
theorem fo_118_2 (b o : Nat) (w : World) : (Instr.fieldAt 118 (.pointer (some ⟨b, o, none⟩)) 2).run Try.prog w = .ok (.pointer (some ⟨b, o + 2, none⟩)) w := by kernel_rfl
theorem fo_118_3 (b o : Nat) (w : World) : (Instr.fieldAt 118 (.pointer (some ⟨b, o, none⟩)) 3).run Try.prog w = .ok (.pointer (some ⟨b, o + 3, none⟩)) w := by kernel_rfl
theorem fo_118_4 (b o : Nat) (w : World) : (Instr.fieldAt 118 (.pointer (some ⟨b, o, none⟩)) 4).run Try.prog w = .ok (.pointer (some ⟨b, o + 4, none⟩)) w := by kernel_rfl
theorem fo_118_5 (b o : Nat) (w : World) : (Instr.fieldAt 118 (.pointer (some ⟨b, o, none⟩)) 5).run Try.prog w = .ok (.pointer (some ⟨b, o + 5, none⟩)) w := by kernel_rfl
theorem fo_118_6 (b o : Nat) (w : World) : (Instr.fieldAt 118 (.pointer (some ⟨b, o, none⟩)) 6).run Try.prog w = .ok (.pointer (some ⟨b, o + 6, none⟩)) w := by kernel_rfl
theorem fo_126_0 (b o : Nat) (w : World) : (Instr.fieldAt 126 (.pointer (some ⟨b, o, none⟩)) 0).run Try.prog w = .ok (.pointer (some ⟨b, o + 0, none⟩)) w := by kernel_rfl
theorem fo_126_1 (b o : Nat) (w : World) : (Instr.fieldAt 126 (.pointer (some ⟨b, o, none⟩)) 1).run Try.prog w = .ok (.pointer (some ⟨b, o + 3, none⟩)) w := by kernel_rfl
theorem fo_134_0 (b o : Nat) (w : World) : (Instr.fieldAt 134 (.pointer (some ⟨b, o, none⟩)) 0).run Try.prog w = .ok (.pointer (some ⟨b, o + 0, none⟩)) w := by kernel_rfl
theorem fo_134_1 (b o : Nat) (w : World) : (Instr.fieldAt 134 (.pointer (some ⟨b, o, none⟩)) 1).run Try.prog w = .ok (.pointer (some ⟨b, o + 1, none⟩)) w := by kernel_rfl
theorem fo_134_2 (b o : Nat) (w : World) : (Instr.fieldAt 134 (.pointer (some ⟨b, o, none⟩)) 2).run Try.prog w = .ok (.pointer (some ⟨b, o + 2, none⟩)) w := by kernel_rfl
theorem fo_134_3 (b o : Nat) (w : World) : (Instr.fieldAt 134 (.pointer (some ⟨b, o, none⟩)) 3).run Try.prog w = .ok (.pointer (some ⟨b, o + 3, none⟩)) w := by kernel_rfl
theorem fo_155_0 (b o : Nat) (w : World) : (Instr.fieldAt 155 (.pointer (some ⟨b, o, none⟩)) 0).run Try.prog w = .ok (.pointer (some ⟨b, o + 0, none⟩)) w := by kernel_rfl
theorem fo_155_1 (b o : Nat) (w : World) : (Instr.fieldAt 155 (.pointer (some ⟨b, o, none⟩)) 1).run Try.prog w = .ok (.pointer (some ⟨b, o + 8, none⟩)) w := by kernel_rfl
theorem fo_155_2 (b o : Nat) (w : World) : (Instr.fieldAt 155 (.pointer (some ⟨b, o, none⟩)) 2).run Try.prog w = .ok (.pointer (some ⟨b, o + 9, none⟩)) w := by kernel_rfl
theorem fo_158_0 (b o : Nat) (w : World) : (Instr.fieldAt 158 (.pointer (some ⟨b, o, none⟩)) 0).run Try.prog w = .ok (.pointer (some ⟨b, o + 0, none⟩)) w := by kernel_rfl
theorem fo_158_1 (b o : Nat) (w : World) : (Instr.fieldAt 158 (.pointer (some ⟨b, o, none⟩)) 1).run Try.prog w = .ok (.pointer (some ⟨b, o + 1, none⟩)) w := by kernel_rfl
theorem fo_158_2 (b o : Nat) (w : World) : (Instr.fieldAt 158 (.pointer (some ⟨b, o, none⟩)) 2).run Try.prog w = .ok (.pointer (some ⟨b, o + 2, none⟩)) w := by kernel_rfl
theorem info_3 : Try.prog.info? 3 = some Try.t3 := by kernel_rfl
theorem info_5 : Try.prog.info? 5 = some Try.t5 := by kernel_rfl
theorem info_30 : Try.prog.info? 30 = some Try.t30 := by kernel_rfl
theorem info_36 : Try.prog.info? 36 = some Try.t36 := by kernel_rfl
theorem info_48 : Try.prog.info? 48 = some Try.t48 := by kernel_rfl
theorem info_80 : Try.prog.info? 80 = some Try.t80 := by kernel_rfl
theorem info_84 : Try.prog.info? 84 = some Try.t84 := by kernel_rfl
theorem info_158 : Try.prog.info? 158 = some Try.t158 := by kernel_rfl
theorem bs_23_1 (x0 : Int) (w : World) : (Instr.buildSlice 23 1 #[(0, Value.int .i64 x0)]).run Try.prog w = .ok (.slice (some ⟨w.heap.size, 0, none⟩) 1 1) (w.alloc (.cells [Value.int .i64 x0].toArray 3)) := by kernel_rfl
theorem bs_23_3 (x0 : Int) (x1 : Int) (x2 : Int) (w : World) : (Instr.buildSlice 23 3 #[(0, Value.int .i64 x0), (1, Value.int .i64 x1), (2, Value.int .i64 x2)]).run Try.prog w = .ok (.slice (some ⟨w.heap.size, 0, none⟩) 3 3) (w.alloc (.cells [Value.int .i64 x0, Value.int .i64 x1, Value.int .i64 x2].toArray 3)) := by kernel_rfl
theorem bs_33_1 (x0 : Int) (w : World) : (Instr.buildSlice 33 1 #[(0, Value.int .u8 x0)]).run Try.prog w = .ok (.slice (some ⟨w.heap.size, 0, none⟩) 1 1) (w.alloc (.cells [Value.int .u8 x0].toArray 5)) := by kernel_rfl
theorem bs_36_1 (x0 : Int) (w : World) : (Instr.buildSlice 36 1 #[(0, Value.int .u64 x0)]).run Try.prog w = .ok (.slice (some ⟨w.heap.size, 0, none⟩) 1 1) (w.alloc (.cells [Value.int .u64 x0].toArray 30)) := by kernel_rfl
theorem bs_36_3 (x0 : Int) (x1 : Int) (x2 : Int) (w : World) : (Instr.buildSlice 36 3 #[(0, Value.int .u64 x0), (1, Value.int .u64 x1), (2, Value.int .u64 x2)]).run Try.prog w = .ok (.slice (some ⟨w.heap.size, 0, none⟩) 3 3) (w.alloc (.cells [Value.int .u64 x0, Value.int .u64 x1, Value.int .u64 x2].toArray 30)) := by kernel_rfl
theorem bs_43_1 (x0_0 : Int) (x0_1 : Int) (x0_2a : Option Addr) (x0_2n x0_2c : Nat) (w : World) : (Instr.buildSlice 43 1 #[(0, Value.agg #[Value.int .i64 x0_0, Value.int .u64 x0_1, Value.slice x0_2a x0_2n x0_2c])]).run Try.prog w = .ok (.slice (some ⟨w.heap.size, 0, none⟩) 1 1) (w.alloc (.cells [Value.int .i64 x0_0, Value.int .u64 x0_1, Value.slice x0_2a x0_2n x0_2c].toArray 48)) := by kernel_rfl
theorem bs_75_1 (x0_0a : Option Addr) (x0_0n x0_0c : Nat) (x0_1a : Option Addr) (x0_1n x0_1c : Nat) (x0_2 : Int) (w : World) : (Instr.buildSlice 75 1 #[(0, Value.agg #[Value.slice x0_0a x0_0n x0_0c, Value.slice x0_1a x0_1n x0_1c, Value.int .u8 x0_2])]).run Try.prog w = .ok (.slice (some ⟨w.heap.size, 0, none⟩) 1 1) (w.alloc (.cells [Value.slice x0_0a x0_0n x0_0c, Value.slice x0_1a x0_1n x0_1c, Value.int .u8 x0_2].toArray 80)) := by kernel_rfl
theorem bs_76_1 (x0_0a : Option Addr) (x0_0n x0_0c : Nat) (x0_1a : Option Addr) (x0_1n x0_1c : Nat) (x0_2a : Option Addr) (x0_2n x0_2c : Nat) (x0_3a : Option Addr) (x0_3n x0_3c : Nat) (x0_4 : Int) (w : World) : (Instr.buildSlice 76 1 #[(0, Value.agg #[Value.slice x0_0a x0_0n x0_0c, Value.slice x0_1a x0_1n x0_1c, Value.slice x0_2a x0_2n x0_2c, Value.slice x0_3a x0_3n x0_3c, Value.int .i64 x0_4])]).run Try.prog w = .ok (.slice (some ⟨w.heap.size, 0, none⟩) 1 1) (w.alloc (.cells [Value.slice x0_0a x0_0n x0_0c, Value.slice x0_1a x0_1n x0_1c, Value.slice x0_2a x0_2n x0_2c, Value.slice x0_3a x0_3n x0_3c, Value.int .i64 x0_4].toArray 84)) := by kernel_rfl
theorem bs_82_1 (x0a : Option Addr) (x0n x0c : Nat) (w : World) : (Instr.buildSlice 82 1 #[(0, Value.slice x0a x0n x0c)]).run Try.prog w = .ok (.slice (some ⟨w.heap.size, 0, none⟩) 1 1) (w.alloc (.cells [Value.slice x0a x0n x0c].toArray 36)) := by kernel_rfl
theorem bs_153_1 (x0_0 : Int) (x0_1 : Int) (x0_2 : Int) (w : World) : (Instr.buildSlice 153 1 #[(0, Value.agg #[Value.int .i64 x0_0, Value.int .u64 x0_1, Value.int .i64 x0_2])]).run Try.prog w = .ok (.slice (some ⟨w.heap.size, 0, none⟩) 1 1) (w.alloc (.cells [Value.int .i64 x0_0, Value.int .u64 x0_1, Value.int .i64 x0_2].toArray 158)) := by kernel_rfl
theorem zero_110 (w : World) : (zeroValue 110).run Try.prog w = .ok (.agg (List.replicate 8 (Value.int .u8 0)).toArray) w := by kernel_rfl
theorem zc_110 : (Value.agg (List.replicate 8 (Value.int .u8 0)).toArray).cells = (List.replicate 8 (Value.int .u8 0)).toArray := rfl
end Go.Proofs.Ytkpbpeajkfgfiaa
