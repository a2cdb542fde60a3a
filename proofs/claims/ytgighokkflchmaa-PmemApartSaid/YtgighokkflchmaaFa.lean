/- Facts on the types' tables. -/
import Derived.Test.YtgighokkflchmaaProg
import Derived.Test.YtgighokkflchmaaWa
set_option linter.unusedVariables false
set_option linter.unusedSimpArgs false
namespace Go.Proofs.Ytgighokkflchmaa
open Go Go.Wk
theorem bld_42_0_1_2 (x0a : Option Addr) (x0n x0c : Nat) (x1a : Option Addr) (x1n x1c : Nat) (x2 : Int) (w : World) : (Instr.build 42 #[(0, Value.slice x0a x0n x0c), (1, Value.slice x1a x1n x1c), (2, Value.int .u8 x2)]).run Try.prog w = .ok (.agg #[Value.slice x0a x0n x0c, Value.slice x1a x1n x1c, Value.int .u8 x2]) w := by kernel_rfl
theorem bld_47_0_4 (x0a : Option Addr) (x0n x0c : Nat) (x4 : Int) (w : World) : (Instr.build 47 #[(0, Value.slice x0a x0n x0c), (4, Value.int .i64 x4)]).run Try.prog w = .ok (.agg #[Value.slice x0a x0n x0c, Value.slice none 0 0, Value.slice none 0 0, Value.slice none 0 0, Value.int .i64 x4]) w := by kernel_rfl
theorem bld_68_ (w : World) : (Instr.build 68 #[]).run Try.prog w = .ok (.agg #[Value.slice none 0 0, Value.int .i64 0]) w := by kernel_rfl
-- no build of 71 (0, 1)
theorem bld_74_0_1 (x0 : Int) (x1 : Int) (w : World) : (Instr.build 74 #[(0, Value.int .i64 x0), (1, Value.int .u64 x1)]).run Try.prog w = .ok (.agg #[Value.int .i64 x0, Value.int .u64 x1, Value.slice none 0 0]) w := by kernel_rfl
theorem bld_74_0_1_2 (x0 : Int) (x1 : Int) (x2a : Option Addr) (x2n x2c : Nat) (w : World) : (Instr.build 74 #[(0, Value.int .i64 x0), (1, Value.int .u64 x1), (2, Value.slice x2a x2n x2c)]).run Try.prog w = .ok (.agg #[Value.int .i64 x0, Value.int .u64 x1, Value.slice x2a x2n x2c]) w := by kernel_rfl
theorem fo_34_0 (b o : Nat) (w : World) : (Instr.fieldAt 34 (.pointer (some ⟨b, o, none⟩)) 0).run Try.prog w = .ok (.pointer (some ⟨b, o + 0, none⟩)) w := by kernel_rfl
theorem fo_34_1 (b o : Nat) (w : World) : (Instr.fieldAt 34 (.pointer (some ⟨b, o, none⟩)) 1).run Try.prog w = .ok (.pointer (some ⟨b, o + 1, none⟩)) w := by kernel_rfl
theorem fo_34_2 (b o : Nat) (w : World) : (Instr.fieldAt 34 (.pointer (some ⟨b, o, none⟩)) 2).run Try.prog w = .ok (.pointer (some ⟨b, o + 2, none⟩)) w := by kernel_rfl
theorem fo_42_0 (b o : Nat) (w : World) : (Instr.fieldAt 42 (.pointer (some ⟨b, o, none⟩)) 0).run Try.prog w = .ok (.pointer (some ⟨b, o + 0, none⟩)) w := by kernel_rfl
theorem fo_42_1 (b o : Nat) (w : World) : (Instr.fieldAt 42 (.pointer (some ⟨b, o, none⟩)) 1).run Try.prog w = .ok (.pointer (some ⟨b, o + 1, none⟩)) w := by kernel_rfl
theorem fo_42_2 (b o : Nat) (w : World) : (Instr.fieldAt 42 (.pointer (some ⟨b, o, none⟩)) 2).run Try.prog w = .ok (.pointer (some ⟨b, o + 2, none⟩)) w := by kernel_rfl
theorem fo_47_0 (b o : Nat) (w : World) : (Instr.fieldAt 47 (.pointer (some ⟨b, o, none⟩)) 0).run Try.prog w = .ok (.pointer (some ⟨b, o + 0, none⟩)) w := by kernel_rfl
theorem fo_47_1 (b o : Nat) (w : World) : (Instr.fieldAt 47 (.pointer (some ⟨b, o, none⟩)) 1).run Try.prog w = .ok (.pointer (some ⟨b, o + 1, none⟩)) w := by kernel_rfl
theorem fo_47_2 (b o : Nat) (w : World) : (Instr.fieldAt 47 (.pointer (some ⟨b, o, none⟩)) 2).run Try.prog w = .ok (.pointer (some ⟨b, o + 2, none⟩)) w := by kernel_rfl
theorem fo_47_3 (b o : Nat) (w : World) : (Instr.fieldAt 47 (.pointer (some ⟨b, o, none⟩)) 3).run Try.prog w = .ok (.pointer (some ⟨b, o + 3, none⟩)) w := by kernel_rfl
theorem fo_47_4 (b o : Nat) (w : World) : (Instr.fieldAt 47 (.pointer (some ⟨b, o, none⟩)) 4).run Try.prog w = .ok (.pointer (some ⟨b, o + 4, none⟩)) w := by kernel_rfl
theorem fo_68_0 (b o : Nat) (w : World) : (Instr.fieldAt 68 (.pointer (some ⟨b, o, none⟩)) 0).run Try.prog w = .ok (.pointer (some ⟨b, o + 0, none⟩)) w := by kernel_rfl
theorem fo_68_1 (b o : Nat) (w : World) : (Instr.fieldAt 68 (.pointer (some ⟨b, o, none⟩)) 1).run Try.prog w = .ok (.pointer (some ⟨b, o + 1, none⟩)) w := by kernel_rfl
theorem fo_71_0 (b o : Nat) (w : World) : (Instr.fieldAt 71 (.pointer (some ⟨b, o, none⟩)) 0).run Try.prog w = .ok (.pointer (some ⟨b, o + 0, none⟩)) w := by kernel_rfl
theorem fo_71_1 (b o : Nat) (w : World) : (Instr.fieldAt 71 (.pointer (some ⟨b, o, none⟩)) 1).run Try.prog w = .ok (.pointer (some ⟨b, o + 1, none⟩)) w := by kernel_rfl
theorem fo_71_2 (b o : Nat) (w : World) : (Instr.fieldAt 71 (.pointer (some ⟨b, o, none⟩)) 2).run Try.prog w = .ok (.pointer (some ⟨b, o + 2, none⟩)) w := by kernel_rfl
theorem fo_71_3 (b o : Nat) (w : World) : (Instr.fieldAt 71 (.pointer (some ⟨b, o, none⟩)) 3).run Try.prog w = .ok (.pointer (some ⟨b, o + 3, none⟩)) w := by kernel_rfl
theorem fo_71_4 (b o : Nat) (w : World) : (Instr.fieldAt 71 (.pointer (some ⟨b, o, none⟩)) 4).run Try.prog w = .ok (.pointer (some ⟨b, o + 4, none⟩)) w := by kernel_rfl
theorem fo_74_0 (b o : Nat) (w : World) : (Instr.fieldAt 74 (.pointer (some ⟨b, o, none⟩)) 0).run Try.prog w = .ok (.pointer (some ⟨b, o + 0, none⟩)) w := by kernel_rfl
theorem fo_74_1 (b o : Nat) (w : World) : (Instr.fieldAt 74 (.pointer (some ⟨b, o, none⟩)) 1).run Try.prog w = .ok (.pointer (some ⟨b, o + 1, none⟩)) w := by kernel_rfl
theorem fo_74_2 (b o : Nat) (w : World) : (Instr.fieldAt 74 (.pointer (some ⟨b, o, none⟩)) 2).run Try.prog w = .ok (.pointer (some ⟨b, o + 2, none⟩)) w := by kernel_rfl
theorem info_3 : Try.prog.info? 3 = some Try.t3 := by kernel_rfl
theorem info_5 : Try.prog.info? 5 = some Try.t5 := by kernel_rfl
theorem info_32 : Try.prog.info? 32 = some Try.t32 := by kernel_rfl
theorem info_42 : Try.prog.info? 42 = some Try.t42 := by kernel_rfl
theorem info_47 : Try.prog.info? 47 = some Try.t47 := by kernel_rfl
theorem info_66 : Try.prog.info? 66 = some Try.t66 := by kernel_rfl
theorem info_74 : Try.prog.info? 74 = some Try.t74 := by kernel_rfl
theorem bs_23_1 (x0 : Int) (w : World) : (Instr.buildSlice 23 1 #[(0, Value.int .i64 x0)]).run Try.prog w = .ok (.slice (some ⟨w.heap.size, 0, none⟩) 1 1) (w.alloc (.cells [Value.int .i64 x0].toArray 3)) := by kernel_rfl
theorem bs_23_3 (x0 : Int) (x1 : Int) (x2 : Int) (w : World) : (Instr.buildSlice 23 3 #[(0, Value.int .i64 x0), (1, Value.int .i64 x1), (2, Value.int .i64 x2)]).run Try.prog w = .ok (.slice (some ⟨w.heap.size, 0, none⟩) 3 3) (w.alloc (.cells [Value.int .i64 x0, Value.int .i64 x1, Value.int .i64 x2].toArray 3)) := by kernel_rfl
theorem bs_28_1 (x0_0a : Option Addr) (x0_0n x0_0c : Nat) (x0_1a : Option Addr) (x0_1n x0_1c : Nat) (x0_2 : Int) (w : World) : (Instr.buildSlice 28 1 #[(0, Value.agg #[Value.slice x0_0a x0_0n x0_0c, Value.slice x0_1a x0_1n x0_1c, Value.int .u8 x0_2])]).run Try.prog w = .ok (.slice (some ⟨w.heap.size, 0, none⟩) 1 1) (w.alloc (.cells [Value.slice x0_0a x0_0n x0_0c, Value.slice x0_1a x0_1n x0_1c, Value.int .u8 x0_2].toArray 42)) := by kernel_rfl
theorem bs_29_1 (x0_0a : Option Addr) (x0_0n x0_0c : Nat) (x0_1a : Option Addr) (x0_1n x0_1c : Nat) (x0_2a : Option Addr) (x0_2n x0_2c : Nat) (x0_3a : Option Addr) (x0_3n x0_3c : Nat) (x0_4 : Int) (w : World) : (Instr.buildSlice 29 1 #[(0, Value.agg #[Value.slice x0_0a x0_0n x0_0c, Value.slice x0_1a x0_1n x0_1c, Value.slice x0_2a x0_2n x0_2c, Value.slice x0_3a x0_3n x0_3c, Value.int .i64 x0_4])]).run Try.prog w = .ok (.slice (some ⟨w.heap.size, 0, none⟩) 1 1) (w.alloc (.cells [Value.slice x0_0a x0_0n x0_0c, Value.slice x0_1a x0_1n x0_1c, Value.slice x0_2a x0_2n x0_2c, Value.slice x0_3a x0_3n x0_3c, Value.int .i64 x0_4].toArray 47)) := by kernel_rfl
theorem bs_36_1 (x0 : Int) (w : World) : (Instr.buildSlice 36 1 #[(0, Value.int .u8 x0)]).run Try.prog w = .ok (.slice (some ⟨w.heap.size, 0, none⟩) 1 1) (w.alloc (.cells [Value.int .u8 x0].toArray 5)) := by kernel_rfl
theorem bs_44_1 (x0_0 : Int) (x0_1 : Int) (x0_2a : Option Addr) (x0_2n x0_2c : Nat) (w : World) : (Instr.buildSlice 44 1 #[(0, Value.agg #[Value.int .i64 x0_0, Value.int .u64 x0_1, Value.slice x0_2a x0_2n x0_2c])]).run Try.prog w = .ok (.slice (some ⟨w.heap.size, 0, none⟩) 1 1) (w.alloc (.cells [Value.int .i64 x0_0, Value.int .u64 x0_1, Value.slice x0_2a x0_2n x0_2c].toArray 74)) := by kernel_rfl
theorem bs_45_1 (x0a : Option Addr) (x0n x0c : Nat) (w : World) : (Instr.buildSlice 45 1 #[(0, Value.slice x0a x0n x0c)]).run Try.prog w = .ok (.slice (some ⟨w.heap.size, 0, none⟩) 1 1) (w.alloc (.cells [Value.slice x0a x0n x0c].toArray 66)) := by kernel_rfl
theorem bs_66_1 (x0 : Int) (w : World) : (Instr.buildSlice 66 1 #[(0, Value.int .u64 x0)]).run Try.prog w = .ok (.slice (some ⟨w.heap.size, 0, none⟩) 1 1) (w.alloc (.cells [Value.int .u64 x0].toArray 32)) := by kernel_rfl
theorem bs_66_3 (x0 : Int) (x1 : Int) (x2 : Int) (w : World) : (Instr.buildSlice 66 3 #[(0, Value.int .u64 x0), (1, Value.int .u64 x1), (2, Value.int .u64 x2)]).run Try.prog w = .ok (.slice (some ⟨w.heap.size, 0, none⟩) 3 3) (w.alloc (.cells [Value.int .u64 x0, Value.int .u64 x1, Value.int .u64 x2].toArray 32)) := by kernel_rfl
theorem zero_61 (w : World) : (zeroValue 61).run Try.prog w = .ok (.agg (List.replicate 8 (Value.int .u8 0)).toArray) w := by kernel_rfl
theorem zc_61 : (Value.agg (List.replicate 8 (Value.int .u8 0)).toArray).cells = (List.replicate 8 (Value.int .u8 0)).toArray := rfl
end Go.Proofs.Ytgighokkflchmaa
