/- Facts on the types' tables. -/
import Derived.Test.YtoiebgnmknbkjaaDoorProg
import Derived.Test.YtoiebgnmknbkjaaDoorWa
set_option linter.unusedVariables false
set_option linter.unusedSimpArgs false
namespace Go.Proofs.YtoiebgnmknbkjaaDoor
open Go Go.Wk
theorem bld_23_ (w : World) : (Instr.build 23 #[]).run Tryd.prog w = .ok (.agg #[Value.int .i64 0, Value.int .i64 0, Value.int .i64 0]) w := by kernel_rfl
theorem bld_23_0_1_2 (x0 : Int) (x1 : Int) (x2 : Int) (w : World) : (Instr.build 23 #[(0, Value.int .i64 x0), (1, Value.int .i64 x1), (2, Value.int .i64 x2)]).run Tryd.prog w = .ok (.agg #[Value.int .i64 x0, Value.int .i64 x1, Value.int .i64 x2]) w := by kernel_rfl
theorem bld_23_1_2 (x1 : Int) (x2 : Int) (w : World) : (Instr.build 23 #[(1, Value.int .i64 x1), (2, Value.int .i64 x2)]).run Tryd.prog w = .ok (.agg #[Value.int .i64 0, Value.int .i64 x1, Value.int .i64 x2]) w := by kernel_rfl
theorem bld_25_ (w : World) : (Instr.build 25 #[]).run Tryd.prog w = .ok (.agg #[Value.int .i64 0, Value.int .i64 0, Value.int .i64 0, Value.int .i64 0]) w := by kernel_rfl
theorem bld_25_0_1_2_3 (x0 : Int) (x1 : Int) (x2 : Int) (x3 : Int) (w : World) : (Instr.build 25 #[(0, Value.int .i64 x0), (1, Value.int .i64 x1), (2, Value.int .i64 x2), (3, Value.int .i64 x3)]).run Tryd.prog w = .ok (.agg #[Value.int .i64 x0, Value.int .i64 x1, Value.int .i64 x2, Value.int .i64 x3]) w := by kernel_rfl
theorem bld_30_ (w : World) : (Instr.build 30 #[]).run Tryd.prog w = .ok (.agg (List.replicate 64 (Value.int .u8 0)).toArray) w := by kernel_rfl
theorem bld_39_ (w : World) : (Instr.build 39 #[]).run Tryd.prog w = .ok (.agg #[Value.int .i64 0, Value.int .i64 0]) w := by kernel_rfl
theorem bld_39_0_1 (x0 : Int) (x1 : Int) (w : World) : (Instr.build 39 #[(0, Value.int .i64 x0), (1, Value.int .i64 x1)]).run Tryd.prog w = .ok (.agg #[Value.int .i64 x0, Value.int .i64 x1]) w := by kernel_rfl
theorem bld_39_1 (x1 : Int) (w : World) : (Instr.build 39 #[(1, Value.int .i64 x1)]).run Tryd.prog w = .ok (.agg #[Value.int .i64 0, Value.int .i64 x1]) w := by kernel_rfl
theorem bld_41_ (w : World) : (Instr.build 41 #[]).run Tryd.prog w = .ok (.agg #[Value.int .u64 0, Value.int .u64 0]) w := by kernel_rfl
theorem bld_41_0_1 (x0 : Int) (x1 : Int) (w : World) : (Instr.build 41 #[(0, Value.int .u64 x0), (1, Value.int .u64 x1)]).run Tryd.prog w = .ok (.agg #[Value.int .u64 x0, Value.int .u64 x1]) w := by kernel_rfl
theorem bld_59_0_1_2 (x0 : Int) (x1 : Int) (x2 : Int) (w : World) : (Instr.build 59 #[(0, Value.int .i64 x0), (1, Value.int .i64 x1), (2, Value.int .i64 x2)]).run Tryd.prog w = .ok (.agg #[Value.int .i64 x0, Value.int .i64 x1, Value.int .i64 x2]) w := by kernel_rfl
theorem bld_65_ (w : World) : (Instr.build 65 #[]).run Tryd.prog w = .ok (.agg #[Value.int .i64 0, Value.int .i64 0, Value.int .i64 0, Value.int .i64 0]) w := by kernel_rfl
theorem bld_65_0 (x0 : Int) (w : World) : (Instr.build 65 #[(0, Value.int .i64 x0)]).run Tryd.prog w = .ok (.agg #[Value.int .i64 x0, Value.int .i64 0, Value.int .i64 0, Value.int .i64 0]) w := by kernel_rfl
theorem bld_65_0_1 (x0 : Int) (x1 : Int) (w : World) : (Instr.build 65 #[(0, Value.int .i64 x0), (1, Value.int .i64 x1)]).run Tryd.prog w = .ok (.agg #[Value.int .i64 x0, Value.int .i64 x1, Value.int .i64 0, Value.int .i64 0]) w := by kernel_rfl
theorem bld_65_0_1_2_3 (x0 : Int) (x1 : Int) (x2 : Int) (x3 : Int) (w : World) : (Instr.build 65 #[(0, Value.int .i64 x0), (1, Value.int .i64 x1), (2, Value.int .i64 x2), (3, Value.int .i64 x3)]).run Tryd.prog w = .ok (.agg #[Value.int .i64 x0, Value.int .i64 x1, Value.int .i64 x2, Value.int .i64 x3]) w := by kernel_rfl
theorem bld_65_0_1_3 (x0 : Int) (x1 : Int) (x3 : Int) (w : World) : (Instr.build 65 #[(0, Value.int .i64 x0), (1, Value.int .i64 x1), (3, Value.int .i64 x3)]).run Tryd.prog w = .ok (.agg #[Value.int .i64 x0, Value.int .i64 x1, Value.int .i64 0, Value.int .i64 x3]) w := by kernel_rfl
theorem bld_66_ (w : World) : (Instr.build 66 #[]).run Tryd.prog w = .ok (.agg #[Value.int .u64 0, Value.int .u64 0, Value.int .u64 0]) w := by kernel_rfl
theorem bld_74_ (w : World) : (Instr.build 74 #[]).run Tryd.prog w = .ok (.agg #[Value.int .u32 0, Value.slice none 0 0]) w := by kernel_rfl
theorem bld_74_0 (x0 : Int) (w : World) : (Instr.build 74 #[(0, Value.int .u32 x0)]).run Tryd.prog w = .ok (.agg #[Value.int .u32 x0, Value.slice none 0 0]) w := by kernel_rfl
theorem bld_74_0_1 (x0 : Int) (x1a : Option Addr) (x1n x1c : Nat) (w : World) : (Instr.build 74 #[(0, Value.int .u32 x0), (1, Value.slice x1a x1n x1c)]).run Tryd.prog w = .ok (.agg #[Value.int .u32 x0, Value.slice x1a x1n x1c]) w := by kernel_rfl
theorem bld_88_0_1 (x0 : Int) (x1 : Int) (w : World) : (Instr.build 88 #[(0, Value.int .i64 x0), (1, Value.int .i64 x1)]).run Tryd.prog w = .ok (.agg #[Value.int .i64 x0, Value.int .i64 x1]) w := by kernel_rfl
theorem bld_92_ (w : World) : (Instr.build 92 #[]).run Tryd.prog w = .ok (.agg #[Value.int .i64 0, Value.int .u64 0, Value.int .i64 0, Value.int .i64 0, Value.int .i64 0, Value.int .i64 0, Value.int .i64 0, Value.string ⟨#[]⟩]) w := by kernel_rfl
theorem bld_92_0 (x0 : Int) (w : World) : (Instr.build 92 #[(0, Value.int .i64 x0)]).run Tryd.prog w = .ok (.agg #[Value.int .i64 x0, Value.int .u64 0, Value.int .i64 0, Value.int .i64 0, Value.int .i64 0, Value.int .i64 0, Value.int .i64 0, Value.string ⟨#[]⟩]) w := by kernel_rfl
theorem bld_92_0_1 (x0 : Int) (x1 : Int) (w : World) : (Instr.build 92 #[(0, Value.int .i64 x0), (1, Value.int .u64 x1)]).run Tryd.prog w = .ok (.agg #[Value.int .i64 x0, Value.int .u64 x1, Value.int .i64 0, Value.int .i64 0, Value.int .i64 0, Value.int .i64 0, Value.int .i64 0, Value.string ⟨#[]⟩]) w := by kernel_rfl
theorem bld_111_0 (x0 : Int) (w : World) : (Instr.build 111 #[(0, Value.int .i64 x0)]).run Tryd.prog w = .ok (.agg #[Value.int .i64 x0, Value.int .u64 0]) w := by kernel_rfl
theorem bld_111_0_1 (x0 : Int) (x1 : Int) (w : World) : (Instr.build 111 #[(0, Value.int .i64 x0), (1, Value.int .u64 x1)]).run Tryd.prog w = .ok (.agg #[Value.int .i64 x0, Value.int .u64 x1]) w := by kernel_rfl
theorem bld_122_0_1 (x0 : Int) (x1 : Int) (w : World) : (Instr.build 122 #[(0, Value.int .i64 x0), (1, Value.int .u64 x1)]).run Tryd.prog w = .ok (.agg #[Value.int .i64 x0, Value.int .u64 x1]) w := by kernel_rfl
theorem bld_127_ (w : World) : (Instr.build 127 #[]).run Tryd.prog w = .ok (.agg (List.replicate 64 (Value.int .u8 0) ++ [Value.int .i64 0]).toArray) w := by kernel_rfl
theorem bld_139_0 (x0a : Option Addr) (x0n x0c : Nat) (w : World) : (Instr.build 139 #[(0, Value.slice x0a x0n x0c)]).run Tryd.prog w = .ok (.agg #[Value.slice x0a x0n x0c, Value.int .i64 0]) w := by kernel_rfl
theorem bld_175_0_1_2 (x0 : Bool) (x1 : Bool) (x2 : Bool) (w : World) : (Instr.build 175 #[(0, Value.bool x0), (1, Value.bool x1), (2, Value.bool x2)]).run Tryd.prog w = .ok (.agg #[Value.bool x0, Value.bool x1, Value.bool x2]) w := by kernel_rfl
theorem bld_178_0 (x0 : Int) (w : World) : (Instr.build 178 #[(0, Value.int .i64 x0)]).run Tryd.prog w = .ok (.agg #[Value.int .i64 x0]) w := by kernel_rfl
theorem fo_23_0 (b o : Nat) (w : World) : (Instr.fieldAt 23 (.pointer (some ⟨b, o, none⟩)) 0).run Tryd.prog w = .ok (.pointer (some ⟨b, o + 0, none⟩)) w := by kernel_rfl
theorem fo_23_1 (b o : Nat) (w : World) : (Instr.fieldAt 23 (.pointer (some ⟨b, o, none⟩)) 1).run Tryd.prog w = .ok (.pointer (some ⟨b, o + 1, none⟩)) w := by kernel_rfl
theorem fo_23_2 (b o : Nat) (w : World) : (Instr.fieldAt 23 (.pointer (some ⟨b, o, none⟩)) 2).run Tryd.prog w = .ok (.pointer (some ⟨b, o + 2, none⟩)) w := by kernel_rfl
theorem fo_39_0 (b o : Nat) (w : World) : (Instr.fieldAt 39 (.pointer (some ⟨b, o, none⟩)) 0).run Tryd.prog w = .ok (.pointer (some ⟨b, o + 0, none⟩)) w := by kernel_rfl
theorem fo_39_1 (b o : Nat) (w : World) : (Instr.fieldAt 39 (.pointer (some ⟨b, o, none⟩)) 1).run Tryd.prog w = .ok (.pointer (some ⟨b, o + 1, none⟩)) w := by kernel_rfl
theorem fo_50_0 (b o : Nat) (w : World) : (Instr.fieldAt 50 (.pointer (some ⟨b, o, none⟩)) 0).run Tryd.prog w = .ok (.pointer (some ⟨b, o + 0, none⟩)) w := by kernel_rfl
theorem fo_50_1 (b o : Nat) (w : World) : (Instr.fieldAt 50 (.pointer (some ⟨b, o, none⟩)) 1).run Tryd.prog w = .ok (.pointer (some ⟨b, o + 1, none⟩)) w := by kernel_rfl
theorem fo_65_0 (b o : Nat) (w : World) : (Instr.fieldAt 65 (.pointer (some ⟨b, o, none⟩)) 0).run Tryd.prog w = .ok (.pointer (some ⟨b, o + 0, none⟩)) w := by kernel_rfl
theorem fo_65_1 (b o : Nat) (w : World) : (Instr.fieldAt 65 (.pointer (some ⟨b, o, none⟩)) 1).run Tryd.prog w = .ok (.pointer (some ⟨b, o + 1, none⟩)) w := by kernel_rfl
theorem fo_65_2 (b o : Nat) (w : World) : (Instr.fieldAt 65 (.pointer (some ⟨b, o, none⟩)) 2).run Tryd.prog w = .ok (.pointer (some ⟨b, o + 2, none⟩)) w := by kernel_rfl
theorem fo_65_3 (b o : Nat) (w : World) : (Instr.fieldAt 65 (.pointer (some ⟨b, o, none⟩)) 3).run Tryd.prog w = .ok (.pointer (some ⟨b, o + 3, none⟩)) w := by kernel_rfl
theorem fo_74_0 (b o : Nat) (w : World) : (Instr.fieldAt 74 (.pointer (some ⟨b, o, none⟩)) 0).run Tryd.prog w = .ok (.pointer (some ⟨b, o + 0, none⟩)) w := by kernel_rfl
theorem fo_74_1 (b o : Nat) (w : World) : (Instr.fieldAt 74 (.pointer (some ⟨b, o, none⟩)) 1).run Tryd.prog w = .ok (.pointer (some ⟨b, o + 1, none⟩)) w := by kernel_rfl
theorem fo_83_0 (b o : Nat) (w : World) : (Instr.fieldAt 83 (.pointer (some ⟨b, o, none⟩)) 0).run Tryd.prog w = .ok (.pointer (some ⟨b, o + 0, none⟩)) w := by kernel_rfl
theorem fo_83_1 (b o : Nat) (w : World) : (Instr.fieldAt 83 (.pointer (some ⟨b, o, none⟩)) 1).run Tryd.prog w = .ok (.pointer (some ⟨b, o + 1, none⟩)) w := by kernel_rfl
theorem fo_83_2 (b o : Nat) (w : World) : (Instr.fieldAt 83 (.pointer (some ⟨b, o, none⟩)) 2).run Tryd.prog w = .ok (.pointer (some ⟨b, o + 2, none⟩)) w := by kernel_rfl
theorem fo_83_3 (b o : Nat) (w : World) : (Instr.fieldAt 83 (.pointer (some ⟨b, o, none⟩)) 3).run Tryd.prog w = .ok (.pointer (some ⟨b, o + 3, none⟩)) w := by kernel_rfl
theorem fo_83_4 (b o : Nat) (w : World) : (Instr.fieldAt 83 (.pointer (some ⟨b, o, none⟩)) 4).run Tryd.prog w = .ok (.pointer (some ⟨b, o + 4, none⟩)) w := by kernel_rfl
theorem fo_83_5 (b o : Nat) (w : World) : (Instr.fieldAt 83 (.pointer (some ⟨b, o, none⟩)) 5).run Tryd.prog w = .ok (.pointer (some ⟨b, o + 5, none⟩)) w := by kernel_rfl
theorem fo_83_6 (b o : Nat) (w : World) : (Instr.fieldAt 83 (.pointer (some ⟨b, o, none⟩)) 6).run Tryd.prog w = .ok (.pointer (some ⟨b, o + 6, none⟩)) w := by kernel_rfl
theorem fo_83_7 (b o : Nat) (w : World) : (Instr.fieldAt 83 (.pointer (some ⟨b, o, none⟩)) 7).run Tryd.prog w = .ok (.pointer (some ⟨b, o + 7, none⟩)) w := by kernel_rfl
theorem fo_83_8 (b o : Nat) (w : World) : (Instr.fieldAt 83 (.pointer (some ⟨b, o, none⟩)) 8).run Tryd.prog w = .ok (.pointer (some ⟨b, o + 8, none⟩)) w := by kernel_rfl
theorem fo_83_9 (b o : Nat) (w : World) : (Instr.fieldAt 83 (.pointer (some ⟨b, o, none⟩)) 9).run Tryd.prog w = .ok (.pointer (some ⟨b, o + 9, none⟩)) w := by kernel_rfl
theorem fo_88_0 (b o : Nat) (w : World) : (Instr.fieldAt 88 (.pointer (some ⟨b, o, none⟩)) 0).run Tryd.prog w = .ok (.pointer (some ⟨b, o + 0, none⟩)) w := by kernel_rfl
theorem fo_88_1 (b o : Nat) (w : World) : (Instr.fieldAt 88 (.pointer (some ⟨b, o, none⟩)) 1).run Tryd.prog w = .ok (.pointer (some ⟨b, o + 1, none⟩)) w := by kernel_rfl
theorem fo_92_0 (b o : Nat) (w : World) : (Instr.fieldAt 92 (.pointer (some ⟨b, o, none⟩)) 0).run Tryd.prog w = .ok (.pointer (some ⟨b, o + 0, none⟩)) w := by kernel_rfl
theorem fo_92_1 (b o : Nat) (w : World) : (Instr.fieldAt 92 (.pointer (some ⟨b, o, none⟩)) 1).run Tryd.prog w = .ok (.pointer (some ⟨b, o + 1, none⟩)) w := by kernel_rfl
theorem fo_92_2 (b o : Nat) (w : World) : (Instr.fieldAt 92 (.pointer (some ⟨b, o, none⟩)) 2).run Tryd.prog w = .ok (.pointer (some ⟨b, o + 2, none⟩)) w := by kernel_rfl
theorem fo_92_3 (b o : Nat) (w : World) : (Instr.fieldAt 92 (.pointer (some ⟨b, o, none⟩)) 3).run Tryd.prog w = .ok (.pointer (some ⟨b, o + 3, none⟩)) w := by kernel_rfl
theorem fo_92_4 (b o : Nat) (w : World) : (Instr.fieldAt 92 (.pointer (some ⟨b, o, none⟩)) 4).run Tryd.prog w = .ok (.pointer (some ⟨b, o + 4, none⟩)) w := by kernel_rfl
theorem fo_92_5 (b o : Nat) (w : World) : (Instr.fieldAt 92 (.pointer (some ⟨b, o, none⟩)) 5).run Tryd.prog w = .ok (.pointer (some ⟨b, o + 5, none⟩)) w := by kernel_rfl
theorem fo_92_6 (b o : Nat) (w : World) : (Instr.fieldAt 92 (.pointer (some ⟨b, o, none⟩)) 6).run Tryd.prog w = .ok (.pointer (some ⟨b, o + 6, none⟩)) w := by kernel_rfl
theorem fo_92_7 (b o : Nat) (w : World) : (Instr.fieldAt 92 (.pointer (some ⟨b, o, none⟩)) 7).run Tryd.prog w = .ok (.pointer (some ⟨b, o + 7, none⟩)) w := by kernel_rfl
theorem fo_98_0 (b o : Nat) (w : World) : (Instr.fieldAt 98 (.pointer (some ⟨b, o, none⟩)) 0).run Tryd.prog w = .ok (.pointer (some ⟨b, o + 0, none⟩)) w := by kernel_rfl
theorem fo_98_1 (b o : Nat) (w : World) : (Instr.fieldAt 98 (.pointer (some ⟨b, o, none⟩)) 1).run Tryd.prog w = .ok (.pointer (some ⟨b, o + 1, none⟩)) w := by kernel_rfl
theorem fo_98_2 (b o : Nat) (w : World) : (Instr.fieldAt 98 (.pointer (some ⟨b, o, none⟩)) 2).run Tryd.prog w = .ok (.pointer (some ⟨b, o + 2, none⟩)) w := by kernel_rfl
theorem fo_98_3 (b o : Nat) (w : World) : (Instr.fieldAt 98 (.pointer (some ⟨b, o, none⟩)) 3).run Tryd.prog w = .ok (.pointer (some ⟨b, o + 3, none⟩)) w := by kernel_rfl
theorem fo_98_4 (b o : Nat) (w : World) : (Instr.fieldAt 98 (.pointer (some ⟨b, o, none⟩)) 4).run Tryd.prog w = .ok (.pointer (some ⟨b, o + 4, none⟩)) w := by kernel_rfl
theorem fo_98_5 (b o : Nat) (w : World) : (Instr.fieldAt 98 (.pointer (some ⟨b, o, none⟩)) 5).run Tryd.prog w = .ok (.pointer (some ⟨b, o + 5, none⟩)) w := by kernel_rfl
theorem fo_98_6 (b o : Nat) (w : World) : (Instr.fieldAt 98 (.pointer (some ⟨b, o, none⟩)) 6).run Tryd.prog w = .ok (.pointer (some ⟨b, o + 6, none⟩)) w := by kernel_rfl
theorem fo_98_7 (b o : Nat) (w : World) : (Instr.fieldAt 98 (.pointer (some ⟨b, o, none⟩)) 7).run Tryd.prog w = .ok (.pointer (some ⟨b, o + 7, none⟩)) w := by kernel_rfl
theorem fo_111_0 (b o : Nat) (w : World) : (Instr.fieldAt 111 (.pointer (some ⟨b, o, none⟩)) 0).run Tryd.prog w = .ok (.pointer (some ⟨b, o + 0, none⟩)) w := by kernel_rfl
theorem fo_111_1 (b o : Nat) (w : World) : (Instr.fieldAt 111 (.pointer (some ⟨b, o, none⟩)) 1).run Tryd.prog w = .ok (.pointer (some ⟨b, o + 1, none⟩)) w := by kernel_rfl
theorem fo_122_0 (b o : Nat) (w : World) : (Instr.fieldAt 122 (.pointer (some ⟨b, o, none⟩)) 0).run Tryd.prog w = .ok (.pointer (some ⟨b, o + 0, none⟩)) w := by kernel_rfl
theorem fo_122_1 (b o : Nat) (w : World) : (Instr.fieldAt 122 (.pointer (some ⟨b, o, none⟩)) 1).run Tryd.prog w = .ok (.pointer (some ⟨b, o + 1, none⟩)) w := by kernel_rfl
theorem fo_127_0 (b o : Nat) (w : World) : (Instr.fieldAt 127 (.pointer (some ⟨b, o, none⟩)) 0).run Tryd.prog w = .ok (.pointer (some ⟨b, o + 0, none⟩)) w := by kernel_rfl
theorem fo_127_1 (b o : Nat) (w : World) : (Instr.fieldAt 127 (.pointer (some ⟨b, o, none⟩)) 1).run Tryd.prog w = .ok (.pointer (some ⟨b, o + 64, none⟩)) w := by kernel_rfl
theorem fo_139_0 (b o : Nat) (w : World) : (Instr.fieldAt 139 (.pointer (some ⟨b, o, none⟩)) 0).run Tryd.prog w = .ok (.pointer (some ⟨b, o + 0, none⟩)) w := by kernel_rfl
theorem fo_139_1 (b o : Nat) (w : World) : (Instr.fieldAt 139 (.pointer (some ⟨b, o, none⟩)) 1).run Tryd.prog w = .ok (.pointer (some ⟨b, o + 1, none⟩)) w := by kernel_rfl
theorem fo_178_0 (b o : Nat) (w : World) : (Instr.fieldAt 178 (.pointer (some ⟨b, o, none⟩)) 0).run Tryd.prog w = .ok (.pointer (some ⟨b, o + 0, none⟩)) w := by kernel_rfl
theorem info_5 : Tryd.prog.info? 5 = some Tryd.t5 := by kernel_rfl
theorem info_40 : Tryd.prog.info? 40 = some Tryd.t40 := by kernel_rfl
theorem info_88 : Tryd.prog.info? 88 = some Tryd.t88 := by kernel_rfl
theorem info_111 : Tryd.prog.info? 111 = some Tryd.t111 := by kernel_rfl
theorem info_122 : Tryd.prog.info? 122 = some Tryd.t122 := by kernel_rfl
theorem bs_54_1 (x0 : Int) (w : World) : (Instr.buildSlice 54 1 #[(0, Value.int .u8 x0)]).run Tryd.prog w = .ok (.slice (some ⟨w.heap.size, 0, none⟩) 1 1) (w.alloc (.cells [Value.int .u8 x0].toArray 5)) := by kernel_rfl
theorem bs_54_3 (x0 : Int) (x1 : Int) (x2 : Int) (w : World) : (Instr.buildSlice 54 3 #[(0, Value.int .u8 x0), (1, Value.int .u8 x1), (2, Value.int .u8 x2)]).run Tryd.prog w = .ok (.slice (some ⟨w.heap.size, 0, none⟩) 3 3) (w.alloc (.cells [Value.int .u8 x0, Value.int .u8 x1, Value.int .u8 x2].toArray 5)) := by kernel_rfl
theorem bs_54_8 (x0 : Int) (x1 : Int) (x2 : Int) (x3 : Int) (x4 : Int) (x5 : Int) (x6 : Int) (x7 : Int) (w : World) : (Instr.buildSlice 54 8 #[(0, Value.int .u8 x0), (1, Value.int .u8 x1), (2, Value.int .u8 x2), (3, Value.int .u8 x3), (4, Value.int .u8 x4), (5, Value.int .u8 x5), (6, Value.int .u8 x6), (7, Value.int .u8 x7)]).run Tryd.prog w = .ok (.slice (some ⟨w.heap.size, 0, none⟩) 8 8) (w.alloc (.cells [Value.int .u8 x0, Value.int .u8 x1, Value.int .u8 x2, Value.int .u8 x3, Value.int .u8 x4, Value.int .u8 x5, Value.int .u8 x6, Value.int .u8 x7].toArray 5)) := by kernel_rfl
theorem bs_72_1 (x0_0 : Int) (x0_1 : Int) (w : World) : (Instr.buildSlice 72 1 #[(0, Value.agg #[Value.int .i64 x0_0, Value.int .i64 x0_1])]).run Tryd.prog w = .ok (.slice (some ⟨w.heap.size, 0, none⟩) 1 1) (w.alloc (.cells [Value.int .i64 x0_0, Value.int .i64 x0_1].toArray 88)) := by kernel_rfl
theorem bs_102_1 (x0_0 : Int) (x0_1 : Int) (w : World) : (Instr.buildSlice 102 1 #[(0, Value.agg #[Value.int .i64 x0_0, Value.int .u64 x0_1])]).run Tryd.prog w = .ok (.slice (some ⟨w.heap.size, 0, none⟩) 1 1) (w.alloc (.cells [Value.int .i64 x0_0, Value.int .u64 x0_1].toArray 111)) := by kernel_rfl
theorem bs_114_1 (x0_0 : Int) (x0_1 : Int) (w : World) : (Instr.buildSlice 114 1 #[(0, Value.agg #[Value.int .i64 x0_0, Value.int .u64 x0_1])]).run Tryd.prog w = .ok (.slice (some ⟨w.heap.size, 0, none⟩) 1 1) (w.alloc (.cells [Value.int .i64 x0_0, Value.int .u64 x0_1].toArray 122)) := by kernel_rfl
theorem bs_156_1 (x0 : Int) (w : World) : (Instr.buildSlice 156 1 #[(0, Value.int .u64 x0)]).run Tryd.prog w = .ok (.slice (some ⟨w.heap.size, 0, none⟩) 1 1) (w.alloc (.cells [Value.int .u64 x0].toArray 40)) := by kernel_rfl
theorem bs_156_2 (x0 : Int) (x1 : Int) (w : World) : (Instr.buildSlice 156 2 #[(0, Value.int .u64 x0), (1, Value.int .u64 x1)]).run Tryd.prog w = .ok (.slice (some ⟨w.heap.size, 0, none⟩) 2 2) (w.alloc (.cells [Value.int .u64 x0, Value.int .u64 x1].toArray 40)) := by kernel_rfl
theorem bs_156_3 (x0 : Int) (x1 : Int) (x2 : Int) (w : World) : (Instr.buildSlice 156 3 #[(0, Value.int .u64 x0), (1, Value.int .u64 x1), (2, Value.int .u64 x2)]).run Tryd.prog w = .ok (.slice (some ⟨w.heap.size, 0, none⟩) 3 3) (w.alloc (.cells [Value.int .u64 x0, Value.int .u64 x1, Value.int .u64 x2].toArray 40)) := by kernel_rfl
theorem eq_23 (a0 : Int) (a1 : Int) (a2 : Int) (b0 : Int) (b1 : Int) (b2 : Int) (w : World) : (Op.equal 23 (.agg #[Value.int .i64 a0, Value.int .i64 a1, Value.int .i64 a2]) (.agg #[Value.int .i64 b0, Value.int .i64 b1, Value.int .i64 b2])).run Tryd.prog w = .ok ((a0 == b0) && ((a1 == b1) && ((a2 == b2) && true))) w := by
  have key : ∀ d : Nat, (Op.equalIn (d + 2) 23 (.agg #[Value.int .i64 a0, Value.int .i64 a1, Value.int .i64 a2]) (.agg #[Value.int .i64 b0, Value.int .i64 b1, Value.int .i64 b2])).run Tryd.prog w = .ok ((a0 == b0) && ((a1 == b1) && ((a2 == b2) && true))) w := fun d => by
    rw [run_equalIn_struct w (d + 1) 23 _ _ (by simp [Program.fieldsOf, Tryd.underlying23]) Tryd.stoodInHeld23]
    simp only [Program.fieldsOf, Tryd.underlying23]
    simp [Op.eqFields, part, Sem.run_bind, Tryd.isAgg3, run_equalIn_int _ _ 3 _ _ _ _ Tryd.underlying3]



    repeat' (first | (split <;> simp_all; done) | split)
    all_goals simp_all
  exact key 9998
theorem eq_25 (a0 : Int) (a1 : Int) (a2 : Int) (a3 : Int) (b0 : Int) (b1 : Int) (b2 : Int) (b3 : Int) (w : World) : (Op.equal 25 (.agg #[Value.int .i64 a0, Value.int .i64 a1, Value.int .i64 a2, Value.int .i64 a3]) (.agg #[Value.int .i64 b0, Value.int .i64 b1, Value.int .i64 b2, Value.int .i64 b3])).run Tryd.prog w = .ok ((a0 == b0) && ((a1 == b1) && ((a2 == b2) && ((a3 == b3) && true)))) w := by
  have key : ∀ d : Nat, (Op.equalIn (d + 2) 25 (.agg #[Value.int .i64 a0, Value.int .i64 a1, Value.int .i64 a2, Value.int .i64 a3]) (.agg #[Value.int .i64 b0, Value.int .i64 b1, Value.int .i64 b2, Value.int .i64 b3])).run Tryd.prog w = .ok ((a0 == b0) && ((a1 == b1) && ((a2 == b2) && ((a3 == b3) && true)))) w := fun d => by
    rw [run_equalIn_struct w (d + 1) 25 _ _ (by simp [Program.fieldsOf, Tryd.underlying25]) Tryd.stoodInHeld25]
    simp only [Program.fieldsOf, Tryd.underlying25]
    simp [Op.eqFields, part, Sem.run_bind, Tryd.isAgg3, run_equalIn_int _ _ 3 _ _ _ _ Tryd.underlying3]




    repeat' (first | (split <;> simp_all; done) | split)
    all_goals simp_all
  exact key 9998
theorem eq_39 (a0 : Int) (a1 : Int) (b0 : Int) (b1 : Int) (w : World) : (Op.equal 39 (.agg #[Value.int .i64 a0, Value.int .i64 a1]) (.agg #[Value.int .i64 b0, Value.int .i64 b1])).run Tryd.prog w = .ok ((a0 == b0) && ((a1 == b1) && true)) w := by
  have key : ∀ d : Nat, (Op.equalIn (d + 2) 39 (.agg #[Value.int .i64 a0, Value.int .i64 a1]) (.agg #[Value.int .i64 b0, Value.int .i64 b1])).run Tryd.prog w = .ok ((a0 == b0) && ((a1 == b1) && true)) w := fun d => by
    rw [run_equalIn_struct w (d + 1) 39 _ _ (by simp [Program.fieldsOf, Tryd.underlying39]) Tryd.stoodInHeld39]
    simp only [Program.fieldsOf, Tryd.underlying39]
    simp [Op.eqFields, part, Sem.run_bind, Tryd.isAgg3, run_equalIn_int _ _ 3 _ _ _ _ Tryd.underlying3]


    repeat' (first | (split <;> simp_all; done) | split)
    all_goals simp_all
  exact key 9998
theorem eq_65 (a0 : Int) (a1 : Int) (a2 : Int) (a3 : Int) (b0 : Int) (b1 : Int) (b2 : Int) (b3 : Int) (w : World) : (Op.equal 65 (.agg #[Value.int .i64 a0, Value.int .i64 a1, Value.int .i64 a2, Value.int .i64 a3]) (.agg #[Value.int .i64 b0, Value.int .i64 b1, Value.int .i64 b2, Value.int .i64 b3])).run Tryd.prog w = .ok ((a0 == b0) && ((a1 == b1) && ((a2 == b2) && ((a3 == b3) && true)))) w := by
  have key : ∀ d : Nat, (Op.equalIn (d + 2) 65 (.agg #[Value.int .i64 a0, Value.int .i64 a1, Value.int .i64 a2, Value.int .i64 a3]) (.agg #[Value.int .i64 b0, Value.int .i64 b1, Value.int .i64 b2, Value.int .i64 b3])).run Tryd.prog w = .ok ((a0 == b0) && ((a1 == b1) && ((a2 == b2) && ((a3 == b3) && true)))) w := fun d => by
    rw [run_equalIn_struct w (d + 1) 65 _ _ (by simp [Program.fieldsOf, Tryd.underlying65]) Tryd.stoodInHeld65]
    simp only [Program.fieldsOf, Tryd.underlying65]
    simp [Op.eqFields, part, Sem.run_bind, Tryd.isAgg3, run_equalIn_int _ _ 3 _ _ _ _ Tryd.underlying3]




    repeat' (first | (split <;> simp_all; done) | split)
    all_goals simp_all
  exact key 9998
theorem eq_88 (a0 : Int) (a1 : Int) (b0 : Int) (b1 : Int) (w : World) : (Op.equal 88 (.agg #[Value.int .i64 a0, Value.int .i64 a1]) (.agg #[Value.int .i64 b0, Value.int .i64 b1])).run Tryd.prog w = .ok ((a0 == b0) && ((a1 == b1) && true)) w := by
  have key : ∀ d : Nat, (Op.equalIn (d + 2) 88 (.agg #[Value.int .i64 a0, Value.int .i64 a1]) (.agg #[Value.int .i64 b0, Value.int .i64 b1])).run Tryd.prog w = .ok ((a0 == b0) && ((a1 == b1) && true)) w := fun d => by
    rw [run_equalIn_struct w (d + 1) 88 _ _ (by simp [Program.fieldsOf, Tryd.underlying88]) Tryd.stoodInHeld88]
    simp only [Program.fieldsOf, Tryd.underlying88]
    simp [Op.eqFields, part, Sem.run_bind, Tryd.isAgg3, run_equalIn_int _ _ 3 _ _ _ _ Tryd.underlying3]


    repeat' (first | (split <;> simp_all; done) | split)
    all_goals simp_all
  exact key 9998
theorem eq_92 (a0 : Int) (a1 : Int) (a2 : Int) (a3 : Int) (a4 : Int) (a5 : Int) (a6 : Int) (a7 : ByteArray) (b0 : Int) (b1 : Int) (b2 : Int) (b3 : Int) (b4 : Int) (b5 : Int) (b6 : Int) (b7 : ByteArray) (w : World) : (Op.equal 92 (.agg #[Value.int .i64 a0, Value.int .u64 a1, Value.int .i64 a2, Value.int .i64 a3, Value.int .i64 a4, Value.int .i64 a5, Value.int .i64 a6, Value.string a7]) (.agg #[Value.int .i64 b0, Value.int .u64 b1, Value.int .i64 b2, Value.int .i64 b3, Value.int .i64 b4, Value.int .i64 b5, Value.int .i64 b6, Value.string b7])).run Tryd.prog w = .ok ((a0 == b0) && ((a1 == b1) && ((a2 == b2) && ((a3 == b3) && ((a4 == b4) && ((a5 == b5) && ((a6 == b6) && ((a7.toList == b7.toList) && true)))))))) w := by
  have key : ∀ d : Nat, (Op.equalIn (d + 2) 92 (.agg #[Value.int .i64 a0, Value.int .u64 a1, Value.int .i64 a2, Value.int .i64 a3, Value.int .i64 a4, Value.int .i64 a5, Value.int .i64 a6, Value.string a7]) (.agg #[Value.int .i64 b0, Value.int .u64 b1, Value.int .i64 b2, Value.int .i64 b3, Value.int .i64 b4, Value.int .i64 b5, Value.int .i64 b6, Value.string b7])).run Tryd.prog w = .ok ((a0 == b0) && ((a1 == b1) && ((a2 == b2) && ((a3 == b3) && ((a4 == b4) && ((a5 == b5) && ((a6 == b6) && ((a7.toList == b7.toList) && true)))))))) w := fun d => by
    rw [run_equalIn_struct w (d + 1) 92 _ _ (by simp [Program.fieldsOf, Tryd.underlying92]) Tryd.stoodInHeld92]
    simp only [Program.fieldsOf, Tryd.underlying92]
    simp [Op.eqFields, part, Sem.run_bind, Tryd.isAgg3, run_equalIn_int _ _ 3 _ _ _ _ Tryd.underlying3, Tryd.isAgg9, run_equalIn_string _ _ 9 _ _ Tryd.underlying9, Tryd.isAgg40, run_equalIn_int _ _ 40 _ _ _ _ Tryd.underlying40]








    repeat' (first | (split <;> simp_all; done) | split)
    all_goals simp_all
  exact key 9998
theorem eq_111 (a0 : Int) (a1 : Int) (b0 : Int) (b1 : Int) (w : World) : (Op.equal 111 (.agg #[Value.int .i64 a0, Value.int .u64 a1]) (.agg #[Value.int .i64 b0, Value.int .u64 b1])).run Tryd.prog w = .ok ((a0 == b0) && ((a1 == b1) && true)) w := by
  have key : ∀ d : Nat, (Op.equalIn (d + 2) 111 (.agg #[Value.int .i64 a0, Value.int .u64 a1]) (.agg #[Value.int .i64 b0, Value.int .u64 b1])).run Tryd.prog w = .ok ((a0 == b0) && ((a1 == b1) && true)) w := fun d => by
    rw [run_equalIn_struct w (d + 1) 111 _ _ (by simp [Program.fieldsOf, Tryd.underlying111]) Tryd.stoodInHeld111]
    simp only [Program.fieldsOf, Tryd.underlying111]
    simp [Op.eqFields, part, Sem.run_bind, Tryd.isAgg3, run_equalIn_int _ _ 3 _ _ _ _ Tryd.underlying3, Tryd.isAgg40, run_equalIn_int _ _ 40 _ _ _ _ Tryd.underlying40]


    repeat' (first | (split <;> simp_all; done) | split)
    all_goals simp_all
  exact key 9998
theorem eq_122 (a0 : Int) (a1 : Int) (b0 : Int) (b1 : Int) (w : World) : (Op.equal 122 (.agg #[Value.int .i64 a0, Value.int .u64 a1]) (.agg #[Value.int .i64 b0, Value.int .u64 b1])).run Tryd.prog w = .ok ((a0 == b0) && ((a1 == b1) && true)) w := by
  have key : ∀ d : Nat, (Op.equalIn (d + 2) 122 (.agg #[Value.int .i64 a0, Value.int .u64 a1]) (.agg #[Value.int .i64 b0, Value.int .u64 b1])).run Tryd.prog w = .ok ((a0 == b0) && ((a1 == b1) && true)) w := fun d => by
    rw [run_equalIn_struct w (d + 1) 122 _ _ (by simp [Program.fieldsOf, Tryd.underlying122]) Tryd.stoodInHeld122]
    simp only [Program.fieldsOf, Tryd.underlying122]
    simp [Op.eqFields, part, Sem.run_bind, Tryd.isAgg3, run_equalIn_int _ _ 3 _ _ _ _ Tryd.underlying3, Tryd.isAgg40, run_equalIn_int _ _ 40 _ _ _ _ Tryd.underlying40]


    repeat' (first | (split <;> simp_all; done) | split)
    all_goals simp_all
  exact key 9998
theorem zero_30 (w : World) : (zeroValue 30).run Tryd.prog w = .ok (.agg (List.replicate 64 (Value.int .u8 0)).toArray) w := by kernel_rfl
theorem zc_30 : (Value.agg (List.replicate 64 (Value.int .u8 0)).toArray).cells = (List.replicate 64 (Value.int .u8 0)).toArray := rfl
theorem zero_41 (w : World) : (zeroValue 41).run Tryd.prog w = .ok (.agg (List.replicate 2 (Value.int .u64 0)).toArray) w := by kernel_rfl
theorem zc_41 : (Value.agg (List.replicate 2 (Value.int .u64 0)).toArray).cells = (List.replicate 2 (Value.int .u64 0)).toArray := rfl
theorem zero_66 (w : World) : (zeroValue 66).run Tryd.prog w = .ok (.agg (List.replicate 3 (Value.int .u64 0)).toArray) w := by kernel_rfl
theorem zc_66 : (Value.agg (List.replicate 3 (Value.int .u64 0)).toArray).cells = (List.replicate 3 (Value.int .u64 0)).toArray := rfl
theorem zero_127 (w : World) : (zeroValue 127).run Tryd.prog w = .ok (.agg (List.replicate 64 (Value.int .u8 0) ++ [Value.int .i64 0]).toArray) w := by kernel_rfl
theorem zc_127 : (Value.agg (List.replicate 64 (Value.int .u8 0) ++ [Value.int .i64 0]).toArray).cells = (List.replicate 64 (Value.int .u8 0) ++ [Value.int .i64 0]).toArray := rfl
theorem zero_175 (w : World) : (zeroValue 175).run Tryd.prog w = .ok (.agg (List.replicate 3 (Value.bool false)).toArray) w := by kernel_rfl
theorem zc_175 : (Value.agg (List.replicate 3 (Value.bool false)).toArray).cells = (List.replicate 3 (Value.bool false)).toArray := rfl
theorem zero_181 (w : World) : (zeroValue 181).run Tryd.prog w = .ok (.agg (List.replicate 8 (Value.int .u8 0)).toArray) w := by kernel_rfl
theorem zc_181 : (Value.agg (List.replicate 8 (Value.int .u8 0)).toArray).cells = (List.replicate 8 (Value.int .u8 0)).toArray := rfl
end Go.Proofs.YtoiebgnmknbkjaaDoor
