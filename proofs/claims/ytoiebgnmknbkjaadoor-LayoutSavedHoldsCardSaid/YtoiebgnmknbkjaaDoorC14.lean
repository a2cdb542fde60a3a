/- LayoutSaveds, walked. -/
import Derived.Test.YtoiebgnmknbkjaaDoorB34
import Derived.Test.YtoiebgnmknbkjaaDoorD18
set_option linter.unusedVariables false
set_option linter.unusedSimpArgs false
namespace Go.Proofs.YtoiebgnmknbkjaaDoor
open Go Go.Wk

theorem svP_le (t : BitVec 32) (L : List (Int × Int)) : (svP t L).length ≤ 2000 := by
  by_cases h : GoodSv t L
  · rw [svP_T h, svB_length]; have := h.2.1; omega
  · rw [svP_F h]; decide
theorem oL_le (l : List UInt8) : (oL l).length ≤ 249 := by
  by_cases h : OkSv l
  · rw [oL_yes h, spRec_length]; exact h.2.2.2.1
  · rw [oL_no h]; decide
theorem sameV_eq (v u : Value) (l m : List UInt8) (w : World) (hv : RdB w v l) (hu : RdB w u m) (hl : l.length ≤ 140737488355328) (e : l = m) : PureC Tryd.prog 36 [v, u] (.bool true) w := by
  subst e
  have := sameBytes_p v u l l w hv hu hl hl; rwa [decide_eq_true rfl] at this

theorem lawSaveds_p (t : BitVec 32) (v u : Value) (L : List (Int × Int)) (l : List UInt8) (w : World) (ht : Tab w) (hv : RdS w v L) (hu : RdB w u l) (hL : L.length ≤ 8796093022144) (hl : l.length ≤ 140737488351232) :
    PureC Tryd.prog 10 [.agg #[b32 t, v], u] (.bool true) w := by
  refine enter0 Tryd.func10 rfl Tryd.ntmps10 rfl ?_
  simp only [envOf]
  refine At.seq ?_
  refine At.region ?_
  refine At.box rfl rfl rfl (fun b1 => ?_)
  refine At.val (Val.assign rfl) rfl rfl rfl ?_
  refine At.nil ?_
  refine At.thenN ?_
  refine At.seq ?_
  refine At.region ?_
  refine At.val (Val.loadAll (i := 0) Tryd.isAgg74 Tryd.sizeOf74 rfl rfl rfl) rfl rfl rfl ?_
  refine At.callNT (g := (fun v => .agg #[b32 t, v])) (fun w hw => copySv_n t _ L w (hv.mod hw.mod) hL) Tryd.call44 rfl rfl (fun v2 => ?_)
  refine At.alloc Tryd.zeroValue74 rfl rfl (fun b3 => ?_)
  refine At.rowOne (i := 1) rfl (fun ho4 => ?_)
  refine At.storeAll (i := 0) Tryd.sizeOf74 rfl rfl rfl (by intro u hu; simp only [List.mem_cons, List.not_mem_nil, or_false] at hu; rcases hu with rfl | rfl <;> first | rfl | assumption) rfl rfl ?_
  simp only [List.set_cons_zero, List.set_cons_succ]
  refine At.nil ?_
  refine At.thenN ?_
  refine At.seq ?_
  refine At.region ?_
  refine At.val (Val.move rfl) rfl rfl rfl ?_
  refine At.callN (fun w hw => copyBytes_n u l w (hu.mod hw.mod) (by omega)) Tryd.call33 rfl rfl (fun v5 => ?_)
  refine At.val (Val.assign rfl) rfl rfl rfl ?_
  refine At.nil ?_
  refine At.thenN ?_
  refine At.seq ?_
  refine At.region ?_
  refine At.val (Val.loadAll (i := 3) Tryd.isAgg74 Tryd.sizeOf74 rfl rfl rfl) rfl rfl rfl ?_
  refine At.callNT (g := (fun v => .tuple #[v, .int .i64 (svE t L)])) (fun w hw => packSv_n t _ L w (hv.mod hw.mod) hL (ht.mod hw.mod)) Tryd.call45 rfl rfl (fun v6 => ?_)
  refine At.val (Val.move rfl) rfl rfl rfl ?_
  refine At.val (Val.extract rfl rfl) rfl rfl rfl ?_
  refine At.val (Val.extract rfl rfl) rfl rfl rfl ?_
  refine At.val (Val.assign rfl) rfl rfl rfl ?_
  refine At.val (Val.assign rfl) rfl rfl rfl ?_
  refine At.nil ?_
  refine At.thenN ?_
  refine At.seq ?_
  refine At.region ?_
  refine At.val (Val.loadAll (i := 2) Tryd.isAgg74 Tryd.sizeOf74 rfl rfl rfl) rfl rfl rfl ?_
  refine At.callNT (g := (fun v => .tuple #[v, .int .i64 (svE t L)])) (fun w hw => packSvR_n t _ L w (row_rd (hw.row (i := 3) rfl) (by decide)) hL) Tryd.call46 rfl rfl (fun v7 => ?_)
  refine At.val (Val.move rfl) rfl rfl rfl ?_
  refine At.val (Val.extract rfl rfl) rfl rfl rfl ?_
  refine At.val (Val.extract rfl rfl) rfl rfl rfl ?_
  refine At.val (Val.assign rfl) rfl rfl rfl ?_
  refine At.val (Val.assign rfl) rfl rfl rfl ?_
  refine At.nil ?_
  refine At.thenN ?_
  refine At.seq ?_
  refine At.seq ?_
  refine At.region ?_
  refine At.val (Val.move rfl) rfl rfl rfl ?_
  refine At.val (Val.move rfl) rfl rfl rfl ?_
  refine At.val (Val.bin rfl rfl rfl) rfl rfl rfl ?_
  rw [show (svE t L != svE t L) = false from bne_self_eq_false _]
  refine At.val (Val.move rfl) rfl rfl rfl ?_
  refine At.yes rfl rfl ?_
  refine At.val (Val.move rfl) rfl rfl rfl ?_
  refine At.yes rfl rfl ?_
  refine At.val (Val.move rfl) rfl rfl rfl ?_
  refine At.yes rfl rfl ?_
  refine At.callP (fun w hw => sameV_eq _ _ (svP t L) (svP t L) w (row_rd (hw.row (i := 1) rfl) (by decide)) (row_rd (hw.row (i := 0) rfl) (by decide)) (by have := svP_le t L; omega) rfl) Tryd.call36 rfl rfl ?_
  refine At.yes rfl rfl ?_
  refine At.val (Val.not rfl) rfl rfl rfl ?_
  refine At.val (Val.pickF rfl rfl) rfl rfl rfl ?_
  refine At.val (Val.move rfl) rfl rfl rfl ?_
  refine At.yes rfl rfl ?_
  refine At.val (Val.loadAll (i := 5) Tryd.isAgg74 Tryd.sizeOf74 rfl rfl rfl) rfl rfl rfl ?_
  refine At.yes rfl rfl ?_
  refine At.val (Val.loadAll (i := 3) Tryd.isAgg74 Tryd.sizeOf74 rfl rfl rfl) rfl rfl rfl ?_
  refine At.yes rfl rfl ?_
  refine At.callP (fun w hw => sameSv_p t _ _ L w (hv.mod hw.mod) (row_rd (hw.row (i := 4) rfl) (by decide)) hL) Tryd.call47 rfl rfl ?_
  refine At.yes rfl rfl ?_
  refine At.val (Val.not rfl) rfl rfl rfl ?_
  refine At.val (Val.pickF rfl rfl) rfl rfl rfl ?_
  refine At.nil ?_
  refine At.thenN ?_
  refine At.condF rfl ?_
  refine At.skipC ?_
  refine At.thenN ?_
  refine At.seq ?_
  refine At.region ?_
  refine At.val (Val.move rfl) rfl rfl rfl ?_
  refine At.callNT (g := (fun v => .tuple #[.agg #[b32 (oT l), v], .int .i64 (oE l)])) (fun w hw => openSv_n _ l w (ht.mod hw.mod) (hu.mod hw.mod) (by omega)) Tryd.call48 rfl rfl (fun v8 => ?_)
  refine At.val (Val.move rfl) rfl rfl rfl ?_
  refine At.val (Val.extract rfl rfl) rfl rfl rfl ?_
  refine At.val (Val.extract rfl rfl) rfl rfl rfl ?_
  refine At.alloc Tryd.zeroValue74 rfl rfl (fun b9 => ?_)
  refine At.rowOne (i := 1) rfl (fun ho10 => ?_)
  refine At.storeAll (i := 0) Tryd.sizeOf74 rfl rfl rfl (by intro u hu; simp only [List.mem_cons, List.not_mem_nil, or_false] at hu; rcases hu with rfl | rfl <;> first | rfl | assumption) rfl rfl ?_
  simp only [List.set_cons_zero, List.set_cons_succ]
  refine At.val (Val.assign rfl) rfl rfl rfl ?_
  refine At.nil ?_
  refine At.thenN ?_
  refine At.seq ?_
  refine At.region ?_
  refine At.val (Val.move rfl) rfl rfl rfl ?_
  refine At.callNT (g := (fun v => .tuple #[.agg #[b32 (oT l), v], .int .i64 (oE l)])) (fun w hw => openSvR_n _ l w (row_rd (hw.row (i := 4) rfl) (by decide)) (by omega)) Tryd.call49 rfl rfl (fun v11 => ?_)
  refine At.val (Val.move rfl) rfl rfl rfl ?_
  refine At.val (Val.extract rfl rfl) rfl rfl rfl ?_
  refine At.val (Val.extract rfl rfl) rfl rfl rfl ?_
  refine At.alloc Tryd.zeroValue74 rfl rfl (fun b12 => ?_)
  refine At.rowOne (i := 1) rfl (fun ho13 => ?_)
  refine At.storeAll (i := 0) Tryd.sizeOf74 rfl rfl rfl (by intro u hu; simp only [List.mem_cons, List.not_mem_nil, or_false] at hu; rcases hu with rfl | rfl <;> first | rfl | assumption) rfl rfl ?_
  simp only [List.set_cons_zero, List.set_cons_succ]
  refine At.val (Val.assign rfl) rfl rfl rfl ?_
  refine At.nil ?_
  refine At.thenN ?_
  refine At.seq ?_
  refine At.region ?_
  refine At.val (Val.move rfl) rfl rfl rfl ?_
  refine At.val (Val.move rfl) rfl rfl rfl ?_
  refine At.val (Val.bin rfl rfl rfl) rfl rfl rfl ?_
  rw [show (oE l == oE l) = true from beq_self_eq_true _]
  refine At.val (Val.move rfl) rfl rfl rfl ?_
  refine At.yes rfl rfl ?_
  refine At.val (Val.loadAll (i := 2) Tryd.isAgg74 Tryd.sizeOf74 rfl rfl rfl) rfl rfl rfl ?_
  refine At.yes rfl rfl ?_
  refine At.val (Val.loadAll (i := 0) Tryd.isAgg74 Tryd.sizeOf74 rfl rfl rfl) rfl rfl rfl ?_
  refine At.yes rfl rfl ?_
  refine At.callP (fun w hw => sameSv_p (oT l) _ _ (oL l) w (row_rd (hw.row (i := 3) rfl) (by decide)) (row_rd (hw.row (i := 1) rfl) (by decide)) (by have := oL_le l; omega)) Tryd.call47 rfl rfl ?_
  refine At.val (Val.pickT rfl rfl) rfl rfl rfl ?_
  refine At.val (Val.move rfl) rfl rfl rfl ?_
  refine At.yes rfl rfl ?_
  refine At.val (Val.move rfl) rfl rfl rfl ?_
  refine At.yes rfl rfl ?_
  refine At.val (Val.move rfl) rfl rfl rfl ?_
  refine At.yes rfl rfl ?_
  refine At.callP (fun w hw => sameV_eq _ _ l l w (hu.mod hw.mod) (row_rd (hw.row (i := 6) rfl) (by decide)) (by omega) rfl) Tryd.call36 rfl rfl ?_
  refine At.val (Val.pickT rfl rfl) rfl rfl rfl ?_
  refine At.val (Val.assign rfl) rfl rfl rfl ?_
  refine At.nil ?_
  refine At.thenN ?_
  refine At.retC ?_
  refine At.ret1 (.inl rfl) rfl rfl rfl (fun w hw => ?_)
  exact ⟨rfl, hw.mod⟩

end Go.Proofs.YtoiebgnmknbkjaaDoor
