/- LayoutUndos, walked. -/
import Derived.Test.YtoiebgnmknbkjaaDoorB28
set_option linter.unusedVariables false
set_option linter.unusedSimpArgs false
namespace Go.Proofs.YtoiebgnmknbkjaaDoor
open Go Go.Wk

theorem packB_le (L : List (Int × BitVec 64)) : (packB L).length ≤ 192 := by
  by_cases h : GoodUn L
  · rw [packB_T h, undoB_length]; have := h.2.1; omega
  · rw [packB_F h]; decide
theorem openUnL_le (l : List UInt8) : (openUnL l).length ≤ 8 := by
  by_cases h : OkUn l
  · rw [openUnL_yes h, recs_length]; by_cases h0 : unN l = 0; omega; exact (h.two h0).1
  · rw [openUnL_no h]; decide
theorem sameB_self (v u : Value) (l : List UInt8) (w : World) (hv : RdB w v l) (hu : RdB w u l) (hl : l.length ≤ 140737488355328) : PureC Tryd.prog 36 [v, u] (.bool true) w := by
  have := sameBytes_p v u l l w hv hu hl hl; rwa [decide_eq_true rfl] at this

theorem lawUndos_p (v u : Value) (L : List (Int × BitVec 64)) (l : List UInt8) (w : World) (ht : Tab w) (hv : RdP w v L) (hu : RdB w u l) (hL : L.length ≤ 8796093022144) (hl : l.length ≤ 140737488351232) (hbd : ∀ c ∈ L, -9223372036854775808 ≤ c.1 ∧ c.1 ≤ 9223372036854775807) :
    PureC Tryd.prog 15 [v, u] (.bool true) w := by
  refine enter0 Tryd.func15 rfl Tryd.ntmps15 rfl ?_
  simp only [envOf]
  refine At.seq ?_
  refine At.region ?_
  refine At.val (Val.assign rfl) rfl rfl rfl ?_
  refine At.nil ?_
  refine At.thenN ?_
  refine At.seq ?_
  refine At.region ?_
  refine At.val (Val.move rfl) rfl rfl rfl ?_
  refine At.callN (fun w hw => copyUn_n v L w (hv.mod hw.mod) hL) Tryd.call59 rfl rfl (fun v1 => ?_)
  refine At.val (Val.assign rfl) rfl rfl rfl ?_
  refine At.nil ?_
  refine At.thenN ?_
  refine At.seq ?_
  refine At.region ?_
  refine At.val (Val.move rfl) rfl rfl rfl ?_
  refine At.callN (fun w hw => copyBytes_n u l w (hu.mod hw.mod) (by omega)) Tryd.call33 rfl rfl (fun v2 => ?_)
  refine At.val (Val.assign rfl) rfl rfl rfl ?_
  refine At.nil ?_
  refine At.thenN ?_
  refine At.seq ?_
  refine At.region ?_
  refine At.val (Val.move rfl) rfl rfl rfl ?_
  refine At.callNT (g := (fun v => .tuple #[v, .int .i64 (packE L)])) (fun w hw => packUn_n _ L w (ht.mod hw.mod) (hv.mod hw.mod) (by omega) hbd) Tryd.call60 rfl rfl (fun v3 => ?_)
  refine At.val (Val.move rfl) rfl rfl rfl ?_
  refine At.val (Val.extract rfl rfl) rfl rfl rfl ?_
  refine At.val (Val.extract rfl rfl) rfl rfl rfl ?_
  refine At.val (Val.assign rfl) rfl rfl rfl ?_
  refine At.val (Val.assign rfl) rfl rfl rfl ?_
  refine At.nil ?_
  refine At.thenN ?_
  refine At.seq ?_
  refine At.region ?_
  refine At.val (Val.move rfl) rfl rfl rfl ?_
  refine At.callNT (g := (fun v => .tuple #[v, .int .i64 (packE L)])) (fun w hw => packUnR_n _ L w (row_rd (hw.row (i := 2) rfl) (by decide)) (by omega)) Tryd.call61 rfl rfl (fun v4 => ?_)
  refine At.val (Val.move rfl) rfl rfl rfl ?_
  refine At.val (Val.extract rfl rfl) rfl rfl rfl ?_
  refine At.val (Val.extract rfl rfl) rfl rfl rfl ?_
  refine At.val (Val.assign rfl) rfl rfl rfl ?_
  refine At.val (Val.assign rfl) rfl rfl rfl ?_
  refine At.nil ?_
  refine At.thenN ?_
  refine At.seq ?_
  refine At.seq ?_
  refine At.region ?_
  refine At.val (Val.move rfl) rfl rfl rfl ?_
  refine At.val (Val.move rfl) rfl rfl rfl ?_
  refine At.val (Val.bin rfl rfl rfl) rfl rfl rfl ?_
  rw [show (packE L != packE L) = false from bne_self_eq_false _]
  refine At.val (Val.move rfl) rfl rfl rfl ?_
  refine At.yes rfl rfl ?_
  refine At.val (Val.move rfl) rfl rfl rfl ?_
  refine At.yes rfl rfl ?_
  refine At.val (Val.move rfl) rfl rfl rfl ?_
  refine At.yes rfl rfl ?_
  refine At.callP (fun w hw => sameB_self _ _ (packB L) w (row_rd (hw.row (i := 1) rfl) (by decide)) (row_rd (hw.row (i := 0) rfl) (by decide)) (by have := packB_le L; omega)) Tryd.call36 rfl rfl ?_
  refine At.yes rfl rfl ?_
  refine At.val (Val.not rfl) rfl rfl rfl ?_
  refine At.val (Val.pickF rfl rfl) rfl rfl rfl ?_
  refine At.val (Val.move rfl) rfl rfl rfl ?_
  refine At.yes rfl rfl ?_
  refine At.val (Val.move rfl) rfl rfl rfl ?_
  refine At.yes rfl rfl ?_
  refine At.val (Val.move rfl) rfl rfl rfl ?_
  refine At.yes rfl rfl ?_
  refine At.callP (fun w hw => sameUn_p _ _ L w (hv.mod hw.mod) (row_rd (hw.row (i := 3) rfl) (by decide)) hL) Tryd.call62 rfl rfl ?_
  refine At.yes rfl rfl ?_
  refine At.val (Val.not rfl) rfl rfl rfl ?_
  refine At.val (Val.pickF rfl rfl) rfl rfl rfl ?_
  refine At.nil ?_
  refine At.thenN ?_
  refine At.condF rfl ?_
  refine At.skipC ?_
  refine At.thenN ?_
  refine At.seq ?_
  refine At.region ?_
  refine At.val (Val.move rfl) rfl rfl rfl ?_
  refine At.callNT (g := (fun v => .tuple #[v, .int .i64 (openUnE l)])) (fun w hw => openUn_n _ l w (ht.mod hw.mod) (hu.mod hw.mod) (by omega)) Tryd.call63 rfl rfl (fun v5 => ?_)
  refine At.val (Val.move rfl) rfl rfl rfl ?_
  refine At.val (Val.extract rfl rfl) rfl rfl rfl ?_
  refine At.val (Val.extract rfl rfl) rfl rfl rfl ?_
  refine At.val (Val.assign rfl) rfl rfl rfl ?_
  refine At.val (Val.assign rfl) rfl rfl rfl ?_
  refine At.nil ?_
  refine At.thenN ?_
  refine At.seq ?_
  refine At.region ?_
  refine At.val (Val.move rfl) rfl rfl rfl ?_
  refine At.callNT (g := (fun v => .tuple #[v, .int .i64 (openUnE l)])) (fun w hw => openUnR_n _ l w (row_rd (hw.row (i := 3) rfl) (by decide)) (by omega)) Tryd.call64 rfl rfl (fun v6 => ?_)
  refine At.val (Val.move rfl) rfl rfl rfl ?_
  refine At.val (Val.extract rfl rfl) rfl rfl rfl ?_
  refine At.val (Val.extract rfl rfl) rfl rfl rfl ?_
  refine At.val (Val.assign rfl) rfl rfl rfl ?_
  refine At.val (Val.assign rfl) rfl rfl rfl ?_
  refine At.nil ?_
  refine At.thenN ?_
  refine At.seq ?_
  refine At.region ?_
  refine At.val (Val.move rfl) rfl rfl rfl ?_
  refine At.val (Val.move rfl) rfl rfl rfl ?_
  refine At.val (Val.bin rfl rfl rfl) rfl rfl rfl ?_
  rw [show (openUnE l == openUnE l) = true from beq_self_eq_true _]
  refine At.val (Val.move rfl) rfl rfl rfl ?_
  refine At.yes rfl rfl ?_
  refine At.val (Val.move rfl) rfl rfl rfl ?_
  refine At.yes rfl rfl ?_
  refine At.val (Val.move rfl) rfl rfl rfl ?_
  refine At.yes rfl rfl ?_
  refine At.callP (fun w hw => sameUn_p _ _ (openUnL l) w (row_rd (hw.row (i := 1) rfl) (by decide)) (row_rd (hw.row (i := 0) rfl) (by decide)) (by have := openUnL_le l; omega)) Tryd.call62 rfl rfl ?_
  refine At.val (Val.pickT rfl rfl) rfl rfl rfl ?_
  refine At.val (Val.move rfl) rfl rfl rfl ?_
  refine At.yes rfl rfl ?_
  refine At.val (Val.move rfl) rfl rfl rfl ?_
  refine At.yes rfl rfl ?_
  refine At.val (Val.move rfl) rfl rfl rfl ?_
  refine At.yes rfl rfl ?_
  refine At.callP (fun w hw => sameB_self _ _ l w (hu.mod hw.mod) (row_rd (hw.row (i := 4) rfl) (by decide)) (by omega)) Tryd.call36 rfl rfl ?_
  refine At.val (Val.pickT rfl rfl) rfl rfl rfl ?_
  refine At.val (Val.assign rfl) rfl rfl rfl ?_
  refine At.nil ?_
  refine At.thenN ?_
  refine At.retC ?_
  refine At.ret1 (.inl rfl) rfl rfl rfl (fun w hw => ?_)
  exact ⟨rfl, hw.mod⟩

end Go.Proofs.YtoiebgnmknbkjaaDoor
