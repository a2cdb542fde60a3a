/- LayoutFinds, walked. -/
import Derived.Test.YtoiebgnmknbkjaaDoorB18
set_option linter.unusedVariables false
set_option linter.unusedSimpArgs false
namespace Go.Proofs.YtoiebgnmknbkjaaDoor
open Go Go.Wk

theorem fit_shape (p i c : Int) : ∃ x0 x1 x2 x3 e : Int, fitV p i c = .tuple #[.agg #[.int .i64 x0, .int .i64 x1, .int .i64 x2, .int .i64 x3], .int .i64 e] := by
  by_cases h : GoodSup p i c
  · exact ⟨_, _, _, _, _, fit_yes h⟩
  · exact ⟨_, _, _, _, _, fit_no h⟩
theorem find_shape (l : List UInt8) : ∃ x0 x1 x2 x3 e : Int, findV l = .tuple #[.agg #[.int .i64 x0, .int .i64 x1, .int .i64 x2, .int .i64 x3], .int .i64 e] := by
  unfold findV; split
  · exact fit_shape _ _ _
  · split
    · exact fit_shape _ _ _
    · exact ⟨_, _, _, _, _, rfl⟩

theorem lawFinds_p (v : Value) (l : List UInt8) (w : World) (ht : Tab w) (hv : RdB w v l) (hlen : l.length ≤ 140737488355328) :
    PureC Tryd.prog 7 [v] (.bool true) w := by
  refine enter0 Tryd.func7 rfl Tryd.ntmps7 rfl ?_
  obtain ⟨x0, x1, x2, x3, e, hV⟩ := find_shape l
  simp only [envOf]
  refine At.seq ?_
  refine At.region ?_
  refine At.val (Val.assign rfl) rfl rfl rfl ?_
  refine At.nil ?_
  refine At.thenN ?_
  refine At.seq ?_
  refine At.region ?_
  refine At.val (Val.move rfl) rfl rfl rfl ?_
  refine At.callN (fun w hw => copyBytes_n v l w (hv.mod hw.mod) hlen) Tryd.call33 rfl rfl (fun v1 => ?_)
  refine At.val (Val.assign rfl) rfl rfl rfl ?_
  refine At.nil ?_
  refine At.thenN ?_
  refine At.seq ?_
  refine At.region ?_
  refine At.val (Val.move rfl) rfl rfl rfl ?_
  refine At.callP (fun w hw => (by have := findI_p v l w (ht.mod hw.mod) (hv.mod hw.mod) hlen; rwa [hV] at this)) Tryd.call34 rfl rfl ?_
  refine At.val (Val.move rfl) rfl rfl rfl ?_
  refine At.val (Val.extract rfl rfl) rfl rfl rfl ?_
  refine At.val (Val.extract rfl rfl) rfl rfl rfl ?_
  refine At.alloc Tryd.zeroValue25 rfl rfl (fun b2 => ?_)
  refine At.storeAll (i := 0) Tryd.sizeOf25 rfl rfl rfl (by simp [Value.oneCell']) rfl rfl ?_
  simp only [List.set_cons_zero, List.set_cons_succ]
  refine At.val (Val.assign rfl) rfl rfl rfl ?_
  refine At.nil ?_
  refine At.thenN ?_
  refine At.seq ?_
  refine At.region ?_
  refine At.val (Val.move rfl) rfl rfl rfl ?_
  refine At.callP (fun w hw => (by have := findR_p _ l w (row_rd (hw.row (i := 1) rfl) (by decide)) hlen; rwa [hV] at this)) Tryd.call35 rfl rfl ?_
  refine At.val (Val.move rfl) rfl rfl rfl ?_
  refine At.val (Val.extract rfl rfl) rfl rfl rfl ?_
  refine At.val (Val.extract rfl rfl) rfl rfl rfl ?_
  refine At.alloc Tryd.zeroValue25 rfl rfl (fun b3 => ?_)
  refine At.storeAll (i := 0) Tryd.sizeOf25 rfl rfl rfl (by simp [Value.oneCell']) rfl rfl ?_
  simp only [List.set_cons_zero, List.set_cons_succ]
  refine At.val (Val.assign rfl) rfl rfl rfl ?_
  refine At.nil ?_
  refine At.thenN ?_
  refine At.seq ?_
  refine At.region ?_
  refine At.val (Val.loadAll (i := 1) Tryd.isAgg25 Tryd.sizeOf25 rfl rfl rfl) rfl rfl rfl ?_
  refine At.val (Val.loadAll (i := 0) Tryd.isAgg25 Tryd.sizeOf25 rfl rfl rfl) rfl rfl rfl ?_
  refine At.val (Val.eqAgg (b := true) Tryd.eqGuardType25 (fun w => by simpa using eq_25 x0 x1 x2 x3 x0 x1 x2 x3 w) rfl rfl) rfl rfl rfl ?_
  refine At.val (Val.move rfl) rfl rfl rfl ?_
  refine At.yes rfl rfl ?_
  refine At.val (Val.move rfl) rfl rfl rfl ?_
  refine At.yes rfl rfl ?_
  refine At.val (Val.move rfl) rfl rfl rfl ?_
  refine At.yes rfl rfl ?_
  refine At.val (Val.bin rfl rfl rfl) rfl rfl rfl ?_
  refine At.val (Val.pickT rfl rfl) rfl rfl rfl ?_
  refine At.val (Val.move rfl) rfl rfl rfl ?_
  refine At.split (t := 28) rfl (fun h4 => ?_) (fun h4 => ?_)
  · skip
    try simp only [wI_T, wI_F, data_T, data_F, ino_T, ino_F, notT, notF, bneT, bneF, beqT, beqF, decT, decF] at h4
    refine At.yes rfl rfl ?_
    refine At.val (Val.move rfl) rfl rfl rfl ?_
    refine At.yes rfl rfl ?_
    refine At.val (Val.move rfl) rfl rfl rfl ?_
    refine At.yes rfl rfl ?_
    refine At.callP (fun w hw => sameBytes_p _ _ l l w (hv.mod hw.mod) (row_rd (hw.row (i := 2) rfl) (by decide)) hlen hlen) Tryd.call36 rfl rfl ?_
    refine At.val (Val.pickT rfl rfl) rfl rfl rfl ?_
    refine At.val (Val.assign rfl) rfl rfl rfl ?_
    refine At.nil ?_
    refine At.thenN ?_
    refine At.retC ?_
    refine At.ret1 (.inl rfl) rfl rfl rfl (fun w hw => ?_)
    exact ⟨retB (by simp), hw.mod⟩
  · skip
    try simp only [wI_T, wI_F, data_T, data_F, ino_T, ino_F, notT, notF, bneT, bneF, beqT, beqF, decT, decF] at h4
    exact absurd rfl h4

end Go.Proofs.YtoiebgnmknbkjaaDoor
