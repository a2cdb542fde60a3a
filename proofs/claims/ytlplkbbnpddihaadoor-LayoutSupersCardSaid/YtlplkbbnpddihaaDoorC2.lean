/- LayoutSupers, walked. -/
import Derived.Test.YtlplkbbnpddihaaDoorB8
set_option linter.unusedVariables false
set_option linter.unusedSimpArgs false
namespace Go.Proofs.YtlplkbbnpddihaaDoor
open Go Go.Wk
theorem lawSupers_T (l : List UInt8) (w : World) (ht : Tab w) (hl : l.length = 64) (hg : OkSup l) :
    PureC Tryd.prog 4 [.agg (l.map bv).toArray] (.bool true) w := by
  refine enter0 Tryd.func4 rfl Tryd.ntmps4 rfl ?_
  simp only [envOf]
  refine At.seq ?_
  refine At.region ?_
  refine At.box rfl rfl rfl (fun b1 => ?_)
  refine At.val (Val.assign rfl) rfl rfl rfl ?_
  refine At.nil ?_
  refine At.thenN ?_
  refine At.seq ?_
  refine At.region ?_
  refine At.val (Val.loadAll (i := 0) Tryd.isAgg30 Tryd.sizeOf30 rfl rfl (by rw [List.length_map]; exact hl)) rfl rfl rfl ?_
  refine At.callP (fun w hw => (by have := openSup_p l w (ht.mod hw.mod) hl; rwa [openSup_yes hg] at this)) Tryd.call26 rfl rfl ?_
  refine At.val (Val.move rfl) rfl rfl rfl ?_
  refine At.val (Val.extract rfl rfl) rfl rfl rfl ?_
  refine At.val (Val.extract rfl rfl) rfl rfl rfl ?_
  refine At.alloc Tryd.zeroValue23 rfl rfl (fun b2 => ?_)
  refine At.storeAll (i := 0) Tryd.sizeOf23 rfl rfl rfl (by simp [Value.oneCell']) rfl rfl ?_
  simp only [List.set_cons_zero, List.set_cons_succ]
  refine At.val (Val.assign rfl) rfl rfl rfl ?_
  refine At.nil ?_
  refine At.thenN ?_
  refine At.seq ?_
  refine At.region ?_
  refine At.val (Val.loadAll (i := 1) Tryd.isAgg30 Tryd.sizeOf30 rfl rfl (by rw [List.length_map]; exact hl)) rfl rfl rfl ?_
  refine At.callP (fun w hw => (by have := openSupR_p l w hl; rwa [openSup_yes hg] at this)) Tryd.call27 rfl rfl ?_
  refine At.val (Val.move rfl) rfl rfl rfl ?_
  refine At.val (Val.extract rfl rfl) rfl rfl rfl ?_
  refine At.val (Val.extract rfl rfl) rfl rfl rfl ?_
  refine At.alloc Tryd.zeroValue23 rfl rfl (fun b3 => ?_)
  refine At.storeAll (i := 0) Tryd.sizeOf23 rfl rfl rfl (by simp [Value.oneCell']) rfl rfl ?_
  simp only [List.set_cons_zero, List.set_cons_succ]
  refine At.val (Val.assign rfl) rfl rfl rfl ?_
  refine At.nil ?_
  refine At.thenN ?_
  refine At.seq ?_
  refine At.region ?_
  refine At.val (Val.loadAll (i := 1) Tryd.isAgg23 Tryd.sizeOf23 rfl rfl rfl) rfl rfl rfl ?_
  refine At.val (Val.loadAll (i := 0) Tryd.isAgg23 Tryd.sizeOf23 rfl rfl rfl) rfl rfl rfl ?_
  refine At.val (Val.eqAgg (b := true) Tryd.eqGuardType23 (fun w => by simpa using eq_23 (num l 8 4 : Nat) (num l 12 4 : Nat) (num l 16 4 : Nat) (num l 8 4 : Nat) (num l 12 4 : Nat) (num l 16 4 : Nat) w) rfl rfl) rfl rfl rfl ?_
  refine At.val (Val.move rfl) rfl rfl rfl ?_
  refine At.yes rfl rfl ?_
  refine At.val (Val.move rfl) rfl rfl rfl ?_
  refine At.yes rfl rfl ?_
  refine At.val (Val.move rfl) rfl rfl rfl ?_
  refine At.yes rfl rfl ?_
  refine At.val (Val.bin rfl rfl rfl) rfl rfl rfl ?_
  refine At.val (Val.pickT rfl rfl) rfl rfl rfl ?_
  refine At.val (Val.assign rfl) rfl rfl rfl ?_
  refine At.nil ?_
  refine At.thenN ?_
  refine At.retC ?_
  refine At.ret1 (.inl rfl) rfl rfl rfl (fun w hw => ?_)
  exact ⟨rfl, hw.mod⟩

theorem lawSupers_F (l : List UInt8) (w : World) (ht : Tab w) (hl : l.length = 64) (hg : ¬ OkSup l) :
    PureC Tryd.prog 4 [.agg (l.map bv).toArray] (.bool true) w := by
  refine enter0 Tryd.func4 rfl Tryd.ntmps4 rfl ?_
  simp only [envOf]
  refine At.seq ?_
  refine At.region ?_
  refine At.box rfl rfl rfl (fun b1 => ?_)
  refine At.val (Val.assign rfl) rfl rfl rfl ?_
  refine At.nil ?_
  refine At.thenN ?_
  refine At.seq ?_
  refine At.region ?_
  refine At.val (Val.loadAll (i := 0) Tryd.isAgg30 Tryd.sizeOf30 rfl rfl (by rw [List.length_map]; exact hl)) rfl rfl rfl ?_
  refine At.callP (fun w hw => (by have := openSup_p l w (ht.mod hw.mod) hl; rwa [openSup_no hg] at this)) Tryd.call26 rfl rfl ?_
  refine At.val (Val.move rfl) rfl rfl rfl ?_
  refine At.val (Val.extract rfl rfl) rfl rfl rfl ?_
  refine At.val (Val.extract rfl rfl) rfl rfl rfl ?_
  refine At.alloc Tryd.zeroValue23 rfl rfl (fun b2 => ?_)
  refine At.storeAll (i := 0) Tryd.sizeOf23 rfl rfl rfl (by simp [Value.oneCell']) rfl rfl ?_
  simp only [List.set_cons_zero, List.set_cons_succ]
  refine At.val (Val.assign rfl) rfl rfl rfl ?_
  refine At.nil ?_
  refine At.thenN ?_
  refine At.seq ?_
  refine At.region ?_
  refine At.val (Val.loadAll (i := 1) Tryd.isAgg30 Tryd.sizeOf30 rfl rfl (by rw [List.length_map]; exact hl)) rfl rfl rfl ?_
  refine At.callP (fun w hw => (by have := openSupR_p l w hl; rwa [openSup_no hg] at this)) Tryd.call27 rfl rfl ?_
  refine At.val (Val.move rfl) rfl rfl rfl ?_
  refine At.val (Val.extract rfl rfl) rfl rfl rfl ?_
  refine At.val (Val.extract rfl rfl) rfl rfl rfl ?_
  refine At.alloc Tryd.zeroValue23 rfl rfl (fun b3 => ?_)
  refine At.storeAll (i := 0) Tryd.sizeOf23 rfl rfl rfl (by simp [Value.oneCell']) rfl rfl ?_
  simp only [List.set_cons_zero, List.set_cons_succ]
  refine At.val (Val.assign rfl) rfl rfl rfl ?_
  refine At.nil ?_
  refine At.thenN ?_
  refine At.seq ?_
  refine At.region ?_
  refine At.val (Val.loadAll (i := 1) Tryd.isAgg23 Tryd.sizeOf23 rfl rfl rfl) rfl rfl rfl ?_
  refine At.val (Val.loadAll (i := 0) Tryd.isAgg23 Tryd.sizeOf23 rfl rfl rfl) rfl rfl rfl ?_
  refine At.val (Val.eqAgg (b := true) Tryd.eqGuardType23 (fun w => by simpa using eq_23 0 0 0 0 0 0 w) rfl rfl) rfl rfl rfl ?_
  refine At.val (Val.move rfl) rfl rfl rfl ?_
  refine At.yes rfl rfl ?_
  refine At.val (Val.move rfl) rfl rfl rfl ?_
  refine At.yes rfl rfl ?_
  refine At.val (Val.move rfl) rfl rfl rfl ?_
  refine At.yes rfl rfl ?_
  refine At.val (Val.bin rfl rfl rfl) rfl rfl rfl ?_
  refine At.val (Val.pickT rfl rfl) rfl rfl rfl ?_
  refine At.val (Val.assign rfl) rfl rfl rfl ?_
  refine At.nil ?_
  refine At.thenN ?_
  refine At.retC ?_
  refine At.ret1 (.inl rfl) rfl rfl rfl (fun w hw => ?_)
  exact ⟨rfl, hw.mod⟩


theorem lawSupers_p (l : List UInt8) (w : World) (ht : Tab w) (hl : l.length = 64) : PureC Tryd.prog 4 [.agg (l.map bv).toArray] (.bool true) w := by
  by_cases hg : OkSup l
  · exact lawSupers_T l w ht hl hg
  · exact lawSupers_F l w ht hl hg

end Go.Proofs.YtlplkbbnpddihaaDoor
