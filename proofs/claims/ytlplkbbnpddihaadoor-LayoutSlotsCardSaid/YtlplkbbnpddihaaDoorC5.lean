/- LayoutSlots, walked. -/
import Derived.Test.YtlplkbbnpddihaaDoorB14
set_option linter.unusedVariables false
set_option linter.unusedSimpArgs false
namespace Go.Proofs.YtlplkbbnpddihaaDoor
open Go Go.Wk
theorem lawSlots_T0 (i k l h t : Int) (x y z : BitVec 64) (w : World) (ht : Tab w) (hb : -9223372036854775808 ≤ t ∧ t ≤ 9223372036854775807) (hg : GoodP i k l h t) (ho : ¬ OkSl i x y z) :
    PureC Tryd.prog 11 [.int .i64 i, .agg #[.int .i64 k, .int .i64 l, .int .i64 h, .int .i64 t], .agg #[b64 x, b64 y, b64 z]] (.bool true) w := by
  refine enter0 Tryd.func11 rfl Tryd.ntmps11 rfl ?_
  simp only [envOf]
  refine At.seq ?_
  refine At.region ?_
  refine At.box rfl rfl rfl (fun b1 => ?_)
  refine At.box rfl rfl rfl (fun b2 => ?_)
  refine At.val (Val.assign rfl) rfl rfl rfl ?_
  refine At.nil ?_
  refine At.thenN ?_
  refine At.seq ?_
  refine At.region ?_
  refine At.val (Val.move rfl) rfl rfl rfl ?_
  refine At.val (Val.loadAll (i := 1) Tryd.isAgg61 Tryd.sizeOf61 rfl rfl rfl) rfl rfl rfl ?_
  refine At.callP (fun w hw => (by have := packSlot_p i k l h t w (ht.mod hw.mod) hb; rwa [packSlot_yes hg] at this)) Tryd.call45 rfl rfl ?_
  refine At.val (Val.move rfl) rfl rfl rfl ?_
  refine At.val (Val.extract rfl rfl) rfl rfl rfl ?_
  refine At.val (Val.extract rfl rfl) rfl rfl rfl ?_
  refine At.alloc zero_72 zc_72 rfl (fun b3 => ?_)
  refine At.storeAll (i := 0) Tryd.sizeOf72 rfl rfl rfl (by simp [Value.oneCell']) rfl (by simp) ?_
  simp only [List.set_cons_zero, List.set_cons_succ]
  refine At.val (Val.assign rfl) rfl rfl rfl ?_
  refine At.nil ?_
  refine At.thenN ?_
  refine At.seq ?_
  refine At.region ?_
  refine At.val (Val.move rfl) rfl rfl rfl ?_
  refine At.val (Val.loadAll (i := 2) Tryd.isAgg61 Tryd.sizeOf61 rfl rfl rfl) rfl rfl rfl ?_
  refine At.callP (fun w hw => (by have := packSlotR_p i k l h t w hb; rwa [packSlot_yes hg] at this)) Tryd.call46 rfl rfl ?_
  refine At.val (Val.move rfl) rfl rfl rfl ?_
  refine At.val (Val.extract rfl rfl) rfl rfl rfl ?_
  refine At.val (Val.extract rfl rfl) rfl rfl rfl ?_
  refine At.alloc zero_72 zc_72 rfl (fun b4 => ?_)
  refine At.storeAll (i := 0) Tryd.sizeOf72 rfl rfl rfl (by simp [Value.oneCell']) rfl (by simp) ?_
  simp only [List.set_cons_zero, List.set_cons_succ]
  refine At.val (Val.assign rfl) rfl rfl rfl ?_
  refine At.nil ?_
  refine At.thenN ?_
  refine At.seq ?_
  refine At.seq ?_
  refine At.region ?_
  refine At.val (Val.loadAll (i := 1) Tryd.isAgg72 Tryd.sizeOf72 rfl rfl rfl) rfl rfl rfl ?_
  refine At.val (Val.loadAll (i := 0) Tryd.isAgg72 Tryd.sizeOf72 rfl rfl rfl) rfl rfl rfl ?_
  refine At.val (Val.neAgg (b := true) Tryd.eqGuardType72 (fun w => run_same_words Tryd.underlying72 Tryd.underlying40 Tryd.isAgg40 Tryd.sizeOf40 (slotW i k l h t) rfl w) rfl rfl) rfl rfl rfl ?_
  refine At.val (Val.move rfl) rfl rfl rfl ?_
  refine At.yes rfl rfl ?_
  refine At.val (Val.move rfl) rfl rfl rfl ?_
  refine At.yes rfl rfl ?_
  refine At.val (Val.move rfl) rfl rfl rfl ?_
  refine At.yes rfl rfl ?_
  refine At.val (Val.bin rfl rfl rfl) rfl rfl rfl ?_
  refine At.val (Val.pickF rfl rfl) rfl rfl rfl ?_
  refine At.nil ?_
  refine At.thenN ?_
  refine At.condF rfl ?_
  refine At.skipC ?_
  refine At.thenN ?_
  refine At.seq ?_
  refine At.region ?_
  refine At.val (Val.move rfl) rfl rfl rfl ?_
  refine At.val (Val.loadAll (i := 2) Tryd.isAgg72 Tryd.sizeOf72 rfl rfl rfl) rfl rfl rfl ?_
  refine At.callP (fun w hw => (by have := openSlot_p i x y z w (ht.mod hw.mod); rwa [openSlot_no ho] at this)) Tryd.call47 rfl rfl ?_
  refine At.val (Val.move rfl) rfl rfl rfl ?_
  refine At.val (Val.extract rfl rfl) rfl rfl rfl ?_
  refine At.val (Val.extract rfl rfl) rfl rfl rfl ?_
  refine At.alloc Tryd.zeroValue61 rfl rfl (fun b5 => ?_)
  refine At.storeAll (i := 0) Tryd.sizeOf61 rfl rfl rfl (by simp [Value.oneCell']) rfl rfl ?_
  simp only [List.set_cons_zero, List.set_cons_succ]
  refine At.val (Val.assign rfl) rfl rfl rfl ?_
  refine At.nil ?_
  refine At.thenN ?_
  refine At.seq ?_
  refine At.region ?_
  refine At.val (Val.move rfl) rfl rfl rfl ?_
  refine At.val (Val.loadAll (i := 3) Tryd.isAgg72 Tryd.sizeOf72 rfl rfl rfl) rfl rfl rfl ?_
  refine At.callP (fun w hw => (by have := openSlotR_p i x y z w; rwa [openSlot_no ho] at this)) Tryd.call48 rfl rfl ?_
  refine At.val (Val.move rfl) rfl rfl rfl ?_
  refine At.val (Val.extract rfl rfl) rfl rfl rfl ?_
  refine At.val (Val.extract rfl rfl) rfl rfl rfl ?_
  refine At.alloc Tryd.zeroValue61 rfl rfl (fun b6 => ?_)
  refine At.storeAll (i := 0) Tryd.sizeOf61 rfl rfl rfl (by simp [Value.oneCell']) rfl rfl ?_
  simp only [List.set_cons_zero, List.set_cons_succ]
  refine At.val (Val.assign rfl) rfl rfl rfl ?_
  refine At.nil ?_
  refine At.thenN ?_
  refine At.seq ?_
  refine At.region ?_
  refine At.val (Val.loadAll (i := 1) Tryd.isAgg61 Tryd.sizeOf61 rfl rfl rfl) rfl rfl rfl ?_
  refine At.val (Val.loadAll (i := 0) Tryd.isAgg61 Tryd.sizeOf61 rfl rfl rfl) rfl rfl rfl ?_
  refine At.val (Val.eqAgg (b := true) Tryd.eqGuardType61 (fun w => by simpa using eq_61 0 0 0 0 0 0 0 0 w) rfl rfl) rfl rfl rfl ?_
  refine At.val (Val.move rfl) rfl rfl rfl ?_
  refine At.yes rfl rfl ?_
  refine At.val (Val.move rfl) rfl rfl rfl ?_
  refine At.yes rfl rfl ?_
  refine At.val (Val.move rfl) rfl rfl rfl ?_
  refine At.yes rfl rfl ?_
  refine At.val (Val.bin rfl rfl rfl) rfl rfl rfl ?_
  refine At.val (Val.pickT rfl rfl) rfl rfl rfl ?_
  refine At.val (Val.assign rfl) rfl rfl rfl ?_
  refine At.nil ?_
  refine At.thenN ?_
  refine At.retC ?_
  refine At.ret1 (.inl rfl) rfl rfl rfl (fun w hw => ?_)
  exact ⟨rfl, hw.mod⟩

theorem lawSlots_T1 (i k l h t : Int) (x y z : BitVec 64) (w : World) (ht : Tab w) (hb : -9223372036854775808 ≤ t ∧ t ≤ 9223372036854775807) (hg : GoodP i k l h t) (ho : OkSl i x y z) (hm : lo x = 0) :
    PureC Tryd.prog 11 [.int .i64 i, .agg #[.int .i64 k, .int .i64 l, .int .i64 h, .int .i64 t], .agg #[b64 x, b64 y, b64 z]] (.bool true) w := by
  refine enter0 Tryd.func11 rfl Tryd.ntmps11 rfl ?_
  simp only [envOf]
  refine At.seq ?_
  refine At.region ?_
  refine At.box rfl rfl rfl (fun b1 => ?_)
  refine At.box rfl rfl rfl (fun b2 => ?_)
  refine At.val (Val.assign rfl) rfl rfl rfl ?_
  refine At.nil ?_
  refine At.thenN ?_
  refine At.seq ?_
  refine At.region ?_
  refine At.val (Val.move rfl) rfl rfl rfl ?_
  refine At.val (Val.loadAll (i := 1) Tryd.isAgg61 Tryd.sizeOf61 rfl rfl rfl) rfl rfl rfl ?_
  refine At.callP (fun w hw => (by have := packSlot_p i k l h t w (ht.mod hw.mod) hb; rwa [packSlot_yes hg] at this)) Tryd.call45 rfl rfl ?_
  refine At.val (Val.move rfl) rfl rfl rfl ?_
  refine At.val (Val.extract rfl rfl) rfl rfl rfl ?_
  refine At.val (Val.extract rfl rfl) rfl rfl rfl ?_
  refine At.alloc zero_72 zc_72 rfl (fun b3 => ?_)
  refine At.storeAll (i := 0) Tryd.sizeOf72 rfl rfl rfl (by simp [Value.oneCell']) rfl (by simp) ?_
  simp only [List.set_cons_zero, List.set_cons_succ]
  refine At.val (Val.assign rfl) rfl rfl rfl ?_
  refine At.nil ?_
  refine At.thenN ?_
  refine At.seq ?_
  refine At.region ?_
  refine At.val (Val.move rfl) rfl rfl rfl ?_
  refine At.val (Val.loadAll (i := 2) Tryd.isAgg61 Tryd.sizeOf61 rfl rfl rfl) rfl rfl rfl ?_
  refine At.callP (fun w hw => (by have := packSlotR_p i k l h t w hb; rwa [packSlot_yes hg] at this)) Tryd.call46 rfl rfl ?_
  refine At.val (Val.move rfl) rfl rfl rfl ?_
  refine At.val (Val.extract rfl rfl) rfl rfl rfl ?_
  refine At.val (Val.extract rfl rfl) rfl rfl rfl ?_
  refine At.alloc zero_72 zc_72 rfl (fun b4 => ?_)
  refine At.storeAll (i := 0) Tryd.sizeOf72 rfl rfl rfl (by simp [Value.oneCell']) rfl (by simp) ?_
  simp only [List.set_cons_zero, List.set_cons_succ]
  refine At.val (Val.assign rfl) rfl rfl rfl ?_
  refine At.nil ?_
  refine At.thenN ?_
  refine At.seq ?_
  refine At.seq ?_
  refine At.region ?_
  refine At.val (Val.loadAll (i := 1) Tryd.isAgg72 Tryd.sizeOf72 rfl rfl rfl) rfl rfl rfl ?_
  refine At.val (Val.loadAll (i := 0) Tryd.isAgg72 Tryd.sizeOf72 rfl rfl rfl) rfl rfl rfl ?_
  refine At.val (Val.neAgg (b := true) Tryd.eqGuardType72 (fun w => run_same_words Tryd.underlying72 Tryd.underlying40 Tryd.isAgg40 Tryd.sizeOf40 (slotW i k l h t) rfl w) rfl rfl) rfl rfl rfl ?_
  refine At.val (Val.move rfl) rfl rfl rfl ?_
  refine At.yes rfl rfl ?_
  refine At.val (Val.move rfl) rfl rfl rfl ?_
  refine At.yes rfl rfl ?_
  refine At.val (Val.move rfl) rfl rfl rfl ?_
  refine At.yes rfl rfl ?_
  refine At.val (Val.bin rfl rfl rfl) rfl rfl rfl ?_
  refine At.val (Val.pickF rfl rfl) rfl rfl rfl ?_
  refine At.nil ?_
  refine At.thenN ?_
  refine At.condF rfl ?_
  refine At.skipC ?_
  refine At.thenN ?_
  refine At.seq ?_
  refine At.region ?_
  refine At.val (Val.move rfl) rfl rfl rfl ?_
  refine At.val (Val.loadAll (i := 2) Tryd.isAgg72 Tryd.sizeOf72 rfl rfl rfl) rfl rfl rfl ?_
  refine At.callP (fun w hw => (by have := openSlot_p i x y z w (ht.mod hw.mod); rwa [openSlot_yes ho, slotOf_0 hm] at this)) Tryd.call47 rfl rfl ?_
  refine At.val (Val.move rfl) rfl rfl rfl ?_
  refine At.val (Val.extract rfl rfl) rfl rfl rfl ?_
  refine At.val (Val.extract rfl rfl) rfl rfl rfl ?_
  refine At.alloc Tryd.zeroValue61 rfl rfl (fun b5 => ?_)
  refine At.storeAll (i := 0) Tryd.sizeOf61 rfl rfl rfl (by simp [Value.oneCell']) rfl rfl ?_
  simp only [List.set_cons_zero, List.set_cons_succ]
  refine At.val (Val.assign rfl) rfl rfl rfl ?_
  refine At.nil ?_
  refine At.thenN ?_
  refine At.seq ?_
  refine At.region ?_
  refine At.val (Val.move rfl) rfl rfl rfl ?_
  refine At.val (Val.loadAll (i := 3) Tryd.isAgg72 Tryd.sizeOf72 rfl rfl rfl) rfl rfl rfl ?_
  refine At.callP (fun w hw => (by have := openSlotR_p i x y z w; rwa [openSlot_yes ho, slotOf_0 hm] at this)) Tryd.call48 rfl rfl ?_
  refine At.val (Val.move rfl) rfl rfl rfl ?_
  refine At.val (Val.extract rfl rfl) rfl rfl rfl ?_
  refine At.val (Val.extract rfl rfl) rfl rfl rfl ?_
  refine At.alloc Tryd.zeroValue61 rfl rfl (fun b6 => ?_)
  refine At.storeAll (i := 0) Tryd.sizeOf61 rfl rfl rfl (by simp [Value.oneCell']) rfl rfl ?_
  simp only [List.set_cons_zero, List.set_cons_succ]
  refine At.val (Val.assign rfl) rfl rfl rfl ?_
  refine At.nil ?_
  refine At.thenN ?_
  refine At.seq ?_
  refine At.region ?_
  refine At.val (Val.loadAll (i := 1) Tryd.isAgg61 Tryd.sizeOf61 rfl rfl rfl) rfl rfl rfl ?_
  refine At.val (Val.loadAll (i := 0) Tryd.isAgg61 Tryd.sizeOf61 rfl rfl rfl) rfl rfl rfl ?_
  refine At.val (Val.eqAgg (b := true) Tryd.eqGuardType61 (fun w => by simpa using eq_61 0 0 0 0 0 0 0 0 w) rfl rfl) rfl rfl rfl ?_
  refine At.val (Val.move rfl) rfl rfl rfl ?_
  refine At.yes rfl rfl ?_
  refine At.val (Val.move rfl) rfl rfl rfl ?_
  refine At.yes rfl rfl ?_
  refine At.val (Val.move rfl) rfl rfl rfl ?_
  refine At.yes rfl rfl ?_
  refine At.val (Val.bin rfl rfl rfl) rfl rfl rfl ?_
  refine At.val (Val.pickT rfl rfl) rfl rfl rfl ?_
  refine At.val (Val.assign rfl) rfl rfl rfl ?_
  refine At.nil ?_
  refine At.thenN ?_
  refine At.retC ?_
  refine At.ret1 (.inl rfl) rfl rfl rfl (fun w hw => ?_)
  exact ⟨rfl, hw.mod⟩

theorem lawSlots_T2 (i k l h t : Int) (x y z : BitVec 64) (w : World) (ht : Tab w) (hb : -9223372036854775808 ≤ t ∧ t ≤ 9223372036854775807) (hg : GoodP i k l h t) (ho : OkSl i x y z) (hm : ¬ lo x = 0) :
    PureC Tryd.prog 11 [.int .i64 i, .agg #[.int .i64 k, .int .i64 l, .int .i64 h, .int .i64 t], .agg #[b64 x, b64 y, b64 z]] (.bool true) w := by
  refine enter0 Tryd.func11 rfl Tryd.ntmps11 rfl ?_
  simp only [envOf]
  refine At.seq ?_
  refine At.region ?_
  refine At.box rfl rfl rfl (fun b1 => ?_)
  refine At.box rfl rfl rfl (fun b2 => ?_)
  refine At.val (Val.assign rfl) rfl rfl rfl ?_
  refine At.nil ?_
  refine At.thenN ?_
  refine At.seq ?_
  refine At.region ?_
  refine At.val (Val.move rfl) rfl rfl rfl ?_
  refine At.val (Val.loadAll (i := 1) Tryd.isAgg61 Tryd.sizeOf61 rfl rfl rfl) rfl rfl rfl ?_
  refine At.callP (fun w hw => (by have := packSlot_p i k l h t w (ht.mod hw.mod) hb; rwa [packSlot_yes hg] at this)) Tryd.call45 rfl rfl ?_
  refine At.val (Val.move rfl) rfl rfl rfl ?_
  refine At.val (Val.extract rfl rfl) rfl rfl rfl ?_
  refine At.val (Val.extract rfl rfl) rfl rfl rfl ?_
  refine At.alloc zero_72 zc_72 rfl (fun b3 => ?_)
  refine At.storeAll (i := 0) Tryd.sizeOf72 rfl rfl rfl (by simp [Value.oneCell']) rfl (by simp) ?_
  simp only [List.set_cons_zero, List.set_cons_succ]
  refine At.val (Val.assign rfl) rfl rfl rfl ?_
  refine At.nil ?_
  refine At.thenN ?_
  refine At.seq ?_
  refine At.region ?_
  refine At.val (Val.move rfl) rfl rfl rfl ?_
  refine At.val (Val.loadAll (i := 2) Tryd.isAgg61 Tryd.sizeOf61 rfl rfl rfl) rfl rfl rfl ?_
  refine At.callP (fun w hw => (by have := packSlotR_p i k l h t w hb; rwa [packSlot_yes hg] at this)) Tryd.call46 rfl rfl ?_
  refine At.val (Val.move rfl) rfl rfl rfl ?_
  refine At.val (Val.extract rfl rfl) rfl rfl rfl ?_
  refine At.val (Val.extract rfl rfl) rfl rfl rfl ?_
  refine At.alloc zero_72 zc_72 rfl (fun b4 => ?_)
  refine At.storeAll (i := 0) Tryd.sizeOf72 rfl rfl rfl (by simp [Value.oneCell']) rfl (by simp) ?_
  simp only [List.set_cons_zero, List.set_cons_succ]
  refine At.val (Val.assign rfl) rfl rfl rfl ?_
  refine At.nil ?_
  refine At.thenN ?_
  refine At.seq ?_
  refine At.seq ?_
  refine At.region ?_
  refine At.val (Val.loadAll (i := 1) Tryd.isAgg72 Tryd.sizeOf72 rfl rfl rfl) rfl rfl rfl ?_
  refine At.val (Val.loadAll (i := 0) Tryd.isAgg72 Tryd.sizeOf72 rfl rfl rfl) rfl rfl rfl ?_
  refine At.val (Val.neAgg (b := true) Tryd.eqGuardType72 (fun w => run_same_words Tryd.underlying72 Tryd.underlying40 Tryd.isAgg40 Tryd.sizeOf40 (slotW i k l h t) rfl w) rfl rfl) rfl rfl rfl ?_
  refine At.val (Val.move rfl) rfl rfl rfl ?_
  refine At.yes rfl rfl ?_
  refine At.val (Val.move rfl) rfl rfl rfl ?_
  refine At.yes rfl rfl ?_
  refine At.val (Val.move rfl) rfl rfl rfl ?_
  refine At.yes rfl rfl ?_
  refine At.val (Val.bin rfl rfl rfl) rfl rfl rfl ?_
  refine At.val (Val.pickF rfl rfl) rfl rfl rfl ?_
  refine At.nil ?_
  refine At.thenN ?_
  refine At.condF rfl ?_
  refine At.skipC ?_
  refine At.thenN ?_
  refine At.seq ?_
  refine At.region ?_
  refine At.val (Val.move rfl) rfl rfl rfl ?_
  refine At.val (Val.loadAll (i := 2) Tryd.isAgg72 Tryd.sizeOf72 rfl rfl rfl) rfl rfl rfl ?_
  refine At.callP (fun w hw => (by have := openSlot_p i x y z w (ht.mod hw.mod); rwa [openSlot_yes ho, slotOf_1 hm] at this)) Tryd.call47 rfl rfl ?_
  refine At.val (Val.move rfl) rfl rfl rfl ?_
  refine At.val (Val.extract rfl rfl) rfl rfl rfl ?_
  refine At.val (Val.extract rfl rfl) rfl rfl rfl ?_
  refine At.alloc Tryd.zeroValue61 rfl rfl (fun b5 => ?_)
  refine At.storeAll (i := 0) Tryd.sizeOf61 rfl rfl rfl (by simp [Value.oneCell']) rfl rfl ?_
  simp only [List.set_cons_zero, List.set_cons_succ]
  refine At.val (Val.assign rfl) rfl rfl rfl ?_
  refine At.nil ?_
  refine At.thenN ?_
  refine At.seq ?_
  refine At.region ?_
  refine At.val (Val.move rfl) rfl rfl rfl ?_
  refine At.val (Val.loadAll (i := 3) Tryd.isAgg72 Tryd.sizeOf72 rfl rfl rfl) rfl rfl rfl ?_
  refine At.callP (fun w hw => (by have := openSlotR_p i x y z w; rwa [openSlot_yes ho, slotOf_1 hm] at this)) Tryd.call48 rfl rfl ?_
  refine At.val (Val.move rfl) rfl rfl rfl ?_
  refine At.val (Val.extract rfl rfl) rfl rfl rfl ?_
  refine At.val (Val.extract rfl rfl) rfl rfl rfl ?_
  refine At.alloc Tryd.zeroValue61 rfl rfl (fun b6 => ?_)
  refine At.storeAll (i := 0) Tryd.sizeOf61 rfl rfl rfl (by simp [Value.oneCell']) rfl rfl ?_
  simp only [List.set_cons_zero, List.set_cons_succ]
  refine At.val (Val.assign rfl) rfl rfl rfl ?_
  refine At.nil ?_
  refine At.thenN ?_
  refine At.seq ?_
  refine At.region ?_
  refine At.val (Val.loadAll (i := 1) Tryd.isAgg61 Tryd.sizeOf61 rfl rfl rfl) rfl rfl rfl ?_
  refine At.val (Val.loadAll (i := 0) Tryd.isAgg61 Tryd.sizeOf61 rfl rfl rfl) rfl rfl rfl ?_
  refine At.val (Val.eqAgg (b := true) Tryd.eqGuardType61 (fun w => by simpa using eq_61 (lo x % 256 : Nat) (lo x / 256 : Nat) (hdOf y z : Nat) (lo z : Nat) (lo x % 256 : Nat) (lo x / 256 : Nat) (hdOf y z : Nat) (lo z : Nat) w) rfl rfl) rfl rfl rfl ?_
  refine At.val (Val.move rfl) rfl rfl rfl ?_
  refine At.yes rfl rfl ?_
  refine At.val (Val.move rfl) rfl rfl rfl ?_
  refine At.yes rfl rfl ?_
  refine At.val (Val.move rfl) rfl rfl rfl ?_
  refine At.yes rfl rfl ?_
  refine At.val (Val.bin rfl rfl rfl) rfl rfl rfl ?_
  refine At.val (Val.pickT rfl rfl) rfl rfl rfl ?_
  refine At.val (Val.assign rfl) rfl rfl rfl ?_
  refine At.nil ?_
  refine At.thenN ?_
  refine At.retC ?_
  refine At.ret1 (.inl rfl) rfl rfl rfl (fun w hw => ?_)
  exact ⟨rfl, hw.mod⟩

theorem lawSlots_F0 (i k l h t : Int) (x y z : BitVec 64) (w : World) (ht : Tab w) (hb : -9223372036854775808 ≤ t ∧ t ≤ 9223372036854775807) (hg : ¬ GoodP i k l h t) (ho : ¬ OkSl i x y z) :
    PureC Tryd.prog 11 [.int .i64 i, .agg #[.int .i64 k, .int .i64 l, .int .i64 h, .int .i64 t], .agg #[b64 x, b64 y, b64 z]] (.bool true) w := by
  refine enter0 Tryd.func11 rfl Tryd.ntmps11 rfl ?_
  simp only [envOf]
  refine At.seq ?_
  refine At.region ?_
  refine At.box rfl rfl rfl (fun b1 => ?_)
  refine At.box rfl rfl rfl (fun b2 => ?_)
  refine At.val (Val.assign rfl) rfl rfl rfl ?_
  refine At.nil ?_
  refine At.thenN ?_
  refine At.seq ?_
  refine At.region ?_
  refine At.val (Val.move rfl) rfl rfl rfl ?_
  refine At.val (Val.loadAll (i := 1) Tryd.isAgg61 Tryd.sizeOf61 rfl rfl rfl) rfl rfl rfl ?_
  refine At.callP (fun w hw => (by have := packSlot_p i k l h t w (ht.mod hw.mod) hb; rwa [packSlot_no hg] at this)) Tryd.call45 rfl rfl ?_
  refine At.val (Val.move rfl) rfl rfl rfl ?_
  refine At.val (Val.extract rfl rfl) rfl rfl rfl ?_
  refine At.val (Val.extract rfl rfl) rfl rfl rfl ?_
  refine At.alloc zero_72 zc_72 rfl (fun b3 => ?_)
  refine At.storeAll (i := 0) Tryd.sizeOf72 rfl rfl rfl (by simp [Value.oneCell']) rfl (by simp) ?_
  simp only [List.set_cons_zero, List.set_cons_succ]
  refine At.val (Val.assign rfl) rfl rfl rfl ?_
  refine At.nil ?_
  refine At.thenN ?_
  refine At.seq ?_
  refine At.region ?_
  refine At.val (Val.move rfl) rfl rfl rfl ?_
  refine At.val (Val.loadAll (i := 2) Tryd.isAgg61 Tryd.sizeOf61 rfl rfl rfl) rfl rfl rfl ?_
  refine At.callP (fun w hw => (by have := packSlotR_p i k l h t w hb; rwa [packSlot_no hg] at this)) Tryd.call46 rfl rfl ?_
  refine At.val (Val.move rfl) rfl rfl rfl ?_
  refine At.val (Val.extract rfl rfl) rfl rfl rfl ?_
  refine At.val (Val.extract rfl rfl) rfl rfl rfl ?_
  refine At.alloc zero_72 zc_72 rfl (fun b4 => ?_)
  refine At.storeAll (i := 0) Tryd.sizeOf72 rfl rfl rfl (by simp [Value.oneCell']) rfl (by simp) ?_
  simp only [List.set_cons_zero, List.set_cons_succ]
  refine At.val (Val.assign rfl) rfl rfl rfl ?_
  refine At.nil ?_
  refine At.thenN ?_
  refine At.seq ?_
  refine At.seq ?_
  refine At.region ?_
  refine At.val (Val.loadAll (i := 1) Tryd.isAgg72 Tryd.sizeOf72 rfl rfl (by simp)) rfl rfl rfl ?_
  refine At.val (Val.loadAll (i := 0) Tryd.isAgg72 Tryd.sizeOf72 rfl rfl (by simp)) rfl rfl rfl ?_
  refine At.val (Val.neAgg (b := true) Tryd.eqGuardType72 (fun w => run_same_words Tryd.underlying72 Tryd.underlying40 Tryd.isAgg40 Tryd.sizeOf40 ([(0 : BitVec 64), 0, 0]) rfl w) rfl rfl) rfl rfl rfl ?_
  refine At.val (Val.move rfl) rfl rfl rfl ?_
  refine At.yes rfl rfl ?_
  refine At.val (Val.move rfl) rfl rfl rfl ?_
  refine At.yes rfl rfl ?_
  refine At.val (Val.move rfl) rfl rfl rfl ?_
  refine At.yes rfl rfl ?_
  refine At.val (Val.bin rfl rfl rfl) rfl rfl rfl ?_
  refine At.val (Val.pickF rfl rfl) rfl rfl rfl ?_
  refine At.nil ?_
  refine At.thenN ?_
  refine At.condF rfl ?_
  refine At.skipC ?_
  refine At.thenN ?_
  refine At.seq ?_
  refine At.region ?_
  refine At.val (Val.move rfl) rfl rfl rfl ?_
  refine At.val (Val.loadAll (i := 2) Tryd.isAgg72 Tryd.sizeOf72 rfl rfl rfl) rfl rfl rfl ?_
  refine At.callP (fun w hw => (by have := openSlot_p i x y z w (ht.mod hw.mod); rwa [openSlot_no ho] at this)) Tryd.call47 rfl rfl ?_
  refine At.val (Val.move rfl) rfl rfl rfl ?_
  refine At.val (Val.extract rfl rfl) rfl rfl rfl ?_
  refine At.val (Val.extract rfl rfl) rfl rfl rfl ?_
  refine At.alloc Tryd.zeroValue61 rfl rfl (fun b5 => ?_)
  refine At.storeAll (i := 0) Tryd.sizeOf61 rfl rfl rfl (by simp [Value.oneCell']) rfl rfl ?_
  simp only [List.set_cons_zero, List.set_cons_succ]
  refine At.val (Val.assign rfl) rfl rfl rfl ?_
  refine At.nil ?_
  refine At.thenN ?_
  refine At.seq ?_
  refine At.region ?_
  refine At.val (Val.move rfl) rfl rfl rfl ?_
  refine At.val (Val.loadAll (i := 3) Tryd.isAgg72 Tryd.sizeOf72 rfl rfl rfl) rfl rfl rfl ?_
  refine At.callP (fun w hw => (by have := openSlotR_p i x y z w; rwa [openSlot_no ho] at this)) Tryd.call48 rfl rfl ?_
  refine At.val (Val.move rfl) rfl rfl rfl ?_
  refine At.val (Val.extract rfl rfl) rfl rfl rfl ?_
  refine At.val (Val.extract rfl rfl) rfl rfl rfl ?_
  refine At.alloc Tryd.zeroValue61 rfl rfl (fun b6 => ?_)
  refine At.storeAll (i := 0) Tryd.sizeOf61 rfl rfl rfl (by simp [Value.oneCell']) rfl rfl ?_
  simp only [List.set_cons_zero, List.set_cons_succ]
  refine At.val (Val.assign rfl) rfl rfl rfl ?_
  refine At.nil ?_
  refine At.thenN ?_
  refine At.seq ?_
  refine At.region ?_
  refine At.val (Val.loadAll (i := 1) Tryd.isAgg61 Tryd.sizeOf61 rfl rfl rfl) rfl rfl rfl ?_
  refine At.val (Val.loadAll (i := 0) Tryd.isAgg61 Tryd.sizeOf61 rfl rfl rfl) rfl rfl rfl ?_
  refine At.val (Val.eqAgg (b := true) Tryd.eqGuardType61 (fun w => by simpa using eq_61 0 0 0 0 0 0 0 0 w) rfl rfl) rfl rfl rfl ?_
  refine At.val (Val.move rfl) rfl rfl rfl ?_
  refine At.yes rfl rfl ?_
  refine At.val (Val.move rfl) rfl rfl rfl ?_
  refine At.yes rfl rfl ?_
  refine At.val (Val.move rfl) rfl rfl rfl ?_
  refine At.yes rfl rfl ?_
  refine At.val (Val.bin rfl rfl rfl) rfl rfl rfl ?_
  refine At.val (Val.pickT rfl rfl) rfl rfl rfl ?_
  refine At.val (Val.assign rfl) rfl rfl rfl ?_
  refine At.nil ?_
  refine At.thenN ?_
  refine At.retC ?_
  refine At.ret1 (.inl rfl) rfl rfl rfl (fun w hw => ?_)
  exact ⟨rfl, hw.mod⟩

theorem lawSlots_F1 (i k l h t : Int) (x y z : BitVec 64) (w : World) (ht : Tab w) (hb : -9223372036854775808 ≤ t ∧ t ≤ 9223372036854775807) (hg : ¬ GoodP i k l h t) (ho : OkSl i x y z) (hm : lo x = 0) :
    PureC Tryd.prog 11 [.int .i64 i, .agg #[.int .i64 k, .int .i64 l, .int .i64 h, .int .i64 t], .agg #[b64 x, b64 y, b64 z]] (.bool true) w := by
  refine enter0 Tryd.func11 rfl Tryd.ntmps11 rfl ?_
  simp only [envOf]
  refine At.seq ?_
  refine At.region ?_
  refine At.box rfl rfl rfl (fun b1 => ?_)
  refine At.box rfl rfl rfl (fun b2 => ?_)
  refine At.val (Val.assign rfl) rfl rfl rfl ?_
  refine At.nil ?_
  refine At.thenN ?_
  refine At.seq ?_
  refine At.region ?_
  refine At.val (Val.move rfl) rfl rfl rfl ?_
  refine At.val (Val.loadAll (i := 1) Tryd.isAgg61 Tryd.sizeOf61 rfl rfl rfl) rfl rfl rfl ?_
  refine At.callP (fun w hw => (by have := packSlot_p i k l h t w (ht.mod hw.mod) hb; rwa [packSlot_no hg] at this)) Tryd.call45 rfl rfl ?_
  refine At.val (Val.move rfl) rfl rfl rfl ?_
  refine At.val (Val.extract rfl rfl) rfl rfl rfl ?_
  refine At.val (Val.extract rfl rfl) rfl rfl rfl ?_
  refine At.alloc zero_72 zc_72 rfl (fun b3 => ?_)
  refine At.storeAll (i := 0) Tryd.sizeOf72 rfl rfl rfl (by simp [Value.oneCell']) rfl (by simp) ?_
  simp only [List.set_cons_zero, List.set_cons_succ]
  refine At.val (Val.assign rfl) rfl rfl rfl ?_
  refine At.nil ?_
  refine At.thenN ?_
  refine At.seq ?_
  refine At.region ?_
  refine At.val (Val.move rfl) rfl rfl rfl ?_
  refine At.val (Val.loadAll (i := 2) Tryd.isAgg61 Tryd.sizeOf61 rfl rfl rfl) rfl rfl rfl ?_
  refine At.callP (fun w hw => (by have := packSlotR_p i k l h t w hb; rwa [packSlot_no hg] at this)) Tryd.call46 rfl rfl ?_
  refine At.val (Val.move rfl) rfl rfl rfl ?_
  refine At.val (Val.extract rfl rfl) rfl rfl rfl ?_
  refine At.val (Val.extract rfl rfl) rfl rfl rfl ?_
  refine At.alloc zero_72 zc_72 rfl (fun b4 => ?_)
  refine At.storeAll (i := 0) Tryd.sizeOf72 rfl rfl rfl (by simp [Value.oneCell']) rfl (by simp) ?_
  simp only [List.set_cons_zero, List.set_cons_succ]
  refine At.val (Val.assign rfl) rfl rfl rfl ?_
  refine At.nil ?_
  refine At.thenN ?_
  refine At.seq ?_
  refine At.seq ?_
  refine At.region ?_
  refine At.val (Val.loadAll (i := 1) Tryd.isAgg72 Tryd.sizeOf72 rfl rfl (by simp)) rfl rfl rfl ?_
  refine At.val (Val.loadAll (i := 0) Tryd.isAgg72 Tryd.sizeOf72 rfl rfl (by simp)) rfl rfl rfl ?_
  refine At.val (Val.neAgg (b := true) Tryd.eqGuardType72 (fun w => run_same_words Tryd.underlying72 Tryd.underlying40 Tryd.isAgg40 Tryd.sizeOf40 ([(0 : BitVec 64), 0, 0]) rfl w) rfl rfl) rfl rfl rfl ?_
  refine At.val (Val.move rfl) rfl rfl rfl ?_
  refine At.yes rfl rfl ?_
  refine At.val (Val.move rfl) rfl rfl rfl ?_
  refine At.yes rfl rfl ?_
  refine At.val (Val.move rfl) rfl rfl rfl ?_
  refine At.yes rfl rfl ?_
  refine At.val (Val.bin rfl rfl rfl) rfl rfl rfl ?_
  refine At.val (Val.pickF rfl rfl) rfl rfl rfl ?_
  refine At.nil ?_
  refine At.thenN ?_
  refine At.condF rfl ?_
  refine At.skipC ?_
  refine At.thenN ?_
  refine At.seq ?_
  refine At.region ?_
  refine At.val (Val.move rfl) rfl rfl rfl ?_
  refine At.val (Val.loadAll (i := 2) Tryd.isAgg72 Tryd.sizeOf72 rfl rfl rfl) rfl rfl rfl ?_
  refine At.callP (fun w hw => (by have := openSlot_p i x y z w (ht.mod hw.mod); rwa [openSlot_yes ho, slotOf_0 hm] at this)) Tryd.call47 rfl rfl ?_
  refine At.val (Val.move rfl) rfl rfl rfl ?_
  refine At.val (Val.extract rfl rfl) rfl rfl rfl ?_
  refine At.val (Val.extract rfl rfl) rfl rfl rfl ?_
  refine At.alloc Tryd.zeroValue61 rfl rfl (fun b5 => ?_)
  refine At.storeAll (i := 0) Tryd.sizeOf61 rfl rfl rfl (by simp [Value.oneCell']) rfl rfl ?_
  simp only [List.set_cons_zero, List.set_cons_succ]
  refine At.val (Val.assign rfl) rfl rfl rfl ?_
  refine At.nil ?_
  refine At.thenN ?_
  refine At.seq ?_
  refine At.region ?_
  refine At.val (Val.move rfl) rfl rfl rfl ?_
  refine At.val (Val.loadAll (i := 3) Tryd.isAgg72 Tryd.sizeOf72 rfl rfl rfl) rfl rfl rfl ?_
  refine At.callP (fun w hw => (by have := openSlotR_p i x y z w; rwa [openSlot_yes ho, slotOf_0 hm] at this)) Tryd.call48 rfl rfl ?_
  refine At.val (Val.move rfl) rfl rfl rfl ?_
  refine At.val (Val.extract rfl rfl) rfl rfl rfl ?_
  refine At.val (Val.extract rfl rfl) rfl rfl rfl ?_
  refine At.alloc Tryd.zeroValue61 rfl rfl (fun b6 => ?_)
  refine At.storeAll (i := 0) Tryd.sizeOf61 rfl rfl rfl (by simp [Value.oneCell']) rfl rfl ?_
  simp only [List.set_cons_zero, List.set_cons_succ]
  refine At.val (Val.assign rfl) rfl rfl rfl ?_
  refine At.nil ?_
  refine At.thenN ?_
  refine At.seq ?_
  refine At.region ?_
  refine At.val (Val.loadAll (i := 1) Tryd.isAgg61 Tryd.sizeOf61 rfl rfl rfl) rfl rfl rfl ?_
  refine At.val (Val.loadAll (i := 0) Tryd.isAgg61 Tryd.sizeOf61 rfl rfl rfl) rfl rfl rfl ?_
  refine At.val (Val.eqAgg (b := true) Tryd.eqGuardType61 (fun w => by simpa using eq_61 0 0 0 0 0 0 0 0 w) rfl rfl) rfl rfl rfl ?_
  refine At.val (Val.move rfl) rfl rfl rfl ?_
  refine At.yes rfl rfl ?_
  refine At.val (Val.move rfl) rfl rfl rfl ?_
  refine At.yes rfl rfl ?_
  refine At.val (Val.move rfl) rfl rfl rfl ?_
  refine At.yes rfl rfl ?_
  refine At.val (Val.bin rfl rfl rfl) rfl rfl rfl ?_
  refine At.val (Val.pickT rfl rfl) rfl rfl rfl ?_
  refine At.val (Val.assign rfl) rfl rfl rfl ?_
  refine At.nil ?_
  refine At.thenN ?_
  refine At.retC ?_
  refine At.ret1 (.inl rfl) rfl rfl rfl (fun w hw => ?_)
  exact ⟨rfl, hw.mod⟩

theorem lawSlots_F2 (i k l h t : Int) (x y z : BitVec 64) (w : World) (ht : Tab w) (hb : -9223372036854775808 ≤ t ∧ t ≤ 9223372036854775807) (hg : ¬ GoodP i k l h t) (ho : OkSl i x y z) (hm : ¬ lo x = 0) :
    PureC Tryd.prog 11 [.int .i64 i, .agg #[.int .i64 k, .int .i64 l, .int .i64 h, .int .i64 t], .agg #[b64 x, b64 y, b64 z]] (.bool true) w := by
  refine enter0 Tryd.func11 rfl Tryd.ntmps11 rfl ?_
  simp only [envOf]
  refine At.seq ?_
  refine At.region ?_
  refine At.box rfl rfl rfl (fun b1 => ?_)
  refine At.box rfl rfl rfl (fun b2 => ?_)
  refine At.val (Val.assign rfl) rfl rfl rfl ?_
  refine At.nil ?_
  refine At.thenN ?_
  refine At.seq ?_
  refine At.region ?_
  refine At.val (Val.move rfl) rfl rfl rfl ?_
  refine At.val (Val.loadAll (i := 1) Tryd.isAgg61 Tryd.sizeOf61 rfl rfl rfl) rfl rfl rfl ?_
  refine At.callP (fun w hw => (by have := packSlot_p i k l h t w (ht.mod hw.mod) hb; rwa [packSlot_no hg] at this)) Tryd.call45 rfl rfl ?_
  refine At.val (Val.move rfl) rfl rfl rfl ?_
  refine At.val (Val.extract rfl rfl) rfl rfl rfl ?_
  refine At.val (Val.extract rfl rfl) rfl rfl rfl ?_
  refine At.alloc zero_72 zc_72 rfl (fun b3 => ?_)
  refine At.storeAll (i := 0) Tryd.sizeOf72 rfl rfl rfl (by simp [Value.oneCell']) rfl (by simp) ?_
  simp only [List.set_cons_zero, List.set_cons_succ]
  refine At.val (Val.assign rfl) rfl rfl rfl ?_
  refine At.nil ?_
  refine At.thenN ?_
  refine At.seq ?_
  refine At.region ?_
  refine At.val (Val.move rfl) rfl rfl rfl ?_
  refine At.val (Val.loadAll (i := 2) Tryd.isAgg61 Tryd.sizeOf61 rfl rfl rfl) rfl rfl rfl ?_
  refine At.callP (fun w hw => (by have := packSlotR_p i k l h t w hb; rwa [packSlot_no hg] at this)) Tryd.call46 rfl rfl ?_
  refine At.val (Val.move rfl) rfl rfl rfl ?_
  refine At.val (Val.extract rfl rfl) rfl rfl rfl ?_
  refine At.val (Val.extract rfl rfl) rfl rfl rfl ?_
  refine At.alloc zero_72 zc_72 rfl (fun b4 => ?_)
  refine At.storeAll (i := 0) Tryd.sizeOf72 rfl rfl rfl (by simp [Value.oneCell']) rfl (by simp) ?_
  simp only [List.set_cons_zero, List.set_cons_succ]
  refine At.val (Val.assign rfl) rfl rfl rfl ?_
  refine At.nil ?_
  refine At.thenN ?_
  refine At.seq ?_
  refine At.seq ?_
  refine At.region ?_
  refine At.val (Val.loadAll (i := 1) Tryd.isAgg72 Tryd.sizeOf72 rfl rfl (by simp)) rfl rfl rfl ?_
  refine At.val (Val.loadAll (i := 0) Tryd.isAgg72 Tryd.sizeOf72 rfl rfl (by simp)) rfl rfl rfl ?_
  refine At.val (Val.neAgg (b := true) Tryd.eqGuardType72 (fun w => run_same_words Tryd.underlying72 Tryd.underlying40 Tryd.isAgg40 Tryd.sizeOf40 ([(0 : BitVec 64), 0, 0]) rfl w) rfl rfl) rfl rfl rfl ?_
  refine At.val (Val.move rfl) rfl rfl rfl ?_
  refine At.yes rfl rfl ?_
  refine At.val (Val.move rfl) rfl rfl rfl ?_
  refine At.yes rfl rfl ?_
  refine At.val (Val.move rfl) rfl rfl rfl ?_
  refine At.yes rfl rfl ?_
  refine At.val (Val.bin rfl rfl rfl) rfl rfl rfl ?_
  refine At.val (Val.pickF rfl rfl) rfl rfl rfl ?_
  refine At.nil ?_
  refine At.thenN ?_
  refine At.condF rfl ?_
  refine At.skipC ?_
  refine At.thenN ?_
  refine At.seq ?_
  refine At.region ?_
  refine At.val (Val.move rfl) rfl rfl rfl ?_
  refine At.val (Val.loadAll (i := 2) Tryd.isAgg72 Tryd.sizeOf72 rfl rfl rfl) rfl rfl rfl ?_
  refine At.callP (fun w hw => (by have := openSlot_p i x y z w (ht.mod hw.mod); rwa [openSlot_yes ho, slotOf_1 hm] at this)) Tryd.call47 rfl rfl ?_
  refine At.val (Val.move rfl) rfl rfl rfl ?_
  refine At.val (Val.extract rfl rfl) rfl rfl rfl ?_
  refine At.val (Val.extract rfl rfl) rfl rfl rfl ?_
  refine At.alloc Tryd.zeroValue61 rfl rfl (fun b5 => ?_)
  refine At.storeAll (i := 0) Tryd.sizeOf61 rfl rfl rfl (by simp [Value.oneCell']) rfl rfl ?_
  simp only [List.set_cons_zero, List.set_cons_succ]
  refine At.val (Val.assign rfl) rfl rfl rfl ?_
  refine At.nil ?_
  refine At.thenN ?_
  refine At.seq ?_
  refine At.region ?_
  refine At.val (Val.move rfl) rfl rfl rfl ?_
  refine At.val (Val.loadAll (i := 3) Tryd.isAgg72 Tryd.sizeOf72 rfl rfl rfl) rfl rfl rfl ?_
  refine At.callP (fun w hw => (by have := openSlotR_p i x y z w; rwa [openSlot_yes ho, slotOf_1 hm] at this)) Tryd.call48 rfl rfl ?_
  refine At.val (Val.move rfl) rfl rfl rfl ?_
  refine At.val (Val.extract rfl rfl) rfl rfl rfl ?_
  refine At.val (Val.extract rfl rfl) rfl rfl rfl ?_
  refine At.alloc Tryd.zeroValue61 rfl rfl (fun b6 => ?_)
  refine At.storeAll (i := 0) Tryd.sizeOf61 rfl rfl rfl (by simp [Value.oneCell']) rfl rfl ?_
  simp only [List.set_cons_zero, List.set_cons_succ]
  refine At.val (Val.assign rfl) rfl rfl rfl ?_
  refine At.nil ?_
  refine At.thenN ?_
  refine At.seq ?_
  refine At.region ?_
  refine At.val (Val.loadAll (i := 1) Tryd.isAgg61 Tryd.sizeOf61 rfl rfl rfl) rfl rfl rfl ?_
  refine At.val (Val.loadAll (i := 0) Tryd.isAgg61 Tryd.sizeOf61 rfl rfl rfl) rfl rfl rfl ?_
  refine At.val (Val.eqAgg (b := true) Tryd.eqGuardType61 (fun w => by simpa using eq_61 (lo x % 256 : Nat) (lo x / 256 : Nat) (hdOf y z : Nat) (lo z : Nat) (lo x % 256 : Nat) (lo x / 256 : Nat) (hdOf y z : Nat) (lo z : Nat) w) rfl rfl) rfl rfl rfl ?_
  refine At.val (Val.move rfl) rfl rfl rfl ?_
  refine At.yes rfl rfl ?_
  refine At.val (Val.move rfl) rfl rfl rfl ?_
  refine At.yes rfl rfl ?_
  refine At.val (Val.move rfl) rfl rfl rfl ?_
  refine At.yes rfl rfl ?_
  refine At.val (Val.bin rfl rfl rfl) rfl rfl rfl ?_
  refine At.val (Val.pickT rfl rfl) rfl rfl rfl ?_
  refine At.val (Val.assign rfl) rfl rfl rfl ?_
  refine At.nil ?_
  refine At.thenN ?_
  refine At.retC ?_
  refine At.ret1 (.inl rfl) rfl rfl rfl (fun w hw => ?_)
  exact ⟨rfl, hw.mod⟩


theorem lawSlots_p (i k l h t : Int) (x y z : BitVec 64) (w : World) (ht : Tab w) (hb : -9223372036854775808 ≤ t ∧ t ≤ 9223372036854775807) : PureC Tryd.prog 11 [.int .i64 i, .agg #[.int .i64 k, .int .i64 l, .int .i64 h, .int .i64 t], .agg #[b64 x, b64 y, b64 z]] (.bool true) w := by
  by_cases hg : GoodP i k l h t
  · by_cases ho : OkSl i x y z
    · by_cases hm : lo x = 0
      · exact lawSlots_T1 i k l h t x y z w ht hb hg ho hm
      · exact lawSlots_T2 i k l h t x y z w ht hb hg ho hm
    · exact lawSlots_T0 i k l h t x y z w ht hb hg ho
  · by_cases ho : OkSl i x y z
    · by_cases hm : lo x = 0
      · exact lawSlots_F1 i k l h t x y z w ht hb hg ho hm
      · exact lawSlots_F2 i k l h t x y z w ht hb hg ho hm
    · exact lawSlots_F0 i k l h t x y z w ht hb hg ho

end Go.Proofs.YtlplkbbnpddihaaDoor
