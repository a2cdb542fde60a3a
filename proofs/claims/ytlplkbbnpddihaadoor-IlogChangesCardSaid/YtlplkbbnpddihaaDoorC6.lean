/- IlogChanges, walked. -/
import Derived.Test.YtlplkbbnpddihaaDoorB17
set_option linter.unusedVariables false
set_option linter.unusedSimpArgs false
namespace Go.Proofs.YtlplkbbnpddihaaDoor
open Go Go.Wk
theorem changesI_tf (i k l h t k' l' h' t' : Int) (w : World) (ht : Tab w) (hb : -9223372036854775808 ≤ t ∧ t ≤ 9223372036854775807) (hb' : -9223372036854775808 ≤ t' ∧ t' ≤ 9223372036854775807) (hg : GoodP i k l h t) (hg' : ¬ GoodP i k' l' h' t') :
    PureC Tryd.prog 39 [.int .i64 i, .agg #[.int .i64 k, .int .i64 l, .int .i64 h, .int .i64 t], .agg #[.int .i64 k', .int .i64 l', .int .i64 h', .int .i64 t']] (.tuple #[.slice none 0 0, .int .i64 32]) w := by
  refine enter0 Tryd.func39 rfl Tryd.ntmps39 rfl ?_
  simp only [envOf]
  refine At.seq ?_
  refine At.region ?_
  refine At.box rfl rfl rfl (fun b1 => ?_)
  refine At.box rfl rfl rfl (fun b2 => ?_)
  refine At.val (Val.assign rfl) rfl rfl rfl ?_
  refine At.val (Val.assign rfl) rfl rfl rfl ?_
  refine At.nil ?_
  refine At.thenN ?_
  refine At.seq ?_
  refine At.seq ?_
  refine At.region ?_
  refine At.val (Val.move rfl) rfl rfl rfl ?_
  refine At.val (Val.loadAll (i := 1) Tryd.isAgg61 Tryd.sizeOf61 rfl rfl rfl) rfl rfl rfl ?_
  refine At.callP (fun w hw => (by have := packSlot_p i k l h t w (ht.mod (hw.mod.mono (fun b hb => by simp [feet] at hb))) hb; rwa [packSlot_yes hg] at this)) Tryd.call45 rfl rfl ?_
  refine At.val (Val.move rfl) rfl rfl rfl ?_
  refine At.val (Val.extract rfl rfl) rfl rfl rfl ?_
  refine At.val (Val.extract rfl rfl) rfl rfl rfl ?_
  refine At.alloc zero_72 zc_72 rfl (fun b3 => ?_)
  refine At.storeAll (i := 0) Tryd.sizeOf72 rfl rfl rfl (by simp [Value.oneCell']) rfl (by simp) ?_
  simp only [List.set_cons_zero, List.set_cons_succ]
  refine At.val (Val.assign rfl) rfl rfl rfl ?_
  refine At.nil ?_
  refine At.thenN ?_
  refine At.seq ?_
  refine At.region ?_
  refine At.val (Val.move rfl) rfl rfl rfl ?_
  refine At.val (Val.bin rfl rfl rfl) rfl rfl rfl ?_
  refine At.nil ?_
  refine At.thenN ?_
  refine At.condF rfl ?_
  refine At.skipC ?_
  refine At.thenN ?_
  refine At.seq ?_
  refine At.region ?_
  refine At.val (Val.move rfl) rfl rfl rfl ?_
  refine At.val (Val.loadAll (i := 1) Tryd.isAgg61 Tryd.sizeOf61 rfl rfl rfl) rfl rfl rfl ?_
  refine At.callP (fun w hw => (by have := packSlot_p i k' l' h' t' w (ht.mod (hw.mod.mono (fun b hb => by simp [feet] at hb))) hb'; rwa [packSlot_no hg'] at this)) Tryd.call45 rfl rfl ?_
  refine At.val (Val.move rfl) rfl rfl rfl ?_
  refine At.val (Val.extract rfl rfl) rfl rfl rfl ?_
  refine At.val (Val.extract rfl rfl) rfl rfl rfl ?_
  refine At.alloc zero_72 zc_72 rfl (fun b4 => ?_)
  refine At.storeAll (i := 0) Tryd.sizeOf72 rfl rfl rfl (by simp [Value.oneCell']) rfl (by simp) ?_
  simp only [List.set_cons_zero, List.set_cons_succ]
  refine At.val (Val.assign rfl) rfl rfl rfl ?_
  refine At.nil ?_
  refine At.thenN ?_
  refine At.seq ?_
  refine At.seq ?_
  refine At.region ?_
  refine At.val (Val.move rfl) rfl rfl rfl ?_
  refine At.val (Val.bin rfl rfl rfl) rfl rfl rfl ?_
  refine At.nil ?_
  refine At.thenN ?_
  refine At.condT rfl ?_
  refine At.seq ?_
  refine At.region ?_
  refine At.val (Val.move rfl) rfl rfl rfl ?_
  refine At.val (Val.assign rfl) rfl rfl rfl ?_
  refine At.val (Val.assign rfl) rfl rfl rfl ?_
  refine At.nil ?_
  refine At.thenN ?_
  refine At.retC ?_
  refine At.thenR ?_
  refine At.ret2 (.inl rfl) rfl rfl rfl rfl (fun w hw => ?_)
  exact ⟨rfl, hw.mod⟩

theorem changesI_ft (i k l h t k' l' h' t' : Int) (w : World) (ht : Tab w) (hb : -9223372036854775808 ≤ t ∧ t ≤ 9223372036854775807) (hb' : -9223372036854775808 ≤ t' ∧ t' ≤ 9223372036854775807) (hg : ¬ GoodP i k l h t) (hg' : GoodP i k' l' h' t') :
    PureC Tryd.prog 39 [.int .i64 i, .agg #[.int .i64 k, .int .i64 l, .int .i64 h, .int .i64 t], .agg #[.int .i64 k', .int .i64 l', .int .i64 h', .int .i64 t']] (.tuple #[.slice none 0 0, .int .i64 32]) w := by
  refine enter0 Tryd.func39 rfl Tryd.ntmps39 rfl ?_
  simp only [envOf]
  refine At.seq ?_
  refine At.region ?_
  refine At.box rfl rfl rfl (fun b1 => ?_)
  refine At.box rfl rfl rfl (fun b2 => ?_)
  refine At.val (Val.assign rfl) rfl rfl rfl ?_
  refine At.val (Val.assign rfl) rfl rfl rfl ?_
  refine At.nil ?_
  refine At.thenN ?_
  refine At.seq ?_
  refine At.seq ?_
  refine At.region ?_
  refine At.val (Val.move rfl) rfl rfl rfl ?_
  refine At.val (Val.loadAll (i := 1) Tryd.isAgg61 Tryd.sizeOf61 rfl rfl rfl) rfl rfl rfl ?_
  refine At.callP (fun w hw => (by have := packSlot_p i k l h t w (ht.mod (hw.mod.mono (fun b hb => by simp [feet] at hb))) hb; rwa [packSlot_no hg] at this)) Tryd.call45 rfl rfl ?_
  refine At.val (Val.move rfl) rfl rfl rfl ?_
  refine At.val (Val.extract rfl rfl) rfl rfl rfl ?_
  refine At.val (Val.extract rfl rfl) rfl rfl rfl ?_
  refine At.alloc zero_72 zc_72 rfl (fun b3 => ?_)
  refine At.storeAll (i := 0) Tryd.sizeOf72 rfl rfl rfl (by simp [Value.oneCell']) rfl (by simp) ?_
  simp only [List.set_cons_zero, List.set_cons_succ]
  refine At.val (Val.assign rfl) rfl rfl rfl ?_
  refine At.nil ?_
  refine At.thenN ?_
  refine At.seq ?_
  refine At.region ?_
  refine At.val (Val.move rfl) rfl rfl rfl ?_
  refine At.val (Val.bin rfl rfl rfl) rfl rfl rfl ?_
  refine At.nil ?_
  refine At.thenN ?_
  refine At.condT rfl ?_
  refine At.seq ?_
  refine At.region ?_
  refine At.val (Val.move rfl) rfl rfl rfl ?_
  refine At.val (Val.assign rfl) rfl rfl rfl ?_
  refine At.val (Val.assign rfl) rfl rfl rfl ?_
  refine At.nil ?_
  refine At.thenN ?_
  refine At.retC ?_
  refine At.thenR ?_
  refine At.ret2 (.inl rfl) rfl rfl rfl rfl (fun w hw => ?_)
  exact ⟨rfl, hw.mod⟩

theorem changesI_ff (i k l h t k' l' h' t' : Int) (w : World) (ht : Tab w) (hb : -9223372036854775808 ≤ t ∧ t ≤ 9223372036854775807) (hb' : -9223372036854775808 ≤ t' ∧ t' ≤ 9223372036854775807) (hg : ¬ GoodP i k l h t) (hg' : ¬ GoodP i k' l' h' t') :
    PureC Tryd.prog 39 [.int .i64 i, .agg #[.int .i64 k, .int .i64 l, .int .i64 h, .int .i64 t], .agg #[.int .i64 k', .int .i64 l', .int .i64 h', .int .i64 t']] (.tuple #[.slice none 0 0, .int .i64 32]) w := by
  refine enter0 Tryd.func39 rfl Tryd.ntmps39 rfl ?_
  simp only [envOf]
  refine At.seq ?_
  refine At.region ?_
  refine At.box rfl rfl rfl (fun b1 => ?_)
  refine At.box rfl rfl rfl (fun b2 => ?_)
  refine At.val (Val.assign rfl) rfl rfl rfl ?_
  refine At.val (Val.assign rfl) rfl rfl rfl ?_
  refine At.nil ?_
  refine At.thenN ?_
  refine At.seq ?_
  refine At.seq ?_
  refine At.region ?_
  refine At.val (Val.move rfl) rfl rfl rfl ?_
  refine At.val (Val.loadAll (i := 1) Tryd.isAgg61 Tryd.sizeOf61 rfl rfl rfl) rfl rfl rfl ?_
  refine At.callP (fun w hw => (by have := packSlot_p i k l h t w (ht.mod (hw.mod.mono (fun b hb => by simp [feet] at hb))) hb; rwa [packSlot_no hg] at this)) Tryd.call45 rfl rfl ?_
  refine At.val (Val.move rfl) rfl rfl rfl ?_
  refine At.val (Val.extract rfl rfl) rfl rfl rfl ?_
  refine At.val (Val.extract rfl rfl) rfl rfl rfl ?_
  refine At.alloc zero_72 zc_72 rfl (fun b3 => ?_)
  refine At.storeAll (i := 0) Tryd.sizeOf72 rfl rfl rfl (by simp [Value.oneCell']) rfl (by simp) ?_
  simp only [List.set_cons_zero, List.set_cons_succ]
  refine At.val (Val.assign rfl) rfl rfl rfl ?_
  refine At.nil ?_
  refine At.thenN ?_
  refine At.seq ?_
  refine At.region ?_
  refine At.val (Val.move rfl) rfl rfl rfl ?_
  refine At.val (Val.bin rfl rfl rfl) rfl rfl rfl ?_
  refine At.nil ?_
  refine At.thenN ?_
  refine At.condT rfl ?_
  refine At.seq ?_
  refine At.region ?_
  refine At.val (Val.move rfl) rfl rfl rfl ?_
  refine At.val (Val.assign rfl) rfl rfl rfl ?_
  refine At.val (Val.assign rfl) rfl rfl rfl ?_
  refine At.nil ?_
  refine At.thenN ?_
  refine At.retC ?_
  refine At.thenR ?_
  refine At.ret2 (.inl rfl) rfl rfl rfl rfl (fun w hw => ?_)
  exact ⟨rfl, hw.mod⟩

theorem changesR_tf (i k l h t k' l' h' t' : Int) (w : World) (hb : -9223372036854775808 ≤ t ∧ t ≤ 9223372036854775807) (hb' : -9223372036854775808 ≤ t' ∧ t' ≤ 9223372036854775807) (hg : GoodP i k l h t) (hg' : ¬ GoodP i k' l' h' t') :
    PureC Tryd.prog 40 [.int .i64 i, .agg #[.int .i64 k, .int .i64 l, .int .i64 h, .int .i64 t], .agg #[.int .i64 k', .int .i64 l', .int .i64 h', .int .i64 t']] (.tuple #[.slice none 0 0, .int .i64 32]) w := by
  refine enter0 Tryd.func40 rfl Tryd.ntmps40 rfl ?_
  simp only [envOf]
  refine At.seq ?_
  refine At.region ?_
  refine At.box rfl rfl rfl (fun b1 => ?_)
  refine At.box rfl rfl rfl (fun b2 => ?_)
  refine At.val (Val.assign rfl) rfl rfl rfl ?_
  refine At.val (Val.assign rfl) rfl rfl rfl ?_
  refine At.nil ?_
  refine At.thenN ?_
  refine At.seq ?_
  refine At.region ?_
  refine At.val (Val.move rfl) rfl rfl rfl ?_
  refine At.val (Val.loadAll (i := 1) Tryd.isAgg61 Tryd.sizeOf61 rfl rfl rfl) rfl rfl rfl ?_
  refine At.callP (fun w hw => (by have := packSlotR_p i k l h t w hb; rwa [packSlot_yes hg] at this)) Tryd.call46 rfl rfl ?_
  refine At.val (Val.move rfl) rfl rfl rfl ?_
  refine At.val (Val.extract rfl rfl) rfl rfl rfl ?_
  refine At.val (Val.extract rfl rfl) rfl rfl rfl ?_
  refine At.alloc zero_72 zc_72 rfl (fun b3 => ?_)
  refine At.storeAll (i := 0) Tryd.sizeOf72 rfl rfl rfl (by simp [Value.oneCell']) rfl (by simp) ?_
  simp only [List.set_cons_zero, List.set_cons_succ]
  refine At.val (Val.assign rfl) rfl rfl rfl ?_
  refine At.nil ?_
  refine At.thenN ?_
  refine At.seq ?_
  refine At.region ?_
  refine At.val (Val.move rfl) rfl rfl rfl ?_
  refine At.val (Val.loadAll (i := 1) Tryd.isAgg61 Tryd.sizeOf61 rfl rfl rfl) rfl rfl rfl ?_
  refine At.callP (fun w hw => (by have := packSlotR_p i k' l' h' t' w hb'; rwa [packSlot_no hg'] at this)) Tryd.call46 rfl rfl ?_
  refine At.val (Val.move rfl) rfl rfl rfl ?_
  refine At.val (Val.extract rfl rfl) rfl rfl rfl ?_
  refine At.val (Val.extract rfl rfl) rfl rfl rfl ?_
  refine At.alloc zero_72 zc_72 rfl (fun b4 => ?_)
  refine At.storeAll (i := 0) Tryd.sizeOf72 rfl rfl rfl (by simp [Value.oneCell']) rfl (by simp) ?_
  simp only [List.set_cons_zero, List.set_cons_succ]
  refine At.val (Val.assign rfl) rfl rfl rfl ?_
  refine At.nil ?_
  refine At.thenN ?_
  refine At.seq ?_
  refine At.seq ?_
  refine At.region ?_
  refine At.val (Val.move rfl) rfl rfl rfl ?_
  refine At.val (Val.bin rfl rfl rfl) rfl rfl rfl ?_
  refine At.val (Val.move rfl) rfl rfl rfl ?_
  refine At.yes rfl rfl ?_
  refine At.val (Val.move rfl) rfl rfl rfl ?_
  refine At.yes rfl rfl ?_
  refine At.val (Val.bin rfl rfl rfl) rfl rfl rfl ?_
  refine At.val (Val.pickF rfl rfl) rfl rfl rfl ?_
  refine At.nil ?_
  refine At.thenN ?_
  refine At.condT rfl ?_
  refine At.seq ?_
  refine At.region ?_
  refine At.val (Val.assign rfl) rfl rfl rfl ?_
  refine At.val (Val.assign rfl) rfl rfl rfl ?_
  refine At.nil ?_
  refine At.thenN ?_
  refine At.retC ?_
  refine At.thenR ?_
  refine At.ret2 (.inl rfl) rfl rfl rfl rfl (fun w hw => ?_)
  exact ⟨rfl, hw.mod⟩

theorem changesR_ft (i k l h t k' l' h' t' : Int) (w : World) (hb : -9223372036854775808 ≤ t ∧ t ≤ 9223372036854775807) (hb' : -9223372036854775808 ≤ t' ∧ t' ≤ 9223372036854775807) (hg : ¬ GoodP i k l h t) (hg' : GoodP i k' l' h' t') :
    PureC Tryd.prog 40 [.int .i64 i, .agg #[.int .i64 k, .int .i64 l, .int .i64 h, .int .i64 t], .agg #[.int .i64 k', .int .i64 l', .int .i64 h', .int .i64 t']] (.tuple #[.slice none 0 0, .int .i64 32]) w := by
  refine enter0 Tryd.func40 rfl Tryd.ntmps40 rfl ?_
  simp only [envOf]
  refine At.seq ?_
  refine At.region ?_
  refine At.box rfl rfl rfl (fun b1 => ?_)
  refine At.box rfl rfl rfl (fun b2 => ?_)
  refine At.val (Val.assign rfl) rfl rfl rfl ?_
  refine At.val (Val.assign rfl) rfl rfl rfl ?_
  refine At.nil ?_
  refine At.thenN ?_
  refine At.seq ?_
  refine At.region ?_
  refine At.val (Val.move rfl) rfl rfl rfl ?_
  refine At.val (Val.loadAll (i := 1) Tryd.isAgg61 Tryd.sizeOf61 rfl rfl rfl) rfl rfl rfl ?_
  refine At.callP (fun w hw => (by have := packSlotR_p i k l h t w hb; rwa [packSlot_no hg] at this)) Tryd.call46 rfl rfl ?_
  refine At.val (Val.move rfl) rfl rfl rfl ?_
  refine At.val (Val.extract rfl rfl) rfl rfl rfl ?_
  refine At.val (Val.extract rfl rfl) rfl rfl rfl ?_
  refine At.alloc zero_72 zc_72 rfl (fun b3 => ?_)
  refine At.storeAll (i := 0) Tryd.sizeOf72 rfl rfl rfl (by simp [Value.oneCell']) rfl (by simp) ?_
  simp only [List.set_cons_zero, List.set_cons_succ]
  refine At.val (Val.assign rfl) rfl rfl rfl ?_
  refine At.nil ?_
  refine At.thenN ?_
  refine At.seq ?_
  refine At.region ?_
  refine At.val (Val.move rfl) rfl rfl rfl ?_
  refine At.val (Val.loadAll (i := 1) Tryd.isAgg61 Tryd.sizeOf61 rfl rfl rfl) rfl rfl rfl ?_
  refine At.callP (fun w hw => (by have := packSlotR_p i k' l' h' t' w hb'; rwa [packSlot_yes hg'] at this)) Tryd.call46 rfl rfl ?_
  refine At.val (Val.move rfl) rfl rfl rfl ?_
  refine At.val (Val.extract rfl rfl) rfl rfl rfl ?_
  refine At.val (Val.extract rfl rfl) rfl rfl rfl ?_
  refine At.alloc zero_72 zc_72 rfl (fun b4 => ?_)
  refine At.storeAll (i := 0) Tryd.sizeOf72 rfl rfl rfl (by simp [Value.oneCell']) rfl (by simp) ?_
  simp only [List.set_cons_zero, List.set_cons_succ]
  refine At.val (Val.assign rfl) rfl rfl rfl ?_
  refine At.nil ?_
  refine At.thenN ?_
  refine At.seq ?_
  refine At.seq ?_
  refine At.region ?_
  refine At.val (Val.move rfl) rfl rfl rfl ?_
  refine At.val (Val.bin rfl rfl rfl) rfl rfl rfl ?_
  refine At.val (Val.move rfl) rfl rfl rfl ?_
  refine At.no rfl rfl rfl rfl ?_
  refine At.no rfl rfl rfl rfl ?_
  refine At.val (Val.pickT rfl rfl) rfl rfl rfl ?_
  refine At.nil ?_
  refine At.thenN ?_
  refine At.condT rfl ?_
  refine At.seq ?_
  refine At.region ?_
  refine At.val (Val.assign rfl) rfl rfl rfl ?_
  refine At.val (Val.assign rfl) rfl rfl rfl ?_
  refine At.nil ?_
  refine At.thenN ?_
  refine At.retC ?_
  refine At.thenR ?_
  refine At.ret2 (.inl rfl) rfl rfl rfl rfl (fun w hw => ?_)
  exact ⟨rfl, hw.mod⟩

theorem changesR_ff (i k l h t k' l' h' t' : Int) (w : World) (hb : -9223372036854775808 ≤ t ∧ t ≤ 9223372036854775807) (hb' : -9223372036854775808 ≤ t' ∧ t' ≤ 9223372036854775807) (hg : ¬ GoodP i k l h t) (hg' : ¬ GoodP i k' l' h' t') :
    PureC Tryd.prog 40 [.int .i64 i, .agg #[.int .i64 k, .int .i64 l, .int .i64 h, .int .i64 t], .agg #[.int .i64 k', .int .i64 l', .int .i64 h', .int .i64 t']] (.tuple #[.slice none 0 0, .int .i64 32]) w := by
  refine enter0 Tryd.func40 rfl Tryd.ntmps40 rfl ?_
  simp only [envOf]
  refine At.seq ?_
  refine At.region ?_
  refine At.box rfl rfl rfl (fun b1 => ?_)
  refine At.box rfl rfl rfl (fun b2 => ?_)
  refine At.val (Val.assign rfl) rfl rfl rfl ?_
  refine At.val (Val.assign rfl) rfl rfl rfl ?_
  refine At.nil ?_
  refine At.thenN ?_
  refine At.seq ?_
  refine At.region ?_
  refine At.val (Val.move rfl) rfl rfl rfl ?_
  refine At.val (Val.loadAll (i := 1) Tryd.isAgg61 Tryd.sizeOf61 rfl rfl rfl) rfl rfl rfl ?_
  refine At.callP (fun w hw => (by have := packSlotR_p i k l h t w hb; rwa [packSlot_no hg] at this)) Tryd.call46 rfl rfl ?_
  refine At.val (Val.move rfl) rfl rfl rfl ?_
  refine At.val (Val.extract rfl rfl) rfl rfl rfl ?_
  refine At.val (Val.extract rfl rfl) rfl rfl rfl ?_
  refine At.alloc zero_72 zc_72 rfl (fun b3 => ?_)
  refine At.storeAll (i := 0) Tryd.sizeOf72 rfl rfl rfl (by simp [Value.oneCell']) rfl (by simp) ?_
  simp only [List.set_cons_zero, List.set_cons_succ]
  refine At.val (Val.assign rfl) rfl rfl rfl ?_
  refine At.nil ?_
  refine At.thenN ?_
  refine At.seq ?_
  refine At.region ?_
  refine At.val (Val.move rfl) rfl rfl rfl ?_
  refine At.val (Val.loadAll (i := 1) Tryd.isAgg61 Tryd.sizeOf61 rfl rfl rfl) rfl rfl rfl ?_
  refine At.callP (fun w hw => (by have := packSlotR_p i k' l' h' t' w hb'; rwa [packSlot_no hg'] at this)) Tryd.call46 rfl rfl ?_
  refine At.val (Val.move rfl) rfl rfl rfl ?_
  refine At.val (Val.extract rfl rfl) rfl rfl rfl ?_
  refine At.val (Val.extract rfl rfl) rfl rfl rfl ?_
  refine At.alloc zero_72 zc_72 rfl (fun b4 => ?_)
  refine At.storeAll (i := 0) Tryd.sizeOf72 rfl rfl rfl (by simp [Value.oneCell']) rfl (by simp) ?_
  simp only [List.set_cons_zero, List.set_cons_succ]
  refine At.val (Val.assign rfl) rfl rfl rfl ?_
  refine At.nil ?_
  refine At.thenN ?_
  refine At.seq ?_
  refine At.seq ?_
  refine At.region ?_
  refine At.val (Val.move rfl) rfl rfl rfl ?_
  refine At.val (Val.bin rfl rfl rfl) rfl rfl rfl ?_
  refine At.val (Val.move rfl) rfl rfl rfl ?_
  refine At.no rfl rfl rfl rfl ?_
  refine At.no rfl rfl rfl rfl ?_
  refine At.val (Val.pickT rfl rfl) rfl rfl rfl ?_
  refine At.nil ?_
  refine At.thenN ?_
  refine At.condT rfl ?_
  refine At.seq ?_
  refine At.region ?_
  refine At.val (Val.assign rfl) rfl rfl rfl ?_
  refine At.val (Val.assign rfl) rfl rfl rfl ?_
  refine At.nil ?_
  refine At.thenN ?_
  refine At.retC ?_
  refine At.thenR ?_
  refine At.ret2 (.inl rfl) rfl rfl rfl rfl (fun w hw => ?_)
  exact ⟨rfl, hw.mod⟩

theorem lawChanges_T (i k l h t k' l' h' t' : Int) (w : World) (ht : Tab w) (hb : -9223372036854775808 ≤ t ∧ t ≤ 9223372036854775807) (hb' : -9223372036854775808 ≤ t' ∧ t' ≤ 9223372036854775807) (hg : GoodP i k l h t) (hg' : GoodP i k' l' h' t') :
    PureC Tryd.prog 9 [.int .i64 i, .agg #[.int .i64 k, .int .i64 l, .int .i64 h, .int .i64 t], .agg #[.int .i64 k', .int .i64 l', .int .i64 h', .int .i64 t']] (.bool true) w := by
  refine enter0 Tryd.func9 rfl Tryd.ntmps9 rfl ?_
  simp only [envOf]
  refine At.seq ?_
  refine At.region ?_
  refine At.box rfl rfl rfl (fun b1 => ?_)
  refine At.box rfl rfl rfl (fun b2 => ?_)
  refine At.val (Val.assign rfl) rfl rfl rfl ?_
  refine At.nil ?_
  refine At.thenN ?_
  refine At.seq ?_
  refine At.region ?_
  refine At.val (Val.move rfl) rfl rfl rfl ?_
  refine At.val (Val.loadAll (i := 1) Tryd.isAgg61 Tryd.sizeOf61 rfl rfl rfl) rfl rfl rfl ?_
  refine At.val (Val.loadAll (i := 0) Tryd.isAgg61 Tryd.sizeOf61 rfl rfl rfl) rfl rfl rfl ?_
  refine At.callNT (g := (fun v => .tuple #[v, .int .i64 0])) (fun w hw => changesI_T i k l h t k' l' h' t' w (ht.mod hw.mod) hb hb' hg hg') Tryd.call39 rfl rfl (fun v3 => ?_)
  refine At.val (Val.move rfl) rfl rfl rfl ?_
  refine At.val (Val.extract rfl rfl) rfl rfl rfl ?_
  refine At.val (Val.extract rfl rfl) rfl rfl rfl ?_
  refine At.val (Val.assign rfl) rfl rfl rfl ?_
  refine At.val (Val.assign rfl) rfl rfl rfl ?_
  refine At.nil ?_
  refine At.rowIs (i := 0) rfl (fun A4 c5 hv => ?_)
  subst hv
  refine At.thenN ?_
  refine At.seq ?_
  refine At.region ?_
  refine At.val (Val.move rfl) rfl rfl rfl ?_
  refine At.val (Val.loadAll (i := 2) Tryd.isAgg61 Tryd.sizeOf61 rfl rfl rfl) rfl rfl rfl ?_
  refine At.val (Val.loadAll (i := 1) Tryd.isAgg61 Tryd.sizeOf61 rfl rfl rfl) rfl rfl rfl ?_
  refine At.callNT (g := (fun v => .tuple #[v, .int .i64 0])) (fun w hw => changesR_T i k l h t k' l' h' t' w hb hb' hg hg') Tryd.call40 rfl rfl (fun v6 => ?_)
  refine At.val (Val.move rfl) rfl rfl rfl ?_
  refine At.val (Val.extract rfl rfl) rfl rfl rfl ?_
  refine At.val (Val.extract rfl rfl) rfl rfl rfl ?_
  refine At.val (Val.assign rfl) rfl rfl rfl ?_
  refine At.val (Val.assign rfl) rfl rfl rfl ?_
  refine At.nil ?_
  refine At.rowIs (i := 0) rfl (fun A7 c8 hv => ?_)
  subst hv
  refine At.thenN ?_
  refine At.seq ?_
  refine At.region ?_
  refine At.val (Val.move rfl) rfl rfl rfl ?_
  refine At.val (Val.move rfl) rfl rfl rfl ?_
  refine At.val (Val.bin rfl rfl rfl) rfl rfl rfl ?_
  refine At.val (Val.move rfl) rfl rfl rfl ?_
  refine At.yes rfl rfl ?_
  refine At.val (Val.move rfl) rfl rfl rfl ?_
  refine At.yes rfl rfl ?_
  refine At.val (Val.move rfl) rfl rfl rfl ?_
  refine At.yes rfl rfl ?_
  refine At.callP (fun w hw => sameCh_p A4 A7 (ch0 i k l k' l' ++ ch1 i k h t k' h' t' ++ ch2 i k t k' t') c5 c8 w (row_cells (hw.row (i := 1) rfl) (by decide)) (row_cells (hw.row (i := 0) rfl) (by decide)) (by have := ch0_len i k l k' l'; have := ch1_len i k h t k' h' t'; have := ch2_len i k t k' t'; simp only [List.length_append]; omega)) Tryd.call41 rfl rfl ?_
  refine At.val (Val.pickT rfl rfl) rfl rfl rfl ?_
  refine At.val (Val.assign rfl) rfl rfl rfl ?_
  refine At.nil ?_
  refine At.thenN ?_
  refine At.retC ?_
  refine At.ret1 (.inl rfl) rfl rfl rfl (fun w hw => ?_)
  exact ⟨rfl, hw.mod⟩

theorem lawChanges_tf (i k l h t k' l' h' t' : Int) (w : World) (ht : Tab w) (hb : -9223372036854775808 ≤ t ∧ t ≤ 9223372036854775807) (hb' : -9223372036854775808 ≤ t' ∧ t' ≤ 9223372036854775807) (hg : GoodP i k l h t) (hg' : ¬ GoodP i k' l' h' t') :
    PureC Tryd.prog 9 [.int .i64 i, .agg #[.int .i64 k, .int .i64 l, .int .i64 h, .int .i64 t], .agg #[.int .i64 k', .int .i64 l', .int .i64 h', .int .i64 t']] (.bool true) w := by
  refine enter0 Tryd.func9 rfl Tryd.ntmps9 rfl ?_
  simp only [envOf]
  refine At.seq ?_
  refine At.region ?_
  refine At.box rfl rfl rfl (fun b1 => ?_)
  refine At.box rfl rfl rfl (fun b2 => ?_)
  refine At.val (Val.assign rfl) rfl rfl rfl ?_
  refine At.nil ?_
  refine At.thenN ?_
  refine At.seq ?_
  refine At.region ?_
  refine At.val (Val.move rfl) rfl rfl rfl ?_
  refine At.val (Val.loadAll (i := 1) Tryd.isAgg61 Tryd.sizeOf61 rfl rfl rfl) rfl rfl rfl ?_
  refine At.val (Val.loadAll (i := 0) Tryd.isAgg61 Tryd.sizeOf61 rfl rfl rfl) rfl rfl rfl ?_
  refine At.callP (fun w hw => changesI_tf i k l h t k' l' h' t' w (ht.mod hw.mod) hb hb' hg hg') Tryd.call39 rfl rfl ?_
  refine At.val (Val.move rfl) rfl rfl rfl ?_
  refine At.val (Val.extract rfl rfl) rfl rfl rfl ?_
  refine At.val (Val.extract rfl rfl) rfl rfl rfl ?_
  refine At.val (Val.assign rfl) rfl rfl rfl ?_
  refine At.val (Val.assign rfl) rfl rfl rfl ?_
  refine At.nil ?_
  refine At.thenN ?_
  refine At.seq ?_
  refine At.region ?_
  refine At.val (Val.move rfl) rfl rfl rfl ?_
  refine At.val (Val.loadAll (i := 1) Tryd.isAgg61 Tryd.sizeOf61 rfl rfl rfl) rfl rfl rfl ?_
  refine At.val (Val.loadAll (i := 0) Tryd.isAgg61 Tryd.sizeOf61 rfl rfl rfl) rfl rfl rfl ?_
  refine At.callP (fun w hw => changesR_tf i k l h t k' l' h' t' w hb hb' hg hg') Tryd.call40 rfl rfl ?_
  refine At.val (Val.move rfl) rfl rfl rfl ?_
  refine At.val (Val.extract rfl rfl) rfl rfl rfl ?_
  refine At.val (Val.extract rfl rfl) rfl rfl rfl ?_
  refine At.val (Val.assign rfl) rfl rfl rfl ?_
  refine At.val (Val.assign rfl) rfl rfl rfl ?_
  refine At.nil ?_
  refine At.thenN ?_
  refine At.seq ?_
  refine At.region ?_
  refine At.val (Val.move rfl) rfl rfl rfl ?_
  refine At.val (Val.move rfl) rfl rfl rfl ?_
  refine At.val (Val.bin rfl rfl rfl) rfl rfl rfl ?_
  refine At.val (Val.move rfl) rfl rfl rfl ?_
  refine At.yes rfl rfl ?_
  refine At.val (Val.move rfl) rfl rfl rfl ?_
  refine At.yes rfl rfl ?_
  refine At.val (Val.move rfl) rfl rfl rfl ?_
  refine At.yes rfl rfl ?_
  refine At.callP (fun w hw => sameCh_p none none [] 0 0 w (fun j u h => by simp [chC] at h) (fun j u h => by simp [chC] at h) (by decide)) Tryd.call41 rfl rfl ?_
  refine At.val (Val.pickT rfl rfl) rfl rfl rfl ?_
  refine At.val (Val.assign rfl) rfl rfl rfl ?_
  refine At.nil ?_
  refine At.thenN ?_
  refine At.retC ?_
  refine At.ret1 (.inl rfl) rfl rfl rfl (fun w hw => ?_)
  exact ⟨rfl, hw.mod⟩

theorem lawChanges_ft (i k l h t k' l' h' t' : Int) (w : World) (ht : Tab w) (hb : -9223372036854775808 ≤ t ∧ t ≤ 9223372036854775807) (hb' : -9223372036854775808 ≤ t' ∧ t' ≤ 9223372036854775807) (hg : ¬ GoodP i k l h t) (hg' : GoodP i k' l' h' t') :
    PureC Tryd.prog 9 [.int .i64 i, .agg #[.int .i64 k, .int .i64 l, .int .i64 h, .int .i64 t], .agg #[.int .i64 k', .int .i64 l', .int .i64 h', .int .i64 t']] (.bool true) w := by
  refine enter0 Tryd.func9 rfl Tryd.ntmps9 rfl ?_
  simp only [envOf]
  refine At.seq ?_
  refine At.region ?_
  refine At.box rfl rfl rfl (fun b1 => ?_)
  refine At.box rfl rfl rfl (fun b2 => ?_)
  refine At.val (Val.assign rfl) rfl rfl rfl ?_
  refine At.nil ?_
  refine At.thenN ?_
  refine At.seq ?_
  refine At.region ?_
  refine At.val (Val.move rfl) rfl rfl rfl ?_
  refine At.val (Val.loadAll (i := 1) Tryd.isAgg61 Tryd.sizeOf61 rfl rfl rfl) rfl rfl rfl ?_
  refine At.val (Val.loadAll (i := 0) Tryd.isAgg61 Tryd.sizeOf61 rfl rfl rfl) rfl rfl rfl ?_
  refine At.callP (fun w hw => changesI_ft i k l h t k' l' h' t' w (ht.mod hw.mod) hb hb' hg hg') Tryd.call39 rfl rfl ?_
  refine At.val (Val.move rfl) rfl rfl rfl ?_
  refine At.val (Val.extract rfl rfl) rfl rfl rfl ?_
  refine At.val (Val.extract rfl rfl) rfl rfl rfl ?_
  refine At.val (Val.assign rfl) rfl rfl rfl ?_
  refine At.val (Val.assign rfl) rfl rfl rfl ?_
  refine At.nil ?_
  refine At.thenN ?_
  refine At.seq ?_
  refine At.region ?_
  refine At.val (Val.move rfl) rfl rfl rfl ?_
  refine At.val (Val.loadAll (i := 1) Tryd.isAgg61 Tryd.sizeOf61 rfl rfl rfl) rfl rfl rfl ?_
  refine At.val (Val.loadAll (i := 0) Tryd.isAgg61 Tryd.sizeOf61 rfl rfl rfl) rfl rfl rfl ?_
  refine At.callP (fun w hw => changesR_ft i k l h t k' l' h' t' w hb hb' hg hg') Tryd.call40 rfl rfl ?_
  refine At.val (Val.move rfl) rfl rfl rfl ?_
  refine At.val (Val.extract rfl rfl) rfl rfl rfl ?_
  refine At.val (Val.extract rfl rfl) rfl rfl rfl ?_
  refine At.val (Val.assign rfl) rfl rfl rfl ?_
  refine At.val (Val.assign rfl) rfl rfl rfl ?_
  refine At.nil ?_
  refine At.thenN ?_
  refine At.seq ?_
  refine At.region ?_
  refine At.val (Val.move rfl) rfl rfl rfl ?_
  refine At.val (Val.move rfl) rfl rfl rfl ?_
  refine At.val (Val.bin rfl rfl rfl) rfl rfl rfl ?_
  refine At.val (Val.move rfl) rfl rfl rfl ?_
  refine At.yes rfl rfl ?_
  refine At.val (Val.move rfl) rfl rfl rfl ?_
  refine At.yes rfl rfl ?_
  refine At.val (Val.move rfl) rfl rfl rfl ?_
  refine At.yes rfl rfl ?_
  refine At.callP (fun w hw => sameCh_p none none [] 0 0 w (fun j u h => by simp [chC] at h) (fun j u h => by simp [chC] at h) (by decide)) Tryd.call41 rfl rfl ?_
  refine At.val (Val.pickT rfl rfl) rfl rfl rfl ?_
  refine At.val (Val.assign rfl) rfl rfl rfl ?_
  refine At.nil ?_
  refine At.thenN ?_
  refine At.retC ?_
  refine At.ret1 (.inl rfl) rfl rfl rfl (fun w hw => ?_)
  exact ⟨rfl, hw.mod⟩

theorem lawChanges_ff (i k l h t k' l' h' t' : Int) (w : World) (ht : Tab w) (hb : -9223372036854775808 ≤ t ∧ t ≤ 9223372036854775807) (hb' : -9223372036854775808 ≤ t' ∧ t' ≤ 9223372036854775807) (hg : ¬ GoodP i k l h t) (hg' : ¬ GoodP i k' l' h' t') :
    PureC Tryd.prog 9 [.int .i64 i, .agg #[.int .i64 k, .int .i64 l, .int .i64 h, .int .i64 t], .agg #[.int .i64 k', .int .i64 l', .int .i64 h', .int .i64 t']] (.bool true) w := by
  refine enter0 Tryd.func9 rfl Tryd.ntmps9 rfl ?_
  simp only [envOf]
  refine At.seq ?_
  refine At.region ?_
  refine At.box rfl rfl rfl (fun b1 => ?_)
  refine At.box rfl rfl rfl (fun b2 => ?_)
  refine At.val (Val.assign rfl) rfl rfl rfl ?_
  refine At.nil ?_
  refine At.thenN ?_
  refine At.seq ?_
  refine At.region ?_
  refine At.val (Val.move rfl) rfl rfl rfl ?_
  refine At.val (Val.loadAll (i := 1) Tryd.isAgg61 Tryd.sizeOf61 rfl rfl rfl) rfl rfl rfl ?_
  refine At.val (Val.loadAll (i := 0) Tryd.isAgg61 Tryd.sizeOf61 rfl rfl rfl) rfl rfl rfl ?_
  refine At.callP (fun w hw => changesI_ff i k l h t k' l' h' t' w (ht.mod hw.mod) hb hb' hg hg') Tryd.call39 rfl rfl ?_
  refine At.val (Val.move rfl) rfl rfl rfl ?_
  refine At.val (Val.extract rfl rfl) rfl rfl rfl ?_
  refine At.val (Val.extract rfl rfl) rfl rfl rfl ?_
  refine At.val (Val.assign rfl) rfl rfl rfl ?_
  refine At.val (Val.assign rfl) rfl rfl rfl ?_
  refine At.nil ?_
  refine At.thenN ?_
  refine At.seq ?_
  refine At.region ?_
  refine At.val (Val.move rfl) rfl rfl rfl ?_
  refine At.val (Val.loadAll (i := 1) Tryd.isAgg61 Tryd.sizeOf61 rfl rfl rfl) rfl rfl rfl ?_
  refine At.val (Val.loadAll (i := 0) Tryd.isAgg61 Tryd.sizeOf61 rfl rfl rfl) rfl rfl rfl ?_
  refine At.callP (fun w hw => changesR_ff i k l h t k' l' h' t' w hb hb' hg hg') Tryd.call40 rfl rfl ?_
  refine At.val (Val.move rfl) rfl rfl rfl ?_
  refine At.val (Val.extract rfl rfl) rfl rfl rfl ?_
  refine At.val (Val.extract rfl rfl) rfl rfl rfl ?_
  refine At.val (Val.assign rfl) rfl rfl rfl ?_
  refine At.val (Val.assign rfl) rfl rfl rfl ?_
  refine At.nil ?_
  refine At.thenN ?_
  refine At.seq ?_
  refine At.region ?_
  refine At.val (Val.move rfl) rfl rfl rfl ?_
  refine At.val (Val.move rfl) rfl rfl rfl ?_
  refine At.val (Val.bin rfl rfl rfl) rfl rfl rfl ?_
  refine At.val (Val.move rfl) rfl rfl rfl ?_
  refine At.yes rfl rfl ?_
  refine At.val (Val.move rfl) rfl rfl rfl ?_
  refine At.yes rfl rfl ?_
  refine At.val (Val.move rfl) rfl rfl rfl ?_
  refine At.yes rfl rfl ?_
  refine At.callP (fun w hw => sameCh_p none none [] 0 0 w (fun j u h => by simp [chC] at h) (fun j u h => by simp [chC] at h) (by decide)) Tryd.call41 rfl rfl ?_
  refine At.val (Val.pickT rfl rfl) rfl rfl rfl ?_
  refine At.val (Val.assign rfl) rfl rfl rfl ?_
  refine At.nil ?_
  refine At.thenN ?_
  refine At.retC ?_
  refine At.ret1 (.inl rfl) rfl rfl rfl (fun w hw => ?_)
  exact ⟨rfl, hw.mod⟩


theorem lawChanges_p (i k l h t k' l' h' t' : Int) (w : World) (ht : Tab w) (hb : -9223372036854775808 ≤ t ∧ t ≤ 9223372036854775807) (hb' : -9223372036854775808 ≤ t' ∧ t' ≤ 9223372036854775807) : PureC Tryd.prog 9 [.int .i64 i, .agg #[.int .i64 k, .int .i64 l, .int .i64 h, .int .i64 t], .agg #[.int .i64 k', .int .i64 l', .int .i64 h', .int .i64 t']] (.bool true) w := by
  by_cases hg : GoodP i k l h t
  · by_cases hg' : GoodP i k' l' h' t'
    · exact lawChanges_T i k l h t k' l' h' t' w ht hb hb' hg hg'
    · exact lawChanges_tf i k l h t k' l' h' t' w ht hb hb' hg hg'
  · by_cases hg' : GoodP i k' l' h' t'
    · exact lawChanges_ft i k l h t k' l' h' t' w ht hb hb' hg hg'
    · exact lawChanges_ff i k l h t k' l' h' t' w ht hb hb' hg hg'

end Go.Proofs.YtlplkbbnpddihaaDoor
