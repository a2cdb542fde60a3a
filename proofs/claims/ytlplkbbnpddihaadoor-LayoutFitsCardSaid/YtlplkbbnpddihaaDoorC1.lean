/- LayoutFits, walked. -/
import Derived.Test.YtlplkbbnpddihaaDoorB5
set_option linter.unusedVariables false
set_option linter.unusedSimpArgs false
namespace Go.Proofs.YtlplkbbnpddihaaDoor
open Go Go.Wk
theorem lawFits_T (p i c n : Int) (w : World) (ht : Tab w) (hp : -9223372036854775808 ≤ p ∧ p ≤ 9223372036854775807) (hg : GoodSup p i c) :
    PureC Tryd.prog 3 [.agg #[.int .i64 p, .int .i64 i, .int .i64 c], .int .i64 n] (.bool true) w := by
  refine enter0 Tryd.func3 rfl Tryd.ntmps3 rfl ?_
  simp only [envOf]
  refine At.seq ?_
  refine At.region ?_
  refine At.box rfl rfl rfl (fun b1 => ?_)
  refine At.val (Val.assign rfl) rfl rfl rfl ?_
  refine At.nil ?_
  refine At.thenN ?_
  refine At.seq ?_
  refine At.region ?_
  refine At.val (Val.loadAll (i := 0) Tryd.isAgg23 Tryd.sizeOf23 rfl rfl rfl) rfl rfl rfl ?_
  refine At.callP (fun w hw => (by have := fit_p p i c w; rwa [fit_yes hg] at this)) Tryd.call20 rfl rfl ?_
  refine At.val (Val.move rfl) rfl rfl rfl ?_
  refine At.val (Val.extract rfl rfl) rfl rfl rfl ?_
  refine At.val (Val.extract rfl rfl) rfl rfl rfl ?_
  refine At.alloc Tryd.zeroValue25 rfl rfl (fun b2 => ?_)
  refine At.storeAll (i := 0) Tryd.sizeOf25 rfl rfl rfl (by simp [Value.oneCell']) rfl rfl ?_
  simp only [List.set_cons_zero, List.set_cons_succ]
  refine At.val (Val.assign rfl) rfl rfl rfl ?_
  refine At.nil ?_
  refine At.thenN ?_
  refine At.seq ?_
  refine At.region ?_
  refine At.val (Val.loadAll (i := 1) Tryd.isAgg23 Tryd.sizeOf23 rfl rfl rfl) rfl rfl rfl ?_
  refine At.callP (fun w hw => (by have := fitR_p p i c w hp; rwa [fit_yes hg] at this)) Tryd.call21 rfl rfl ?_
  refine At.val (Val.move rfl) rfl rfl rfl ?_
  refine At.val (Val.extract rfl rfl) rfl rfl rfl ?_
  refine At.val (Val.extract rfl rfl) rfl rfl rfl ?_
  refine At.alloc Tryd.zeroValue25 rfl rfl (fun b3 => ?_)
  refine At.storeAll (i := 0) Tryd.sizeOf25 rfl rfl rfl (by simp [Value.oneCell']) rfl rfl ?_
  simp only [List.set_cons_zero, List.set_cons_succ]
  refine At.val (Val.assign rfl) rfl rfl rfl ?_
  refine At.nil ?_
  refine At.thenN ?_
  refine At.seq ?_
  refine At.seq ?_
  refine At.region ?_
  refine At.val (Val.loadAll (i := 1) Tryd.isAgg25 Tryd.sizeOf25 rfl rfl rfl) rfl rfl rfl ?_
  refine At.val (Val.loadAll (i := 0) Tryd.isAgg25 Tryd.sizeOf25 rfl rfl rfl) rfl rfl rfl ?_
  refine At.val (Val.neAgg (b := true) Tryd.eqGuardType25 (fun w => by simpa using eq_25 p i c (4 + i / 8) p i c (4 + i / 8) w) rfl rfl) rfl rfl rfl ?_
  refine At.val (Val.move rfl) rfl rfl rfl ?_
  refine At.yes rfl rfl ?_
  refine At.val (Val.move rfl) rfl rfl rfl ?_
  refine At.yes rfl rfl ?_
  refine At.val (Val.move rfl) rfl rfl rfl ?_
  refine At.yes rfl rfl ?_
  refine At.val (Val.bin rfl rfl rfl) rfl rfl rfl ?_
  refine At.val (Val.pickF rfl rfl) rfl rfl rfl ?_
  refine At.nil ?_
  refine At.thenN ?_
  refine At.condF rfl ?_
  refine At.skipC ?_
  refine At.thenN ?_
  refine At.seq ?_
  refine At.region ?_
  refine At.val (Val.loadAll (i := 2) Tryd.isAgg23 Tryd.sizeOf23 rfl rfl rfl) rfl rfl rfl ?_
  refine At.callP (fun w hw => (by have := packSup_p p i c w (ht.mod hw.mod); rwa [packSup_yes hg] at this)) Tryd.call22 rfl rfl ?_
  refine At.val (Val.move rfl) rfl rfl rfl ?_
  refine At.val (Val.extract rfl rfl) rfl rfl rfl ?_
  refine At.val (Val.extract rfl rfl) rfl rfl rfl ?_
  refine At.alloc zero_30 zc_30 rfl (fun b4 => ?_)
  refine At.storeAll (i := 0) Tryd.sizeOf30 rfl rfl (by rw [List.length_map]; exact lineL_length (by rw [superB_length]; decide)) (by simp [Value.oneCell']) rfl (by simp) ?_
  simp only [List.set_cons_zero, List.set_cons_succ]
  refine At.val (Val.assign rfl) rfl rfl rfl ?_
  refine At.nil ?_
  refine At.thenN ?_
  refine At.seq ?_
  refine At.region ?_
  refine At.val (Val.loadAll (i := 3) Tryd.isAgg23 Tryd.sizeOf23 rfl rfl rfl) rfl rfl rfl ?_
  refine At.callP (fun w hw => (by have := packSupR_p p i c w hp; rwa [packSup_yes hg] at this)) Tryd.call23 rfl rfl ?_
  refine At.val (Val.move rfl) rfl rfl rfl ?_
  refine At.val (Val.extract rfl rfl) rfl rfl rfl ?_
  refine At.val (Val.extract rfl rfl) rfl rfl rfl ?_
  refine At.alloc zero_30 zc_30 rfl (fun b5 => ?_)
  refine At.storeAll (i := 0) Tryd.sizeOf30 rfl rfl (by rw [List.length_map]; exact lineL_length (by rw [superB_length]; decide)) (by simp [Value.oneCell']) rfl (by simp) ?_
  simp only [List.set_cons_zero, List.set_cons_succ]
  refine At.val (Val.assign rfl) rfl rfl rfl ?_
  refine At.nil ?_
  refine At.thenN ?_
  refine At.seq ?_
  refine At.seq ?_
  refine At.region ?_
  refine At.val (Val.loadAll (i := 1) Tryd.isAgg30 Tryd.sizeOf30 rfl rfl (by rw [List.length_map]; exact lineL_length (by rw [superB_length]; decide))) rfl rfl rfl ?_
  refine At.val (Val.loadAll (i := 0) Tryd.isAgg30 Tryd.sizeOf30 rfl rfl (by rw [List.length_map]; exact lineL_length (by rw [superB_length]; decide))) rfl rfl rfl ?_
  refine At.val (Val.neAgg (b := true) Tryd.eqGuardType30 (fun w => by simpa using run_equal_bytes Tryd.underlying30 Tryd.underlying5 Tryd.isAgg5 Tryd.sizeOf5 (lineL (superB p.toNat i.toNat c.toNat)) (lineL (superB p.toNat i.toNat c.toNat)) (lineL_length (by rw [superB_length]; decide)) (lineL_length (by rw [superB_length]; decide)) w) rfl rfl) rfl rfl rfl ?_
  refine At.val (Val.move rfl) rfl rfl rfl ?_
  refine At.yes rfl rfl ?_
  refine At.val (Val.move rfl) rfl rfl rfl ?_
  refine At.yes rfl rfl ?_
  refine At.val (Val.move rfl) rfl rfl rfl ?_
  refine At.yes rfl rfl ?_
  refine At.val (Val.bin rfl rfl rfl) rfl rfl rfl ?_
  refine At.val (Val.pickF rfl rfl) rfl rfl rfl ?_
  refine At.nil ?_
  refine At.thenN ?_
  refine At.condF rfl ?_
  refine At.skipC ?_
  refine At.thenN ?_
  refine At.seq ?_
  refine At.region ?_
  refine At.val (Val.move rfl) rfl rfl rfl ?_
  refine At.callP (fun w hw => slotAt_p _ w) Tryd.call24 rfl rfl ?_
  refine At.val (Val.assign rfl) rfl rfl rfl ?_
  refine At.nil ?_
  refine At.thenN ?_
  refine At.seq ?_
  refine At.region ?_
  refine At.val (Val.move rfl) rfl rfl rfl ?_
  refine At.val (Val.move rfl) rfl rfl rfl ?_
  refine At.callP (fun w hw => slotAtR_p _ w) Tryd.call25 rfl rfl ?_
  refine At.val (Val.bin rfl rfl rfl) rfl rfl rfl ?_
  refine At.val (Val.assign rfl) rfl rfl rfl ?_
  refine At.nil ?_
  refine At.thenN ?_
  refine At.retC ?_
  refine At.ret1 (.inl rfl) rfl rfl rfl (fun w hw => ?_)
  exact ⟨by simp, hw.mod⟩

theorem lawFits_F (p i c n : Int) (w : World) (ht : Tab w) (hp : -9223372036854775808 ≤ p ∧ p ≤ 9223372036854775807) (hg : ¬ GoodSup p i c) :
    PureC Tryd.prog 3 [.agg #[.int .i64 p, .int .i64 i, .int .i64 c], .int .i64 n] (.bool true) w := by
  refine enter0 Tryd.func3 rfl Tryd.ntmps3 rfl ?_
  simp only [envOf]
  refine At.seq ?_
  refine At.region ?_
  refine At.box rfl rfl rfl (fun b1 => ?_)
  refine At.val (Val.assign rfl) rfl rfl rfl ?_
  refine At.nil ?_
  refine At.thenN ?_
  refine At.seq ?_
  refine At.region ?_
  refine At.val (Val.loadAll (i := 0) Tryd.isAgg23 Tryd.sizeOf23 rfl rfl rfl) rfl rfl rfl ?_
  refine At.callP (fun w hw => (by have := fit_p p i c w; rwa [fit_no hg] at this)) Tryd.call20 rfl rfl ?_
  refine At.val (Val.move rfl) rfl rfl rfl ?_
  refine At.val (Val.extract rfl rfl) rfl rfl rfl ?_
  refine At.val (Val.extract rfl rfl) rfl rfl rfl ?_
  refine At.alloc Tryd.zeroValue25 rfl rfl (fun b2 => ?_)
  refine At.storeAll (i := 0) Tryd.sizeOf25 rfl rfl rfl (by simp [Value.oneCell']) rfl rfl ?_
  simp only [List.set_cons_zero, List.set_cons_succ]
  refine At.val (Val.assign rfl) rfl rfl rfl ?_
  refine At.nil ?_
  refine At.thenN ?_
  refine At.seq ?_
  refine At.region ?_
  refine At.val (Val.loadAll (i := 1) Tryd.isAgg23 Tryd.sizeOf23 rfl rfl rfl) rfl rfl rfl ?_
  refine At.callP (fun w hw => (by have := fitR_p p i c w hp; rwa [fit_no hg] at this)) Tryd.call21 rfl rfl ?_
  refine At.val (Val.move rfl) rfl rfl rfl ?_
  refine At.val (Val.extract rfl rfl) rfl rfl rfl ?_
  refine At.val (Val.extract rfl rfl) rfl rfl rfl ?_
  refine At.alloc Tryd.zeroValue25 rfl rfl (fun b3 => ?_)
  refine At.storeAll (i := 0) Tryd.sizeOf25 rfl rfl rfl (by simp [Value.oneCell']) rfl rfl ?_
  simp only [List.set_cons_zero, List.set_cons_succ]
  refine At.val (Val.assign rfl) rfl rfl rfl ?_
  refine At.nil ?_
  refine At.thenN ?_
  refine At.seq ?_
  refine At.seq ?_
  refine At.region ?_
  refine At.val (Val.loadAll (i := 1) Tryd.isAgg25 Tryd.sizeOf25 rfl rfl rfl) rfl rfl rfl ?_
  refine At.val (Val.loadAll (i := 0) Tryd.isAgg25 Tryd.sizeOf25 rfl rfl rfl) rfl rfl rfl ?_
  refine At.val (Val.neAgg (b := true) Tryd.eqGuardType25 (fun w => by simpa using eq_25 0 0 0 0 0 0 0 0 w) rfl rfl) rfl rfl rfl ?_
  refine At.val (Val.move rfl) rfl rfl rfl ?_
  refine At.yes rfl rfl ?_
  refine At.val (Val.move rfl) rfl rfl rfl ?_
  refine At.yes rfl rfl ?_
  refine At.val (Val.move rfl) rfl rfl rfl ?_
  refine At.yes rfl rfl ?_
  refine At.val (Val.bin rfl rfl rfl) rfl rfl rfl ?_
  refine At.val (Val.pickF rfl rfl) rfl rfl rfl ?_
  refine At.nil ?_
  refine At.thenN ?_
  refine At.condF rfl ?_
  refine At.skipC ?_
  refine At.thenN ?_
  refine At.seq ?_
  refine At.region ?_
  refine At.val (Val.loadAll (i := 2) Tryd.isAgg23 Tryd.sizeOf23 rfl rfl rfl) rfl rfl rfl ?_
  refine At.callP (fun w hw => (by have := packSup_p p i c w (ht.mod hw.mod); rwa [packSup_no hg] at this)) Tryd.call22 rfl rfl ?_
  refine At.val (Val.move rfl) rfl rfl rfl ?_
  refine At.val (Val.extract rfl rfl) rfl rfl rfl ?_
  refine At.val (Val.extract rfl rfl) rfl rfl rfl ?_
  refine At.alloc zero_30 zc_30 rfl (fun b4 => ?_)
  refine At.storeAll (i := 0) Tryd.sizeOf30 rfl rfl (by simp [zs]) (by simp [Value.oneCell']) rfl (by simp) ?_
  simp only [List.set_cons_zero, List.set_cons_succ]
  refine At.val (Val.assign rfl) rfl rfl rfl ?_
  refine At.nil ?_
  refine At.thenN ?_
  refine At.seq ?_
  refine At.region ?_
  refine At.val (Val.loadAll (i := 3) Tryd.isAgg23 Tryd.sizeOf23 rfl rfl rfl) rfl rfl rfl ?_
  refine At.callP (fun w hw => (by have := packSupR_p p i c w hp; rwa [packSup_no hg] at this)) Tryd.call23 rfl rfl ?_
  refine At.val (Val.move rfl) rfl rfl rfl ?_
  refine At.val (Val.extract rfl rfl) rfl rfl rfl ?_
  refine At.val (Val.extract rfl rfl) rfl rfl rfl ?_
  refine At.alloc zero_30 zc_30 rfl (fun b5 => ?_)
  refine At.storeAll (i := 0) Tryd.sizeOf30 rfl rfl (by simp [zs]) (by simp [Value.oneCell']) rfl (by simp) ?_
  simp only [List.set_cons_zero, List.set_cons_succ]
  refine At.val (Val.assign rfl) rfl rfl rfl ?_
  refine At.nil ?_
  refine At.thenN ?_
  refine At.seq ?_
  refine At.seq ?_
  refine At.region ?_
  refine At.val (Val.loadAll (i := 1) Tryd.isAgg30 Tryd.sizeOf30 rfl rfl (by simp [zs])) rfl rfl rfl ?_
  refine At.val (Val.loadAll (i := 0) Tryd.isAgg30 Tryd.sizeOf30 rfl rfl (by simp [zs])) rfl rfl rfl ?_
  refine At.val (Val.neAgg (b := true) Tryd.eqGuardType30 (fun w => by simpa using run_equal_bytes Tryd.underlying30 Tryd.underlying5 Tryd.isAgg5 Tryd.sizeOf5 (zs 64) (zs 64) (zs_length 64) (zs_length 64) w) rfl rfl) rfl rfl rfl ?_
  refine At.val (Val.move rfl) rfl rfl rfl ?_
  refine At.yes rfl rfl ?_
  refine At.val (Val.move rfl) rfl rfl rfl ?_
  refine At.yes rfl rfl ?_
  refine At.val (Val.move rfl) rfl rfl rfl ?_
  refine At.yes rfl rfl ?_
  refine At.val (Val.bin rfl rfl rfl) rfl rfl rfl ?_
  refine At.val (Val.pickF rfl rfl) rfl rfl rfl ?_
  refine At.nil ?_
  refine At.thenN ?_
  refine At.condF rfl ?_
  refine At.skipC ?_
  refine At.thenN ?_
  refine At.seq ?_
  refine At.region ?_
  refine At.val (Val.move rfl) rfl rfl rfl ?_
  refine At.callP (fun w hw => slotAt_p _ w) Tryd.call24 rfl rfl ?_
  refine At.val (Val.assign rfl) rfl rfl rfl ?_
  refine At.nil ?_
  refine At.thenN ?_
  refine At.seq ?_
  refine At.region ?_
  refine At.val (Val.move rfl) rfl rfl rfl ?_
  refine At.val (Val.move rfl) rfl rfl rfl ?_
  refine At.callP (fun w hw => slotAtR_p _ w) Tryd.call25 rfl rfl ?_
  refine At.val (Val.bin rfl rfl rfl) rfl rfl rfl ?_
  refine At.val (Val.assign rfl) rfl rfl rfl ?_
  refine At.nil ?_
  refine At.thenN ?_
  refine At.retC ?_
  refine At.ret1 (.inl rfl) rfl rfl rfl (fun w hw => ?_)
  exact ⟨by simp, hw.mod⟩


theorem lawFits_p (p i c n : Int) (w : World) (ht : Tab w) (hp : -9223372036854775808 ≤ p ∧ p ≤ 9223372036854775807) : PureC Tryd.prog 3 [.agg #[.int .i64 p, .int .i64 i, .int .i64 c], .int .i64 n] (.bool true) w := by
  by_cases hg : GoodSup p i c
  · exact lawFits_T p i c n w ht hp hg
  · exact lawFits_F p i c n w ht hp hg

end Go.Proofs.YtlplkbbnpddihaaDoor
