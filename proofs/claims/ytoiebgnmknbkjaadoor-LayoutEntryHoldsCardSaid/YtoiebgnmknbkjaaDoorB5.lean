/- The superblock's lines. -/
import Derived.Test.YtoiebgnmknbkjaaDoorB4
import Derived.Test.YtoiebgnmknbkjaaDoorB2
import Derived.Test.YtoiebgnmknbkjaaDoorA3
set_option linter.unusedVariables false
set_option linter.unusedSimpArgs false
namespace Go.Proofs.YtoiebgnmknbkjaaDoor
open Go Go.Wk

def packSupV (p i c : Int) : Value := if GoodSup p i c then .tuple #[lineV (superB p.toNat i.toNat c.toNat), .int .i64 0] else .tuple #[zline, .int .i64 30]
theorem packSup_yes {p i c : Int} (h : GoodSup p i c) : packSupV p i c = .tuple #[lineV (superB p.toNat i.toNat c.toNat), .int .i64 0] := if_pos h
theorem packSup_no {p i c : Int} (h : ¬ GoodSup p i c) : packSupV p i c = .tuple #[zline, .int .i64 30] := if_neg h
theorem superB_eq (p i c : Nat) : superB p i c = ((([70, 85, 82, 82, 79, 87, 48, 49] ++ le 4 p) ++ le 4 i) ++ le 4 c) := rfl
theorem lineV_length {b : List UInt8} (h : b.length ≤ 60) : ((lineL b).map bv).length = 64 := by rw [List.length_map]; exact lineL_length h

theorem packSup_p (p i c : Int) (w : World) (ht : Tab w) :
    PureC Tryd.prog 22 [.agg #[.int .i64 p, .int .i64 i, .int .i64 c]] (packSupV p i c) w := by
  refine enter0 Tryd.func22 rfl Tryd.ntmps22 rfl ?_
  simp only [envOf]
  refine At.seq ?_
  refine At.region ?_
  refine At.box rfl rfl rfl (fun b1 => ?_)
  refine At.alloc zero_30 zc_30 rfl (fun b2 => ?_)
  refine At.val (Val.assign rfl) rfl rfl rfl ?_
  refine At.nil ?_
  refine At.thenN ?_
  refine At.seq ?_
  refine At.seq ?_
  refine At.region ?_
  refine At.val (Val.loadAll (i := 1) Tryd.isAgg23 Tryd.sizeOf23 rfl rfl rfl) rfl rfl rfl ?_
  refine At.callP (fun w hw => fit_p _ _ _ w) Tryd.call20 rfl rfl ?_
  by_cases hg : GoodSup p i c
  · skip
    rw [fit_yes hg]
    have hg' := hg
    unfold GoodSup at hg'
    refine At.val (Val.move rfl) rfl rfl rfl ?_
    refine At.val (Val.extract rfl rfl) rfl rfl rfl ?_
    refine At.val (Val.extract rfl rfl) rfl rfl rfl ?_
    refine At.alloc Tryd.zeroValue25 rfl rfl (fun b3 => ?_)
    refine At.storeAll (i := 0) Tryd.sizeOf25 rfl rfl rfl (by simp [Value.oneCell']) rfl rfl ?_
    simp only [List.set_cons_zero, List.set_cons_succ]
    refine At.val (Val.assign rfl) rfl rfl rfl ?_
    refine At.nil ?_
    refine At.thenN ?_
    refine At.seq ?_
    refine At.region ?_
    refine At.val (Val.move rfl) rfl rfl rfl ?_
    refine At.val (Val.bin rfl rfl rfl) rfl rfl rfl ?_
    refine At.nil ?_
    refine At.thenN ?_
    refine At.condF rfl ?_
    refine At.skipC ?_
    refine At.thenN ?_
    refine At.seq ?_
    refine At.region ?_
    refine At.val (Val.build (fun a ha => by simp only [List.map_toArray, List.map_cons, List.map_nil] <;> rfl) (bld_127_)) rfl rfl rfl ?_
    refine At.alloc zero_127 zc_127 rfl (fun b4 => ?_)
    refine At.storeAll (i := 0) Tryd.sizeOf127 rfl rfl rfl (by simp [Value.oneCell']) rfl (by simp) ?_
    simp only [List.set_cons_zero, List.set_cons_succ]
    refine At.nil ?_
    rw [← penC_nil]
    refine At.thenN ?_
    refine At.seq ?_
    refine At.region ?_
    refine At.call1 0 rfl (fun w hw hr => penText_p _ [] ⟨#[70, 85, 82, 82, 79, 87, 48, 49]⟩ w hr (by decide)) Tryd.call75 rfl rfl ?_
    simp only [List.set_cons_zero, List.set_cons_succ]
    refine At.nil ?_
    refine At.thenN ?_
    refine At.seq ?_
    refine At.region ?_
    refine At.val (Val.field 0 rfl fo_23_0 rfl) rfl rfl rfl ?_
    refine At.val (Val.load (i := 3) Tryd.isAgg3 rfl rfl rfl) rfl rfl rfl ?_
    refine At.val (Val.conv Tryd.underlying3 Tryd.underlying40 rfl) rfl rfl rfl ?_
    rw [toU64 (n := p) (by omega) (by omega)]
    refine At.call1 0 rfl (fun w hw hr => penNumber_p _ ([] ++ [70, 85, 82, 82, 79, 87, 48, 49]) p.toNat 4 w hr (by decide) (by omega) (by decide)) Tryd.call76 rfl rfl ?_
    simp only [List.set_cons_zero, List.set_cons_succ]
    refine At.nil ?_
    refine At.thenN ?_
    refine At.seq ?_
    refine At.region ?_
    refine At.val (Val.field 1 rfl fo_23_1 rfl) rfl rfl rfl ?_
    refine At.val (Val.load (i := 3) Tryd.isAgg3 rfl rfl rfl) rfl rfl rfl ?_
    refine At.val (Val.conv Tryd.underlying3 Tryd.underlying40 rfl) rfl rfl rfl ?_
    rw [toU64 (n := i) (by omega) (by omega)]
    refine At.call1 0 rfl (fun w hw hr => penNumber_p _ ([] ++ [70, 85, 82, 82, 79, 87, 48, 49] ++ le 4 p.toNat) i.toNat 4 w hr (by simp [le_length]) (by omega) (by decide)) Tryd.call76 rfl rfl ?_
    simp only [List.set_cons_zero, List.set_cons_succ]
    refine At.nil ?_
    refine At.thenN ?_
    refine At.seq ?_
    refine At.region ?_
    refine At.val (Val.field 2 rfl fo_23_2 rfl) rfl rfl rfl ?_
    refine At.val (Val.load (i := 3) Tryd.isAgg3 rfl rfl rfl) rfl rfl rfl ?_
    refine At.val (Val.conv Tryd.underlying3 Tryd.underlying40 rfl) rfl rfl rfl ?_
    rw [toU64 (n := c) (by omega) (by omega)]
    refine At.call1 0 rfl (fun w hw hr => penNumber_p _ ([] ++ [70, 85, 82, 82, 79, 87, 48, 49] ++ le 4 p.toNat ++ le 4 i.toNat) c.toNat 4 w hr (by simp [le_length]) (by omega) (by decide)) Tryd.call76 rfl rfl ?_
    simp only [List.set_cons_zero, List.set_cons_succ]
    refine At.nil ?_
    rw [show ([] : List UInt8) ++ [70, 85, 82, 82, 79, 87, 48, 49] ++ le 4 p.toNat ++ le 4 i.toNat ++ le 4 c.toNat = superB p.toNat i.toNat c.toNat from rfl]
    refine At.thenN ?_
    refine At.seq ?_
    refine At.region ?_
    refine At.val (Val.field 0 rfl fo_127_0 rfl) rfl rfl rfl ?_
    refine At.val (Val.loadPart (i := 0) Tryd.isAgg30 Tryd.sizeOf30 rfl rfl (penC_line (by rw [superB_length]; decide)) (by rw [List.length_map, List.length_append, zs_length, superB_length])) rfl rfl rfl ?_
    refine At.callP (fun w hw => close_p _ w (by rw [List.length_append, zs_length, superB_length]) (ht.mod hw.mod)) Tryd.call77 rfl rfl ?_
    refine At.storeAll (i := 2) Tryd.sizeOf30 rfl rfl (lineV_length (by rw [superB_length]; decide)) (by simp [Value.oneCell']) rfl (by simp) ?_
    simp only [List.set_cons_zero, List.set_cons_succ]
    refine At.val (Val.assign rfl) rfl rfl rfl ?_
    refine At.nil ?_
    refine At.thenN ?_
    refine At.retC ?_
    refine At.ret2 (.inl rfl) rfl rfl (ResOf.all (i := 2) Tryd.isAgg30 Tryd.sizeOf30 rfl rfl (lineV_length (by rw [superB_length]; decide))) rfl (fun w hw => ?_)
    exact ⟨by rw [packSup_yes hg]; rfl, hw.mod⟩
  · skip
    rw [fit_no hg]
    refine At.val (Val.move rfl) rfl rfl rfl ?_
    refine At.val (Val.extract rfl rfl) rfl rfl rfl ?_
    refine At.val (Val.extract rfl rfl) rfl rfl rfl ?_
    refine At.alloc Tryd.zeroValue25 rfl rfl (fun b5 => ?_)
    refine At.storeAll (i := 0) Tryd.sizeOf25 rfl rfl rfl (by simp [Value.oneCell']) rfl rfl ?_
    simp only [List.set_cons_zero, List.set_cons_succ]
    refine At.val (Val.assign rfl) rfl rfl rfl ?_
    refine At.nil ?_
    refine At.thenN ?_
    refine At.seq ?_
    refine At.region ?_
    refine At.val (Val.move rfl) rfl rfl rfl ?_
    refine At.val (Val.bin rfl rfl rfl) rfl rfl rfl ?_
    refine At.nil ?_
    refine At.thenN ?_
    refine At.condT rfl ?_
    refine At.seq ?_
    refine At.region ?_
    refine At.val (Val.build (fun a ha => by simp only [List.map_toArray, List.map_cons, List.map_nil] <;> rfl) (bld_30_)) rfl rfl rfl ?_
    refine At.val (Val.move rfl) rfl rfl rfl ?_
    refine At.storeAll (i := 1) Tryd.sizeOf30 rfl rfl rfl (by simp [Value.oneCell']) rfl (by simp) ?_
    simp only [List.set_cons_zero, List.set_cons_succ]
    refine At.val (Val.assign rfl) rfl rfl rfl ?_
    refine At.nil ?_
    refine At.thenN ?_
    refine At.retC ?_
    refine At.thenR ?_
    refine At.ret2 (.inl rfl) rfl rfl (ResOf.all (i := 1) Tryd.isAgg30 Tryd.sizeOf30 rfl rfl (by simp)) rfl (fun w hw => ?_)
    exact ⟨by rw [packSup_no hg]; rfl, hw.mod⟩

theorem packSupR_p (p i c : Int) (w : World) (hp : -9223372036854775808 ≤ p ∧ p ≤ 9223372036854775807) :
    PureC Tryd.prog 23 [.agg #[.int .i64 p, .int .i64 i, .int .i64 c]] (packSupV p i c) w := by
  refine enter0 Tryd.func23 rfl Tryd.ntmps23 rfl ?_
  simp only [envOf]
  refine At.seq ?_
  refine At.region ?_
  refine At.box rfl rfl rfl (fun b1 => ?_)
  refine At.alloc zero_30 zc_30 rfl (fun b2 => ?_)
  refine At.val (Val.assign rfl) rfl rfl rfl ?_
  refine At.nil ?_
  refine At.thenN ?_
  refine At.seq ?_
  refine At.seq ?_
  refine At.region ?_
  refine At.val (Val.loadAll (i := 1) Tryd.isAgg23 Tryd.sizeOf23 rfl rfl rfl) rfl rfl rfl ?_
  refine At.callP (fun w hw => goodSup_p _ _ _ w hp) Tryd.call74 rfl rfl ?_
  refine At.val (Val.not rfl) rfl rfl rfl ?_
  refine At.nil ?_
  refine At.thenN ?_
  refine At.cond rfl (fun h3 => ?_) (fun h3 => ?_)
  · skip
    have hg : ¬ GoodSup p i c := by simpa using h3
    refine At.seq ?_
    refine At.region ?_
    refine At.val (Val.build (fun a ha => by simp only [List.map_toArray, List.map_cons, List.map_nil] <;> rfl) (bld_30_)) rfl rfl rfl ?_
    refine At.storeAll (i := 0) Tryd.sizeOf30 rfl rfl rfl (by simp [Value.oneCell']) rfl (by simp) ?_
    simp only [List.set_cons_zero, List.set_cons_succ]
    refine At.val (Val.assign rfl) rfl rfl rfl ?_
    refine At.nil ?_
    refine At.thenN ?_
    refine At.retC ?_
    refine At.thenR ?_
    refine At.ret2 (.inl rfl) rfl rfl (ResOf.all (i := 0) Tryd.isAgg30 Tryd.sizeOf30 rfl rfl (by simp)) rfl (fun w hw => ?_)
    exact ⟨by rw [packSup_no hg]; rfl, hw.mod⟩
  · skip
    have hg : GoodSup p i c := by simpa using h3
    have hg' := hg
    unfold GoodSup at hg'
    refine At.skipC ?_
    refine At.thenN ?_
    refine At.seq ?_
    refine At.region ?_
    refine At.val (Val.assign rfl) rfl rfl rfl ?_
    refine At.nil ?_
    refine At.thenN ?_
    refine At.seq ?_
    refine At.region ?_
    refine At.val (Val.move rfl) rfl rfl rfl ?_
    refine At.rowNil 5 1 ?_
    refine At.callR 0 rfl (fun w hw hr => letters_p _ [] ⟨#[70, 85, 82, 82, 79, 87, 48, 49]⟩ w hr (by decide)) Tryd.call78 rfl rfl (fun v4 => ?_)
    simp only [List.set_cons_zero, List.set_cons_succ]
    refine At.val (Val.assign rfl) rfl rfl rfl ?_
    refine At.nil ?_
    refine At.thenN ?_
    refine At.seq ?_
    refine At.region ?_
    refine At.val (Val.move rfl) rfl rfl rfl ?_
    refine At.val (Val.field 0 rfl fo_23_0 rfl) rfl rfl rfl ?_
    refine At.val (Val.load (i := 2) Tryd.isAgg3 rfl rfl rfl) rfl rfl rfl ?_
    refine At.val (Val.conv Tryd.underlying3 Tryd.underlying40 rfl) rfl rfl rfl ?_
    rw [toU64 (n := p) (by omega) (by omega)]
    refine At.callR 0 rfl (fun w hw hr => rlay_p _ ([] ++ [70, 85, 82, 82, 79, 87, 48, 49]) p.toNat 4 w hr (by omega) (by decide) (by simp [le_length])) Tryd.call79 rfl rfl (fun v5 => ?_)
    simp only [List.set_cons_zero, List.set_cons_succ]
    refine At.val (Val.assign rfl) rfl rfl rfl ?_
    refine At.nil ?_
    refine At.thenN ?_
    refine At.seq ?_
    refine At.region ?_
    refine At.val (Val.move rfl) rfl rfl rfl ?_
    refine At.val (Val.field 1 rfl fo_23_1 rfl) rfl rfl rfl ?_
    refine At.val (Val.load (i := 2) Tryd.isAgg3 rfl rfl rfl) rfl rfl rfl ?_
    refine At.val (Val.conv Tryd.underlying3 Tryd.underlying40 rfl) rfl rfl rfl ?_
    rw [toU64 (n := i) (by omega) (by omega)]
    refine At.callR 0 rfl (fun w hw hr => rlay_p _ ([] ++ [70, 85, 82, 82, 79, 87, 48, 49] ++ le 4 p.toNat) i.toNat 4 w hr (by omega) (by decide) (by simp [le_length])) Tryd.call79 rfl rfl (fun v6 => ?_)
    simp only [List.set_cons_zero, List.set_cons_succ]
    refine At.val (Val.assign rfl) rfl rfl rfl ?_
    refine At.nil ?_
    refine At.thenN ?_
    refine At.seq ?_
    refine At.region ?_
    refine At.val (Val.move rfl) rfl rfl rfl ?_
    refine At.val (Val.field 2 rfl fo_23_2 rfl) rfl rfl rfl ?_
    refine At.val (Val.load (i := 2) Tryd.isAgg3 rfl rfl rfl) rfl rfl rfl ?_
    refine At.val (Val.conv Tryd.underlying3 Tryd.underlying40 rfl) rfl rfl rfl ?_
    rw [toU64 (n := c) (by omega) (by omega)]
    refine At.callR 0 rfl (fun w hw hr => rlay_p _ ([] ++ [70, 85, 82, 82, 79, 87, 48, 49] ++ le 4 p.toNat ++ le 4 i.toNat) c.toNat 4 w hr (by omega) (by decide) (by simp [le_length])) Tryd.call79 rfl rfl (fun v7 => ?_)
    simp only [List.set_cons_zero, List.set_cons_succ]
    refine At.val (Val.assign rfl) rfl rfl rfl ?_
    refine At.nil ?_
    refine At.thenN ?_
    refine At.seq ?_
    refine At.region ?_
    refine At.val (Val.move rfl) rfl rfl rfl ?_
    refine At.callU 0 rfl (fun w hw hr => line_p _ (superB p.toNat i.toNat c.toNat) w hr (by rw [superB_length]; decide)) Tryd.call80 rfl rfl ?_
    simp only [List.eraseIdx_cons_zero, List.eraseIdx_cons_succ]
    refine At.alloc zero_30 zc_30 rfl (fun b8 => ?_)
    refine At.storeAll (i := 0) Tryd.sizeOf30 rfl rfl (lineV_length (by rw [superB_length]; decide)) (by simp [Value.oneCell']) rfl (by simp) ?_
    simp only [List.set_cons_zero, List.set_cons_succ]
    refine At.nil ?_
    refine At.thenN ?_
    refine At.seq ?_
    refine At.region ?_
    refine At.val (Val.loadAll (i := 0) Tryd.isAgg30 Tryd.sizeOf30 rfl rfl (lineV_length (by rw [superB_length]; decide))) rfl rfl rfl ?_
    refine At.storeAll (i := 1) Tryd.sizeOf30 rfl rfl (lineV_length (by rw [superB_length]; decide)) (by simp [Value.oneCell']) rfl (by simp) ?_
    simp only [List.set_cons_zero, List.set_cons_succ]
    refine At.val (Val.assign rfl) rfl rfl rfl ?_
    refine At.nil ?_
    refine At.thenN ?_
    refine At.retC ?_
    refine At.ret2 (.inl rfl) rfl rfl (ResOf.all (i := 1) Tryd.isAgg30 Tryd.sizeOf30 rfl rfl (lineV_length (by rw [superB_length]; decide))) rfl (fun w hw => ?_)
    exact ⟨by rw [packSup_yes hg]; rfl, hw.mod⟩

end Go.Proofs.YtoiebgnmknbkjaaDoor
