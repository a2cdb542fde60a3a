/- What a slot's words say. -/
import Derived.Test.YtoiebgnmknbkjaaDoorB13
import Derived.Test.YtoiebgnmknbkjaaDoorB10
set_option linter.unusedVariables false
set_option linter.unusedSimpArgs false
namespace Go.Proofs.YtoiebgnmknbkjaaDoor
open Go Go.Wk

def lo (x : BitVec 64) : Nat := (x.setWidth 32).toNat
theorem lo_lt (x : BitVec 64) : lo x < 4294967296 := (x.setWidth 32).isLt
def hdOf (y z : BitVec 64) : Nat := if lo z = 0 then 0 else lo y
theorem hdOf_0 {y z : BitVec 64} (h : lo z = 0) : hdOf y z = 0 := if_pos h
theorem hdOf_1 {y z : BitVec 64} (h : ¬ lo z = 0) : hdOf y z = lo y := if_neg h
def Sl (a : Int) (x : BitVec 64) : Prop := sealW (BitVec.ofInt 64 a) (x.setWidth 32) = x
instance (a : Int) (x : BitVec 64) : Decidable (Sl a x) := by unfold Sl; infer_instance
def OkSl (i : Int) (x y z : BitVec 64) : Prop := isInoB i = true ∧ Sl (slotAt i) x ∧ (lo x = 0 ∨ (Sl (slotAt i + 16) z ∧ (lo z = 0 ∨ Sl (slotAt i + 8) y) ∧ GoodU (lo x % 256 : Nat) (lo x / 256 : Nat) (hdOf y z : Nat) (lo z : Nat)))
instance (i : Int) (x y z : BitVec 64) : Decidable (OkSl i x y z) := by unfold OkSl; infer_instance
def slotOf (x y z : BitVec 64) : Value := if lo x = 0 then .agg #[.int .i64 0, .int .i64 0, .int .i64 0, .int .i64 0] else .agg #[.int .i64 (lo x % 256 : Nat), .int .i64 (lo x / 256 : Nat), .int .i64 (hdOf y z : Nat), .int .i64 (lo z : Nat)]
theorem slotOf_0 {x y z : BitVec 64} (h : lo x = 0) : slotOf x y z = .agg #[.int .i64 0, .int .i64 0, .int .i64 0, .int .i64 0] := if_pos h
theorem slotOf_1 {x y z : BitVec 64} (h : ¬ lo x = 0) : slotOf x y z = .agg #[.int .i64 (lo x % 256 : Nat), .int .i64 (lo x / 256 : Nat), .int .i64 (hdOf y z : Nat), .int .i64 (lo z : Nat)] := if_neg h
def openSlotV (i : Int) (x y z : BitVec 64) : Value := if OkSl i x y z then .tuple #[slotOf x y z, .int .i64 0] else .tuple #[.agg #[.int .i64 0, .int .i64 0, .int .i64 0, .int .i64 0], .int .i64 32]
theorem openSlot_yes {i : Int} {x y z : BitVec 64} (h : OkSl i x y z) : openSlotV i x y z = .tuple #[slotOf x y z, .int .i64 0] := if_pos h
theorem openSlot_no {i : Int} {x y z : BitVec 64} (h : ¬ OkSl i x y z) : openSlotV i x y z = .tuple #[.agg #[.int .i64 0, .int .i64 0, .int .i64 0, .int .i64 0], .int .i64 32] := if_neg h
theorem and_255 {n : Nat} (h : n < 4294967296) : ib .and .i64 (n : Int) 255 = ((n % 256 : Nat) : Int) := by
  show IntKind.i64.wrap ((BitVec.ofInt 64 (n : Int) &&& BitVec.ofInt 64 255).toNat : Int) = _
  have e1 : (BitVec.ofInt 64 (n : Int)).toNat = n := by simp [BitVec.toNat_ofInt]; omega
  have e2 : (BitVec.ofInt 64 (255 : Int)).toNat = 2 ^ 8 - 1 := by decide
  rw [BitVec.toNat_and, e1, e2, Nat.and_two_pow_sub_one_eq_mod]
  exact wrap_i64 (by omega) (by omega)
theorem shr_8 (n : Nat) : (n : Int).fdiv (2 ^ min (8 : Int).toNat IntKind.i64.bits) = ((n / 256 : Nat) : Int) := by
  rw [show (2 : Int) ^ min (8 : Int).toNat IntKind.i64.bits = ((256 : Nat) : Int) from rfl, Int.fdiv_eq_ediv_of_nonneg _ (by omega)]; rfl
theorem held_lo (x : BitVec 64) : ((x.setWidth 32).toNat : Int) = (lo x : Nat) := rfl
theorem lo_eqT {x : BitVec 64} (h : (((x.setWidth 32).toNat : Int) == 0) = true) : lo x = 0 := by rw [held_lo] at h; simpa using h
theorem lo_eqF {x : BitVec 64} (h : (((x.setWidth 32).toNat : Int) == 0) = false) : ¬ lo x = 0 := by rw [held_lo] at h; simpa using h
theorem lo_neT {x : BitVec 64} (h : (((x.setWidth 32).toNat : Int) != 0) = true) : ¬ lo x = 0 := by rw [held_lo] at h; simpa using h
theorem lo_neF {x : BitVec 64} (h : (((x.setWidth 32).toNat : Int) != 0) = false) : lo x = 0 := by rw [held_lo] at h; simpa using h
theorem rem_256 {n : Nat} (h : n < 4294967296) : IntKind.i64.wrap ((n : Int).tmod 256) = ((n % 256 : Nat) : Int) := by
  rw [Int.tmod_eq_emod_of_nonneg (by omega), wrap_i64 (by omega) (by omega)]; omega
theorem quo_256 {n : Nat} (h : n < 4294967296) : IntKind.i64.wrap (IntKind.u32.wrap ((n : Int).tdiv 256)) = ((n / 256 : Nat) : Int) := by
  rw [Int.tdiv_eq_ediv_of_nonneg (by omega), wrap_u32 (by omega) (by omega), wrap_i64 (by omega) (by omega)]; omega

theorem openSlot_p (i : Int) (x y z : BitVec 64) (w : World) (ht : Tab w) :
    PureC Tryd.prog 42 [.int .i64 i, .agg #[b64 x, b64 y, b64 z]] (openSlotV i x y z) w := by
  refine enterD0 Tryd.func42 rfl Tryd.ntmps42 rfl ?_
  have hbz : -9223372036854775808 ≤ ((lo z : Nat) : Int) ∧ ((lo z : Nat) : Int) ≤ 9223372036854775807 := by have := lo_lt z; omega
  have hlx := lo_lt x
  simp only [envOf]
  refine At.seq ?_
  refine At.region ?_
  refine At.box rfl rfl rfl (fun b1 => ?_)
  refine At.alloc Tryd.zeroValue65 rfl rfl (fun b2 => ?_)
  refine At.alloc Tryd.zeroValue26 rfl rfl (fun b3 => ?_)
  refine At.nil ?_
  refine At.thenN ?_
  refine At.seq ?_
  refine At.region ?_
  refine At.defer rfl ?_
  refine At.nil ?_
  refine At.thenN ?_
  refine At.seq ?_
  refine At.region ?_
  refine At.val (Val.move rfl) rfl rfl rfl ?_
  refine At.callP (fun w hw => isInode_p _ w) Tryd.call81 rfl rfl ?_
  refine At.split (t := 9) rfl (fun h4 => ?_) (fun h4 => ?_)
  · skip
    have hi := h4
    have hsl := ino_T.1 hi
    have hse := slotAt_T hi
    refine At.callP (fun w hw => must_T _ w) Tryd.call84 rfl rfl ?_
    refine At.nil ?_
    refine At.thenN ?_
    refine At.seq ?_
    refine At.region ?_
    refine At.val (Val.move rfl) rfl rfl rfl ?_
    refine At.callP (fun w hw => slotAt_p i w) Tryd.call24 rfl rfl ?_
    refine At.val (Val.assign rfl) rfl rfl rfl ?_
    refine At.nil ?_
    refine At.thenN ?_
    refine At.seq ?_
    refine At.region ?_
    refine At.val (Val.move rfl) rfl rfl rfl ?_
    refine At.val (Val.indexArr 0 rfl Tryd.underlying66 Tryd.sizeOf40 rfl rfl (by decide) (by decide)) rfl rfl rfl ?_
    refine At.val (Val.load (i := 2) Tryd.isAgg40 rfl rfl rfl) rfl rfl rfl ?_
    by_cases hs0 : Sl (slotAt i) x
    · skip
      refine At.callP (fun w hw => held_T (slotAt i) x 32 w (ht.mod hw.mod) hs0) Tryd.call97 rfl rfl ?_
      refine At.val (Val.assign rfl) rfl rfl rfl ?_
      refine At.nil ?_
      rw [held_lo x]
      refine At.thenN ?_
      refine At.seq ?_
      refine At.seq ?_
      refine At.region ?_
      refine At.val (Val.move rfl) rfl rfl rfl ?_
      refine At.val (Val.bin rfl rfl rfl) rfl rfl rfl ?_
      refine At.nil ?_
      refine At.thenN ?_
      refine At.cond rfl (fun h5 => ?_) (fun h5 => ?_)
      · skip
        have hm : lo x = 0 := by have := h5; simp at this; omega
        refine At.seq ?_
        refine At.region ?_
        refine At.val (Val.build (fun a ha => by simp only [List.map_toArray, List.map_cons, List.map_nil] <;> rfl) (bld_65_)) rfl rfl rfl ?_
        refine At.storeAll (i := 1) Tryd.sizeOf65 rfl rfl rfl (by simp [Value.oneCell']) rfl rfl ?_
        simp only [List.set_cons_zero, List.set_cons_succ]
        refine At.store (i := 0) Tryd.sizeOf26 rfl rfl rfl rfl (by first | decide | simp) ?_
        simp only [List.set_cons_zero, List.set_cons_succ]
        refine At.nil ?_
        refine At.thenN ?_
        refine At.retC ?_
        refine At.thenR ?_
        refine At.leaveN (.inl rfl) rfl Tryd.call100 (fun w hw => caughtSlot_idle _ _ w) rfl (ResOf.all (i := 1) Tryd.isAgg65 Tryd.sizeOf65 rfl rfl rfl) (ResOf.one (i := 0) Tryd.isAgg26 rfl rfl rfl) (fun w hw => ?_)
        exact ⟨by rw [openSlot_yes ⟨hi, hs0, .inl hm⟩, slotOf_0 hm], hw.mod⟩
      · skip
        have hm : ¬ lo x = 0 := by have := h5; simp at this; omega
        refine At.skipC ?_
        refine At.thenN ?_
        refine At.seq ?_
        refine At.region ?_
        refine At.val (Val.move rfl) rfl rfl rfl ?_
        refine At.val (Val.bin rfl rfl rfl) rfl rfl rfl ?_
        rw [and_255 hlx]
        refine At.val (Val.move rfl) rfl rfl rfl ?_
        refine At.val (Val.shr rfl rfl (by decide)) rfl rfl rfl ?_
        rw [shr_8]
        refine At.val (Val.field 0 rfl fo_65_0 rfl) rfl rfl rfl ?_
        refine At.store (i := 1) Tryd.sizeOf3 rfl rfl rfl rfl (by first | decide | simp) ?_
        simp only [List.set_cons_zero, List.set_cons_succ]
        refine At.val (Val.field 1 rfl fo_65_1 rfl) rfl rfl rfl ?_
        refine At.store (i := 1) Tryd.sizeOf3 rfl rfl rfl rfl (by first | decide | simp) ?_
        simp only [List.set_cons_zero, List.set_cons_succ]
        refine At.nil ?_
        refine At.thenN ?_
        refine At.seq ?_
        refine At.region ?_
        refine At.val (Val.move rfl) rfl rfl rfl ?_
        refine At.val (Val.bin rfl rfl rfl) rfl rfl rfl ?_
        rw [wrap_i64 (n := slotAt i + 16) (by omega) (by omega)]
        refine At.val (Val.indexArr 2 rfl Tryd.underlying66 Tryd.sizeOf40 rfl rfl (by decide) (by decide)) rfl rfl rfl ?_
        refine At.val (Val.load (i := 2) Tryd.isAgg40 rfl rfl rfl) rfl rfl rfl ?_
        by_cases hs2 : Sl (slotAt i + 16) z
        · skip
          refine At.callP (fun w hw => held_T (slotAt i + 16) z 32 w (ht.mod hw.mod) hs2) Tryd.call97 rfl rfl ?_
          refine At.val (Val.field 3 rfl fo_65_3 rfl) rfl rfl rfl ?_
          refine At.store (i := 1) Tryd.sizeOf3 rfl rfl rfl rfl (by first | decide | simp) ?_
          simp only [List.set_cons_zero, List.set_cons_succ]
          refine At.nil ?_
          rw [held_lo z]
          refine At.thenN ?_
          refine At.seq ?_
          refine At.seq ?_
          refine At.region ?_
          refine At.val (Val.field 3 rfl fo_65_3 rfl) rfl rfl rfl ?_
          refine At.val (Val.load (i := 1) Tryd.isAgg3 rfl rfl rfl) rfl rfl rfl ?_
          refine At.val (Val.bin rfl rfl rfl) rfl rfl rfl ?_
          refine At.nil ?_
          refine At.thenN ?_
          refine At.cond rfl (fun h6 => ?_) (fun h6 => ?_)
          · skip
            have htl : ¬ lo z = 0 := by have := h6; simp at this; omega
            have hz' := hdOf_1 (y := y) htl
            refine At.region ?_
            refine At.val (Val.move rfl) rfl rfl rfl ?_
            refine At.val (Val.bin rfl rfl rfl) rfl rfl rfl ?_
            rw [wrap_i64 (n := slotAt i + 8) (by omega) (by omega)]
            refine At.val (Val.indexArr 1 rfl Tryd.underlying66 Tryd.sizeOf40 rfl rfl (by decide) (by decide)) rfl rfl rfl ?_
            refine At.val (Val.load (i := 2) Tryd.isAgg40 rfl rfl rfl) rfl rfl rfl ?_
            by_cases hs1 : Sl (slotAt i + 8) y
            · skip
              refine At.callP (fun w hw => held_T (slotAt i + 8) y 32 w (ht.mod hw.mod) hs1) Tryd.call97 rfl rfl ?_
              refine At.val (Val.field 2 rfl fo_65_2 rfl) rfl rfl rfl ?_
              refine At.store (i := 1) Tryd.sizeOf3 rfl rfl rfl rfl (by first | decide | simp) ?_
              simp only [List.set_cons_zero, List.set_cons_succ]
              refine At.nil ?_
              rw [held_lo y, ← hz']
              refine At.thenN ?_
              refine At.seq ?_
              refine At.region ?_
              refine At.val (Val.loadAll (i := 1) Tryd.isAgg65 Tryd.sizeOf65 rfl rfl rfl) rfl rfl rfl ?_
              refine At.callP (fun w hw => goodUse_p _ _ _ _ w hbz) Tryd.call98 rfl rfl ?_
              refine At.split (t := 42) rfl (fun h7 => ?_) (fun h7 => ?_)
              · skip
                have hg := of_decide_eq_true h7
                refine At.callP (fun w hw => must_T _ w) Tryd.call84 rfl rfl ?_
                refine At.nil ?_
                refine At.thenN ?_
                refine At.seq ?_
                refine At.region ?_
                refine At.val (Val.loadAll (i := 1) Tryd.isAgg65 Tryd.sizeOf65 rfl rfl rfl) rfl rfl rfl ?_
                refine At.storeAll (i := 1) Tryd.sizeOf65 rfl rfl rfl (by simp [Value.oneCell']) rfl rfl ?_
                simp only [List.set_cons_zero, List.set_cons_succ]
                refine At.store (i := 0) Tryd.sizeOf26 rfl rfl rfl rfl (by first | decide | simp) ?_
                simp only [List.set_cons_zero, List.set_cons_succ]
                refine At.nil ?_
                refine At.thenN ?_
                refine At.retC ?_
                refine At.leaveN (.inl rfl) rfl Tryd.call100 (fun w hw => caughtSlot_idle _ _ w) rfl (ResOf.all (i := 1) Tryd.isAgg65 Tryd.sizeOf65 rfl rfl rfl) (ResOf.one (i := 0) Tryd.isAgg26 rfl rfl rfl) (fun w hw => ?_)
                exact ⟨by rw [openSlot_yes ⟨hi, hs0, .inr ⟨hs2, .inr hs1, hg⟩⟩, slotOf_1 hm], hw.mod⟩
              · skip
                have hg := of_decide_eq_false h7
                have hno : ¬ OkSl i x y z := fun g => g.2.2.elim hm (fun q => hg (by have := q.2.2; rw [hz'] at this; first | exact this | (rw [hz']; exact this)))
                refine At.callT0 (fun w hw => must_F _ w) Tryd.call84 rfl ?_
                refine At.thenE ?_
                refine At.leaveP rfl Tryd.call100 ((erase_perm _ 1 _ rfl).trans (List.Perm.cons _ (erase_perm _ 0 _ rfl))) (fun w hw => caughtSlot_pan _ _ _ _ _ w (hw.blk (i := 0) rfl) rfl (hw.blk (i := 1) rfl) hw.ne01) rfl (ResOf.all (i := 0) Tryd.isAgg65 Tryd.sizeOf65 rfl rfl rfl) (ResOf.one (i := 1) Tryd.isAgg26 rfl rfl rfl) (fun w hw => ?_)
                exact ⟨by rw [openSlot_no hno], hw.mod⟩
            · skip
              have hno : ¬ OkSl i x y z := fun g => g.2.2.elim hm (fun q => q.2.1.elim htl hs1)
              refine At.callT0 (fun w hw => held_F (slotAt i + 8) y 32 w (ht.mod hw.mod) hs1) Tryd.call97 rfl ?_
              refine At.thenE ?_
              refine At.leaveP rfl Tryd.call100 ((erase_perm _ 1 _ rfl).trans (List.Perm.cons _ (erase_perm _ 0 _ rfl))) (fun w hw => caughtSlot_pan _ _ _ _ _ w (hw.blk (i := 0) rfl) rfl (hw.blk (i := 1) rfl) hw.ne01) rfl (ResOf.all (i := 0) Tryd.isAgg65 Tryd.sizeOf65 rfl rfl rfl) (ResOf.one (i := 1) Tryd.isAgg26 rfl rfl rfl) (fun w hw => ?_)
              exact ⟨by rw [openSlot_no hno], hw.mod⟩
          · skip
            have htl : lo z = 0 := by have := h6; simp at this; omega
            have hz' := hdOf_0 (y := y) htl
            refine At.skipC ?_
            refine At.thenN ?_
            refine At.seq ?_
            refine At.region ?_
            refine At.val (Val.loadAll (i := 1) Tryd.isAgg65 Tryd.sizeOf65 rfl rfl rfl) rfl rfl rfl ?_
            refine At.callP (fun w hw => goodUse_p _ _ _ _ w hbz) Tryd.call98 rfl rfl ?_
            refine At.split (t := 42) rfl (fun h8 => ?_) (fun h8 => ?_)
            · skip
              have hg := of_decide_eq_true h8
              refine At.callP (fun w hw => must_T _ w) Tryd.call84 rfl rfl ?_
              refine At.nil ?_
              refine At.thenN ?_
              refine At.seq ?_
              refine At.region ?_
              refine At.val (Val.loadAll (i := 1) Tryd.isAgg65 Tryd.sizeOf65 rfl rfl rfl) rfl rfl rfl ?_
              refine At.storeAll (i := 1) Tryd.sizeOf65 rfl rfl rfl (by simp [Value.oneCell']) rfl rfl ?_
              simp only [List.set_cons_zero, List.set_cons_succ]
              refine At.store (i := 0) Tryd.sizeOf26 rfl rfl rfl rfl (by first | decide | simp) ?_
              simp only [List.set_cons_zero, List.set_cons_succ]
              refine At.nil ?_
              refine At.thenN ?_
              refine At.retC ?_
              refine At.leaveN (.inl rfl) rfl Tryd.call100 (fun w hw => caughtSlot_idle _ _ w) rfl (ResOf.all (i := 1) Tryd.isAgg65 Tryd.sizeOf65 rfl rfl rfl) (ResOf.one (i := 0) Tryd.isAgg26 rfl rfl rfl) (fun w hw => ?_)
              exact ⟨by rw [openSlot_yes ⟨hi, hs0, .inr ⟨hs2, .inl htl, by rw [hz']; exact hg⟩⟩, slotOf_1 hm, hz']; rfl, hw.mod⟩
            · skip
              have hg := of_decide_eq_false h8
              have hno : ¬ OkSl i x y z := fun g => g.2.2.elim hm (fun q => hg (by have := q.2.2; rw [hz'] at this; first | exact this | (rw [hz']; exact this)))
              refine At.callT0 (fun w hw => must_F _ w) Tryd.call84 rfl ?_
              refine At.thenE ?_
              refine At.leaveP rfl Tryd.call100 ((erase_perm _ 1 _ rfl).trans (List.Perm.cons _ (erase_perm _ 0 _ rfl))) (fun w hw => caughtSlot_pan _ _ _ _ _ w (hw.blk (i := 0) rfl) rfl (hw.blk (i := 1) rfl) hw.ne01) rfl (ResOf.all (i := 0) Tryd.isAgg65 Tryd.sizeOf65 rfl rfl rfl) (ResOf.one (i := 1) Tryd.isAgg26 rfl rfl rfl) (fun w hw => ?_)
              exact ⟨by rw [openSlot_no hno], hw.mod⟩
        · skip
          have hno : ¬ OkSl i x y z := fun g => g.2.2.elim hm (fun q => hs2 q.1)
          refine At.callT0 (fun w hw => held_F (slotAt i + 16) z 32 w (ht.mod hw.mod) hs2) Tryd.call97 rfl ?_
          refine At.thenE ?_
          refine At.leaveP rfl Tryd.call100 ((erase_perm _ 1 _ rfl).trans (List.Perm.cons _ (erase_perm _ 0 _ rfl))) (fun w hw => caughtSlot_pan _ _ _ _ _ w (hw.blk (i := 0) rfl) rfl (hw.blk (i := 1) rfl) hw.ne01) rfl (ResOf.all (i := 0) Tryd.isAgg65 Tryd.sizeOf65 rfl rfl rfl) (ResOf.one (i := 1) Tryd.isAgg26 rfl rfl rfl) (fun w hw => ?_)
          exact ⟨by rw [openSlot_no hno], hw.mod⟩
    · skip
      have hno : ¬ OkSl i x y z := fun g => hs0 g.2.1
      refine At.callT0 (fun w hw => held_F (slotAt i) x 32 w (ht.mod hw.mod) hs0) Tryd.call97 rfl ?_
      refine At.thenE ?_
      refine At.leaveP rfl Tryd.call100 ((erase_perm _ 1 _ rfl).trans (List.Perm.cons _ (erase_perm _ 0 _ rfl))) (fun w hw => caughtSlot_pan _ _ _ _ _ w (hw.blk (i := 0) rfl) rfl (hw.blk (i := 1) rfl) hw.ne01) rfl (ResOf.all (i := 0) Tryd.isAgg65 Tryd.sizeOf65 rfl rfl rfl) (ResOf.one (i := 1) Tryd.isAgg26 rfl rfl rfl) (fun w hw => ?_)
      exact ⟨by rw [openSlot_no hno], hw.mod⟩
  · skip
    have hno : ¬ OkSl i x y z := fun g => by rw [g.1] at h4; cases h4
    refine At.callT0 (fun w hw => must_F _ w) Tryd.call84 rfl ?_
    refine At.thenE ?_
    refine At.leaveP rfl Tryd.call100 ((erase_perm _ 1 _ rfl).trans (List.Perm.cons _ (erase_perm _ 0 _ rfl))) (fun w hw => caughtSlot_pan _ _ _ _ _ w (hw.blk (i := 0) rfl) rfl (hw.blk (i := 1) rfl) hw.ne01) rfl (ResOf.all (i := 0) Tryd.isAgg65 Tryd.sizeOf65 rfl rfl rfl) (ResOf.one (i := 1) Tryd.isAgg26 rfl rfl rfl) (fun w hw => ?_)
    exact ⟨by rw [openSlot_no hno], hw.mod⟩

theorem openSlotR_p (i : Int) (x y z : BitVec 64) (w : World) :
    PureC Tryd.prog 43 [.int .i64 i, .agg #[b64 x, b64 y, b64 z]] (openSlotV i x y z) w := by
  refine enter0 Tryd.func43 rfl Tryd.ntmps43 rfl ?_
  have hbz : -9223372036854775808 ≤ ((lo z : Nat) : Int) ∧ ((lo z : Nat) : Int) ≤ 9223372036854775807 := by have := lo_lt z; omega
  have hlx := lo_lt x
  simp only [envOf]
  refine At.seq ?_
  refine At.region ?_
  refine At.box rfl rfl rfl (fun b1 => ?_)
  refine At.alloc Tryd.zeroValue65 rfl rfl (fun b2 => ?_)
  refine At.val (Val.assign rfl) rfl rfl rfl ?_
  refine At.nil ?_
  refine At.thenN ?_
  refine At.seq ?_
  refine At.seq ?_
  refine At.region ?_
  refine At.val (Val.move rfl) rfl rfl rfl ?_
  refine At.callP (fun w hw => inodeR_p _ w) Tryd.call82 rfl rfl ?_
  refine At.val (Val.not rfl) rfl rfl rfl ?_
  refine At.nil ?_
  refine At.thenN ?_
  refine At.cond rfl (fun h3 => ?_) (fun h3 => ?_)
  · skip
    have hno : ¬ OkSl i x y z := fun g => by rw [g.1] at h3; cases h3
    refine At.seq ?_
    refine At.region ?_
    refine At.val (Val.build (fun a ha => by simp only [List.map_toArray, List.map_cons, List.map_nil] <;> rfl) (bld_65_)) rfl rfl rfl ?_
    refine At.storeAll (i := 0) Tryd.sizeOf65 rfl rfl rfl (by simp [Value.oneCell']) rfl rfl ?_
    simp only [List.set_cons_zero, List.set_cons_succ]
    refine At.val (Val.assign rfl) rfl rfl rfl ?_
    refine At.nil ?_
    refine At.thenN ?_
    refine At.retC ?_
    refine At.thenR ?_
    refine At.ret2 (.inl rfl) rfl rfl (ResOf.all (i := 0) Tryd.isAgg65 Tryd.sizeOf65 rfl rfl rfl) rfl (fun w hw => ?_)
    exact ⟨by first | rw [openSlot_no hno] | rw [openSlot_yes ⟨hi, hs0, .inl hm⟩, slotOf_0 hm] | (simp only [Bool.not_eq_true', decide_eq_false_iff_not, beq_iff_eq, beq_eq_false_iff_ne, decide_eq_true_eq, Bool.not_eq_false'] at *; rw [openSlot_no (fun g => g.2.2.elim hm (fun q => by have := q.2.2; rw [hz'] at *; first | (exact hS (Or.inr this)) | (unfold GoodU at this; omega)))]) | (simp only [Bool.not_eq_true', decide_eq_false_iff_not, beq_iff_eq, beq_eq_false_iff_ne, decide_eq_true_eq, Bool.not_eq_false'] at *; rw [openSlot_yes ⟨hi, hs0, .inr ⟨hs2, by first | exact .inl htl | exact .inr hs1, by rw [hz'] at *; rcases hS with hS | hS; exact absurd hS.1 hk; exact hS⟩⟩, slotOf_1 hm]; (try rw [hz']); try rfl), hw.mod⟩
  · skip
    have hi : isInoB i = true := by simpa using h3
    have hsl := ino_T.1 hi
    have hse := slotAt_T hi
    refine At.skipC ?_
    refine At.thenN ?_
    refine At.seq ?_
    refine At.region ?_
    refine At.val (Val.move rfl) rfl rfl rfl ?_
    refine At.callP (fun w hw => slotAtR_p i w) Tryd.call25 rfl rfl ?_
    refine At.val (Val.assign rfl) rfl rfl rfl ?_
    refine At.nil ?_
    refine At.thenN ?_
    refine At.seq ?_
    refine At.region ?_
    refine At.val (Val.move rfl) rfl rfl rfl ?_
    refine At.val (Val.indexArr 0 rfl Tryd.underlying66 Tryd.sizeOf40 rfl rfl (by decide) (by decide)) rfl rfl rfl ?_
    refine At.val (Val.load (i := 1) Tryd.isAgg40 rfl rfl rfl) rfl rfl rfl ?_
    by_cases hs0 : Sl (slotAt i) x
    · skip
      refine At.callP (fun w hw => (by have := unsealR_p (slotAt i) x w; rwa [unseal_yes hs0] at this)) Tryd.call101 rfl rfl ?_
      refine At.val (Val.move rfl) rfl rfl rfl ?_
      refine At.val (Val.extract rfl rfl) rfl rfl rfl ?_
      refine At.val (Val.extract rfl rfl) rfl rfl rfl ?_
      refine At.val (Val.assign rfl) rfl rfl rfl ?_
      refine At.val (Val.assign rfl) rfl rfl rfl ?_
      refine At.nil ?_
      refine At.thenN ?_
      refine At.seq ?_
      refine At.seq ?_
      refine At.region ?_
      refine At.val (Val.move rfl) rfl rfl rfl ?_
      refine At.val (Val.bin rfl rfl rfl) rfl rfl rfl ?_
      refine At.nil ?_
      refine At.thenN ?_
      refine At.condF rfl ?_
      refine At.skipC ?_
      refine At.thenN ?_
      refine At.seq ?_
      refine At.seq ?_
      refine At.region ?_
      refine At.val (Val.move rfl) rfl rfl rfl ?_
      refine At.val (Val.bin rfl rfl rfl) rfl rfl rfl ?_
      refine At.nil ?_
      refine At.thenN ?_
      refine At.cond rfl (fun h4 => ?_) (fun h4 => ?_)
      · skip
        have hm := lo_eqT h4
        refine At.seq ?_
        refine At.region ?_
        refine At.val (Val.build (fun a ha => by simp only [List.map_toArray, List.map_cons, List.map_nil] <;> rfl) (bld_65_)) rfl rfl rfl ?_
        refine At.storeAll (i := 0) Tryd.sizeOf65 rfl rfl rfl (by simp [Value.oneCell']) rfl rfl ?_
        simp only [List.set_cons_zero, List.set_cons_succ]
        refine At.val (Val.assign rfl) rfl rfl rfl ?_
        refine At.nil ?_
        refine At.thenN ?_
        refine At.retC ?_
        refine At.thenR ?_
        refine At.ret2 (.inl rfl) rfl rfl (ResOf.all (i := 0) Tryd.isAgg65 Tryd.sizeOf65 rfl rfl rfl) rfl (fun w hw => ?_)
        exact ⟨by first | rw [openSlot_no hno] | rw [openSlot_yes ⟨hi, hs0, .inl hm⟩, slotOf_0 hm] | (simp only [Bool.not_eq_true', decide_eq_false_iff_not, beq_iff_eq, beq_eq_false_iff_ne, decide_eq_true_eq, Bool.not_eq_false'] at *; rw [openSlot_no (fun g => g.2.2.elim hm (fun q => by have := q.2.2; rw [hz'] at *; first | (exact hS (Or.inr this)) | (unfold GoodU at this; omega)))]) | (simp only [Bool.not_eq_true', decide_eq_false_iff_not, beq_iff_eq, beq_eq_false_iff_ne, decide_eq_true_eq, Bool.not_eq_false'] at *; rw [openSlot_yes ⟨hi, hs0, .inr ⟨hs2, by first | exact .inl htl | exact .inr hs1, by rw [hz'] at *; rcases hS with hS | hS; exact absurd hS.1 hk; exact hS⟩⟩, slotOf_1 hm]; (try rw [hz']); try rfl), hw.mod⟩
      · skip
        have hm := lo_eqF h4
        refine At.skipC ?_
        refine At.thenN ?_
        refine At.seq ?_
        refine At.region ?_
        refine At.val (Val.move rfl) rfl rfl rfl ?_
        refine At.val (Val.bin rfl rfl rfl) rfl rfl rfl ?_
        rw [wrap_i64 (n := slotAt i + 16) (by omega) (by omega)]
        refine At.val (Val.indexArr 2 rfl Tryd.underlying66 Tryd.sizeOf40 rfl rfl (by decide) (by decide)) rfl rfl rfl ?_
        refine At.val (Val.load (i := 1) Tryd.isAgg40 rfl rfl rfl) rfl rfl rfl ?_
        by_cases hs2 : Sl (slotAt i + 16) z
        · skip
          refine At.callP (fun w hw => (by have := unsealR_p (slotAt i + 16) z w; rwa [unseal_yes hs2] at this)) Tryd.call101 rfl rfl ?_
          refine At.val (Val.move rfl) rfl rfl rfl ?_
          refine At.val (Val.extract rfl rfl) rfl rfl rfl ?_
          refine At.val (Val.extract rfl rfl) rfl rfl rfl ?_
          refine At.val (Val.assign rfl) rfl rfl rfl ?_
          refine At.val (Val.assign rfl) rfl rfl rfl ?_
          refine At.nil ?_
          refine At.thenN ?_
          refine At.seq ?_
          refine At.seq ?_
          refine At.region ?_
          refine At.val (Val.move rfl) rfl rfl rfl ?_
          refine At.val (Val.bin rfl rfl rfl) rfl rfl rfl ?_
          refine At.nil ?_
          refine At.thenN ?_
          refine At.condF rfl ?_
          refine At.skipC ?_
          refine At.thenN ?_
          refine At.seq ?_
          refine At.region ?_
          refine At.val (Val.move rfl) rfl rfl rfl ?_
          refine At.val (Val.rem rfl rfl (by decide)) rfl rfl rfl ?_
          refine At.val (Val.conv Tryd.underlying48 Tryd.underlying3 rfl) rfl rfl rfl ?_
          rw [held_lo x, rem_256 hlx]
          refine At.val (Val.move rfl) rfl rfl rfl ?_
          refine At.val (Val.quo rfl rfl (by decide)) rfl rfl rfl ?_
          refine At.val (Val.conv Tryd.underlying48 Tryd.underlying3 rfl) rfl rfl rfl ?_
          rw [held_lo x, quo_256 hlx]
          refine At.val (Val.move rfl) rfl rfl rfl ?_
          refine At.val (Val.conv Tryd.underlying48 Tryd.underlying3 rfl) rfl rfl rfl ?_
          rw [i64_32, held_lo z]
          refine At.val (Val.build (fun a ha => by simp only [List.map_toArray, List.map_cons, List.map_nil, ha.eval (x := (.tmp 47)) rfl, ha.eval (x := (.tmp 50)) rfl, ha.eval (x := (.tmp 52)) rfl] <;> rfl) (bld_65_0_1_3 _ _ _ )) rfl rfl rfl ?_
          refine At.alloc Tryd.zeroValue65 rfl rfl (fun b5 => ?_)
          refine At.storeAll (i := 0) Tryd.sizeOf65 rfl rfl rfl (by simp [Value.oneCell']) rfl rfl ?_
          simp only [List.set_cons_zero, List.set_cons_succ]
          refine At.nil ?_
          refine At.thenN ?_
          refine At.seq ?_
          refine At.seq ?_
          refine At.region ?_
          refine At.val (Val.move rfl) rfl rfl rfl ?_
          refine At.val (Val.bin rfl rfl rfl) rfl rfl rfl ?_
          refine At.nil ?_
          refine At.thenN ?_
          refine At.cond rfl (fun h6 => ?_) (fun h6 => ?_)
          · skip
            have htl := lo_neT h6
            have hz' := hdOf_1 (y := y) htl
            refine At.seq ?_
            refine At.region ?_
            refine At.val (Val.move rfl) rfl rfl rfl ?_
            refine At.val (Val.bin rfl rfl rfl) rfl rfl rfl ?_
            rw [wrap_i64 (n := slotAt i + 8) (by omega) (by omega)]
            refine At.val (Val.indexArr 1 rfl Tryd.underlying66 Tryd.sizeOf40 rfl rfl (by decide) (by decide)) rfl rfl rfl ?_
            refine At.val (Val.load (i := 2) Tryd.isAgg40 rfl rfl rfl) rfl rfl rfl ?_
            by_cases hs1 : Sl (slotAt i + 8) y
            · skip
              refine At.callP (fun w hw => (by have := unsealR_p (slotAt i + 8) y w; rwa [unseal_yes hs1] at this)) Tryd.call101 rfl rfl ?_
              refine At.val (Val.move rfl) rfl rfl rfl ?_
              refine At.val (Val.extract rfl rfl) rfl rfl rfl ?_
              refine At.val (Val.extract rfl rfl) rfl rfl rfl ?_
              refine At.val (Val.assign rfl) rfl rfl rfl ?_
              refine At.val (Val.assign rfl) rfl rfl rfl ?_
              refine At.nil ?_
              refine At.thenN ?_
              refine At.seq ?_
              refine At.seq ?_
              refine At.region ?_
              refine At.val (Val.move rfl) rfl rfl rfl ?_
              refine At.val (Val.bin rfl rfl rfl) rfl rfl rfl ?_
              refine At.val (Val.move rfl) rfl rfl rfl ?_
              refine At.yes rfl rfl ?_
              refine At.val (Val.move rfl) rfl rfl rfl ?_
              refine At.yes rfl rfl ?_
              refine At.val (Val.bin rfl rfl rfl) rfl rfl rfl ?_
              refine At.val (Val.pickF rfl rfl) rfl rfl rfl ?_
              refine At.nil ?_
              refine At.thenN ?_
              refine At.cond rfl (fun h7 => ?_) (fun h7 => ?_)
              · skip
                have hy0 := lo_eqT h7
                have hno : ¬ OkSl i x y z := fun g => g.2.2.elim hm (fun q => by have := q.2.2; rw [hz', hy0] at this; unfold GoodU at this; omega)
                refine At.seq ?_
                refine At.region ?_
                refine At.val (Val.build (fun a ha => by simp only [List.map_toArray, List.map_cons, List.map_nil] <;> rfl) (bld_65_)) rfl rfl rfl ?_
                refine At.storeAll (i := 1) Tryd.sizeOf65 rfl rfl rfl (by simp [Value.oneCell']) rfl rfl ?_
                simp only [List.set_cons_zero, List.set_cons_succ]
                refine At.val (Val.assign rfl) rfl rfl rfl ?_
                refine At.nil ?_
                refine At.thenN ?_
                refine At.retC ?_
                refine At.thenR ?_
                refine At.thenR ?_
                refine At.ret2 (.inl rfl) rfl rfl (ResOf.all (i := 1) Tryd.isAgg65 Tryd.sizeOf65 rfl rfl rfl) rfl (fun w hw => ?_)
                exact ⟨by first | rw [openSlot_no hno] | rw [openSlot_yes ⟨hi, hs0, .inl hm⟩, slotOf_0 hm] | (simp only [Bool.not_eq_true', decide_eq_false_iff_not, beq_iff_eq, beq_eq_false_iff_ne, decide_eq_true_eq, Bool.not_eq_false'] at *; rw [openSlot_no (fun g => g.2.2.elim hm (fun q => by have := q.2.2; rw [hz'] at *; first | (exact hS (Or.inr this)) | (unfold GoodU at this; omega)))]) | (simp only [Bool.not_eq_true', decide_eq_false_iff_not, beq_iff_eq, beq_eq_false_iff_ne, decide_eq_true_eq, Bool.not_eq_false'] at *; rw [openSlot_yes ⟨hi, hs0, .inr ⟨hs2, by first | exact .inl htl | exact .inr hs1, by rw [hz'] at *; rcases hS with hS | hS; exact absurd hS.1 hk; exact hS⟩⟩, slotOf_1 hm]; (try rw [hz']); try rfl), hw.mod⟩
              · skip
                refine At.skipC ?_
                refine At.thenN ?_
                refine At.region ?_
                refine At.val (Val.move rfl) rfl rfl rfl ?_
                refine At.val (Val.conv Tryd.underlying48 Tryd.underlying3 rfl) rfl rfl rfl ?_
                rw [i64_32, held_lo y, ← hz']
                refine At.val (Val.field 2 rfl fo_65_2 rfl) rfl rfl rfl ?_
                refine At.store (i := 0) Tryd.sizeOf3 rfl rfl rfl rfl (by first | decide | simp) ?_
                simp only [List.set_cons_zero, List.set_cons_succ]
                refine At.nil ?_
                refine At.thenN ?_
                refine At.seq ?_
                refine At.region ?_
                refine At.val (Val.loadAll (i := 0) Tryd.isAgg65 Tryd.sizeOf65 rfl rfl rfl) rfl rfl rfl ?_
                refine At.callP (fun w hw => goodSlotR_p _ _ _ _ w hbz) Tryd.call99 rfl rfl ?_
                refine At.val (Val.assign rfl) rfl rfl rfl ?_
                refine At.nil ?_
                refine At.thenN ?_
                refine At.seq ?_
                refine At.seq ?_
                refine At.region ?_
                refine At.val (Val.move rfl) rfl rfl rfl ?_
                refine At.val (Val.not rfl) rfl rfl rfl ?_
                refine At.val (Val.move rfl) rfl rfl rfl ?_
                refine At.split (t := 78) rfl (fun h8 => ?_) (fun h8 => ?_)
                · skip
                  have hS := h8
                  refine At.no rfl rfl rfl rfl ?_
                  refine At.no rfl rfl rfl rfl ?_
                  refine At.no rfl rfl rfl rfl ?_
                  refine At.val (Val.pickT rfl rfl) rfl rfl rfl ?_
                  refine At.nil ?_
                  refine At.thenN ?_
                  refine At.condT rfl ?_
                  refine At.seq ?_
                  refine At.region ?_
                  refine At.val (Val.build (fun a ha => by simp only [List.map_toArray, List.map_cons, List.map_nil] <;> rfl) (bld_65_)) rfl rfl rfl ?_
                  refine At.storeAll (i := 1) Tryd.sizeOf65 rfl rfl rfl (by simp [Value.oneCell']) rfl rfl ?_
                  simp only [List.set_cons_zero, List.set_cons_succ]
                  refine At.val (Val.assign rfl) rfl rfl rfl ?_
                  refine At.nil ?_
                  refine At.thenN ?_
                  refine At.retC ?_
                  refine At.thenR ?_
                  refine At.ret2 (.inl rfl) rfl rfl (ResOf.all (i := 1) Tryd.isAgg65 Tryd.sizeOf65 rfl rfl rfl) rfl (fun w hw => ?_)
                  exact ⟨by first | rw [openSlot_no hno] | rw [openSlot_yes ⟨hi, hs0, .inl hm⟩, slotOf_0 hm] | (simp only [Bool.not_eq_true', decide_eq_false_iff_not, beq_iff_eq, beq_eq_false_iff_ne, decide_eq_true_eq, Bool.not_eq_false'] at *; rw [openSlot_no (fun g => g.2.2.elim hm (fun q => by have := q.2.2; rw [hz'] at *; first | (exact hS (Or.inr this)) | (unfold GoodU at this; omega)))]) | (simp only [Bool.not_eq_true', decide_eq_false_iff_not, beq_iff_eq, beq_eq_false_iff_ne, decide_eq_true_eq, Bool.not_eq_false'] at *; rw [openSlot_yes ⟨hi, hs0, .inr ⟨hs2, by first | exact .inl htl | exact .inr hs1, by rw [hz'] at *; rcases hS with hS | hS; exact absurd hS.1 hk; exact hS⟩⟩, slotOf_1 hm]; (try rw [hz']); try rfl), hw.mod⟩
                · skip
                  have hS := h8
                  refine At.yes rfl rfl ?_
                  refine At.val (Val.field 0 rfl fo_65_0 rfl) rfl rfl rfl ?_
                  refine At.yes rfl rfl ?_
                  refine At.val (Val.load (i := 0) Tryd.isAgg3 rfl rfl rfl) rfl rfl rfl ?_
                  refine At.yes rfl rfl ?_
                  refine At.val (Val.bin rfl rfl rfl) rfl rfl rfl ?_
                  refine At.val (Val.pickF rfl rfl) rfl rfl rfl ?_
                  refine At.nil ?_
                  refine At.thenN ?_
                  refine At.cond rfl (fun h9 => ?_) (fun h9 => ?_)
                  · skip
                    have hk := h9
                    refine At.seq ?_
                    refine At.region ?_
                    refine At.val (Val.build (fun a ha => by simp only [List.map_toArray, List.map_cons, List.map_nil] <;> rfl) (bld_65_)) rfl rfl rfl ?_
                    refine At.storeAll (i := 1) Tryd.sizeOf65 rfl rfl rfl (by simp [Value.oneCell']) rfl rfl ?_
                    simp only [List.set_cons_zero, List.set_cons_succ]
                    refine At.val (Val.assign rfl) rfl rfl rfl ?_
                    refine At.nil ?_
                    refine At.thenN ?_
                    refine At.retC ?_
                    refine At.thenR ?_
                    refine At.ret2 (.inl rfl) rfl rfl (ResOf.all (i := 1) Tryd.isAgg65 Tryd.sizeOf65 rfl rfl rfl) rfl (fun w hw => ?_)
                    exact ⟨by first | rw [openSlot_no hno] | rw [openSlot_yes ⟨hi, hs0, .inl hm⟩, slotOf_0 hm] | (simp only [Bool.not_eq_true', decide_eq_false_iff_not, beq_iff_eq, beq_eq_false_iff_ne, decide_eq_true_eq, Bool.not_eq_false'] at *; rw [openSlot_no (fun g => g.2.2.elim hm (fun q => by have := q.2.2; rw [hz'] at *; first | (exact hS (Or.inr this)) | (unfold GoodU at this; omega)))]) | (simp only [Bool.not_eq_true', decide_eq_false_iff_not, beq_iff_eq, beq_eq_false_iff_ne, decide_eq_true_eq, Bool.not_eq_false'] at *; rw [openSlot_yes ⟨hi, hs0, .inr ⟨hs2, by first | exact .inl htl | exact .inr hs1, by rw [hz'] at *; rcases hS with hS | hS; exact absurd hS.1 hk; exact hS⟩⟩, slotOf_1 hm]; (try rw [hz']); try rfl), hw.mod⟩
                  · skip
                    have hk := h9
                    refine At.skipC ?_
                    refine At.thenN ?_
                    refine At.seq ?_
                    refine At.region ?_
                    refine At.val (Val.loadAll (i := 0) Tryd.isAgg65 Tryd.sizeOf65 rfl rfl rfl) rfl rfl rfl ?_
                    refine At.storeAll (i := 1) Tryd.sizeOf65 rfl rfl rfl (by simp [Value.oneCell']) rfl rfl ?_
                    simp only [List.set_cons_zero, List.set_cons_succ]
                    refine At.val (Val.assign rfl) rfl rfl rfl ?_
                    refine At.nil ?_
                    refine At.thenN ?_
                    refine At.retC ?_
                    refine At.ret2 (.inl rfl) rfl rfl (ResOf.all (i := 1) Tryd.isAgg65 Tryd.sizeOf65 rfl rfl rfl) rfl (fun w hw => ?_)
                    exact ⟨by first | rw [openSlot_no hno] | rw [openSlot_yes ⟨hi, hs0, .inl hm⟩, slotOf_0 hm] | (simp only [Bool.not_eq_true', decide_eq_false_iff_not, beq_iff_eq, beq_eq_false_iff_ne, decide_eq_true_eq, Bool.not_eq_false'] at *; rw [openSlot_no (fun g => g.2.2.elim hm (fun q => by have := q.2.2; rw [hz'] at *; first | (exact hS (Or.inr this)) | (unfold GoodU at this; omega)))]) | (simp only [Bool.not_eq_true', decide_eq_false_iff_not, beq_iff_eq, beq_eq_false_iff_ne, decide_eq_true_eq, Bool.not_eq_false'] at *; rw [openSlot_yes ⟨hi, hs0, .inr ⟨hs2, by first | exact .inl htl | exact .inr hs1, by rw [hz'] at *; rcases hS with hS | hS; exact absurd hS.1 hk; exact hS⟩⟩, slotOf_1 hm]; (try rw [hz']); try rfl), hw.mod⟩
            · skip
              have hno : ¬ OkSl i x y z := fun g => g.2.2.elim hm (fun q => q.2.1.elim htl hs1)
              refine At.callP (fun w hw => (by have := unsealR_p (slotAt i + 8) y w; rwa [unseal_no hs1] at this)) Tryd.call101 rfl rfl ?_
              refine At.val (Val.move rfl) rfl rfl rfl ?_
              refine At.val (Val.extract rfl rfl) rfl rfl rfl ?_
              refine At.val (Val.extract rfl rfl) rfl rfl rfl ?_
              refine At.val (Val.assign rfl) rfl rfl rfl ?_
              refine At.val (Val.assign rfl) rfl rfl rfl ?_
              refine At.nil ?_
              refine At.thenN ?_
              refine At.seq ?_
              refine At.seq ?_
              refine At.region ?_
              refine At.val (Val.move rfl) rfl rfl rfl ?_
              refine At.val (Val.bin rfl rfl rfl) rfl rfl rfl ?_
              refine At.val (Val.move rfl) rfl rfl rfl ?_
              refine At.no rfl rfl rfl rfl ?_
              refine At.no rfl rfl rfl rfl ?_
              refine At.val (Val.pickT rfl rfl) rfl rfl rfl ?_
              refine At.nil ?_
              refine At.thenN ?_
              refine At.condT rfl ?_
              refine At.seq ?_
              refine At.region ?_
              refine At.val (Val.build (fun a ha => by simp only [List.map_toArray, List.map_cons, List.map_nil] <;> rfl) (bld_65_)) rfl rfl rfl ?_
              refine At.storeAll (i := 1) Tryd.sizeOf65 rfl rfl rfl (by simp [Value.oneCell']) rfl rfl ?_
              simp only [List.set_cons_zero, List.set_cons_succ]
              refine At.val (Val.assign rfl) rfl rfl rfl ?_
              refine At.nil ?_
              refine At.thenN ?_
              refine At.retC ?_
              refine At.thenR ?_
              refine At.thenR ?_
              refine At.ret2 (.inl rfl) rfl rfl (ResOf.all (i := 1) Tryd.isAgg65 Tryd.sizeOf65 rfl rfl rfl) rfl (fun w hw => ?_)
              exact ⟨by first | rw [openSlot_no hno] | rw [openSlot_yes ⟨hi, hs0, .inl hm⟩, slotOf_0 hm] | (simp only [Bool.not_eq_true', decide_eq_false_iff_not, beq_iff_eq, beq_eq_false_iff_ne, decide_eq_true_eq, Bool.not_eq_false'] at *; rw [openSlot_no (fun g => g.2.2.elim hm (fun q => by have := q.2.2; rw [hz'] at *; first | (exact hS (Or.inr this)) | (unfold GoodU at this; omega)))]) | (simp only [Bool.not_eq_true', decide_eq_false_iff_not, beq_iff_eq, beq_eq_false_iff_ne, decide_eq_true_eq, Bool.not_eq_false'] at *; rw [openSlot_yes ⟨hi, hs0, .inr ⟨hs2, by first | exact .inl htl | exact .inr hs1, by rw [hz'] at *; rcases hS with hS | hS; exact absurd hS.1 hk; exact hS⟩⟩, slotOf_1 hm]; (try rw [hz']); try rfl), hw.mod⟩
          · skip
            have htl := lo_neF h6
            have hz' := hdOf_0 (y := y) htl
            refine At.skipC ?_
            refine At.thenN ?_
            refine At.seq ?_
            refine At.region ?_
            refine At.val (Val.loadAll (i := 0) Tryd.isAgg65 Tryd.sizeOf65 rfl rfl rfl) rfl rfl rfl ?_
            refine At.callP (fun w hw => goodSlotR_p _ _ _ _ w hbz) Tryd.call99 rfl rfl ?_
            refine At.val (Val.assign rfl) rfl rfl rfl ?_
            refine At.nil ?_
            refine At.thenN ?_
            refine At.seq ?_
            refine At.seq ?_
            refine At.region ?_
            refine At.val (Val.move rfl) rfl rfl rfl ?_
            refine At.val (Val.not rfl) rfl rfl rfl ?_
            refine At.val (Val.move rfl) rfl rfl rfl ?_
            refine At.split (t := 78) rfl (fun h10 => ?_) (fun h10 => ?_)
            · skip
              have hS := h10
              refine At.no rfl rfl rfl rfl ?_
              refine At.no rfl rfl rfl rfl ?_
              refine At.no rfl rfl rfl rfl ?_
              refine At.val (Val.pickT rfl rfl) rfl rfl rfl ?_
              refine At.nil ?_
              refine At.thenN ?_
              refine At.condT rfl ?_
              refine At.seq ?_
              refine At.region ?_
              refine At.val (Val.build (fun a ha => by simp only [List.map_toArray, List.map_cons, List.map_nil] <;> rfl) (bld_65_)) rfl rfl rfl ?_
              refine At.storeAll (i := 1) Tryd.sizeOf65 rfl rfl rfl (by simp [Value.oneCell']) rfl rfl ?_
              simp only [List.set_cons_zero, List.set_cons_succ]
              refine At.val (Val.assign rfl) rfl rfl rfl ?_
              refine At.nil ?_
              refine At.thenN ?_
              refine At.retC ?_
              refine At.thenR ?_
              refine At.ret2 (.inl rfl) rfl rfl (ResOf.all (i := 1) Tryd.isAgg65 Tryd.sizeOf65 rfl rfl rfl) rfl (fun w hw => ?_)
              exact ⟨by first | rw [openSlot_no hno] | rw [openSlot_yes ⟨hi, hs0, .inl hm⟩, slotOf_0 hm] | (simp only [Bool.not_eq_true', decide_eq_false_iff_not, beq_iff_eq, beq_eq_false_iff_ne, decide_eq_true_eq, Bool.not_eq_false'] at *; rw [openSlot_no (fun g => g.2.2.elim hm (fun q => by have := q.2.2; rw [hz'] at *; first | (exact hS (Or.inr this)) | (unfold GoodU at this; omega)))]) | (simp only [Bool.not_eq_true', decide_eq_false_iff_not, beq_iff_eq, beq_eq_false_iff_ne, decide_eq_true_eq, Bool.not_eq_false'] at *; rw [openSlot_yes ⟨hi, hs0, .inr ⟨hs2, by first | exact .inl htl | exact .inr hs1, by rw [hz'] at *; rcases hS with hS | hS; exact absurd hS.1 hk; exact hS⟩⟩, slotOf_1 hm]; (try rw [hz']); try rfl), hw.mod⟩
            · skip
              have hS := h10
              refine At.yes rfl rfl ?_
              refine At.val (Val.field 0 rfl fo_65_0 rfl) rfl rfl rfl ?_
              refine At.yes rfl rfl ?_
              refine At.val (Val.load (i := 0) Tryd.isAgg3 rfl rfl rfl) rfl rfl rfl ?_
              refine At.yes rfl rfl ?_
              refine At.val (Val.bin rfl rfl rfl) rfl rfl rfl ?_
              refine At.val (Val.pickF rfl rfl) rfl rfl rfl ?_
              refine At.nil ?_
              refine At.thenN ?_
              refine At.cond rfl (fun h11 => ?_) (fun h11 => ?_)
              · skip
                have hk := h11
                refine At.seq ?_
                refine At.region ?_
                refine At.val (Val.build (fun a ha => by simp only [List.map_toArray, List.map_cons, List.map_nil] <;> rfl) (bld_65_)) rfl rfl rfl ?_
                refine At.storeAll (i := 1) Tryd.sizeOf65 rfl rfl rfl (by simp [Value.oneCell']) rfl rfl ?_
                simp only [List.set_cons_zero, List.set_cons_succ]
                refine At.val (Val.assign rfl) rfl rfl rfl ?_
                refine At.nil ?_
                refine At.thenN ?_
                refine At.retC ?_
                refine At.thenR ?_
                refine At.ret2 (.inl rfl) rfl rfl (ResOf.all (i := 1) Tryd.isAgg65 Tryd.sizeOf65 rfl rfl rfl) rfl (fun w hw => ?_)
                exact ⟨by first | rw [openSlot_no hno] | rw [openSlot_yes ⟨hi, hs0, .inl hm⟩, slotOf_0 hm] | (simp only [Bool.not_eq_true', decide_eq_false_iff_not, beq_iff_eq, beq_eq_false_iff_ne, decide_eq_true_eq, Bool.not_eq_false'] at *; rw [openSlot_no (fun g => g.2.2.elim hm (fun q => by have := q.2.2; rw [hz'] at *; first | (exact hS (Or.inr this)) | (unfold GoodU at this; omega)))]) | (simp only [Bool.not_eq_true', decide_eq_false_iff_not, beq_iff_eq, beq_eq_false_iff_ne, decide_eq_true_eq, Bool.not_eq_false'] at *; rw [openSlot_yes ⟨hi, hs0, .inr ⟨hs2, by first | exact .inl htl | exact .inr hs1, by rw [hz'] at *; rcases hS with hS | hS; exact absurd hS.1 hk; exact hS⟩⟩, slotOf_1 hm]; (try rw [hz']); try rfl), hw.mod⟩
              · skip
                have hk := h11
                refine At.skipC ?_
                refine At.thenN ?_
                refine At.seq ?_
                refine At.region ?_
                refine At.val (Val.loadAll (i := 0) Tryd.isAgg65 Tryd.sizeOf65 rfl rfl rfl) rfl rfl rfl ?_
                refine At.storeAll (i := 1) Tryd.sizeOf65 rfl rfl rfl (by simp [Value.oneCell']) rfl rfl ?_
                simp only [List.set_cons_zero, List.set_cons_succ]
                refine At.val (Val.assign rfl) rfl rfl rfl ?_
                refine At.nil ?_
                refine At.thenN ?_
                refine At.retC ?_
                refine At.ret2 (.inl rfl) rfl rfl (ResOf.all (i := 1) Tryd.isAgg65 Tryd.sizeOf65 rfl rfl rfl) rfl (fun w hw => ?_)
                exact ⟨by first | rw [openSlot_no hno] | rw [openSlot_yes ⟨hi, hs0, .inl hm⟩, slotOf_0 hm] | (simp only [Bool.not_eq_true', decide_eq_false_iff_not, beq_iff_eq, beq_eq_false_iff_ne, decide_eq_true_eq, Bool.not_eq_false'] at *; rw [openSlot_no (fun g => g.2.2.elim hm (fun q => by have := q.2.2; rw [hz'] at *; first | (exact hS (Or.inr this)) | (unfold GoodU at this; omega)))]) | (simp only [Bool.not_eq_true', decide_eq_false_iff_not, beq_iff_eq, beq_eq_false_iff_ne, decide_eq_true_eq, Bool.not_eq_false'] at *; rw [openSlot_yes ⟨hi, hs0, .inr ⟨hs2, by first | exact .inl htl | exact .inr hs1, by rw [hz'] at *; rcases hS with hS | hS; exact absurd hS.1 hk; exact hS⟩⟩, slotOf_1 hm]; (try rw [hz']); try rfl), hw.mod⟩
        · skip
          have hno : ¬ OkSl i x y z := fun g => g.2.2.elim hm (fun q => hs2 q.1)
          refine At.callP (fun w hw => (by have := unsealR_p (slotAt i + 16) z w; rwa [unseal_no hs2] at this)) Tryd.call101 rfl rfl ?_
          refine At.val (Val.move rfl) rfl rfl rfl ?_
          refine At.val (Val.extract rfl rfl) rfl rfl rfl ?_
          refine At.val (Val.extract rfl rfl) rfl rfl rfl ?_
          refine At.val (Val.assign rfl) rfl rfl rfl ?_
          refine At.val (Val.assign rfl) rfl rfl rfl ?_
          refine At.nil ?_
          refine At.thenN ?_
          refine At.seq ?_
          refine At.seq ?_
          refine At.region ?_
          refine At.val (Val.move rfl) rfl rfl rfl ?_
          refine At.val (Val.bin rfl rfl rfl) rfl rfl rfl ?_
          refine At.nil ?_
          refine At.thenN ?_
          refine At.condT rfl ?_
          refine At.seq ?_
          refine At.region ?_
          refine At.val (Val.build (fun a ha => by simp only [List.map_toArray, List.map_cons, List.map_nil] <;> rfl) (bld_65_)) rfl rfl rfl ?_
          refine At.storeAll (i := 0) Tryd.sizeOf65 rfl rfl rfl (by simp [Value.oneCell']) rfl rfl ?_
          simp only [List.set_cons_zero, List.set_cons_succ]
          refine At.val (Val.assign rfl) rfl rfl rfl ?_
          refine At.nil ?_
          refine At.thenN ?_
          refine At.retC ?_
          refine At.thenR ?_
          refine At.ret2 (.inl rfl) rfl rfl (ResOf.all (i := 0) Tryd.isAgg65 Tryd.sizeOf65 rfl rfl rfl) rfl (fun w hw => ?_)
          exact ⟨by first | rw [openSlot_no hno] | rw [openSlot_yes ⟨hi, hs0, .inl hm⟩, slotOf_0 hm] | (simp only [Bool.not_eq_true', decide_eq_false_iff_not, beq_iff_eq, beq_eq_false_iff_ne, decide_eq_true_eq, Bool.not_eq_false'] at *; rw [openSlot_no (fun g => g.2.2.elim hm (fun q => by have := q.2.2; rw [hz'] at *; first | (exact hS (Or.inr this)) | (unfold GoodU at this; omega)))]) | (simp only [Bool.not_eq_true', decide_eq_false_iff_not, beq_iff_eq, beq_eq_false_iff_ne, decide_eq_true_eq, Bool.not_eq_false'] at *; rw [openSlot_yes ⟨hi, hs0, .inr ⟨hs2, by first | exact .inl htl | exact .inr hs1, by rw [hz'] at *; rcases hS with hS | hS; exact absurd hS.1 hk; exact hS⟩⟩, slotOf_1 hm]; (try rw [hz']); try rfl), hw.mod⟩
    · skip
      have hno : ¬ OkSl i x y z := fun g => hs0 g.2.1
      refine At.callP (fun w hw => (by have := unsealR_p (slotAt i) x w; rwa [unseal_no hs0] at this)) Tryd.call101 rfl rfl ?_
      refine At.val (Val.move rfl) rfl rfl rfl ?_
      refine At.val (Val.extract rfl rfl) rfl rfl rfl ?_
      refine At.val (Val.extract rfl rfl) rfl rfl rfl ?_
      refine At.val (Val.assign rfl) rfl rfl rfl ?_
      refine At.val (Val.assign rfl) rfl rfl rfl ?_
      refine At.nil ?_
      refine At.thenN ?_
      refine At.seq ?_
      refine At.seq ?_
      refine At.region ?_
      refine At.val (Val.move rfl) rfl rfl rfl ?_
      refine At.val (Val.bin rfl rfl rfl) rfl rfl rfl ?_
      refine At.nil ?_
      refine At.thenN ?_
      refine At.condT rfl ?_
      refine At.seq ?_
      refine At.region ?_
      refine At.val (Val.build (fun a ha => by simp only [List.map_toArray, List.map_cons, List.map_nil] <;> rfl) (bld_65_)) rfl rfl rfl ?_
      refine At.storeAll (i := 0) Tryd.sizeOf65 rfl rfl rfl (by simp [Value.oneCell']) rfl rfl ?_
      simp only [List.set_cons_zero, List.set_cons_succ]
      refine At.val (Val.assign rfl) rfl rfl rfl ?_
      refine At.nil ?_
      refine At.thenN ?_
      refine At.retC ?_
      refine At.thenR ?_
      refine At.ret2 (.inl rfl) rfl rfl (ResOf.all (i := 0) Tryd.isAgg65 Tryd.sizeOf65 rfl rfl rfl) rfl (fun w hw => ?_)
      exact ⟨by first | rw [openSlot_no hno] | rw [openSlot_yes ⟨hi, hs0, .inl hm⟩, slotOf_0 hm] | (simp only [Bool.not_eq_true', decide_eq_false_iff_not, beq_iff_eq, beq_eq_false_iff_ne, decide_eq_true_eq, Bool.not_eq_false'] at *; rw [openSlot_no (fun g => g.2.2.elim hm (fun q => by have := q.2.2; rw [hz'] at *; first | (exact hS (Or.inr this)) | (unfold GoodU at this; omega)))]) | (simp only [Bool.not_eq_true', decide_eq_false_iff_not, beq_iff_eq, beq_eq_false_iff_ne, decide_eq_true_eq, Bool.not_eq_false'] at *; rw [openSlot_yes ⟨hi, hs0, .inr ⟨hs2, by first | exact .inl htl | exact .inr hs1, by rw [hz'] at *; rcases hS with hS | hS; exact absurd hS.1 hk; exact hS⟩⟩, slotOf_1 hm]; (try rw [hz']); try rfl), hw.mod⟩

end Go.Proofs.YtoiebgnmknbkjaaDoor
