/- What a header's words say. -/
import Derived.Test.YtoiebgnmknbkjaaDoorB9
set_option linter.unusedVariables false
set_option linter.unusedSimpArgs false
namespace Go.Proofs.YtoiebgnmknbkjaaDoor
open Go Go.Wk

def OkH (p : Int) (x y : BitVec 64) : Prop := GoodH p ((x.setWidth 32).toNat : Nat) ((y.setWidth 32).toNat : Nat) ∧ sealW (BitVec.ofInt 64 (512 * p)) (x.setWidth 32) = x ∧ sealW (BitVec.ofInt 64 (512 * p + 8)) (y.setWidth 32) = y
instance (p : Int) (x y : BitVec 64) : Decidable (OkH p x y) := by unfold OkH; infer_instance
def openHdrV (p : Int) (x y : BitVec 64) : Value := if OkH p x y then .tuple #[.agg #[.int .i64 ((x.setWidth 32).toNat : Nat), .int .i64 ((y.setWidth 32).toNat : Nat)], .int .i64 0] else .tuple #[.agg #[.int .i64 0, .int .i64 0], .int .i64 33]
theorem openHdr_yes {p : Int} {x y : BitVec 64} (h : OkH p x y) : openHdrV p x y = .tuple #[.agg #[.int .i64 ((x.setWidth 32).toNat : Nat), .int .i64 ((y.setWidth 32).toNat : Nat)], .int .i64 0] := if_pos h
theorem openHdr_no {p : Int} {x y : BitVec 64} (h : ¬ OkH p x y) : openHdrV p x y = .tuple #[.agg #[.int .i64 0, .int .i64 0], .int .i64 33] := if_neg h
theorem hdr_iff (p : Int) (x y : BitVec 64) : hdr p ((x.setWidth 32).toNat : Nat) ((y.setWidth 32).toNat : Nat) = [x, y] ↔ sealW (BitVec.ofInt 64 (512 * p)) (x.setWidth 32) = x ∧ sealW (BitVec.ofInt 64 (512 * p + 8)) (y.setWidth 32) = y := by
  unfold hdr
  rw [ofInt_toNat, ofInt_toNat]
  simp

theorem openHdr_p (p : Int) (x y : BitVec 64) (w : World) (ht : Tab w) :
    PureC Tryd.prog 30 [.int .i64 p, .agg #[b64 x, b64 y]] (openHdrV p x y) w := by
  refine enterD0 Tryd.func30 rfl Tryd.ntmps30 rfl ?_
  simp only [envOf]
  refine At.seq ?_
  refine At.region ?_
  refine At.box rfl rfl rfl (fun b1 => ?_)
  refine At.alloc Tryd.zeroValue39 rfl rfl (fun b2 => ?_)
  refine At.alloc Tryd.zeroValue26 rfl rfl (fun b3 => ?_)
  refine At.nil ?_
  refine At.thenN ?_
  refine At.seq ?_
  refine At.region ?_
  refine At.defer rfl ?_
  refine At.nil ?_
  refine At.thenN ?_
  refine At.seq ?_
  refine At.region ?_
  refine At.val (Val.move rfl) rfl rfl rfl ?_
  refine At.callP (fun w hw => isData_p _ w) Tryd.call96 rfl rfl ?_
  refine At.split (t := 8) rfl (fun h4 => ?_) (fun h4 => ?_)
  · skip
    have hd := data_T.1 h4
    refine At.callP (fun w hw => must_T _ w) Tryd.call84 rfl rfl ?_
    refine At.nil ?_
    refine At.thenN ?_
    refine At.seq ?_
    refine At.region ?_
    refine At.val (Val.move rfl) rfl rfl rfl ?_
    refine At.val (Val.bin rfl rfl rfl) rfl rfl rfl ?_
    rw [wrap_i64 (n := p * 512) (by omega) (by omega), Int.mul_comm p 512]
    refine At.val (Val.assign rfl) rfl rfl rfl ?_
    refine At.nil ?_
    refine At.thenN ?_
    refine At.seq ?_
    by_cases hs0 : sealW (BitVec.ofInt 64 (512 * p)) (x.setWidth 32) = x <;> by_cases hs1 : sealW (BitVec.ofInt 64 (512 * p + 8)) (y.setWidth 32) = y
    · skip
      refine At.tail 10 rfl (by decide +kernel) ?_
      simp only [List.take_succ_cons, List.take_zero, List.drop_succ_cons, List.drop_zero]
      refine QAt.val (Val.move rfl) rfl rfl rfl ?_
      refine QAt.val (Val.indexArr 0 rfl Tryd.underlying41 Tryd.sizeOf40 rfl rfl (by decide) (by decide)) rfl rfl rfl ?_
      refine QAt.val (Val.load (i := 2) Tryd.isAgg40 rfl rfl rfl) rfl rfl rfl ?_
      refine QAt.callP (fun w hw => held_T (512 * p) x 33 w (ht.mod hw.mod) hs0) Tryd.call97 rfl rfl ?_
      refine QAt.val (Val.move rfl) rfl rfl rfl ?_
      refine QAt.val (Val.bin rfl rfl rfl) rfl rfl rfl ?_
      rw [wrap_i64 (n := 512 * p + 8) (by omega) (by omega)]
      refine QAt.val (Val.indexArr 1 rfl Tryd.underlying41 Tryd.sizeOf40 rfl rfl (by decide) (by decide)) rfl rfl rfl ?_
      refine QAt.val (Val.load (i := 2) Tryd.isAgg40 rfl rfl rfl) rfl rfl rfl ?_
      refine QAt.callP (fun w hw => held_T (512 * p + 8) y 33 w (ht.mod hw.mod) hs1) Tryd.call97 rfl rfl ?_
      refine QAt.val (Val.build (fun a ha => by simp only [List.map_toArray, List.map_cons, List.map_nil, ha.eval (x := (.tmp 15)) rfl, ha.eval (x := (.tmp 20)) rfl] <;> rfl) (bld_39_0_1 _ _ )) rfl rfl rfl ?_
      refine QAt.fin ?_
      refine At.storeAll (i := 1) Tryd.sizeOf39 rfl rfl rfl (by simp [Value.oneCell']) rfl rfl ?_
      simp only [List.set_cons_zero, List.set_cons_succ]
      refine At.nil ?_
      refine At.thenN ?_
      refine At.seq ?_
      refine At.region ?_
      refine At.val (Val.move rfl) rfl rfl rfl ?_
      refine At.val (Val.loadAll (i := 1) Tryd.isAgg39 Tryd.sizeOf39 rfl rfl rfl) rfl rfl rfl ?_
      refine At.callP (fun w hw => goodHdr_p _ _ _ w) Tryd.call90 rfl rfl ?_
      refine At.split (t := 24) rfl (fun h5 => ?_) (fun h5 => ?_)
      · skip
        have hg := of_decide_eq_true h5
        refine At.callP (fun w hw => must_T _ w) Tryd.call84 rfl rfl ?_
        refine At.nil ?_
        refine At.thenN ?_
        refine At.seq ?_
        refine At.region ?_
        refine At.val (Val.loadAll (i := 1) Tryd.isAgg39 Tryd.sizeOf39 rfl rfl rfl) rfl rfl rfl ?_
        refine At.storeAll (i := 1) Tryd.sizeOf39 rfl rfl rfl (by simp [Value.oneCell']) rfl rfl ?_
        simp only [List.set_cons_zero, List.set_cons_succ]
        refine At.store (i := 0) Tryd.sizeOf26 rfl rfl rfl rfl (by first | decide | simp) ?_
        simp only [List.set_cons_zero, List.set_cons_succ]
        refine At.nil ?_
        refine At.thenN ?_
        refine At.retC ?_
        refine At.leaveN (.inl rfl) rfl Tryd.call95 (fun w hw => caughtHeader_idle _ _ w) rfl (ResOf.all (i := 1) Tryd.isAgg39 Tryd.sizeOf39 rfl rfl rfl) (ResOf.one (i := 0) Tryd.isAgg26 rfl rfl rfl) (fun w hw => ?_)
        exact ⟨by rw [openHdr_yes ⟨hg, hs0, hs1⟩], hw.mod⟩
      · skip
        have hno : ¬ OkH p x y := fun h => of_decide_eq_false h5 h.1
        refine At.callT0 (fun w hw => must_F _ w) Tryd.call84 rfl ?_
        refine At.thenE ?_
        refine At.leaveP rfl Tryd.call95 ((erase_perm _ 1 _ rfl).trans (List.Perm.cons _ (erase_perm _ 0 _ rfl))) (fun w hw => caughtHeader_pan _ _ _ _ _ w (hw.blk (i := 0) rfl) rfl (hw.blk (i := 1) rfl) hw.ne01) rfl (ResOf.all (i := 0) Tryd.isAgg39 Tryd.sizeOf39 rfl rfl rfl) (ResOf.one (i := 1) Tryd.isAgg26 rfl rfl rfl) (fun w hw => ?_)
        exact ⟨by rw [openHdr_no hno], hw.mod⟩
    · skip
      have hno : ¬ OkH p x y := fun h => hs1 h.2.2
      refine At.throwR (c := brk 178 33) 10 8 [(4, .pointer (some ⟨b2, 0, none⟩)), (5, .pointer (some ⟨b3, 0, none⟩))] (Sub.cons rfl (Sub.cons rfl Sub.nil)) rfl rfl (by decide +kernel) (by decide) rfl rfl ?_ ?_
      · skip
        refine At.thenE ?_
        refine At.leaveP rfl Tryd.call95 ((erase_perm _ 1 _ rfl).trans (List.Perm.cons _ (erase_perm _ 0 _ rfl))) (fun w hw => caughtHeader_pan _ _ _ _ _ w (hw.blk (i := 0) rfl) rfl (hw.blk (i := 1) rfl) hw.ne01) rfl (ResOf.all (i := 0) Tryd.isAgg39 Tryd.sizeOf39 rfl rfl rfl) (ResOf.one (i := 1) Tryd.isAgg26 rfl rfl rfl) (fun w hw => ?_)
        exact ⟨by rw [openHdr_no hno], hw.mod⟩
      · skip
        simp only [List.take_succ_cons, List.take_zero]
        refine TAt.val (Val.move rfl) rfl rfl rfl rfl ?_
        refine TAt.val (Val.indexArr 0 rfl Tryd.underlying41 Tryd.sizeOf40 rfl rfl (by decide) (by decide)) rfl rfl rfl rfl ?_
        refine TAt.val (Val.load (i := 2) Tryd.isAgg40 rfl rfl rfl) rfl rfl rfl rfl ?_
        refine TAt.callP (fun w hw => held_T (512 * p) x 33 w (ht.mod hw.mod) hs0) Tryd.call97 rfl rfl rfl ?_
        refine TAt.val (Val.move rfl) rfl rfl rfl rfl ?_
        refine TAt.val (Val.bin rfl rfl rfl) rfl rfl rfl rfl ?_
        rw [wrap_i64 (n := 512 * p + 8) (by omega) (by omega)]
        refine TAt.val (Val.indexArr 1 rfl Tryd.underlying41 Tryd.sizeOf40 rfl rfl (by decide) (by decide)) rfl rfl rfl rfl ?_
        refine TAt.val (Val.load (i := 2) Tryd.isAgg40 rfl rfl rfl) rfl rfl rfl rfl ?_
        refine TAt.callT (.int .i64 0) (fun w hw => held_F (512 * p + 8) y 33 w (ht.mod hw.mod) hs1) Tryd.call97 rfl rfl ?_
        refine TAt.val (Val.build (fun a ha => by simp only [List.map_toArray, List.map_cons, List.map_nil, ha.eval (x := (.tmp 15)) rfl, ha.eval (x := (.tmp 20)) rfl] <;> rfl) (bld_39_0_1 _ _ )) rfl rfl rfl rfl ?_
        exact TAt.fin
    · skip
      have hno : ¬ OkH p x y := fun h => hs0 h.2.1
      refine At.throwR (c := brk 178 33) 10 3 [(4, .pointer (some ⟨b2, 0, none⟩)), (5, .pointer (some ⟨b3, 0, none⟩))] (Sub.cons rfl (Sub.cons rfl Sub.nil)) rfl rfl (by decide +kernel) (by decide) rfl rfl ?_ ?_
      · skip
        refine At.thenE ?_
        refine At.leaveP rfl Tryd.call95 ((erase_perm _ 1 _ rfl).trans (List.Perm.cons _ (erase_perm _ 0 _ rfl))) (fun w hw => caughtHeader_pan _ _ _ _ _ w (hw.blk (i := 0) rfl) rfl (hw.blk (i := 1) rfl) hw.ne01) rfl (ResOf.all (i := 0) Tryd.isAgg39 Tryd.sizeOf39 rfl rfl rfl) (ResOf.one (i := 1) Tryd.isAgg26 rfl rfl rfl) (fun w hw => ?_)
        exact ⟨by rw [openHdr_no hno], hw.mod⟩
      · skip
        simp only [List.take_succ_cons, List.take_zero]
        refine TAt.val (Val.move rfl) rfl rfl rfl rfl ?_
        refine TAt.val (Val.indexArr 0 rfl Tryd.underlying41 Tryd.sizeOf40 rfl rfl (by decide) (by decide)) rfl rfl rfl rfl ?_
        refine TAt.val (Val.load (i := 2) Tryd.isAgg40 rfl rfl rfl) rfl rfl rfl rfl ?_
        refine TAt.callT (.int .i64 0) (fun w hw => held_F (512 * p) x 33 w (ht.mod hw.mod) hs0) Tryd.call97 rfl rfl ?_
        refine TAt.val (Val.move rfl) rfl rfl rfl rfl ?_
        refine TAt.val (Val.bin rfl rfl rfl) rfl rfl rfl rfl ?_
        rw [wrap_i64 (n := 512 * p + 8) (by omega) (by omega)]
        refine TAt.val (Val.indexArr 1 rfl Tryd.underlying41 Tryd.sizeOf40 rfl rfl (by decide) (by decide)) rfl rfl rfl rfl ?_
        refine TAt.val (Val.load (i := 2) Tryd.isAgg40 rfl rfl rfl) rfl rfl rfl rfl ?_
        refine TAt.callP (fun w hw => held_T (512 * p + 8) y 33 w (ht.mod hw.mod) hs1) Tryd.call97 rfl rfl rfl ?_
        refine TAt.val (Val.build (fun a ha => by simp only [List.map_toArray, List.map_cons, List.map_nil, ha.eval (x := (.tmp 15)) rfl, ha.eval (x := (.tmp 20)) rfl] <;> rfl) (bld_39_0_1 _ _ )) rfl rfl rfl rfl ?_
        exact TAt.fin
    · skip
      have hno : ¬ OkH p x y := fun h => hs0 h.2.1
      refine At.throwR (c := brk 178 33) 10 3 [(4, .pointer (some ⟨b2, 0, none⟩)), (5, .pointer (some ⟨b3, 0, none⟩))] (Sub.cons rfl (Sub.cons rfl Sub.nil)) rfl rfl (by decide +kernel) (by decide) rfl rfl ?_ ?_
      · skip
        refine At.thenE ?_
        refine At.leaveP rfl Tryd.call95 ((erase_perm _ 1 _ rfl).trans (List.Perm.cons _ (erase_perm _ 0 _ rfl))) (fun w hw => caughtHeader_pan _ _ _ _ _ w (hw.blk (i := 0) rfl) rfl (hw.blk (i := 1) rfl) hw.ne01) rfl (ResOf.all (i := 0) Tryd.isAgg39 Tryd.sizeOf39 rfl rfl rfl) (ResOf.one (i := 1) Tryd.isAgg26 rfl rfl rfl) (fun w hw => ?_)
        exact ⟨by rw [openHdr_no hno], hw.mod⟩
      · skip
        simp only [List.take_succ_cons, List.take_zero]
        refine TAt.val (Val.move rfl) rfl rfl rfl rfl ?_
        refine TAt.val (Val.indexArr 0 rfl Tryd.underlying41 Tryd.sizeOf40 rfl rfl (by decide) (by decide)) rfl rfl rfl rfl ?_
        refine TAt.val (Val.load (i := 2) Tryd.isAgg40 rfl rfl rfl) rfl rfl rfl rfl ?_
        refine TAt.callT (.int .i64 0) (fun w hw => held_F (512 * p) x 33 w (ht.mod hw.mod) hs0) Tryd.call97 rfl rfl ?_
        refine TAt.val (Val.move rfl) rfl rfl rfl rfl ?_
        refine TAt.val (Val.bin rfl rfl rfl) rfl rfl rfl rfl ?_
        rw [wrap_i64 (n := 512 * p + 8) (by omega) (by omega)]
        refine TAt.val (Val.indexArr 1 rfl Tryd.underlying41 Tryd.sizeOf40 rfl rfl (by decide) (by decide)) rfl rfl rfl rfl ?_
        refine TAt.val (Val.load (i := 2) Tryd.isAgg40 rfl rfl rfl) rfl rfl rfl rfl ?_
        refine TAt.callT (.int .i64 0) (fun w hw => held_F (512 * p + 8) y 33 w (ht.mod hw.mod) hs1) Tryd.call97 rfl rfl ?_
        refine TAt.val (Val.build (fun a ha => by simp only [List.map_toArray, List.map_cons, List.map_nil, ha.eval (x := (.tmp 15)) rfl, ha.eval (x := (.tmp 20)) rfl] <;> rfl) (bld_39_0_1 _ _ )) rfl rfl rfl rfl ?_
        exact TAt.fin
  · skip
    have hno : ¬ OkH p x y := fun h => by have := h.1; unfold GoodH at this; rw [data_F] at h4; omega
    refine At.callT0 (fun w hw => must_F _ w) Tryd.call84 rfl ?_
    refine At.thenE ?_
    refine At.leaveP rfl Tryd.call95 ((erase_perm _ 1 _ rfl).trans (List.Perm.cons _ (erase_perm _ 0 _ rfl))) (fun w hw => caughtHeader_pan _ _ _ _ _ w (hw.blk (i := 0) rfl) rfl (hw.blk (i := 1) rfl) hw.ne01) rfl (ResOf.all (i := 0) Tryd.isAgg39 Tryd.sizeOf39 rfl rfl rfl) (ResOf.one (i := 1) Tryd.isAgg26 rfl rfl rfl) (fun w hw => ?_)
    exact ⟨by rw [openHdr_no hno], hw.mod⟩

theorem openHdrR_p (p : Int) (x y : BitVec 64) (w : World) :
    PureC Tryd.prog 31 [.int .i64 p, .agg #[b64 x, b64 y]] (openHdrV p x y) w := by
  refine enter0 Tryd.func31 rfl Tryd.ntmps31 rfl ?_
  simp only [envOf]
  refine At.seq ?_
  refine At.region ?_
  refine At.box rfl rfl rfl (fun b1 => ?_)
  refine At.alloc Tryd.zeroValue39 rfl rfl (fun b2 => ?_)
  refine At.val (Val.assign rfl) rfl rfl rfl ?_
  refine At.nil ?_
  refine At.thenN ?_
  refine At.seq ?_
  refine At.region ?_
  refine At.val (Val.indexArr 0 rfl Tryd.underlying41 Tryd.sizeOf40 rfl rfl (by decide) (by decide)) rfl rfl rfl ?_
  refine At.val (Val.load (i := 1) Tryd.isAgg40 rfl rfl rfl) rfl rfl rfl ?_
  refine At.val (Val.rem rfl rfl (by decide)) rfl rfl rfl ?_
  refine At.val (Val.conv Tryd.underlying40 Tryd.underlying3 rfl) rfl rfl rfl ?_
  rw [low64]
  refine At.val (Val.indexArr 1 rfl Tryd.underlying41 Tryd.sizeOf40 rfl rfl (by decide) (by decide)) rfl rfl rfl ?_
  refine At.val (Val.load (i := 1) Tryd.isAgg40 rfl rfl rfl) rfl rfl rfl ?_
  refine At.val (Val.rem rfl rfl (by decide)) rfl rfl rfl ?_
  refine At.val (Val.conv Tryd.underlying40 Tryd.underlying3 rfl) rfl rfl rfl ?_
  rw [low64]
  refine At.val (Val.build (fun a ha => by simp only [List.map_toArray, List.map_cons, List.map_nil, ha.eval (x := (.tmp 12)) rfl, ha.eval (x := (.tmp 16)) rfl] <;> rfl) (bld_39_0_1 _ _ )) rfl rfl rfl ?_
  refine At.alloc Tryd.zeroValue39 rfl rfl (fun b3 => ?_)
  refine At.storeAll (i := 0) Tryd.sizeOf39 rfl rfl rfl (by simp [Value.oneCell']) rfl rfl ?_
  simp only [List.set_cons_zero, List.set_cons_succ]
  refine At.nil ?_
  refine At.thenN ?_
  refine At.seq ?_
  refine At.region ?_
  refine At.val (Val.move rfl) rfl rfl rfl ?_
  refine At.val (Val.loadAll (i := 0) Tryd.isAgg39 Tryd.sizeOf39 rfl rfl rfl) rfl rfl rfl ?_
  refine At.callP (fun w hw => packHdrR_p p ((x.setWidth 32).toNat : Nat) ((y.setWidth 32).toNat : Nat) w) Tryd.call29 rfl rfl ?_
  by_cases hg : GoodH p ((x.setWidth 32).toNat : Nat) ((y.setWidth 32).toNat : Nat)
  · skip
    rw [packHdr_yes hg]
    refine At.val (Val.move rfl) rfl rfl rfl ?_
    refine At.val (Val.extract rfl rfl) rfl rfl rfl ?_
    refine At.val (Val.extract rfl rfl) rfl rfl rfl ?_
    refine At.alloc zero_41 zc_41 rfl (fun b4 => ?_)
    refine At.storeAll (i := 0) Tryd.sizeOf41 rfl rfl rfl (by simp [Value.oneCell']) rfl (by simp) ?_
    simp only [List.set_cons_zero, List.set_cons_succ]
    refine At.val (Val.assign rfl) rfl rfl rfl ?_
    refine At.nil ?_
    refine At.thenN ?_
    refine At.seq ?_
    refine At.seq ?_
    refine At.region ?_
    refine At.val (Val.move rfl) rfl rfl rfl ?_
    refine At.val (Val.bin rfl rfl rfl) rfl rfl rfl ?_
    refine At.val (Val.move rfl) rfl rfl rfl ?_
    refine At.yes rfl rfl ?_
    refine At.val (Val.loadAll (i := 0) Tryd.isAgg41 Tryd.sizeOf41 rfl rfl rfl) rfl rfl rfl ?_
    refine At.yes rfl rfl ?_
    refine At.val (Val.loadAll (i := 3) Tryd.isAgg41 Tryd.sizeOf41 rfl rfl rfl) rfl rfl rfl ?_
    refine At.yes rfl rfl ?_
    refine At.val (Val.neAgg (b := decide (hdr p ((x.setWidth 32).toNat : Nat) ((y.setWidth 32).toNat : Nat) = [x, y])) Tryd.eqGuardType41 (fun w => by have := run_equal_arr Tryd.underlying41 Tryd.underlying40 Tryd.isAgg40 Tryd.sizeOf40 ((hdr p ((x.setWidth 32).toNat : Nat) ((y.setWidth 32).toNat : Nat)).map fun x => (x.toNat : Int)) (([x, y]).map fun x => (x.toNat : Int)) rfl rfl w; rw [words_eq] at this; exact this) rfl rfl) rfl rfl rfl ?_
    refine At.val (Val.pickF rfl rfl) rfl rfl rfl ?_
    refine At.nil ?_
    refine At.thenN ?_
    refine At.cond rfl (fun h5 => ?_) (fun h5 => ?_)
    · skip
      refine At.seq ?_
      refine At.region ?_
      refine At.val (Val.build (fun a ha => by simp only [List.map_toArray, List.map_cons, List.map_nil] <;> rfl) (bld_39_)) rfl rfl rfl ?_
      refine At.storeAll (i := 2) Tryd.sizeOf39 rfl rfl rfl (by simp [Value.oneCell']) rfl rfl ?_
      simp only [List.set_cons_zero, List.set_cons_succ]
      refine At.val (Val.assign rfl) rfl rfl rfl ?_
      refine At.nil ?_
      refine At.thenN ?_
      refine At.retC ?_
      refine At.thenR ?_
      refine At.ret2 (.inl rfl) rfl rfl (ResOf.all (i := 2) Tryd.isAgg39 Tryd.sizeOf39 rfl rfl rfl) rfl (fun w hw => ?_)
      exact ⟨by rw [openHdr_no (fun h => by have := (hdr_iff p x y).2 h.2; simp_all)], hw.mod⟩
    · skip
      refine At.skipC ?_
      refine At.thenN ?_
      refine At.seq ?_
      refine At.region ?_
      refine At.val (Val.loadAll (i := 1) Tryd.isAgg39 Tryd.sizeOf39 rfl rfl rfl) rfl rfl rfl ?_
      refine At.storeAll (i := 2) Tryd.sizeOf39 rfl rfl rfl (by simp [Value.oneCell']) rfl rfl ?_
      simp only [List.set_cons_zero, List.set_cons_succ]
      refine At.val (Val.assign rfl) rfl rfl rfl ?_
      refine At.nil ?_
      refine At.thenN ?_
      refine At.retC ?_
      refine At.ret2 (.inl rfl) rfl rfl (ResOf.all (i := 2) Tryd.isAgg39 Tryd.sizeOf39 rfl rfl rfl) rfl (fun w hw => ?_)
      exact ⟨by rw [openHdr_yes ⟨hg, (hdr_iff p x y).1 (by simp_all)⟩], hw.mod⟩
  · skip
    rw [packHdr_no hg]
    have hno : ¬ OkH p x y := fun h => hg h.1
    refine At.val (Val.move rfl) rfl rfl rfl ?_
    refine At.val (Val.extract rfl rfl) rfl rfl rfl ?_
    refine At.val (Val.extract rfl rfl) rfl rfl rfl ?_
    refine At.alloc zero_41 zc_41 rfl (fun b6 => ?_)
    refine At.storeAll (i := 0) Tryd.sizeOf41 rfl rfl rfl (by simp [Value.oneCell']) rfl (by simp) ?_
    simp only [List.set_cons_zero, List.set_cons_succ]
    refine At.val (Val.assign rfl) rfl rfl rfl ?_
    refine At.nil ?_
    refine At.thenN ?_
    refine At.seq ?_
    refine At.seq ?_
    refine At.region ?_
    refine At.val (Val.move rfl) rfl rfl rfl ?_
    refine At.val (Val.bin rfl rfl rfl) rfl rfl rfl ?_
    refine At.val (Val.move rfl) rfl rfl rfl ?_
    refine At.no rfl rfl rfl rfl ?_
    refine At.no rfl rfl rfl rfl ?_
    refine At.no rfl rfl rfl rfl ?_
    refine At.val (Val.pickT rfl rfl) rfl rfl rfl ?_
    refine At.nil ?_
    refine At.thenN ?_
    refine At.condT rfl ?_
    refine At.seq ?_
    refine At.region ?_
    refine At.val (Val.build (fun a ha => by simp only [List.map_toArray, List.map_cons, List.map_nil] <;> rfl) (bld_39_)) rfl rfl rfl ?_
    refine At.storeAll (i := 2) Tryd.sizeOf39 rfl rfl rfl (by simp [Value.oneCell']) rfl rfl ?_
    simp only [List.set_cons_zero, List.set_cons_succ]
    refine At.val (Val.assign rfl) rfl rfl rfl ?_
    refine At.nil ?_
    refine At.thenN ?_
    refine At.retC ?_
    refine At.thenR ?_
    refine At.ret2 (.inl rfl) rfl rfl (ResOf.all (i := 2) Tryd.isAgg39 Tryd.sizeOf39 rfl rfl rfl) rfl (fun w hw => ?_)
    exact ⟨by rw [openHdr_no hno], hw.mod⟩

end Go.Proofs.YtoiebgnmknbkjaaDoor
