/- LayoutHeaders, walked. -/
import Derived.Test.YtlplkbbnpddihaaDoorB10
set_option linter.unusedVariables false
set_option linter.unusedSimpArgs false
namespace Go.Proofs.YtlplkbbnpddihaaDoor
open Go Go.Wk
theorem lawHeaders_TT (p n o : Int) (x y : BitVec 64) (w : World) (ht : Tab w) (hg : GoodH p n o) (ho : OkH p x y) :
    PureC Tryd.prog 5 [.int .i64 p, .agg #[.int .i64 n, .int .i64 o], .agg #[b64 x, b64 y]] (.bool true) w := by
  refine enter0 Tryd.func5 rfl Tryd.ntmps5 rfl ?_
  simp only [envOf]
  refine At.seq ?_
  refine At.region ?_
  refine At.box rfl rfl rfl (fun b1 => ?_)
  refine At.box rfl rfl rfl (fun b2 => ?_)
  refine At.val (Val.assign rfl) rfl rfl rfl ?_
  refine At.nil ?_
  refine At.thenN ?_
  refine At.seq ?_
  refine At.region ?_
  refine At.val (Val.move rfl) rfl rfl rfl ?_
  refine At.val (Val.loadAll (i := 1) Tryd.isAgg39 Tryd.sizeOf39 rfl rfl rfl) rfl rfl rfl ?_
  refine At.callP (fun w hw => (by have := packHdr_p p n o w (ht.mod hw.mod); rwa [packHdr_yes hg] at this)) Tryd.call28 rfl rfl ?_
  refine At.val (Val.move rfl) rfl rfl rfl ?_
  refine At.val (Val.extract rfl rfl) rfl rfl rfl ?_
  refine At.val (Val.extract rfl rfl) rfl rfl rfl ?_
  refine At.alloc zero_41 zc_41 rfl (fun b3 => ?_)
  refine At.storeAll (i := 0) Tryd.sizeOf41 rfl rfl rfl (by simp [Value.oneCell']) rfl (by simp) ?_
  simp only [List.set_cons_zero, List.set_cons_succ]
  refine At.val (Val.assign rfl) rfl rfl rfl ?_
  refine At.nil ?_
  refine At.thenN ?_
  refine At.seq ?_
  refine At.region ?_
  refine At.val (Val.move rfl) rfl rfl rfl ?_
  refine At.val (Val.loadAll (i := 2) Tryd.isAgg39 Tryd.sizeOf39 rfl rfl rfl) rfl rfl rfl ?_
  refine At.callP (fun w hw => (by have := packHdrR_p p n o w; rwa [packHdr_yes hg] at this)) Tryd.call29 rfl rfl ?_
  refine At.val (Val.move rfl) rfl rfl rfl ?_
  refine At.val (Val.extract rfl rfl) rfl rfl rfl ?_
  refine At.val (Val.extract rfl rfl) rfl rfl rfl ?_
  refine At.alloc zero_41 zc_41 rfl (fun b4 => ?_)
  refine At.storeAll (i := 0) Tryd.sizeOf41 rfl rfl rfl (by simp [Value.oneCell']) rfl (by simp) ?_
  simp only [List.set_cons_zero, List.set_cons_succ]
  refine At.val (Val.assign rfl) rfl rfl rfl ?_
  refine At.nil ?_
  refine At.thenN ?_
  refine At.seq ?_
  refine At.seq ?_
  refine At.region ?_
  refine At.val (Val.loadAll (i := 1) Tryd.isAgg41 Tryd.sizeOf41 rfl rfl rfl) rfl rfl rfl ?_
  refine At.val (Val.loadAll (i := 0) Tryd.isAgg41 Tryd.sizeOf41 rfl rfl rfl) rfl rfl rfl ?_
  refine At.val (Val.neAgg (b := true) Tryd.eqGuardType41 (fun w => run_same_words Tryd.underlying41 Tryd.underlying40 Tryd.isAgg40 Tryd.sizeOf40 (hdr p n o) rfl w) rfl rfl) rfl rfl rfl ?_
  refine At.val (Val.move rfl) rfl rfl rfl ?_
  refine At.yes rfl rfl ?_
  refine At.val (Val.move rfl) rfl rfl rfl ?_
  refine At.yes rfl rfl ?_
  refine At.val (Val.move rfl) rfl rfl rfl ?_
  refine At.yes rfl rfl ?_
  refine At.val (Val.bin rfl rfl rfl) rfl rfl rfl ?_
  refine At.val (Val.pickF rfl rfl) rfl rfl rfl ?_
  refine At.nil ?_
  refine At.thenN ?_
  refine At.condF rfl ?_
  refine At.skipC ?_
  refine At.thenN ?_
  refine At.seq ?_
  refine At.region ?_
  refine At.val (Val.move rfl) rfl rfl rfl ?_
  refine At.val (Val.loadAll (i := 2) Tryd.isAgg41 Tryd.sizeOf41 rfl rfl rfl) rfl rfl rfl ?_
  refine At.callP (fun w hw => (by have := openHdr_p p x y w (ht.mod hw.mod); rwa [openHdr_yes ho] at this)) Tryd.call30 rfl rfl ?_
  refine At.val (Val.move rfl) rfl rfl rfl ?_
  refine At.val (Val.extract rfl rfl) rfl rfl rfl ?_
  refine At.val (Val.extract rfl rfl) rfl rfl rfl ?_
  refine At.alloc Tryd.zeroValue39 rfl rfl (fun b5 => ?_)
  refine At.storeAll (i := 0) Tryd.sizeOf39 rfl rfl rfl (by simp [Value.oneCell']) rfl rfl ?_
  simp only [List.set_cons_zero, List.set_cons_succ]
  refine At.val (Val.assign rfl) rfl rfl rfl ?_
  refine At.nil ?_
  refine At.thenN ?_
  refine At.seq ?_
  refine At.region ?_
  refine At.val (Val.move rfl) rfl rfl rfl ?_
  refine At.val (Val.loadAll (i := 3) Tryd.isAgg41 Tryd.sizeOf41 rfl rfl rfl) rfl rfl rfl ?_
  refine At.callP (fun w hw => (by have := openHdrR_p p x y w; rwa [openHdr_yes ho] at this)) Tryd.call31 rfl rfl ?_
  refine At.val (Val.move rfl) rfl rfl rfl ?_
  refine At.val (Val.extract rfl rfl) rfl rfl rfl ?_
  refine At.val (Val.extract rfl rfl) rfl rfl rfl ?_
  refine At.alloc Tryd.zeroValue39 rfl rfl (fun b6 => ?_)
  refine At.storeAll (i := 0) Tryd.sizeOf39 rfl rfl rfl (by simp [Value.oneCell']) rfl rfl ?_
  simp only [List.set_cons_zero, List.set_cons_succ]
  refine At.val (Val.assign rfl) rfl rfl rfl ?_
  refine At.nil ?_
  refine At.thenN ?_
  refine At.seq ?_
  refine At.region ?_
  refine At.val (Val.loadAll (i := 1) Tryd.isAgg39 Tryd.sizeOf39 rfl rfl rfl) rfl rfl rfl ?_
  refine At.val (Val.loadAll (i := 0) Tryd.isAgg39 Tryd.sizeOf39 rfl rfl rfl) rfl rfl rfl ?_
  refine At.val (Val.eqAgg (b := true) Tryd.eqGuardType39 (fun w => by simpa using eq_39 ((x.setWidth 32).toNat : Nat) ((y.setWidth 32).toNat : Nat) ((x.setWidth 32).toNat : Nat) ((y.setWidth 32).toNat : Nat) w) rfl rfl) rfl rfl rfl ?_
  refine At.val (Val.move rfl) rfl rfl rfl ?_
  refine At.yes rfl rfl ?_
  refine At.val (Val.move rfl) rfl rfl rfl ?_
  refine At.yes rfl rfl ?_
  refine At.val (Val.move rfl) rfl rfl rfl ?_
  refine At.yes rfl rfl ?_
  refine At.val (Val.bin rfl rfl rfl) rfl rfl rfl ?_
  refine At.val (Val.pickT rfl rfl) rfl rfl rfl ?_
  refine At.val (Val.assign rfl) rfl rfl rfl ?_
  refine At.nil ?_
  refine At.thenN ?_
  refine At.retC ?_
  refine At.ret1 (.inl rfl) rfl rfl rfl (fun w hw => ?_)
  exact ⟨rfl, hw.mod⟩

theorem lawHeaders_TF (p n o : Int) (x y : BitVec 64) (w : World) (ht : Tab w) (hg : GoodH p n o) (ho : ¬ OkH p x y) :
    PureC Tryd.prog 5 [.int .i64 p, .agg #[.int .i64 n, .int .i64 o], .agg #[b64 x, b64 y]] (.bool true) w := by
  refine enter0 Tryd.func5 rfl Tryd.ntmps5 rfl ?_
  simp only [envOf]
  refine At.seq ?_
  refine At.region ?_
  refine At.box rfl rfl rfl (fun b1 => ?_)
  refine At.box rfl rfl rfl (fun b2 => ?_)
  refine At.val (Val.assign rfl) rfl rfl rfl ?_
  refine At.nil ?_
  refine At.thenN ?_
  refine At.seq ?_
  refine At.region ?_
  refine At.val (Val.move rfl) rfl rfl rfl ?_
  refine At.val (Val.loadAll (i := 1) Tryd.isAgg39 Tryd.sizeOf39 rfl rfl rfl) rfl rfl rfl ?_
  refine At.callP (fun w hw => (by have := packHdr_p p n o w (ht.mod hw.mod); rwa [packHdr_yes hg] at this)) Tryd.call28 rfl rfl ?_
  refine At.val (Val.move rfl) rfl rfl rfl ?_
  refine At.val (Val.extract rfl rfl) rfl rfl rfl ?_
  refine At.val (Val.extract rfl rfl) rfl rfl rfl ?_
  refine At.alloc zero_41 zc_41 rfl (fun b3 => ?_)
  refine At.storeAll (i := 0) Tryd.sizeOf41 rfl rfl rfl (by simp [Value.oneCell']) rfl (by simp) ?_
  simp only [List.set_cons_zero, List.set_cons_succ]
  refine At.val (Val.assign rfl) rfl rfl rfl ?_
  refine At.nil ?_
  refine At.thenN ?_
  refine At.seq ?_
  refine At.region ?_
  refine At.val (Val.move rfl) rfl rfl rfl ?_
  refine At.val (Val.loadAll (i := 2) Tryd.isAgg39 Tryd.sizeOf39 rfl rfl rfl) rfl rfl rfl ?_
  refine At.callP (fun w hw => (by have := packHdrR_p p n o w; rwa [packHdr_yes hg] at this)) Tryd.call29 rfl rfl ?_
  refine At.val (Val.move rfl) rfl rfl rfl ?_
  refine At.val (Val.extract rfl rfl) rfl rfl rfl ?_
  refine At.val (Val.extract rfl rfl) rfl rfl rfl ?_
  refine At.alloc zero_41 zc_41 rfl (fun b4 => ?_)
  refine At.storeAll (i := 0) Tryd.sizeOf41 rfl rfl rfl (by simp [Value.oneCell']) rfl (by simp) ?_
  simp only [List.set_cons_zero, List.set_cons_succ]
  refine At.val (Val.assign rfl) rfl rfl rfl ?_
  refine At.nil ?_
  refine At.thenN ?_
  refine At.seq ?_
  refine At.seq ?_
  refine At.region ?_
  refine At.val (Val.loadAll (i := 1) Tryd.isAgg41 Tryd.sizeOf41 rfl rfl rfl) rfl rfl rfl ?_
  refine At.val (Val.loadAll (i := 0) Tryd.isAgg41 Tryd.sizeOf41 rfl rfl rfl) rfl rfl rfl ?_
  refine At.val (Val.neAgg (b := true) Tryd.eqGuardType41 (fun w => run_same_words Tryd.underlying41 Tryd.underlying40 Tryd.isAgg40 Tryd.sizeOf40 (hdr p n o) rfl w) rfl rfl) rfl rfl rfl ?_
  refine At.val (Val.move rfl) rfl rfl rfl ?_
  refine At.yes rfl rfl ?_
  refine At.val (Val.move rfl) rfl rfl rfl ?_
  refine At.yes rfl rfl ?_
  refine At.val (Val.move rfl) rfl rfl rfl ?_
  refine At.yes rfl rfl ?_
  refine At.val (Val.bin rfl rfl rfl) rfl rfl rfl ?_
  refine At.val (Val.pickF rfl rfl) rfl rfl rfl ?_
  refine At.nil ?_
  refine At.thenN ?_
  refine At.condF rfl ?_
  refine At.skipC ?_
  refine At.thenN ?_
  refine At.seq ?_
  refine At.region ?_
  refine At.val (Val.move rfl) rfl rfl rfl ?_
  refine At.val (Val.loadAll (i := 2) Tryd.isAgg41 Tryd.sizeOf41 rfl rfl rfl) rfl rfl rfl ?_
  refine At.callP (fun w hw => (by have := openHdr_p p x y w (ht.mod hw.mod); rwa [openHdr_no ho] at this)) Tryd.call30 rfl rfl ?_
  refine At.val (Val.move rfl) rfl rfl rfl ?_
  refine At.val (Val.extract rfl rfl) rfl rfl rfl ?_
  refine At.val (Val.extract rfl rfl) rfl rfl rfl ?_
  refine At.alloc Tryd.zeroValue39 rfl rfl (fun b5 => ?_)
  refine At.storeAll (i := 0) Tryd.sizeOf39 rfl rfl rfl (by simp [Value.oneCell']) rfl rfl ?_
  simp only [List.set_cons_zero, List.set_cons_succ]
  refine At.val (Val.assign rfl) rfl rfl rfl ?_
  refine At.nil ?_
  refine At.thenN ?_
  refine At.seq ?_
  refine At.region ?_
  refine At.val (Val.move rfl) rfl rfl rfl ?_
  refine At.val (Val.loadAll (i := 3) Tryd.isAgg41 Tryd.sizeOf41 rfl rfl rfl) rfl rfl rfl ?_
  refine At.callP (fun w hw => (by have := openHdrR_p p x y w; rwa [openHdr_no ho] at this)) Tryd.call31 rfl rfl ?_
  refine At.val (Val.move rfl) rfl rfl rfl ?_
  refine At.val (Val.extract rfl rfl) rfl rfl rfl ?_
  refine At.val (Val.extract rfl rfl) rfl rfl rfl ?_
  refine At.alloc Tryd.zeroValue39 rfl rfl (fun b6 => ?_)
  refine At.storeAll (i := 0) Tryd.sizeOf39 rfl rfl rfl (by simp [Value.oneCell']) rfl rfl ?_
  simp only [List.set_cons_zero, List.set_cons_succ]
  refine At.val (Val.assign rfl) rfl rfl rfl ?_
  refine At.nil ?_
  refine At.thenN ?_
  refine At.seq ?_
  refine At.region ?_
  refine At.val (Val.loadAll (i := 1) Tryd.isAgg39 Tryd.sizeOf39 rfl rfl rfl) rfl rfl rfl ?_
  refine At.val (Val.loadAll (i := 0) Tryd.isAgg39 Tryd.sizeOf39 rfl rfl rfl) rfl rfl rfl ?_
  refine At.val (Val.eqAgg (b := true) Tryd.eqGuardType39 (fun w => by simpa using eq_39 0 0 0 0 w) rfl rfl) rfl rfl rfl ?_
  refine At.val (Val.move rfl) rfl rfl rfl ?_
  refine At.yes rfl rfl ?_
  refine At.val (Val.move rfl) rfl rfl rfl ?_
  refine At.yes rfl rfl ?_
  refine At.val (Val.move rfl) rfl rfl rfl ?_
  refine At.yes rfl rfl ?_
  refine At.val (Val.bin rfl rfl rfl) rfl rfl rfl ?_
  refine At.val (Val.pickT rfl rfl) rfl rfl rfl ?_
  refine At.val (Val.assign rfl) rfl rfl rfl ?_
  refine At.nil ?_
  refine At.thenN ?_
  refine At.retC ?_
  refine At.ret1 (.inl rfl) rfl rfl rfl (fun w hw => ?_)
  exact ⟨rfl, hw.mod⟩

theorem lawHeaders_FT (p n o : Int) (x y : BitVec 64) (w : World) (ht : Tab w) (hg : ¬ GoodH p n o) (ho : OkH p x y) :
    PureC Tryd.prog 5 [.int .i64 p, .agg #[.int .i64 n, .int .i64 o], .agg #[b64 x, b64 y]] (.bool true) w := by
  refine enter0 Tryd.func5 rfl Tryd.ntmps5 rfl ?_
  simp only [envOf]
  refine At.seq ?_
  refine At.region ?_
  refine At.box rfl rfl rfl (fun b1 => ?_)
  refine At.box rfl rfl rfl (fun b2 => ?_)
  refine At.val (Val.assign rfl) rfl rfl rfl ?_
  refine At.nil ?_
  refine At.thenN ?_
  refine At.seq ?_
  refine At.region ?_
  refine At.val (Val.move rfl) rfl rfl rfl ?_
  refine At.val (Val.loadAll (i := 1) Tryd.isAgg39 Tryd.sizeOf39 rfl rfl rfl) rfl rfl rfl ?_
  refine At.callP (fun w hw => (by have := packHdr_p p n o w (ht.mod hw.mod); rwa [packHdr_no hg] at this)) Tryd.call28 rfl rfl ?_
  refine At.val (Val.move rfl) rfl rfl rfl ?_
  refine At.val (Val.extract rfl rfl) rfl rfl rfl ?_
  refine At.val (Val.extract rfl rfl) rfl rfl rfl ?_
  refine At.alloc zero_41 zc_41 rfl (fun b3 => ?_)
  refine At.storeAll (i := 0) Tryd.sizeOf41 rfl rfl rfl (by simp [Value.oneCell']) rfl (by simp) ?_
  simp only [List.set_cons_zero, List.set_cons_succ]
  refine At.val (Val.assign rfl) rfl rfl rfl ?_
  refine At.nil ?_
  refine At.thenN ?_
  refine At.seq ?_
  refine At.region ?_
  refine At.val (Val.move rfl) rfl rfl rfl ?_
  refine At.val (Val.loadAll (i := 2) Tryd.isAgg39 Tryd.sizeOf39 rfl rfl rfl) rfl rfl rfl ?_
  refine At.callP (fun w hw => (by have := packHdrR_p p n o w; rwa [packHdr_no hg] at this)) Tryd.call29 rfl rfl ?_
  refine At.val (Val.move rfl) rfl rfl rfl ?_
  refine At.val (Val.extract rfl rfl) rfl rfl rfl ?_
  refine At.val (Val.extract rfl rfl) rfl rfl rfl ?_
  refine At.alloc zero_41 zc_41 rfl (fun b4 => ?_)
  refine At.storeAll (i := 0) Tryd.sizeOf41 rfl rfl rfl (by simp [Value.oneCell']) rfl (by simp) ?_
  simp only [List.set_cons_zero, List.set_cons_succ]
  refine At.val (Val.assign rfl) rfl rfl rfl ?_
  refine At.nil ?_
  refine At.thenN ?_
  refine At.seq ?_
  refine At.seq ?_
  refine At.region ?_
  refine At.val (Val.loadAll (i := 1) Tryd.isAgg41 Tryd.sizeOf41 rfl rfl (by simp)) rfl rfl rfl ?_
  refine At.val (Val.loadAll (i := 0) Tryd.isAgg41 Tryd.sizeOf41 rfl rfl (by simp)) rfl rfl rfl ?_
  refine At.val (Val.neAgg (b := true) Tryd.eqGuardType41 (fun w => run_same_words Tryd.underlying41 Tryd.underlying40 Tryd.isAgg40 Tryd.sizeOf40 ([(0 : BitVec 64), 0]) rfl w) rfl rfl) rfl rfl rfl ?_
  refine At.val (Val.move rfl) rfl rfl rfl ?_
  refine At.yes rfl rfl ?_
  refine At.val (Val.move rfl) rfl rfl rfl ?_
  refine At.yes rfl rfl ?_
  refine At.val (Val.move rfl) rfl rfl rfl ?_
  refine At.yes rfl rfl ?_
  refine At.val (Val.bin rfl rfl rfl) rfl rfl rfl ?_
  refine At.val (Val.pickF rfl rfl) rfl rfl rfl ?_
  refine At.nil ?_
  refine At.thenN ?_
  refine At.condF rfl ?_
  refine At.skipC ?_
  refine At.thenN ?_
  refine At.seq ?_
  refine At.region ?_
  refine At.val (Val.move rfl) rfl rfl rfl ?_
  refine At.val (Val.loadAll (i := 2) Tryd.isAgg41 Tryd.sizeOf41 rfl rfl rfl) rfl rfl rfl ?_
  refine At.callP (fun w hw => (by have := openHdr_p p x y w (ht.mod hw.mod); rwa [openHdr_yes ho] at this)) Tryd.call30 rfl rfl ?_
  refine At.val (Val.move rfl) rfl rfl rfl ?_
  refine At.val (Val.extract rfl rfl) rfl rfl rfl ?_
  refine At.val (Val.extract rfl rfl) rfl rfl rfl ?_
  refine At.alloc Tryd.zeroValue39 rfl rfl (fun b5 => ?_)
  refine At.storeAll (i := 0) Tryd.sizeOf39 rfl rfl rfl (by simp [Value.oneCell']) rfl rfl ?_
  simp only [List.set_cons_zero, List.set_cons_succ]
  refine At.val (Val.assign rfl) rfl rfl rfl ?_
  refine At.nil ?_
  refine At.thenN ?_
  refine At.seq ?_
  refine At.region ?_
  refine At.val (Val.move rfl) rfl rfl rfl ?_
  refine At.val (Val.loadAll (i := 3) Tryd.isAgg41 Tryd.sizeOf41 rfl rfl rfl) rfl rfl rfl ?_
  refine At.callP (fun w hw => (by have := openHdrR_p p x y w; rwa [openHdr_yes ho] at this)) Tryd.call31 rfl rfl ?_
  refine At.val (Val.move rfl) rfl rfl rfl ?_
  refine At.val (Val.extract rfl rfl) rfl rfl rfl ?_
  refine At.val (Val.extract rfl rfl) rfl rfl rfl ?_
  refine At.alloc Tryd.zeroValue39 rfl rfl (fun b6 => ?_)
  refine At.storeAll (i := 0) Tryd.sizeOf39 rfl rfl rfl (by simp [Value.oneCell']) rfl rfl ?_
  simp only [List.set_cons_zero, List.set_cons_succ]
  refine At.val (Val.assign rfl) rfl rfl rfl ?_
  refine At.nil ?_
  refine At.thenN ?_
  refine At.seq ?_
  refine At.region ?_
  refine At.val (Val.loadAll (i := 1) Tryd.isAgg39 Tryd.sizeOf39 rfl rfl rfl) rfl rfl rfl ?_
  refine At.val (Val.loadAll (i := 0) Tryd.isAgg39 Tryd.sizeOf39 rfl rfl rfl) rfl rfl rfl ?_
  refine At.val (Val.eqAgg (b := true) Tryd.eqGuardType39 (fun w => by simpa using eq_39 ((x.setWidth 32).toNat : Nat) ((y.setWidth 32).toNat : Nat) ((x.setWidth 32).toNat : Nat) ((y.setWidth 32).toNat : Nat) w) rfl rfl) rfl rfl rfl ?_
  refine At.val (Val.move rfl) rfl rfl rfl ?_
  refine At.yes rfl rfl ?_
  refine At.val (Val.move rfl) rfl rfl rfl ?_
  refine At.yes rfl rfl ?_
  refine At.val (Val.move rfl) rfl rfl rfl ?_
  refine At.yes rfl rfl ?_
  refine At.val (Val.bin rfl rfl rfl) rfl rfl rfl ?_
  refine At.val (Val.pickT rfl rfl) rfl rfl rfl ?_
  refine At.val (Val.assign rfl) rfl rfl rfl ?_
  refine At.nil ?_
  refine At.thenN ?_
  refine At.retC ?_
  refine At.ret1 (.inl rfl) rfl rfl rfl (fun w hw => ?_)
  exact ⟨rfl, hw.mod⟩

theorem lawHeaders_FF (p n o : Int) (x y : BitVec 64) (w : World) (ht : Tab w) (hg : ¬ GoodH p n o) (ho : ¬ OkH p x y) :
    PureC Tryd.prog 5 [.int .i64 p, .agg #[.int .i64 n, .int .i64 o], .agg #[b64 x, b64 y]] (.bool true) w := by
  refine enter0 Tryd.func5 rfl Tryd.ntmps5 rfl ?_
  simp only [envOf]
  refine At.seq ?_
  refine At.region ?_
  refine At.box rfl rfl rfl (fun b1 => ?_)
  refine At.box rfl rfl rfl (fun b2 => ?_)
  refine At.val (Val.assign rfl) rfl rfl rfl ?_
  refine At.nil ?_
  refine At.thenN ?_
  refine At.seq ?_
  refine At.region ?_
  refine At.val (Val.move rfl) rfl rfl rfl ?_
  refine At.val (Val.loadAll (i := 1) Tryd.isAgg39 Tryd.sizeOf39 rfl rfl rfl) rfl rfl rfl ?_
  refine At.callP (fun w hw => (by have := packHdr_p p n o w (ht.mod hw.mod); rwa [packHdr_no hg] at this)) Tryd.call28 rfl rfl ?_
  refine At.val (Val.move rfl) rfl rfl rfl ?_
  refine At.val (Val.extract rfl rfl) rfl rfl rfl ?_
  refine At.val (Val.extract rfl rfl) rfl rfl rfl ?_
  refine At.alloc zero_41 zc_41 rfl (fun b3 => ?_)
  refine At.storeAll (i := 0) Tryd.sizeOf41 rfl rfl rfl (by simp [Value.oneCell']) rfl (by simp) ?_
  simp only [List.set_cons_zero, List.set_cons_succ]
  refine At.val (Val.assign rfl) rfl rfl rfl ?_
  refine At.nil ?_
  refine At.thenN ?_
  refine At.seq ?_
  refine At.region ?_
  refine At.val (Val.move rfl) rfl rfl rfl ?_
  refine At.val (Val.loadAll (i := 2) Tryd.isAgg39 Tryd.sizeOf39 rfl rfl rfl) rfl rfl rfl ?_
  refine At.callP (fun w hw => (by have := packHdrR_p p n o w; rwa [packHdr_no hg] at this)) Tryd.call29 rfl rfl ?_
  refine At.val (Val.move rfl) rfl rfl rfl ?_
  refine At.val (Val.extract rfl rfl) rfl rfl rfl ?_
  refine At.val (Val.extract rfl rfl) rfl rfl rfl ?_
  refine At.alloc zero_41 zc_41 rfl (fun b4 => ?_)
  refine At.storeAll (i := 0) Tryd.sizeOf41 rfl rfl rfl (by simp [Value.oneCell']) rfl (by simp) ?_
  simp only [List.set_cons_zero, List.set_cons_succ]
  refine At.val (Val.assign rfl) rfl rfl rfl ?_
  refine At.nil ?_
  refine At.thenN ?_
  refine At.seq ?_
  refine At.seq ?_
  refine At.region ?_
  refine At.val (Val.loadAll (i := 1) Tryd.isAgg41 Tryd.sizeOf41 rfl rfl (by simp)) rfl rfl rfl ?_
  refine At.val (Val.loadAll (i := 0) Tryd.isAgg41 Tryd.sizeOf41 rfl rfl (by simp)) rfl rfl rfl ?_
  refine At.val (Val.neAgg (b := true) Tryd.eqGuardType41 (fun w => run_same_words Tryd.underlying41 Tryd.underlying40 Tryd.isAgg40 Tryd.sizeOf40 ([(0 : BitVec 64), 0]) rfl w) rfl rfl) rfl rfl rfl ?_
  refine At.val (Val.move rfl) rfl rfl rfl ?_
  refine At.yes rfl rfl ?_
  refine At.val (Val.move rfl) rfl rfl rfl ?_
  refine At.yes rfl rfl ?_
  refine At.val (Val.move rfl) rfl rfl rfl ?_
  refine At.yes rfl rfl ?_
  refine At.val (Val.bin rfl rfl rfl) rfl rfl rfl ?_
  refine At.val (Val.pickF rfl rfl) rfl rfl rfl ?_
  refine At.nil ?_
  refine At.thenN ?_
  refine At.condF rfl ?_
  refine At.skipC ?_
  refine At.thenN ?_
  refine At.seq ?_
  refine At.region ?_
  refine At.val (Val.move rfl) rfl rfl rfl ?_
  refine At.val (Val.loadAll (i := 2) Tryd.isAgg41 Tryd.sizeOf41 rfl rfl rfl) rfl rfl rfl ?_
  refine At.callP (fun w hw => (by have := openHdr_p p x y w (ht.mod hw.mod); rwa [openHdr_no ho] at this)) Tryd.call30 rfl rfl ?_
  refine At.val (Val.move rfl) rfl rfl rfl ?_
  refine At.val (Val.extract rfl rfl) rfl rfl rfl ?_
  refine At.val (Val.extract rfl rfl) rfl rfl rfl ?_
  refine At.alloc Tryd.zeroValue39 rfl rfl (fun b5 => ?_)
  refine At.storeAll (i := 0) Tryd.sizeOf39 rfl rfl rfl (by simp [Value.oneCell']) rfl rfl ?_
  simp only [List.set_cons_zero, List.set_cons_succ]
  refine At.val (Val.assign rfl) rfl rfl rfl ?_
  refine At.nil ?_
  refine At.thenN ?_
  refine At.seq ?_
  refine At.region ?_
  refine At.val (Val.move rfl) rfl rfl rfl ?_
  refine At.val (Val.loadAll (i := 3) Tryd.isAgg41 Tryd.sizeOf41 rfl rfl rfl) rfl rfl rfl ?_
  refine At.callP (fun w hw => (by have := openHdrR_p p x y w; rwa [openHdr_no ho] at this)) Tryd.call31 rfl rfl ?_
  refine At.val (Val.move rfl) rfl rfl rfl ?_
  refine At.val (Val.extract rfl rfl) rfl rfl rfl ?_
  refine At.val (Val.extract rfl rfl) rfl rfl rfl ?_
  refine At.alloc Tryd.zeroValue39 rfl rfl (fun b6 => ?_)
  refine At.storeAll (i := 0) Tryd.sizeOf39 rfl rfl rfl (by simp [Value.oneCell']) rfl rfl ?_
  simp only [List.set_cons_zero, List.set_cons_succ]
  refine At.val (Val.assign rfl) rfl rfl rfl ?_
  refine At.nil ?_
  refine At.thenN ?_
  refine At.seq ?_
  refine At.region ?_
  refine At.val (Val.loadAll (i := 1) Tryd.isAgg39 Tryd.sizeOf39 rfl rfl rfl) rfl rfl rfl ?_
  refine At.val (Val.loadAll (i := 0) Tryd.isAgg39 Tryd.sizeOf39 rfl rfl rfl) rfl rfl rfl ?_
  refine At.val (Val.eqAgg (b := true) Tryd.eqGuardType39 (fun w => by simpa using eq_39 0 0 0 0 w) rfl rfl) rfl rfl rfl ?_
  refine At.val (Val.move rfl) rfl rfl rfl ?_
  refine At.yes rfl rfl ?_
  refine At.val (Val.move rfl) rfl rfl rfl ?_
  refine At.yes rfl rfl ?_
  refine At.val (Val.move rfl) rfl rfl rfl ?_
  refine At.yes rfl rfl ?_
  refine At.val (Val.bin rfl rfl rfl) rfl rfl rfl ?_
  refine At.val (Val.pickT rfl rfl) rfl rfl rfl ?_
  refine At.val (Val.assign rfl) rfl rfl rfl ?_
  refine At.nil ?_
  refine At.thenN ?_
  refine At.retC ?_
  refine At.ret1 (.inl rfl) rfl rfl rfl (fun w hw => ?_)
  exact ⟨rfl, hw.mod⟩


theorem lawHeaders_p (p n o : Int) (x y : BitVec 64) (w : World) (ht : Tab w) : PureC Tryd.prog 5 [.int .i64 p, .agg #[.int .i64 n, .int .i64 o], .agg #[b64 x, b64 y]] (.bool true) w := by
  by_cases hg : GoodH p n o
  · by_cases ho : OkH p x y
    · exact lawHeaders_TT p n o x y w ht hg ho
    · exact lawHeaders_TF p n o x y w ht hg ho
  · by_cases ho : OkH p x y
    · exact lawHeaders_FT p n o x y w ht hg ho
    · exact lawHeaders_FF p n o x y w ht hg ho

end Go.Proofs.YtlplkbbnpddihaaDoor
