/- Sealed words of the document; headers. -/
import Derived.Test.YtoiebgnmknbkjaaDoorB2
import Derived.Test.YtoiebgnmknbkjaaDoorA3
import Derived.Test.YtoiebgnmknbkjaaDoorB6
import Derived.Test.YtoiebgnmknbkjaaDoorB1
import Derived.Test.YtoiebgnmknbkjaaDoorPa
import Derived.Test.YtoiebgnmknbkjaaDoorWb
set_option linter.unusedVariables false
set_option linter.unusedSimpArgs false
namespace Go.Proofs.YtoiebgnmknbkjaaDoor
open Go Go.Wk
theorem sealR_p (a : Int) (v : BitVec 32) (w : World) :
    PureC Tryd.prog 94 [.int .i64 a, b32 v] (b64 (sealW (BitVec.ofInt 64 a) v)) w := by
  refine enter0 Tryd.func94 rfl Tryd.ntmps94 rfl ?_
  simp only [envOf]
  refine At.seq ?_
  refine At.region ?_
  refine At.val (Val.assign rfl) rfl rfl rfl ?_
  refine At.nil ?_
  refine At.thenN ?_
  refine At.seq ?_
  refine At.seq ?_
  refine At.region ?_
  refine At.val (Val.move rfl) rfl rfl rfl ?_
  refine At.val (Val.bin rfl rfl rfl) rfl rfl rfl ?_
  refine At.nil ?_
  refine At.thenN ?_
  refine At.cond rfl (fun h1 => ?_) (fun h1 => ?_)
  · skip
    refine At.seq ?_
    refine At.region ?_
    refine At.val (Val.assign rfl) rfl rfl rfl ?_
    refine At.nil ?_
    refine At.thenN ?_
    refine At.retC ?_
    refine At.thenR ?_
    refine At.ret1 (.inl rfl) rfl rfl rfl (fun w hw => ?_)
    exact ⟨by rw [seal_zero (by have := h1; simp at this; exact BitVec.eq_of_toNat_eq (by simpa using this))]; rfl, hw.mod⟩
  · skip
    refine At.skipC ?_
    refine At.thenN ?_
    refine At.seq ?_
    refine At.region ?_
    refine At.val (Val.assign rfl) rfl rfl rfl ?_
    refine At.nil ?_
    refine At.thenN ?_
    refine At.seq ?_
    refine At.region ?_
    refine At.val (Val.move rfl) rfl rfl rfl ?_
    refine At.val (Val.move rfl) rfl rfl rfl ?_
    refine At.val (Val.conv Tryd.underlying3 Tryd.underlying40 rfl) rfl rfl rfl ?_
    rw [wrap_u64_int]
    refine At.rowNil 5 1 ?_
    refine At.callR 0 rfl (fun w hw hr => rlay_p _ [] (BitVec.ofInt 64 a).toNat 8 w hr (by have := (BitVec.ofInt 64 a).isLt; omega) (by decide) (by decide)) Tryd.call79 rfl rfl (fun v2 => ?_)
    simp only [List.set_cons_zero, List.set_cons_succ]
    refine At.val (Val.assign rfl) rfl rfl rfl ?_
    refine At.nil ?_
    refine At.thenN ?_
    refine At.seq ?_
    refine At.region ?_
    refine At.val (Val.move rfl) rfl rfl rfl ?_
    refine At.val (Val.move rfl) rfl rfl rfl ?_
    refine At.val (Val.conv Tryd.underlying48 Tryd.underlying40 rfl) rfl rfl rfl ?_
    rw [wrap_u64 (n := (v.toNat : Int)) (by omega) (by have := v.isLt; omega)]
    refine At.callR 0 rfl (fun w hw hr => rlay_p _ ([] ++ le 8 (BitVec.ofInt 64 a).toNat) v.toNat 4 w hr (by have := v.isLt; omega) (by decide) (by simp [le_length])) Tryd.call79 rfl rfl (fun v3 => ?_)
    simp only [List.set_cons_zero, List.set_cons_succ]
    refine At.val (Val.assign rfl) rfl rfl rfl ?_
    refine At.nil ?_
    refine At.rowIs (i := 0) rfl (fun A4 c5 hv => ?_)
    subst hv
    refine At.thenN ?_
    refine At.seq ?_
    refine At.region ?_
    refine At.val (Val.move rfl) rfl rfl rfl ?_
    refine At.callP (fun w hw => rsum_n A4 ([] ++ le 8 (BitVec.ofInt 64 a).toNat ++ le 4 v.toNat) _ c5 w rfl (row_bytes (hw.row (i := 0) rfl)) (by simp [le_length])) Tryd.call106 rfl rfl ?_
    refine At.val (Val.assign rfl) rfl rfl rfl ?_
    refine At.nil ?_
    refine At.thenN ?_
    refine At.seq ?_
    refine At.region ?_
    refine At.val (Val.move rfl) rfl rfl rfl ?_
    refine At.val (Val.conv Tryd.underlying48 Tryd.underlying40 rfl) rfl rfl rfl ?_
    refine At.val (Val.bin rfl rfl rfl) rfl rfl rfl ?_
    refine At.val (Val.move rfl) rfl rfl rfl ?_
    refine At.val (Val.conv Tryd.underlying48 Tryd.underlying40 rfl) rfl rfl rfl ?_
    refine At.val (Val.bin rfl rfl rfl) rfl rfl rfl ?_
    refine At.val (Val.assign rfl) rfl rfl rfl ?_
    refine At.nil ?_
    refine At.thenN ?_
    refine At.retC ?_
    refine At.ret1 (.inl rfl) rfl rfl rfl (fun w hw => ?_)
    have hv : v ≠ 0 := by intro e; subst e; simp at h1
    have hn := seal_nat (a := (BitVec.ofInt 64 a)) hv
    have hl := (checkW (BitVec.ofInt 64 a) v).isLt
    have hl2 := v.isLt
    exact ⟨retI (by rw [show sumOn 0 ([] ++ le 8 (BitVec.ofInt 64 a).toNat ++ le 4 v.toNat) = checkW (BitVec.ofInt 64 a) v from rfl, wrap_u64 (n := ((checkW (BitVec.ofInt 64 a) v).toNat : Int)) (by omega) (by omega), wrap_u64 (n := ((checkW (BitVec.ofInt 64 a) v).toNat : Int) * 4294967296) (by omega) (by omega), wrap_u64 (n := (v.toNat : Int)) (by omega) (by omega), wrap_u64 (by omega) (by omega), hn]; omega), hw.mod⟩

theorem unsealR_p (a : Int) (x : BitVec 64) (w : World) :
    PureC Tryd.prog 101 [.int .i64 a, b64 x] (unsealV (BitVec.ofInt 64 a) x) w := by
  refine enter0 Tryd.func101 rfl Tryd.ntmps101 rfl ?_
  simp only [envOf]
  refine At.seq ?_
  refine At.region ?_
  refine At.val (Val.assign rfl) rfl rfl rfl ?_
  refine At.val (Val.assign rfl) rfl rfl rfl ?_
  refine At.nil ?_
  refine At.thenN ?_
  refine At.seq ?_
  refine At.region ?_
  refine At.val (Val.move rfl) rfl rfl rfl ?_
  refine At.val (Val.rem rfl rfl (by decide)) rfl rfl rfl ?_
  refine At.val (Val.conv Tryd.underlying40 Tryd.underlying48 rfl) rfl rfl rfl ?_
  rw [low32]
  refine At.val (Val.assign rfl) rfl rfl rfl ?_
  refine At.nil ?_
  refine At.thenN ?_
  refine At.seq ?_
  refine At.region ?_
  refine At.val (Val.move rfl) rfl rfl rfl ?_
  refine At.val (Val.move rfl) rfl rfl rfl ?_
  refine At.callP (fun w hw => sealR_p _ _ w) Tryd.call94 rfl rfl ?_
  refine At.val (Val.assign rfl) rfl rfl rfl ?_
  refine At.nil ?_
  refine At.thenN ?_
  refine At.seq ?_
  refine At.seq ?_
  refine At.region ?_
  refine At.val (Val.move rfl) rfl rfl rfl ?_
  refine At.val (Val.move rfl) rfl rfl rfl ?_
  refine At.val (Val.bin rfl rfl rfl) rfl rfl rfl ?_
  refine At.nil ?_
  refine At.thenN ?_
  refine At.cond rfl (fun h1 => ?_) (fun h1 => ?_)
  · skip
    refine At.seq ?_
    refine At.region ?_
    refine At.val (Val.assign rfl) rfl rfl rfl ?_
    refine At.val (Val.assign rfl) rfl rfl rfl ?_
    refine At.nil ?_
    refine At.thenN ?_
    refine At.retC ?_
    refine At.thenR ?_
    refine At.ret2 (.inl rfl) rfl rfl rfl rfl (fun w hw => ?_)
    exact ⟨by rw [unseal_no (bv_ne64 h1)], hw.mod⟩
  · skip
    refine At.skipC ?_
    refine At.thenN ?_
    refine At.seq ?_
    refine At.region ?_
    refine At.val (Val.move rfl) rfl rfl rfl ?_
    refine At.val (Val.assign rfl) rfl rfl rfl ?_
    refine At.val (Val.assign rfl) rfl rfl rfl ?_
    refine At.nil ?_
    refine At.thenN ?_
    refine At.retC ?_
    refine At.ret2 (.inl rfl) rfl rfl rfl rfl (fun w hw => ?_)
    exact ⟨by rw [unseal_yes (bv_eq64 h1)], hw.mod⟩

theorem held_T (a : Int) (x : BitVec 64) (why : Int) (w : World) (ht : Tab w) (hs : sealW (BitVec.ofInt 64 a) (x.setWidth 32) = x) :
    PureC Tryd.prog 97 [.int .i64 a, b64 x, .int .i64 why] (.int .i64 ((x.setWidth 32).toNat : Nat)) w := by
  refine enter0 Tryd.func97 rfl Tryd.ntmps97 rfl ?_
  simp only [envOf]
  refine At.seq ?_
  refine At.region ?_
  refine At.val (Val.assign rfl) rfl rfl rfl ?_
  refine At.nil ?_
  refine At.thenN ?_
  refine At.seq ?_
  refine At.region ?_
  refine At.val (Val.move rfl) rfl rfl rfl ?_
  refine At.val (Val.move rfl) rfl rfl rfl ?_
  refine At.callP (fun w hw => (by have := unseal_p a x w (ht.mod hw.mod); rwa [unseal_yes hs] at this)) Tryd.call123 rfl rfl ?_
  refine At.val (Val.move rfl) rfl rfl rfl ?_
  refine At.val (Val.extract rfl rfl) rfl rfl rfl ?_
  refine At.val (Val.extract rfl rfl) rfl rfl rfl ?_
  refine At.val (Val.assign rfl) rfl rfl rfl ?_
  refine At.val (Val.assign rfl) rfl rfl rfl ?_
  refine At.nil ?_
  refine At.thenN ?_
  refine At.seq ?_
  refine At.region ?_
  refine At.val (Val.move rfl) rfl rfl rfl ?_
  refine At.val (Val.bin rfl rfl rfl) rfl rfl rfl ?_
  refine At.val (Val.move rfl) rfl rfl rfl ?_
  refine At.callP (fun w hw => must_T _ w) Tryd.call84 rfl rfl ?_
  refine At.nil ?_
  refine At.thenN ?_
  refine At.seq ?_
  refine At.region ?_
  refine At.val (Val.move rfl) rfl rfl rfl ?_
  refine At.val (Val.conv Tryd.underlying48 Tryd.underlying3 rfl) rfl rfl rfl ?_
  rw [i64_32]
  refine At.val (Val.assign rfl) rfl rfl rfl ?_
  refine At.nil ?_
  refine At.thenN ?_
  refine At.retC ?_
  refine At.ret1 (.inl rfl) rfl rfl rfl (fun w hw => ?_)
  exact ⟨rfl, hw.mod⟩

theorem held_F (a : Int) (x : BitVec 64) (why : Int) (w : World) (ht : Tab w) (hs : ¬ sealW (BitVec.ofInt 64 a) (x.setWidth 32) = x) :
    Throws0 Tryd.prog 97 [.int .i64 a, b64 x, .int .i64 why] (brk 178 why) w := by
  refine enter0 Tryd.func97 rfl Tryd.ntmps97 rfl ?_
  simp only [envOf]
  refine At.seq ?_
  refine At.region ?_
  refine At.val (Val.assign rfl) rfl rfl rfl ?_
  refine At.nil ?_
  refine At.thenN ?_
  refine At.seq ?_
  refine At.region ?_
  refine At.val (Val.move rfl) rfl rfl rfl ?_
  refine At.val (Val.move rfl) rfl rfl rfl ?_
  refine At.callP (fun w hw => (by have := unseal_p a x w (ht.mod hw.mod); rwa [unseal_no hs] at this)) Tryd.call123 rfl rfl ?_
  refine At.val (Val.move rfl) rfl rfl rfl ?_
  refine At.val (Val.extract rfl rfl) rfl rfl rfl ?_
  refine At.val (Val.extract rfl rfl) rfl rfl rfl ?_
  refine At.val (Val.assign rfl) rfl rfl rfl ?_
  refine At.val (Val.assign rfl) rfl rfl rfl ?_
  refine At.nil ?_
  refine At.thenN ?_
  refine At.seq ?_
  refine At.region ?_
  refine At.val (Val.move rfl) rfl rfl rfl ?_
  refine At.val (Val.bin rfl rfl rfl) rfl rfl rfl ?_
  refine At.val (Val.move rfl) rfl rfl rfl ?_
  refine At.callT0 (fun w hw => must_F _ w) Tryd.call84 rfl ?_
  refine At.thenE ?_
  refine At.fail rfl (fun w hw => ?_)
  exact ⟨rfl, hw.mod⟩


def GoodH (p n o : Int) : Prop := 5 ≤ p ∧ p ≤ 1023 ∧ 1 ≤ o ∧ o ≤ 256 ∧ (n = 0 ∨ 5 ≤ n ∧ n ≤ 1023)
instance (p n o : Int) : Decidable (GoodH p n o) := by unfold GoodH; infer_instance
def GoodH1 (n o : Int) : Prop := 1 ≤ o ∧ o ≤ 256 ∧ (n = 0 ∨ 5 ≤ n ∧ n ≤ 1023)
instance (n o : Int) : Decidable (GoodH1 n o) := by unfold GoodH1; infer_instance
def hdr (p n o : Int) : List (BitVec 64) := [sealW (BitVec.ofInt 64 (512 * p)) (BitVec.ofInt 32 n), sealW (BitVec.ofInt 64 (512 * p + 8)) (BitVec.ofInt 32 o)]
def packHdrV (p n o : Int) : Value := if GoodH p n o then .tuple #[.agg ((hdr p n o).map b64).toArray, .int .i64 0] else .tuple #[.agg #[.int .u64 0, .int .u64 0], .int .i64 33]
theorem packHdr_yes {p n o : Int} (h : GoodH p n o) : packHdrV p n o = .tuple #[.agg ((hdr p n o).map b64).toArray, .int .i64 0] := if_pos h
theorem packHdr_no {p n o : Int} (h : ¬ GoodH p n o) : packHdrV p n o = .tuple #[.agg #[.int .u64 0, .int .u64 0], .int .i64 33] := if_neg h
theorem hdr_cells (p n o : Int) : (.agg ((hdr p n o).map b64).toArray : Value) = .agg #[b64 (sealW (BitVec.ofInt 64 (512 * p)) (BitVec.ofInt 32 n)), b64 (sealW (BitVec.ofInt 64 (512 * p + 8)) (BitVec.ofInt 32 o))] := rfl

theorem goodHdr_p (p n o : Int) (w : World) :
    PureC Tryd.prog 90 [.int .i64 p, .agg #[.int .i64 n, .int .i64 o]] (.bool (decide (GoodH p n o))) w := by
  refine enter0 Tryd.func90 rfl Tryd.ntmps90 rfl ?_
  simp only [envOf]
  refine At.seq ?_
  refine At.region ?_
  refine At.box rfl rfl rfl (fun b1 => ?_)
  refine At.val (Val.assign rfl) rfl rfl rfl ?_
  refine At.nil ?_
  refine At.thenN ?_
  refine At.seq ?_
  refine At.region ?_
  refine At.val (Val.move rfl) rfl rfl rfl ?_
  refine At.callP (fun w hw => isData_p _ w) Tryd.call96 rfl rfl ?_
  refine At.val (Val.move rfl) rfl rfl rfl ?_
  refine At.split (t := 7) rfl (fun h2 => ?_) (fun h2 => ?_)
  · skip
    try simp only [wI_T, wI_F, data_T, data_F, ino_T, ino_F, notT, notF, bneT, bneF, beqT, beqF, decT, decF] at h2
    refine At.yes rfl rfl ?_
    refine At.val (Val.field 1 rfl fo_39_1 rfl) rfl rfl rfl ?_
    refine At.yes rfl rfl ?_
    refine At.val (Val.load (i := 0) Tryd.isAgg3 rfl rfl rfl) rfl rfl rfl ?_
    refine At.yes rfl rfl ?_
    refine At.callP (fun w hw => isInode_p _ w) Tryd.call81 rfl rfl ?_
    refine At.val (Val.pickT rfl rfl) rfl rfl rfl ?_
    refine At.val (Val.move rfl) rfl rfl rfl ?_
    refine At.split (t := 12) rfl (fun h3 => ?_) (fun h3 => ?_)
    · skip
      try simp only [wI_T, wI_F, data_T, data_F, ino_T, ino_F, notT, notF, bneT, bneF, beqT, beqF, decT, decF] at h3
      refine At.yes rfl rfl ?_
      refine At.val (Val.field 0 rfl fo_39_0 rfl) rfl rfl rfl ?_
      refine At.yes rfl rfl ?_
      refine At.val (Val.load (i := 0) Tryd.isAgg3 rfl rfl rfl) rfl rfl rfl ?_
      refine At.yes rfl rfl ?_
      refine At.val (Val.bin rfl rfl rfl) rfl rfl rfl ?_
      refine At.yes rfl rfl ?_
      refine At.val (Val.move rfl) rfl rfl rfl ?_
      refine At.split (t := 16) rfl (fun h4 => ?_) (fun h4 => ?_)
      · skip
        try simp only [wI_T, wI_F, data_T, data_F, ino_T, ino_F, notT, notF, bneT, bneF, beqT, beqF, decT, decF] at h4
        refine At.no rfl rfl rfl rfl ?_
        refine At.no rfl rfl rfl rfl ?_
        refine At.no rfl rfl rfl rfl ?_
        refine At.yes rfl rfl ?_
        refine At.val (Val.pickT rfl rfl) rfl rfl rfl ?_
        refine At.val (Val.pickT rfl rfl) rfl rfl rfl ?_
        refine At.val (Val.assign rfl) rfl rfl rfl ?_
        refine At.nil ?_
        refine At.thenN ?_
        refine At.retC ?_
        refine At.ret1 (.inl rfl) rfl rfl rfl (fun w hw => ?_)
        exact ⟨retB (by first | exact (decide_eq_true (by unfold GoodH; omega)).symm | exact (decide_eq_false (by unfold GoodH; omega)).symm | (apply Bool.eq_iff_iff.2; simp only [decide_eq_true_eq, data_T, ino_T]; unfold GoodH; omega)), hw.mod⟩
      · skip
        try simp only [wI_T, wI_F, data_T, data_F, ino_T, ino_F, notT, notF, bneT, bneF, beqT, beqF, decT, decF] at h4
        refine At.yes rfl rfl ?_
        refine At.val (Val.field 0 rfl fo_39_0 rfl) rfl rfl rfl ?_
        refine At.yes rfl rfl ?_
        refine At.val (Val.load (i := 0) Tryd.isAgg3 rfl rfl rfl) rfl rfl rfl ?_
        refine At.yes rfl rfl ?_
        refine At.callP (fun w hw => isData_p _ w) Tryd.call96 rfl rfl ?_
        refine At.yes rfl rfl ?_
        refine At.val (Val.pickF rfl rfl) rfl rfl rfl ?_
        refine At.val (Val.pickT rfl rfl) rfl rfl rfl ?_
        refine At.val (Val.assign rfl) rfl rfl rfl ?_
        refine At.nil ?_
        refine At.thenN ?_
        refine At.retC ?_
        refine At.ret1 (.inl rfl) rfl rfl rfl (fun w hw => ?_)
        exact ⟨retB (by first | exact (decide_eq_true (by unfold GoodH; omega)).symm | exact (decide_eq_false (by unfold GoodH; omega)).symm | (apply Bool.eq_iff_iff.2; simp only [decide_eq_true_eq, data_T, ino_T]; unfold GoodH; omega)), hw.mod⟩
    · skip
      try simp only [wI_T, wI_F, data_T, data_F, ino_T, ino_F, notT, notF, bneT, bneF, beqT, beqF, decT, decF] at h3
      refine At.no rfl rfl rfl rfl ?_
      refine At.no rfl rfl rfl rfl ?_
      refine At.no rfl rfl rfl rfl ?_
      refine At.no rfl rfl rfl rfl ?_
      refine At.noU rfl rfl rfl ?_
      refine At.noU rfl rfl rfl ?_
      refine At.noU rfl rfl rfl ?_
      refine At.no rfl rfl rfl rfl ?_
      refine At.val (Val.pickF rfl rfl) rfl rfl rfl ?_
      refine At.val (Val.assign rfl) rfl rfl rfl ?_
      refine At.nil ?_
      refine At.thenN ?_
      refine At.retC ?_
      refine At.ret1 (.inl rfl) rfl rfl rfl (fun w hw => ?_)
      exact ⟨retB (by first | exact (decide_eq_true (by unfold GoodH; omega)).symm | exact (decide_eq_false (by unfold GoodH; omega)).symm | (apply Bool.eq_iff_iff.2; simp only [decide_eq_true_eq, data_T, ino_T]; unfold GoodH; omega)), hw.mod⟩
  · skip
    try simp only [wI_T, wI_F, data_T, data_F, ino_T, ino_F, notT, notF, bneT, bneF, beqT, beqF, decT, decF] at h2
    refine At.no rfl rfl rfl rfl ?_
    refine At.no rfl rfl rfl rfl ?_
    refine At.no rfl rfl rfl rfl ?_
    refine At.val (Val.pickF rfl rfl) rfl rfl rfl ?_
    refine At.val (Val.move rfl) rfl rfl rfl ?_
    refine At.no rfl rfl rfl rfl ?_
    refine At.no rfl rfl rfl rfl ?_
    refine At.no rfl rfl rfl rfl ?_
    refine At.no rfl rfl rfl rfl ?_
    refine At.noU rfl rfl rfl ?_
    refine At.noU rfl rfl rfl ?_
    refine At.noU rfl rfl rfl ?_
    refine At.no rfl rfl rfl rfl ?_
    refine At.val (Val.pickF rfl rfl) rfl rfl rfl ?_
    refine At.val (Val.assign rfl) rfl rfl rfl ?_
    refine At.nil ?_
    refine At.thenN ?_
    refine At.retC ?_
    refine At.ret1 (.inl rfl) rfl rfl rfl (fun w hw => ?_)
    exact ⟨retB (by first | exact (decide_eq_true (by unfold GoodH; omega)).symm | exact (decide_eq_false (by unfold GoodH; omega)).symm | (apply Bool.eq_iff_iff.2; simp only [decide_eq_true_eq, data_T, ino_T]; unfold GoodH; omega)), hw.mod⟩

theorem goodHdrR_p (n o : Int) (w : World) :
    PureC Tryd.prog 93 [.agg #[.int .i64 n, .int .i64 o]] (.bool (decide (GoodH1 n o))) w := by
  refine enter0 Tryd.func93 rfl Tryd.ntmps93 rfl ?_
  simp only [envOf]
  refine At.seq ?_
  refine At.region ?_
  refine At.box rfl rfl rfl (fun b1 => ?_)
  refine At.val (Val.assign rfl) rfl rfl rfl ?_
  refine At.nil ?_
  refine At.thenN ?_
  refine At.seq ?_
  refine At.region ?_
  refine At.val (Val.field 1 rfl fo_39_1 rfl) rfl rfl rfl ?_
  refine At.val (Val.load (i := 0) Tryd.isAgg3 rfl rfl rfl) rfl rfl rfl ?_
  refine At.callP (fun w hw => inodeR_p _ w) Tryd.call82 rfl rfl ?_
  refine At.val (Val.move rfl) rfl rfl rfl ?_
  refine At.split (t := 6) rfl (fun h2 => ?_) (fun h2 => ?_)
  · skip
    try simp only [wI_T, wI_F, data_T, data_F, ino_T, ino_F, notT, notF, bneT, bneF, beqT, beqF, decT, decF] at h2
    refine At.yes rfl rfl ?_
    refine At.val (Val.field 0 rfl fo_39_0 rfl) rfl rfl rfl ?_
    refine At.yes rfl rfl ?_
    refine At.val (Val.load (i := 0) Tryd.isAgg3 rfl rfl rfl) rfl rfl rfl ?_
    refine At.yes rfl rfl ?_
    refine At.val (Val.bin rfl rfl rfl) rfl rfl rfl ?_
    refine At.yes rfl rfl ?_
    refine At.val (Val.move rfl) rfl rfl rfl ?_
    refine At.split (t := 10) rfl (fun h3 => ?_) (fun h3 => ?_)
    · skip
      try simp only [wI_T, wI_F, data_T, data_F, ino_T, ino_F, notT, notF, bneT, bneF, beqT, beqF, decT, decF] at h3
      refine At.no rfl rfl rfl rfl ?_
      refine At.no rfl rfl rfl rfl ?_
      refine At.no rfl rfl rfl rfl ?_
      refine At.yes rfl rfl ?_
      refine At.val (Val.pickT rfl rfl) rfl rfl rfl ?_
      refine At.val (Val.pickT rfl rfl) rfl rfl rfl ?_
      refine At.val (Val.assign rfl) rfl rfl rfl ?_
      refine At.nil ?_
      refine At.thenN ?_
      refine At.retC ?_
      refine At.ret1 (.inl rfl) rfl rfl rfl (fun w hw => ?_)
      exact ⟨retB (by first | exact (decide_eq_true (by unfold GoodH1; omega)).symm | exact (decide_eq_false (by unfold GoodH1; omega)).symm | (apply Bool.eq_iff_iff.2; simp only [decide_eq_true_eq, data_T, ino_T]; unfold GoodH1; omega)), hw.mod⟩
    · skip
      try simp only [wI_T, wI_F, data_T, data_F, ino_T, ino_F, notT, notF, bneT, bneF, beqT, beqF, decT, decF] at h3
      refine At.yes rfl rfl ?_
      refine At.val (Val.field 0 rfl fo_39_0 rfl) rfl rfl rfl ?_
      refine At.yes rfl rfl ?_
      refine At.val (Val.load (i := 0) Tryd.isAgg3 rfl rfl rfl) rfl rfl rfl ?_
      refine At.yes rfl rfl ?_
      refine At.callP (fun w hw => dataR_p _ w) Tryd.call92 rfl rfl ?_
      refine At.yes rfl rfl ?_
      refine At.val (Val.pickF rfl rfl) rfl rfl rfl ?_
      refine At.val (Val.pickT rfl rfl) rfl rfl rfl ?_
      refine At.val (Val.assign rfl) rfl rfl rfl ?_
      refine At.nil ?_
      refine At.thenN ?_
      refine At.retC ?_
      refine At.ret1 (.inl rfl) rfl rfl rfl (fun w hw => ?_)
      exact ⟨retB (by first | exact (decide_eq_true (by unfold GoodH1; omega)).symm | exact (decide_eq_false (by unfold GoodH1; omega)).symm | (apply Bool.eq_iff_iff.2; simp only [decide_eq_true_eq, data_T, ino_T]; unfold GoodH1; omega)), hw.mod⟩
  · skip
    try simp only [wI_T, wI_F, data_T, data_F, ino_T, ino_F, notT, notF, bneT, bneF, beqT, beqF, decT, decF] at h2
    refine At.no rfl rfl rfl rfl ?_
    refine At.no rfl rfl rfl rfl ?_
    refine At.no rfl rfl rfl rfl ?_
    refine At.no rfl rfl rfl rfl ?_
    refine At.noU rfl rfl rfl ?_
    refine At.noU rfl rfl rfl ?_
    refine At.noU rfl rfl rfl ?_
    refine At.no rfl rfl rfl rfl ?_
    refine At.val (Val.pickF rfl rfl) rfl rfl rfl ?_
    refine At.val (Val.assign rfl) rfl rfl rfl ?_
    refine At.nil ?_
    refine At.thenN ?_
    refine At.retC ?_
    refine At.ret1 (.inl rfl) rfl rfl rfl (fun w hw => ?_)
    exact ⟨retB (by first | exact (decide_eq_true (by unfold GoodH1; omega)).symm | exact (decide_eq_false (by unfold GoodH1; omega)).symm | (apply Bool.eq_iff_iff.2; simp only [decide_eq_true_eq, data_T, ino_T]; unfold GoodH1; omega)), hw.mod⟩

theorem packHdr_p (p n o : Int) (w : World) (ht : Tab w) :
    PureC Tryd.prog 28 [.int .i64 p, .agg #[.int .i64 n, .int .i64 o]] (packHdrV p n o) w := by
  refine enter0 Tryd.func28 rfl Tryd.ntmps28 rfl ?_
  simp only [envOf]
  refine At.seq ?_
  refine At.region ?_
  refine At.box rfl rfl rfl (fun b1 => ?_)
  refine At.alloc zero_41 zc_41 rfl (fun b2 => ?_)
  refine At.val (Val.assign rfl) rfl rfl rfl ?_
  refine At.nil ?_
  refine At.thenN ?_
  refine At.seq ?_
  refine At.seq ?_
  refine At.region ?_
  refine At.val (Val.move rfl) rfl rfl rfl ?_
  refine At.val (Val.loadAll (i := 1) Tryd.isAgg39 Tryd.sizeOf39 rfl rfl rfl) rfl rfl rfl ?_
  refine At.callP (fun w hw => goodHdr_p _ _ _ w) Tryd.call90 rfl rfl ?_
  refine At.val (Val.not rfl) rfl rfl rfl ?_
  refine At.nil ?_
  refine At.thenN ?_
  refine At.cond rfl (fun h3 => ?_) (fun h3 => ?_)
  · skip
    have hg : ¬ GoodH p n o := by simpa using h3
    refine At.seq ?_
    refine At.region ?_
    refine At.val (Val.build (fun a ha => by simp only [List.map_toArray, List.map_cons, List.map_nil] <;> rfl) (bld_41_)) rfl rfl rfl ?_
    refine At.storeAll (i := 0) Tryd.sizeOf41 rfl rfl rfl (by simp [Value.oneCell']) rfl (by simp) ?_
    simp only [List.set_cons_zero, List.set_cons_succ]
    refine At.val (Val.assign rfl) rfl rfl rfl ?_
    refine At.nil ?_
    refine At.thenN ?_
    refine At.retC ?_
    refine At.thenR ?_
    refine At.ret2 (.inl rfl) rfl rfl (ResOf.all (i := 0) Tryd.isAgg41 Tryd.sizeOf41 rfl rfl (by simp)) rfl (fun w hw => ?_)
    exact ⟨by rw [packHdr_no hg], hw.mod⟩
  · skip
    have hg : GoodH p n o := by simpa using h3
    have hg' := hg
    unfold GoodH at hg'
    refine At.skipC ?_
    refine At.thenN ?_
    refine At.seq ?_
    refine At.region ?_
    refine At.val (Val.move rfl) rfl rfl rfl ?_
    refine At.val (Val.bin rfl rfl rfl) rfl rfl rfl ?_
    rw [wrap_i64 (n := p * 512) (by omega) (by omega), Int.mul_comm p 512]
    refine At.val (Val.assign rfl) rfl rfl rfl ?_
    refine At.nil ?_
    refine At.thenN ?_
    refine At.seq ?_
    refine At.tail 12 rfl (by decide +kernel) ?_
    simp only [List.take_succ_cons, List.take_zero, List.drop_succ_cons, List.drop_zero]
    refine QAt.val (Val.move rfl) rfl rfl rfl ?_
    refine QAt.val (Val.field 0 rfl fo_39_0 rfl) rfl rfl rfl ?_
    refine QAt.val (Val.load (i := 1) Tryd.isAgg3 rfl rfl rfl) rfl rfl rfl ?_
    refine QAt.val (Val.conv Tryd.underlying3 Tryd.underlying48 rfl) rfl rfl rfl ?_
    rw [wrap_u32_int n]
    refine QAt.callP (fun w hw => seal_p (512 * p) (BitVec.ofInt 32 n) w (ht.mod hw.mod)) Tryd.call91 rfl rfl ?_
    refine QAt.val (Val.move rfl) rfl rfl rfl ?_
    refine QAt.val (Val.bin rfl rfl rfl) rfl rfl rfl ?_
    rw [wrap_i64 (n := 512 * p + 8) (by omega) (by omega)]
    refine QAt.val (Val.field 1 rfl fo_39_1 rfl) rfl rfl rfl ?_
    refine QAt.val (Val.load (i := 1) Tryd.isAgg3 rfl rfl rfl) rfl rfl rfl ?_
    refine QAt.val (Val.conv Tryd.underlying3 Tryd.underlying48 rfl) rfl rfl rfl ?_
    rw [wrap_u32_int o]
    refine QAt.callP (fun w hw => seal_p (512 * p + 8) (BitVec.ofInt 32 o) w (ht.mod hw.mod)) Tryd.call91 rfl rfl ?_
    refine QAt.val (Val.build (fun a ha => by simp only [List.map_toArray, List.map_cons, List.map_nil, ha.eval (x := (.tmp 18)) rfl, ha.eval (x := (.tmp 24)) rfl] <;> rfl) (bld_41_0_1 _ _ )) rfl rfl rfl ?_
    refine QAt.fin ?_
    refine At.storeAll (i := 0) Tryd.sizeOf41 rfl rfl rfl (by simp [Value.oneCell']) rfl (by simp) ?_
    simp only [List.set_cons_zero, List.set_cons_succ]
    refine At.val (Val.assign rfl) rfl rfl rfl ?_
    refine At.nil ?_
    refine At.thenN ?_
    refine At.retC ?_
    refine At.ret2 (.inl rfl) rfl rfl (ResOf.all (i := 0) Tryd.isAgg41 Tryd.sizeOf41 rfl rfl (by simp)) rfl (fun w hw => ?_)
    exact ⟨by rw [packHdr_yes hg, hdr_cells], hw.mod⟩

theorem packHdrR_p (p n o : Int) (w : World) :
    PureC Tryd.prog 29 [.int .i64 p, .agg #[.int .i64 n, .int .i64 o]] (packHdrV p n o) w := by
  refine enter0 Tryd.func29 rfl Tryd.ntmps29 rfl ?_
  simp only [envOf]
  refine At.seq ?_
  refine At.region ?_
  refine At.box rfl rfl rfl (fun b1 => ?_)
  refine At.alloc zero_41 zc_41 rfl (fun b2 => ?_)
  refine At.val (Val.assign rfl) rfl rfl rfl ?_
  refine At.nil ?_
  refine At.thenN ?_
  refine At.seq ?_
  refine At.seq ?_
  refine At.region ?_
  refine At.val (Val.move rfl) rfl rfl rfl ?_
  refine At.callP (fun w hw => dataR_p _ w) Tryd.call92 rfl rfl ?_
  refine At.val (Val.not rfl) rfl rfl rfl ?_
  refine At.val (Val.move rfl) rfl rfl rfl ?_
  refine At.split (t := 10) rfl (fun h3 => ?_) (fun h3 => ?_)
  · skip
    try simp only [wI_T, wI_F, data_T, data_F, ino_T, ino_F, notT, notF, bneT, bneF, beqT, beqF, decT, decF] at h3
    refine At.no rfl rfl rfl rfl ?_
    refine At.no rfl rfl rfl rfl ?_
    refine At.no rfl rfl rfl rfl ?_
    refine At.val (Val.pickT rfl rfl) rfl rfl rfl ?_
    refine At.nil ?_
    refine At.thenN ?_
    refine At.condT rfl ?_
    refine At.seq ?_
    refine At.region ?_
    refine At.val (Val.build (fun a ha => by simp only [List.map_toArray, List.map_cons, List.map_nil] <;> rfl) (bld_41_)) rfl rfl rfl ?_
    refine At.storeAll (i := 0) Tryd.sizeOf41 rfl rfl rfl (by simp [Value.oneCell']) rfl (by simp) ?_
    simp only [List.set_cons_zero, List.set_cons_succ]
    refine At.val (Val.assign rfl) rfl rfl rfl ?_
    refine At.nil ?_
    refine At.thenN ?_
    refine At.retC ?_
    refine At.thenR ?_
    refine At.ret2 (.inl rfl) rfl rfl (ResOf.all (i := 0) Tryd.isAgg41 Tryd.sizeOf41 rfl rfl (by simp)) rfl (fun w hw => ?_)
    exact ⟨by rw [packHdr_no (by unfold GoodH; omega)], hw.mod⟩
  · skip
    try simp only [wI_T, wI_F, data_T, data_F, ino_T, ino_F, notT, notF, bneT, bneF, beqT, beqF, decT, decF] at h3
    refine At.yes rfl rfl ?_
    refine At.val (Val.loadAll (i := 1) Tryd.isAgg39 Tryd.sizeOf39 rfl rfl rfl) rfl rfl rfl ?_
    refine At.yes rfl rfl ?_
    refine At.callP (fun w hw => goodHdrR_p _ _ w) Tryd.call93 rfl rfl ?_
    refine At.yes rfl rfl ?_
    refine At.val (Val.not rfl) rfl rfl rfl ?_
    refine At.val (Val.pickF rfl rfl) rfl rfl rfl ?_
    refine At.nil ?_
    refine At.thenN ?_
    refine At.cond rfl (fun h4 => ?_) (fun h4 => ?_)
    · skip
      try simp only [wI_T, wI_F, data_T, data_F, ino_T, ino_F, notT, notF, bneT, bneF, beqT, beqF, decT, decF] at h4
      have hg : ¬ GoodH p n o := by unfold GoodH; unfold GoodH1 at *; omega
      refine At.seq ?_
      refine At.region ?_
      refine At.val (Val.build (fun a ha => by simp only [List.map_toArray, List.map_cons, List.map_nil] <;> rfl) (bld_41_)) rfl rfl rfl ?_
      refine At.storeAll (i := 0) Tryd.sizeOf41 rfl rfl rfl (by simp [Value.oneCell']) rfl (by simp) ?_
      simp only [List.set_cons_zero, List.set_cons_succ]
      refine At.val (Val.assign rfl) rfl rfl rfl ?_
      refine At.nil ?_
      refine At.thenN ?_
      refine At.retC ?_
      refine At.thenR ?_
      refine At.ret2 (.inl rfl) rfl rfl (ResOf.all (i := 0) Tryd.isAgg41 Tryd.sizeOf41 rfl rfl (by simp)) rfl (fun w hw => ?_)
      exact ⟨by rw [packHdr_no hg], hw.mod⟩
    · skip
      try simp only [wI_T, wI_F, data_T, data_F, ino_T, ino_F, notT, notF, bneT, bneF, beqT, beqF, decT, decF] at h4
      have hg : GoodH p n o := by unfold GoodH; unfold GoodH1 at *; omega
      have hg' := hg
      unfold GoodH at hg'
      refine At.skipC ?_
      refine At.thenN ?_
      refine At.seq ?_
      refine At.region ?_
      refine At.alloc zero_41 zc_41 rfl (fun b5 => ?_)
      refine At.nil ?_
      refine At.thenN ?_
      refine At.seq ?_
      refine At.region ?_
      refine At.val (Val.move rfl) rfl rfl rfl ?_
      refine At.val (Val.bin rfl rfl rfl) rfl rfl rfl ?_
      rw [wrap_i64 (n := 512 * p) (by omega) (by omega)]
      refine At.val (Val.field 0 rfl fo_39_0 rfl) rfl rfl rfl ?_
      refine At.val (Val.load (i := 2) Tryd.isAgg3 rfl rfl rfl) rfl rfl rfl ?_
      refine At.val (Val.conv Tryd.underlying3 Tryd.underlying48 rfl) rfl rfl rfl ?_
      rw [wrap_u32_int n]
      refine At.callP (fun w hw => sealR_p (512 * p) (BitVec.ofInt 32 n) w) Tryd.call94 rfl rfl ?_
      refine At.val (Val.indexArr 0 rfl Tryd.underlying41 Tryd.sizeOf40 rfl rfl (by decide) (by decide)) rfl rfl rfl ?_
      refine At.store (i := 0) Tryd.sizeOf40 rfl rfl rfl rfl (by first | (simp; done) | (simp; omega)) ?_
      simp only [List.set_cons_zero, List.set_cons_succ]
      refine At.nil ?_
      refine At.thenN ?_
      refine At.seq ?_
      refine At.region ?_
      refine At.val (Val.move rfl) rfl rfl rfl ?_
      refine At.val (Val.bin rfl rfl rfl) rfl rfl rfl ?_
      rw [wrap_i64 (n := 512 * p) (by omega) (by omega)]
      refine At.val (Val.bin rfl rfl rfl) rfl rfl rfl ?_
      rw [wrap_i64 (n := 512 * p + 8) (by omega) (by omega)]
      refine At.val (Val.field 1 rfl fo_39_1 rfl) rfl rfl rfl ?_
      refine At.val (Val.load (i := 2) Tryd.isAgg3 rfl rfl rfl) rfl rfl rfl ?_
      refine At.val (Val.conv Tryd.underlying3 Tryd.underlying48 rfl) rfl rfl rfl ?_
      rw [wrap_u32_int o]
      refine At.callP (fun w hw => sealR_p (512 * p + 8) (BitVec.ofInt 32 o) w) Tryd.call94 rfl rfl ?_
      refine At.val (Val.indexArr 1 rfl Tryd.underlying41 Tryd.sizeOf40 rfl rfl (by decide) (by decide)) rfl rfl rfl ?_
      refine At.store (i := 0) Tryd.sizeOf40 rfl rfl rfl rfl (by first | (simp; done) | (simp; omega)) ?_
      simp only [List.set_cons_zero, List.set_cons_succ]
      refine At.nil ?_
      refine At.thenN ?_
      refine At.seq ?_
      refine At.region ?_
      refine At.val (Val.loadAll (i := 0) Tryd.isAgg41 Tryd.sizeOf41 rfl rfl (by simp)) rfl rfl rfl ?_
      refine At.storeAll (i := 1) Tryd.sizeOf41 rfl rfl (by simp) (by simp [Value.oneCell']) rfl (by simp) ?_
      simp only [List.set_cons_zero, List.set_cons_succ]
      refine At.val (Val.assign rfl) rfl rfl rfl ?_
      refine At.nil ?_
      refine At.thenN ?_
      refine At.retC ?_
      refine At.ret2 (.inl rfl) rfl rfl (ResOf.all (i := 1) Tryd.isAgg41 Tryd.sizeOf41 rfl rfl (by simp)) rfl (fun w hw => ?_)
      exact ⟨by rw [packHdr_yes hg, hdr_cells]; rfl, hw.mod⟩

end Go.Proofs.YtoiebgnmknbkjaaDoor
