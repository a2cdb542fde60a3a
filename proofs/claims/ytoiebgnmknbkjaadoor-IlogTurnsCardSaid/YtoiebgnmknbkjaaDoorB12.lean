/- Good slots. -/
import Derived.Test.YtoiebgnmknbkjaaDoorB2
import Derived.Test.YtoiebgnmknbkjaaDoorWb
set_option linter.unusedVariables false
set_option linter.unusedSimpArgs false
namespace Go.Proofs.YtoiebgnmknbkjaaDoor
open Go Go.Wk

def GoodT (t : Int) : Prop := 0 < t ∧ t % 64 = 0 ∧ 5 ≤ (t - 1) / 512 ∧ (t - 1) / 512 ≤ 1023 ∧ 64 ≤ (t - 1) % 512
instance (t : Int) : Decidable (GoodT t) := by unfold GoodT; infer_instance
def GoodU (k l h t : Int) : Prop := (k = 1 ∧ 1 ≤ l ∧ l ≤ 100 ∨ k = 2 ∧ l = 1) ∧ (t = 0 ∧ h = 0 ∨ t ≠ 0 ∧ GoodT t ∧ 5 ≤ h ∧ h ≤ 1023)
instance (k l h t : Int) : Decidable (GoodU k l h t) := by unfold GoodU; infer_instance
def GoodS (k l h t : Int) : Prop := k = 0 ∧ l = 0 ∧ h = 0 ∧ t = 0 ∨ GoodU k l h t
instance (k l h t : Int) : Decidable (GoodS k l h t) := by unfold GoodS; infer_instance

theorem goodTail_p (t : Int) (w : World) (hb : -9223372036854775808 ≤ t ∧ t ≤ 9223372036854775807) :
    PureC Tryd.prog 124 [.int .i64 t] (.bool (decide (GoodT t))) w := by
  refine enter0 Tryd.func124 rfl Tryd.ntmps124 rfl ?_
  have e64 := @tmod_nn t 64
  have d512 := @tdiv_nn (t - 1) 512
  have m512 := @tmod_nn (t - 1) 512
  simp only [envOf]
  refine At.seq ?_
  refine At.region ?_
  refine At.val (Val.assign rfl) rfl rfl rfl ?_
  refine At.nil ?_
  refine At.thenN ?_
  refine At.seq ?_
  refine At.region ?_
  refine At.val (Val.move rfl) rfl rfl rfl ?_
  refine At.val (Val.bin rfl rfl rfl) rfl rfl rfl ?_
  refine At.val (Val.move rfl) rfl rfl rfl ?_
  refine At.split (t := 5) rfl (fun h1 => ?_) (fun h1 => ?_)
  · skip
    try simp only [wI_T, wI_F, data_T, data_F, ino_T, ino_F, notT, notF, bneT, bneF, beqT, beqF, decT, decF] at h1
    refine At.yes rfl rfl ?_
    refine At.val (Val.move rfl) rfl rfl rfl ?_
    refine At.yes rfl rfl ?_
    refine At.val (Val.rem rfl rfl (by decide)) rfl rfl rfl ?_
    refine At.yes rfl rfl ?_
    refine At.val (Val.bin rfl rfl rfl) rfl rfl rfl ?_
    refine At.val (Val.pickT rfl rfl) rfl rfl rfl ?_
    refine At.val (Val.move rfl) rfl rfl rfl ?_
    refine At.split (t := 10) rfl (fun h2 => ?_) (fun h2 => ?_)
    · skip
      try simp only [wI_T, wI_F, data_T, data_F, ino_T, ino_F, notT, notF, bneT, bneF, beqT, beqF, decT, decF] at h2
      refine At.yes rfl rfl ?_
      refine At.val (Val.move rfl) rfl rfl rfl ?_
      refine At.yes rfl rfl ?_
      refine At.val (Val.bin rfl rfl rfl) rfl rfl rfl ?_
      rw [wrap_i64 (n := t - 1) (by omega) (by omega)]
      refine At.yes rfl rfl ?_
      refine At.val (Val.quo rfl rfl (by decide)) rfl rfl rfl ?_
      rw [tdiv_nn _ (by omega), wrap_i64 (n := (t - 1) / 512) (by omega) (by omega)]
      refine At.yes rfl rfl ?_
      refine At.callP (fun w hw => isData_p _ w) Tryd.call96 rfl rfl ?_
      refine At.val (Val.pickT rfl rfl) rfl rfl rfl ?_
      refine At.val (Val.move rfl) rfl rfl rfl ?_
      refine At.split (t := 16) rfl (fun h3 => ?_) (fun h3 => ?_)
      · skip
        try simp only [wI_T, wI_F, data_T, data_F, ino_T, ino_F, notT, notF, bneT, bneF, beqT, beqF, decT, decF] at h3
        refine At.yes rfl rfl ?_
        refine At.val (Val.move rfl) rfl rfl rfl ?_
        refine At.yes rfl rfl ?_
        refine At.val (Val.bin rfl rfl rfl) rfl rfl rfl ?_
        rw [wrap_i64 (n := t - 1) (by omega) (by omega)]
        refine At.yes rfl rfl ?_
        refine At.val (Val.rem rfl rfl (by decide)) rfl rfl rfl ?_
        refine At.yes rfl rfl ?_
        refine At.val (Val.bin rfl rfl rfl) rfl rfl rfl ?_
        refine At.val (Val.pickT rfl rfl) rfl rfl rfl ?_
        refine At.val (Val.assign rfl) rfl rfl rfl ?_
        refine At.nil ?_
        refine At.thenN ?_
        refine At.retC ?_
        refine At.ret1 (.inl rfl) rfl rfl rfl (fun w hw => ?_)
        exact ⟨retB (by first | exact (decide_eq_true (by unfold GoodT; omega)).symm | exact (decide_eq_false (by unfold GoodT; omega)).symm | (apply Bool.eq_iff_iff.2; simp only [decide_eq_true_eq, data_T, beq_iff_eq]; unfold GoodT; omega)), hw.mod⟩
      · skip
        try simp only [wI_T, wI_F, data_T, data_F, ino_T, ino_F, notT, notF, bneT, bneF, beqT, beqF, decT, decF] at h3
        refine At.no rfl rfl rfl rfl ?_
        refine At.no rfl rfl rfl rfl ?_
        refine At.no rfl rfl rfl rfl ?_
        refine At.no rfl rfl rfl rfl ?_
        refine At.val (Val.pickF rfl rfl) rfl rfl rfl ?_
        refine At.val (Val.assign rfl) rfl rfl rfl ?_
        refine At.nil ?_
        refine At.thenN ?_
        refine At.retC ?_
        refine At.ret1 (.inl rfl) rfl rfl rfl (fun w hw => ?_)
        exact ⟨retB (by first | exact (decide_eq_true (by unfold GoodT; omega)).symm | exact (decide_eq_false (by unfold GoodT; omega)).symm | (apply Bool.eq_iff_iff.2; simp only [decide_eq_true_eq, data_T, beq_iff_eq]; unfold GoodT; omega)), hw.mod⟩
    · skip
      try simp only [wI_T, wI_F, data_T, data_F, ino_T, ino_F, notT, notF, bneT, bneF, beqT, beqF, decT, decF] at h2
      refine At.no rfl rfl rfl rfl ?_
      refine At.no rfl rfl rfl rfl ?_
      refine At.no rfl rfl rfl rfl ?_
      refine At.no rfl rfl rfl rfl ?_
      refine At.val (Val.pickF rfl rfl) rfl rfl rfl ?_
      refine At.val (Val.move rfl) rfl rfl rfl ?_
      refine At.no rfl rfl rfl rfl ?_
      refine At.no rfl rfl rfl rfl ?_
      refine At.no rfl rfl rfl rfl ?_
      refine At.no rfl rfl rfl rfl ?_
      refine At.val (Val.pickF rfl rfl) rfl rfl rfl ?_
      refine At.val (Val.assign rfl) rfl rfl rfl ?_
      refine At.nil ?_
      refine At.thenN ?_
      refine At.retC ?_
      refine At.ret1 (.inl rfl) rfl rfl rfl (fun w hw => ?_)
      exact ⟨retB (by first | exact (decide_eq_true (by unfold GoodT; omega)).symm | exact (decide_eq_false (by unfold GoodT; omega)).symm | (apply Bool.eq_iff_iff.2; simp only [decide_eq_true_eq, data_T, beq_iff_eq]; unfold GoodT; omega)), hw.mod⟩
  · skip
    try simp only [wI_T, wI_F, data_T, data_F, ino_T, ino_F, notT, notF, bneT, bneF, beqT, beqF, decT, decF] at h1
    refine At.no rfl rfl rfl rfl ?_
    refine At.no rfl rfl rfl rfl ?_
    refine At.no rfl rfl rfl rfl ?_
    refine At.val (Val.pickF rfl rfl) rfl rfl rfl ?_
    refine At.val (Val.move rfl) rfl rfl rfl ?_
    refine At.no rfl rfl rfl rfl ?_
    refine At.no rfl rfl rfl rfl ?_
    refine At.no rfl rfl rfl rfl ?_
    refine At.no rfl rfl rfl rfl ?_
    refine At.val (Val.pickF rfl rfl) rfl rfl rfl ?_
    refine At.val (Val.move rfl) rfl rfl rfl ?_
    refine At.no rfl rfl rfl rfl ?_
    refine At.no rfl rfl rfl rfl ?_
    refine At.no rfl rfl rfl rfl ?_
    refine At.no rfl rfl rfl rfl ?_
    refine At.val (Val.pickF rfl rfl) rfl rfl rfl ?_
    refine At.val (Val.assign rfl) rfl rfl rfl ?_
    refine At.nil ?_
    refine At.thenN ?_
    refine At.retC ?_
    refine At.ret1 (.inl rfl) rfl rfl rfl (fun w hw => ?_)
    exact ⟨retB (by first | exact (decide_eq_true (by unfold GoodT; omega)).symm | exact (decide_eq_false (by unfold GoodT; omega)).symm | (apply Bool.eq_iff_iff.2; simp only [decide_eq_true_eq, data_T, beq_iff_eq]; unfold GoodT; omega)), hw.mod⟩

theorem goodTailR_p (t : Int) (w : World) (hb : -9223372036854775808 ≤ t ∧ t ≤ 9223372036854775807) :
    PureC Tryd.prog 120 [.int .i64 t] (.bool (decide (GoodT t))) w := by
  refine enter0 Tryd.func120 rfl Tryd.ntmps120 rfl ?_
  have e64 := @tmod_nn t 64
  have d512 := @tdiv_nn (t - 1) 512
  have m512 := @tmod_nn (t - 1) 512
  simp only [envOf]
  refine At.seq ?_
  refine At.region ?_
  refine At.val (Val.assign rfl) rfl rfl rfl ?_
  refine At.nil ?_
  refine At.thenN ?_
  refine At.seq ?_
  refine At.seq ?_
  refine At.region ?_
  refine At.val (Val.move rfl) rfl rfl rfl ?_
  refine At.val (Val.bin rfl rfl rfl) rfl rfl rfl ?_
  refine At.val (Val.move rfl) rfl rfl rfl ?_
  refine At.split (t := 5) rfl (fun h1 => ?_) (fun h1 => ?_)
  · skip
    try simp only [wI_T, wI_F, data_T, data_F, ino_T, ino_F, notT, notF, bneT, bneF, beqT, beqF, decT, decF] at h1
    refine At.no rfl rfl rfl rfl ?_
    refine At.no rfl rfl rfl rfl ?_
    refine At.no rfl rfl rfl rfl ?_
    refine At.val (Val.pickT rfl rfl) rfl rfl rfl ?_
    refine At.nil ?_
    refine At.thenN ?_
    refine At.condT rfl ?_
    refine At.seq ?_
    refine At.region ?_
    refine At.val (Val.assign rfl) rfl rfl rfl ?_
    refine At.nil ?_
    refine At.thenN ?_
    refine At.retC ?_
    refine At.thenR ?_
    refine At.ret1 (.inl rfl) rfl rfl rfl (fun w hw => ?_)
    exact ⟨retB (by first | exact (decide_eq_true (by unfold GoodT; omega)).symm | exact (decide_eq_false (by unfold GoodT; omega)).symm | (apply Bool.eq_iff_iff.2; simp only [decide_eq_true_eq, data_T, beq_iff_eq]; unfold GoodT; omega)), hw.mod⟩
  · skip
    try simp only [wI_T, wI_F, data_T, data_F, ino_T, ino_F, notT, notF, bneT, bneF, beqT, beqF, decT, decF] at h1
    refine At.yes rfl rfl ?_
    refine At.val (Val.move rfl) rfl rfl rfl ?_
    refine At.yes rfl rfl ?_
    refine At.val (Val.rem rfl rfl (by decide)) rfl rfl rfl ?_
    refine At.yes rfl rfl ?_
    refine At.val (Val.bin rfl rfl rfl) rfl rfl rfl ?_
    refine At.val (Val.pickF rfl rfl) rfl rfl rfl ?_
    refine At.nil ?_
    refine At.thenN ?_
    refine At.cond rfl (fun h2 => ?_) (fun h2 => ?_)
    · skip
      try simp only [wI_T, wI_F, data_T, data_F, ino_T, ino_F, notT, notF, bneT, bneF, beqT, beqF, decT, decF] at h2
      refine At.seq ?_
      refine At.region ?_
      refine At.val (Val.assign rfl) rfl rfl rfl ?_
      refine At.nil ?_
      refine At.thenN ?_
      refine At.retC ?_
      refine At.thenR ?_
      refine At.ret1 (.inl rfl) rfl rfl rfl (fun w hw => ?_)
      exact ⟨retB (by first | exact (decide_eq_true (by unfold GoodT; omega)).symm | exact (decide_eq_false (by unfold GoodT; omega)).symm | (apply Bool.eq_iff_iff.2; simp only [decide_eq_true_eq, data_T, beq_iff_eq]; unfold GoodT; omega)), hw.mod⟩
    · skip
      try simp only [wI_T, wI_F, data_T, data_F, ino_T, ino_F, notT, notF, bneT, bneF, beqT, beqF, decT, decF] at h2
      refine At.skipC ?_
      refine At.thenN ?_
      refine At.seq ?_
      refine At.region ?_
      refine At.val (Val.move rfl) rfl rfl rfl ?_
      refine At.val (Val.bin rfl rfl rfl) rfl rfl rfl ?_
      rw [wrap_i64 (n := t - 1) (by omega) (by omega)]
      refine At.val (Val.quo rfl rfl (by decide)) rfl rfl rfl ?_
      rw [tdiv_nn _ (by omega), wrap_i64 (n := (t - 1) / 512) (by omega) (by omega)]
      refine At.callP (fun w hw => dataR_p _ w) Tryd.call92 rfl rfl ?_
      refine At.val (Val.move rfl) rfl rfl rfl ?_
      refine At.split (t := 14) rfl (fun h3 => ?_) (fun h3 => ?_)
      · skip
        try simp only [wI_T, wI_F, data_T, data_F, ino_T, ino_F, notT, notF, bneT, bneF, beqT, beqF, decT, decF] at h3
        refine At.yes rfl rfl ?_
        refine At.val (Val.move rfl) rfl rfl rfl ?_
        refine At.yes rfl rfl ?_
        refine At.val (Val.bin rfl rfl rfl) rfl rfl rfl ?_
        rw [wrap_i64 (n := t - 1) (by omega) (by omega)]
        refine At.yes rfl rfl ?_
        refine At.val (Val.rem rfl rfl (by decide)) rfl rfl rfl ?_
        refine At.yes rfl rfl ?_
        refine At.val (Val.bin rfl rfl rfl) rfl rfl rfl ?_
        refine At.val (Val.pickT rfl rfl) rfl rfl rfl ?_
        refine At.val (Val.assign rfl) rfl rfl rfl ?_
        refine At.nil ?_
        refine At.thenN ?_
        refine At.retC ?_
        refine At.ret1 (.inl rfl) rfl rfl rfl (fun w hw => ?_)
        exact ⟨retB (by first | exact (decide_eq_true (by unfold GoodT; omega)).symm | exact (decide_eq_false (by unfold GoodT; omega)).symm | (apply Bool.eq_iff_iff.2; simp only [decide_eq_true_eq, data_T, beq_iff_eq]; unfold GoodT; omega)), hw.mod⟩
      · skip
        try simp only [wI_T, wI_F, data_T, data_F, ino_T, ino_F, notT, notF, bneT, bneF, beqT, beqF, decT, decF] at h3
        refine At.no rfl rfl rfl rfl ?_
        refine At.no rfl rfl rfl rfl ?_
        refine At.no rfl rfl rfl rfl ?_
        refine At.no rfl rfl rfl rfl ?_
        refine At.val (Val.pickF rfl rfl) rfl rfl rfl ?_
        refine At.val (Val.assign rfl) rfl rfl rfl ?_
        refine At.nil ?_
        refine At.thenN ?_
        refine At.retC ?_
        refine At.ret1 (.inl rfl) rfl rfl rfl (fun w hw => ?_)
        exact ⟨retB (by first | exact (decide_eq_true (by unfold GoodT; omega)).symm | exact (decide_eq_false (by unfold GoodT; omega)).symm | (apply Bool.eq_iff_iff.2; simp only [decide_eq_true_eq, data_T, beq_iff_eq]; unfold GoodT; omega)), hw.mod⟩

theorem goodUse_p (k l h t : Int) (w : World) (hb : -9223372036854775808 ≤ t ∧ t ≤ 9223372036854775807) :
    PureC Tryd.prog 98 [.agg #[.int .i64 k, .int .i64 l, .int .i64 h, .int .i64 t]] (.bool (decide (GoodU k l h t))) w := by
  refine enter0 Tryd.func98 rfl Tryd.ntmps98 rfl ?_
  simp only [envOf]
  refine At.seq ?_
  refine At.region ?_
  refine At.box rfl rfl rfl (fun b1 => ?_)
  refine At.val (Val.assign rfl) rfl rfl rfl ?_
  refine At.nil ?_
  refine At.thenN ?_
  refine At.seq ?_
  refine At.seq ?_
  refine At.region ?_
  refine At.val (Val.field 0 rfl fo_65_0 rfl) rfl rfl rfl ?_
  refine At.val (Val.load (i := 0) Tryd.isAgg3 rfl rfl rfl) rfl rfl rfl ?_
  refine At.nil ?_
  refine At.thenN ?_
  refine At.block ?_
  refine At.seq ?_
  refine At.region ?_
  refine At.val (Val.bin rfl rfl rfl) rfl rfl rfl ?_
  refine At.val (Val.assign rfl) rfl rfl rfl ?_
  refine At.nil ?_
  refine At.thenN ?_
  refine At.cond rfl (fun h2 => ?_) (fun h2 => ?_)
  · skip
    try simp only [wI_T, wI_F, data_T, data_F, ino_T, ino_F, notT, notF, bneT, bneF, beqT, beqF, decT, decF] at h2
    refine At.seq ?_
    refine At.region ?_
    refine At.val (Val.field 1 rfl fo_65_1 rfl) rfl rfl rfl ?_
    refine At.val (Val.load (i := 0) Tryd.isAgg3 rfl rfl rfl) rfl rfl rfl ?_
    refine At.callP (fun w hw => within_p _ _ _ w) Tryd.call73 rfl rfl ?_
    refine At.val (Val.not rfl) rfl rfl rfl ?_
    refine At.nil ?_
    refine At.thenN ?_
    refine At.cond rfl (fun h3 => ?_) (fun h3 => ?_)
    · skip
      try simp only [wI_T, wI_F, data_T, data_F, ino_T, ino_F, notT, notF, bneT, bneF, beqT, beqF, decT, decF] at h3
      refine At.seq ?_
      refine At.region ?_
      refine At.val (Val.assign rfl) rfl rfl rfl ?_
      refine At.nil ?_
      refine At.thenN ?_
      refine At.retC ?_
      refine At.blkR ?_
      refine At.thenR ?_
      refine At.ret1 (.inl rfl) rfl rfl rfl (fun w hw => ?_)
      exact ⟨retB (by first | exact (decide_eq_true (by (try simp only [GoodS, GoodU, GoodT] at *); omega)).symm | exact (decide_eq_false (by (try simp only [GoodS, GoodU, GoodT] at *); omega)).symm | (apply Bool.eq_iff_iff.2; simp only [decide_eq_true_eq, data_T, ino_T, beq_iff_eq]; (try simp only [GoodS, GoodU, GoodT] at *); omega)), hw.mod⟩
    · skip
      try simp only [wI_T, wI_F, data_T, data_F, ino_T, ino_F, notT, notF, bneT, bneF, beqT, beqF, decT, decF] at h3
      refine At.skipC ?_
      refine At.blkN ?_
      refine At.thenN ?_
      refine At.seq ?_
      refine At.seq ?_
      refine At.region ?_
      refine At.val (Val.field 3 rfl fo_65_3 rfl) rfl rfl rfl ?_
      refine At.val (Val.load (i := 0) Tryd.isAgg3 rfl rfl rfl) rfl rfl rfl ?_
      refine At.val (Val.bin rfl rfl rfl) rfl rfl rfl ?_
      refine At.nil ?_
      refine At.thenN ?_
      refine At.cond rfl (fun h4 => ?_) (fun h4 => ?_)
      · skip
        try simp only [wI_T, wI_F, data_T, data_F, ino_T, ino_F, notT, notF, bneT, bneF, beqT, beqF, decT, decF] at h4
        refine At.seq ?_
        refine At.region ?_
        refine At.val (Val.field 2 rfl fo_65_2 rfl) rfl rfl rfl ?_
        refine At.val (Val.load (i := 0) Tryd.isAgg3 rfl rfl rfl) rfl rfl rfl ?_
        refine At.val (Val.bin rfl rfl rfl) rfl rfl rfl ?_
        refine At.val (Val.assign rfl) rfl rfl rfl ?_
        refine At.nil ?_
        refine At.thenN ?_
        refine At.retC ?_
        refine At.thenR ?_
        refine At.ret1 (.inl rfl) rfl rfl rfl (fun w hw => ?_)
        exact ⟨retB (by first | exact (decide_eq_true (by (try simp only [GoodS, GoodU, GoodT] at *); omega)).symm | exact (decide_eq_false (by (try simp only [GoodS, GoodU, GoodT] at *); omega)).symm | (apply Bool.eq_iff_iff.2; simp only [decide_eq_true_eq, data_T, ino_T, beq_iff_eq]; (try simp only [GoodS, GoodU, GoodT] at *); omega)), hw.mod⟩
      · skip
        try simp only [wI_T, wI_F, data_T, data_F, ino_T, ino_F, notT, notF, bneT, bneF, beqT, beqF, decT, decF] at h4
        refine At.skipC ?_
        refine At.thenN ?_
        refine At.seq ?_
        refine At.region ?_
        refine At.val (Val.field 3 rfl fo_65_3 rfl) rfl rfl rfl ?_
        refine At.val (Val.load (i := 0) Tryd.isAgg3 rfl rfl rfl) rfl rfl rfl ?_
        refine At.callP (fun w hw => goodTail_p _ w hb) Tryd.call124 rfl rfl ?_
        refine At.val (Val.move rfl) rfl rfl rfl ?_
        refine At.split (t := 25) rfl (fun h5 => ?_) (fun h5 => ?_)
        · skip
          try simp only [wI_T, wI_F, data_T, data_F, ino_T, ino_F, notT, notF, bneT, bneF, beqT, beqF, decT, decF] at h5
          refine At.yes rfl rfl ?_
          refine At.val (Val.field 2 rfl fo_65_2 rfl) rfl rfl rfl ?_
          refine At.yes rfl rfl ?_
          refine At.val (Val.load (i := 0) Tryd.isAgg3 rfl rfl rfl) rfl rfl rfl ?_
          refine At.yes rfl rfl ?_
          refine At.callP (fun w hw => isData_p _ w) Tryd.call96 rfl rfl ?_
          refine At.val (Val.pickT rfl rfl) rfl rfl rfl ?_
          refine At.val (Val.assign rfl) rfl rfl rfl ?_
          refine At.nil ?_
          refine At.thenN ?_
          refine At.retC ?_
          refine At.ret1 (.inl rfl) rfl rfl rfl (fun w hw => ?_)
          exact ⟨retB (by first | exact (decide_eq_true (by (try simp only [GoodS, GoodU, GoodT] at *); omega)).symm | exact (decide_eq_false (by (try simp only [GoodS, GoodU, GoodT] at *); omega)).symm | (apply Bool.eq_iff_iff.2; simp only [decide_eq_true_eq, data_T, ino_T, beq_iff_eq]; (try simp only [GoodS, GoodU, GoodT] at *); omega)), hw.mod⟩
        · skip
          try simp only [wI_T, wI_F, data_T, data_F, ino_T, ino_F, notT, notF, bneT, bneF, beqT, beqF, decT, decF] at h5
          refine At.no rfl rfl rfl rfl ?_
          refine At.no rfl rfl rfl rfl ?_
          refine At.no rfl rfl rfl rfl ?_
          refine At.val (Val.pickF rfl rfl) rfl rfl rfl ?_
          refine At.val (Val.assign rfl) rfl rfl rfl ?_
          refine At.nil ?_
          refine At.thenN ?_
          refine At.retC ?_
          refine At.ret1 (.inl rfl) rfl rfl rfl (fun w hw => ?_)
          exact ⟨retB (by first | exact (decide_eq_true (by (try simp only [GoodS, GoodU, GoodT] at *); omega)).symm | exact (decide_eq_false (by (try simp only [GoodS, GoodU, GoodT] at *); omega)).symm | (apply Bool.eq_iff_iff.2; simp only [decide_eq_true_eq, data_T, ino_T, beq_iff_eq]; (try simp only [GoodS, GoodU, GoodT] at *); omega)), hw.mod⟩
  · skip
    try simp only [wI_T, wI_F, data_T, data_F, ino_T, ino_F, notT, notF, bneT, bneF, beqT, beqF, decT, decF] at h2
    refine At.seq ?_
    refine At.region ?_
    refine At.val (Val.bin rfl rfl rfl) rfl rfl rfl ?_
    refine At.val (Val.assign rfl) rfl rfl rfl ?_
    refine At.nil ?_
    refine At.thenN ?_
    refine At.cond rfl (fun h6 => ?_) (fun h6 => ?_)
    · skip
      try simp only [wI_T, wI_F, data_T, data_F, ino_T, ino_F, notT, notF, bneT, bneF, beqT, beqF, decT, decF] at h6
      refine At.seq ?_
      refine At.region ?_
      refine At.val (Val.field 1 rfl fo_65_1 rfl) rfl rfl rfl ?_
      refine At.val (Val.load (i := 0) Tryd.isAgg3 rfl rfl rfl) rfl rfl rfl ?_
      refine At.val (Val.bin rfl rfl rfl) rfl rfl rfl ?_
      refine At.nil ?_
      refine At.thenN ?_
      refine At.cond rfl (fun h7 => ?_) (fun h7 => ?_)
      · skip
        try simp only [wI_T, wI_F, data_T, data_F, ino_T, ino_F, notT, notF, bneT, bneF, beqT, beqF, decT, decF] at h7
        refine At.seq ?_
        refine At.region ?_
        refine At.val (Val.assign rfl) rfl rfl rfl ?_
        refine At.nil ?_
        refine At.thenN ?_
        refine At.retC ?_
        refine At.blkR ?_
        refine At.thenR ?_
        refine At.ret1 (.inl rfl) rfl rfl rfl (fun w hw => ?_)
        exact ⟨retB (by first | exact (decide_eq_true (by (try simp only [GoodS, GoodU, GoodT] at *); omega)).symm | exact (decide_eq_false (by (try simp only [GoodS, GoodU, GoodT] at *); omega)).symm | (apply Bool.eq_iff_iff.2; simp only [decide_eq_true_eq, data_T, ino_T, beq_iff_eq]; (try simp only [GoodS, GoodU, GoodT] at *); omega)), hw.mod⟩
      · skip
        try simp only [wI_T, wI_F, data_T, data_F, ino_T, ino_F, notT, notF, bneT, bneF, beqT, beqF, decT, decF] at h7
        refine At.skipC ?_
        refine At.blkN ?_
        refine At.thenN ?_
        refine At.seq ?_
        refine At.seq ?_
        refine At.region ?_
        refine At.val (Val.field 3 rfl fo_65_3 rfl) rfl rfl rfl ?_
        refine At.val (Val.load (i := 0) Tryd.isAgg3 rfl rfl rfl) rfl rfl rfl ?_
        refine At.val (Val.bin rfl rfl rfl) rfl rfl rfl ?_
        refine At.nil ?_
        refine At.thenN ?_
        refine At.cond rfl (fun h8 => ?_) (fun h8 => ?_)
        · skip
          try simp only [wI_T, wI_F, data_T, data_F, ino_T, ino_F, notT, notF, bneT, bneF, beqT, beqF, decT, decF] at h8
          refine At.seq ?_
          refine At.region ?_
          refine At.val (Val.field 2 rfl fo_65_2 rfl) rfl rfl rfl ?_
          refine At.val (Val.load (i := 0) Tryd.isAgg3 rfl rfl rfl) rfl rfl rfl ?_
          refine At.val (Val.bin rfl rfl rfl) rfl rfl rfl ?_
          refine At.val (Val.assign rfl) rfl rfl rfl ?_
          refine At.nil ?_
          refine At.thenN ?_
          refine At.retC ?_
          refine At.thenR ?_
          refine At.ret1 (.inl rfl) rfl rfl rfl (fun w hw => ?_)
          exact ⟨retB (by first | exact (decide_eq_true (by (try simp only [GoodS, GoodU, GoodT] at *); omega)).symm | exact (decide_eq_false (by (try simp only [GoodS, GoodU, GoodT] at *); omega)).symm | (apply Bool.eq_iff_iff.2; simp only [decide_eq_true_eq, data_T, ino_T, beq_iff_eq]; (try simp only [GoodS, GoodU, GoodT] at *); omega)), hw.mod⟩
        · skip
          try simp only [wI_T, wI_F, data_T, data_F, ino_T, ino_F, notT, notF, bneT, bneF, beqT, beqF, decT, decF] at h8
          refine At.skipC ?_
          refine At.thenN ?_
          refine At.seq ?_
          refine At.region ?_
          refine At.val (Val.field 3 rfl fo_65_3 rfl) rfl rfl rfl ?_
          refine At.val (Val.load (i := 0) Tryd.isAgg3 rfl rfl rfl) rfl rfl rfl ?_
          refine At.callP (fun w hw => goodTail_p _ w hb) Tryd.call124 rfl rfl ?_
          refine At.val (Val.move rfl) rfl rfl rfl ?_
          refine At.split (t := 25) rfl (fun h9 => ?_) (fun h9 => ?_)
          · skip
            try simp only [wI_T, wI_F, data_T, data_F, ino_T, ino_F, notT, notF, bneT, bneF, beqT, beqF, decT, decF] at h9
            refine At.yes rfl rfl ?_
            refine At.val (Val.field 2 rfl fo_65_2 rfl) rfl rfl rfl ?_
            refine At.yes rfl rfl ?_
            refine At.val (Val.load (i := 0) Tryd.isAgg3 rfl rfl rfl) rfl rfl rfl ?_
            refine At.yes rfl rfl ?_
            refine At.callP (fun w hw => isData_p _ w) Tryd.call96 rfl rfl ?_
            refine At.val (Val.pickT rfl rfl) rfl rfl rfl ?_
            refine At.val (Val.assign rfl) rfl rfl rfl ?_
            refine At.nil ?_
            refine At.thenN ?_
            refine At.retC ?_
            refine At.ret1 (.inl rfl) rfl rfl rfl (fun w hw => ?_)
            exact ⟨retB (by first | exact (decide_eq_true (by (try simp only [GoodS, GoodU, GoodT] at *); omega)).symm | exact (decide_eq_false (by (try simp only [GoodS, GoodU, GoodT] at *); omega)).symm | (apply Bool.eq_iff_iff.2; simp only [decide_eq_true_eq, data_T, ino_T, beq_iff_eq]; (try simp only [GoodS, GoodU, GoodT] at *); omega)), hw.mod⟩
          · skip
            try simp only [wI_T, wI_F, data_T, data_F, ino_T, ino_F, notT, notF, bneT, bneF, beqT, beqF, decT, decF] at h9
            refine At.no rfl rfl rfl rfl ?_
            refine At.no rfl rfl rfl rfl ?_
            refine At.no rfl rfl rfl rfl ?_
            refine At.val (Val.pickF rfl rfl) rfl rfl rfl ?_
            refine At.val (Val.assign rfl) rfl rfl rfl ?_
            refine At.nil ?_
            refine At.thenN ?_
            refine At.retC ?_
            refine At.ret1 (.inl rfl) rfl rfl rfl (fun w hw => ?_)
            exact ⟨retB (by first | exact (decide_eq_true (by (try simp only [GoodS, GoodU, GoodT] at *); omega)).symm | exact (decide_eq_false (by (try simp only [GoodS, GoodU, GoodT] at *); omega)).symm | (apply Bool.eq_iff_iff.2; simp only [decide_eq_true_eq, data_T, ino_T, beq_iff_eq]; (try simp only [GoodS, GoodU, GoodT] at *); omega)), hw.mod⟩
    · skip
      try simp only [wI_T, wI_F, data_T, data_F, ino_T, ino_F, notT, notF, bneT, bneF, beqT, beqF, decT, decF] at h6
      refine At.seq ?_
      refine At.region ?_
      refine At.val (Val.assign rfl) rfl rfl rfl ?_
      refine At.nil ?_
      refine At.thenN ?_
      refine At.retC ?_
      refine At.blkR ?_
      refine At.thenR ?_
      refine At.ret1 (.inl rfl) rfl rfl rfl (fun w hw => ?_)
      exact ⟨retB (by first | exact (decide_eq_true (by (try simp only [GoodS, GoodU, GoodT] at *); omega)).symm | exact (decide_eq_false (by (try simp only [GoodS, GoodU, GoodT] at *); omega)).symm | (apply Bool.eq_iff_iff.2; simp only [decide_eq_true_eq, data_T, ino_T, beq_iff_eq]; (try simp only [GoodS, GoodU, GoodT] at *); omega)), hw.mod⟩

theorem goodSlotR_p (k l h t : Int) (w : World) (hb : -9223372036854775808 ≤ t ∧ t ≤ 9223372036854775807) :
    PureC Tryd.prog 99 [.agg #[.int .i64 k, .int .i64 l, .int .i64 h, .int .i64 t]] (.bool (decide (GoodS k l h t))) w := by
  refine enter0 Tryd.func99 rfl Tryd.ntmps99 rfl ?_
  have hT : GoodT t → 0 < t := fun h => h.1
  simp only [envOf]
  refine At.seq ?_
  refine At.region ?_
  refine At.box rfl rfl rfl (fun b1 => ?_)
  refine At.val (Val.assign rfl) rfl rfl rfl ?_
  refine At.nil ?_
  refine At.thenN ?_
  refine At.seq ?_
  refine At.seq ?_
  refine At.region ?_
  refine At.val (Val.field 0 rfl fo_65_0 rfl) rfl rfl rfl ?_
  refine At.val (Val.load (i := 0) Tryd.isAgg3 rfl rfl rfl) rfl rfl rfl ?_
  refine At.val (Val.bin rfl rfl rfl) rfl rfl rfl ?_
  refine At.nil ?_
  refine At.thenN ?_
  refine At.cond rfl (fun h2 => ?_) (fun h2 => ?_)
  · skip
    try simp only [wI_T, wI_F, data_T, data_F, ino_T, ino_F, notT, notF, bneT, bneF, beqT, beqF, decT, decF] at h2
    refine At.seq ?_
    refine At.region ?_
    refine At.val (Val.field 1 rfl fo_65_1 rfl) rfl rfl rfl ?_
    refine At.val (Val.load (i := 0) Tryd.isAgg3 rfl rfl rfl) rfl rfl rfl ?_
    refine At.val (Val.bin rfl rfl rfl) rfl rfl rfl ?_
    refine At.val (Val.move rfl) rfl rfl rfl ?_
    refine At.split (t := 10) rfl (fun h3 => ?_) (fun h3 => ?_)
    · skip
      try simp only [wI_T, wI_F, data_T, data_F, ino_T, ino_F, notT, notF, bneT, bneF, beqT, beqF, decT, decF] at h3
      refine At.yes rfl rfl ?_
      refine At.val (Val.field 2 rfl fo_65_2 rfl) rfl rfl rfl ?_
      refine At.yes rfl rfl ?_
      refine At.val (Val.load (i := 0) Tryd.isAgg3 rfl rfl rfl) rfl rfl rfl ?_
      refine At.yes rfl rfl ?_
      refine At.val (Val.bin rfl rfl rfl) rfl rfl rfl ?_
      refine At.val (Val.pickT rfl rfl) rfl rfl rfl ?_
      refine At.val (Val.move rfl) rfl rfl rfl ?_
      refine At.split (t := 15) rfl (fun h4 => ?_) (fun h4 => ?_)
      · skip
        try simp only [wI_T, wI_F, data_T, data_F, ino_T, ino_F, notT, notF, bneT, bneF, beqT, beqF, decT, decF] at h4
        refine At.yes rfl rfl ?_
        refine At.val (Val.field 3 rfl fo_65_3 rfl) rfl rfl rfl ?_
        refine At.yes rfl rfl ?_
        refine At.val (Val.load (i := 0) Tryd.isAgg3 rfl rfl rfl) rfl rfl rfl ?_
        refine At.yes rfl rfl ?_
        refine At.val (Val.bin rfl rfl rfl) rfl rfl rfl ?_
        refine At.val (Val.pickT rfl rfl) rfl rfl rfl ?_
        refine At.val (Val.assign rfl) rfl rfl rfl ?_
        refine At.nil ?_
        refine At.thenN ?_
        refine At.retC ?_
        refine At.thenR ?_
        refine At.ret1 (.inl rfl) rfl rfl rfl (fun w hw => ?_)
        exact ⟨retB (by first | exact (decide_eq_true (by (try simp only [GoodS, GoodU, GoodT] at *); omega)).symm | exact (decide_eq_false (by (try simp only [GoodS, GoodU, GoodT] at *); omega)).symm | (apply Bool.eq_iff_iff.2; simp only [decide_eq_true_eq, data_T, ino_T, beq_iff_eq]; (try simp only [GoodS, GoodU, GoodT] at *); omega)), hw.mod⟩
      · skip
        try simp only [wI_T, wI_F, data_T, data_F, ino_T, ino_F, notT, notF, bneT, bneF, beqT, beqF, decT, decF] at h4
        refine At.no rfl rfl rfl rfl ?_
        refine At.no rfl rfl rfl rfl ?_
        refine At.no rfl rfl rfl rfl ?_
        refine At.val (Val.pickF rfl rfl) rfl rfl rfl ?_
        refine At.val (Val.assign rfl) rfl rfl rfl ?_
        refine At.nil ?_
        refine At.thenN ?_
        refine At.retC ?_
        refine At.thenR ?_
        refine At.ret1 (.inl rfl) rfl rfl rfl (fun w hw => ?_)
        exact ⟨retB (by first | exact (decide_eq_true (by (try simp only [GoodS, GoodU, GoodT] at *); omega)).symm | exact (decide_eq_false (by (try simp only [GoodS, GoodU, GoodT] at *); omega)).symm | (apply Bool.eq_iff_iff.2; simp only [decide_eq_true_eq, data_T, ino_T, beq_iff_eq]; (try simp only [GoodS, GoodU, GoodT] at *); omega)), hw.mod⟩
    · skip
      try simp only [wI_T, wI_F, data_T, data_F, ino_T, ino_F, notT, notF, bneT, bneF, beqT, beqF, decT, decF] at h3
      refine At.no rfl rfl rfl rfl ?_
      refine At.no rfl rfl rfl rfl ?_
      refine At.no rfl rfl rfl rfl ?_
      refine At.val (Val.pickF rfl rfl) rfl rfl rfl ?_
      refine At.val (Val.move rfl) rfl rfl rfl ?_
      refine At.no rfl rfl rfl rfl ?_
      refine At.no rfl rfl rfl rfl ?_
      refine At.no rfl rfl rfl rfl ?_
      refine At.val (Val.pickF rfl rfl) rfl rfl rfl ?_
      refine At.val (Val.assign rfl) rfl rfl rfl ?_
      refine At.nil ?_
      refine At.thenN ?_
      refine At.retC ?_
      refine At.thenR ?_
      refine At.ret1 (.inl rfl) rfl rfl rfl (fun w hw => ?_)
      exact ⟨retB (by first | exact (decide_eq_true (by (try simp only [GoodS, GoodU, GoodT] at *); omega)).symm | exact (decide_eq_false (by (try simp only [GoodS, GoodU, GoodT] at *); omega)).symm | (apply Bool.eq_iff_iff.2; simp only [decide_eq_true_eq, data_T, ino_T, beq_iff_eq]; (try simp only [GoodS, GoodU, GoodT] at *); omega)), hw.mod⟩
  · skip
    try simp only [wI_T, wI_F, data_T, data_F, ino_T, ino_F, notT, notF, bneT, bneF, beqT, beqF, decT, decF] at h2
    refine At.skipC ?_
    refine At.thenN ?_
    refine At.seq ?_
    refine At.seq ?_
    refine At.region ?_
    refine At.val (Val.field 0 rfl fo_65_0 rfl) rfl rfl rfl ?_
    refine At.val (Val.load (i := 0) Tryd.isAgg3 rfl rfl rfl) rfl rfl rfl ?_
    refine At.val (Val.bin rfl rfl rfl) rfl rfl rfl ?_
    refine At.val (Val.move rfl) rfl rfl rfl ?_
    refine At.split (t := 23) rfl (fun h5 => ?_) (fun h5 => ?_)
    · skip
      try simp only [wI_T, wI_F, data_T, data_F, ino_T, ino_F, notT, notF, bneT, bneF, beqT, beqF, decT, decF] at h5
      refine At.yes rfl rfl ?_
      refine At.val (Val.field 1 rfl fo_65_1 rfl) rfl rfl rfl ?_
      refine At.yes rfl rfl ?_
      refine At.val (Val.load (i := 0) Tryd.isAgg3 rfl rfl rfl) rfl rfl rfl ?_
      refine At.yes rfl rfl ?_
      refine At.val (Val.bin rfl rfl rfl) rfl rfl rfl ?_
      refine At.yes rfl rfl ?_
      refine At.val (Val.move rfl) rfl rfl rfl ?_
      refine At.split (t := 27) rfl (fun h6 => ?_) (fun h6 => ?_)
      · skip
        try simp only [wI_T, wI_F, data_T, data_F, ino_T, ino_F, notT, notF, bneT, bneF, beqT, beqF, decT, decF] at h6
        refine At.no rfl rfl rfl rfl ?_
        refine At.no rfl rfl rfl rfl ?_
        refine At.no rfl rfl rfl rfl ?_
        refine At.yes rfl rfl ?_
        refine At.val (Val.pickT rfl rfl) rfl rfl rfl ?_
        refine At.val (Val.pickT rfl rfl) rfl rfl rfl ?_
        refine At.nil ?_
        refine At.thenN ?_
        refine At.condT rfl ?_
        refine At.seq ?_
        refine At.region ?_
        refine At.val (Val.assign rfl) rfl rfl rfl ?_
        refine At.nil ?_
        refine At.thenN ?_
        refine At.retC ?_
        refine At.thenR ?_
        refine At.ret1 (.inl rfl) rfl rfl rfl (fun w hw => ?_)
        exact ⟨retB (by first | exact (decide_eq_true (by (try simp only [GoodS, GoodU, GoodT] at *); omega)).symm | exact (decide_eq_false (by (try simp only [GoodS, GoodU, GoodT] at *); omega)).symm | (apply Bool.eq_iff_iff.2; simp only [decide_eq_true_eq, data_T, ino_T, beq_iff_eq]; (try simp only [GoodS, GoodU, GoodT] at *); omega)), hw.mod⟩
      · skip
        try simp only [wI_T, wI_F, data_T, data_F, ino_T, ino_F, notT, notF, bneT, bneF, beqT, beqF, decT, decF] at h6
        refine At.yes rfl rfl ?_
        refine At.val (Val.field 1 rfl fo_65_1 rfl) rfl rfl rfl ?_
        refine At.yes rfl rfl ?_
        refine At.val (Val.load (i := 0) Tryd.isAgg3 rfl rfl rfl) rfl rfl rfl ?_
        refine At.yes rfl rfl ?_
        refine At.val (Val.bin rfl rfl rfl) rfl rfl rfl ?_
        refine At.yes rfl rfl ?_
        refine At.val (Val.pickF rfl rfl) rfl rfl rfl ?_
        refine At.val (Val.pickT rfl rfl) rfl rfl rfl ?_
        refine At.nil ?_
        refine At.thenN ?_
        refine At.cond rfl (fun h7 => ?_) (fun h7 => ?_)
        · skip
          try simp only [wI_T, wI_F, data_T, data_F, ino_T, ino_F, notT, notF, bneT, bneF, beqT, beqF, decT, decF] at h7
          refine At.seq ?_
          refine At.region ?_
          refine At.val (Val.assign rfl) rfl rfl rfl ?_
          refine At.nil ?_
          refine At.thenN ?_
          refine At.retC ?_
          refine At.thenR ?_
          refine At.ret1 (.inl rfl) rfl rfl rfl (fun w hw => ?_)
          exact ⟨retB (by first | exact (decide_eq_true (by (try simp only [GoodS, GoodU, GoodT] at *); omega)).symm | exact (decide_eq_false (by (try simp only [GoodS, GoodU, GoodT] at *); omega)).symm | (apply Bool.eq_iff_iff.2; simp only [decide_eq_true_eq, data_T, ino_T, beq_iff_eq]; (try simp only [GoodS, GoodU, GoodT] at *); omega)), hw.mod⟩
        · skip
          try simp only [wI_T, wI_F, data_T, data_F, ino_T, ino_F, notT, notF, bneT, bneF, beqT, beqF, decT, decF] at h7
          refine At.skipC ?_
          refine At.thenN ?_
          refine At.seq ?_
          refine At.seq ?_
          refine At.region ?_
          refine At.val (Val.field 0 rfl fo_65_0 rfl) rfl rfl rfl ?_
          refine At.val (Val.load (i := 0) Tryd.isAgg3 rfl rfl rfl) rfl rfl rfl ?_
          refine At.val (Val.bin rfl rfl rfl) rfl rfl rfl ?_
          refine At.val (Val.move rfl) rfl rfl rfl ?_
          refine At.split (t := 36) rfl (fun h8 => ?_) (fun h8 => ?_)
          · skip
            try simp only [wI_T, wI_F, data_T, data_F, ino_T, ino_F, notT, notF, bneT, bneF, beqT, beqF, decT, decF] at h8
            refine At.yes rfl rfl ?_
            refine At.val (Val.field 1 rfl fo_65_1 rfl) rfl rfl rfl ?_
            refine At.yes rfl rfl ?_
            refine At.val (Val.load (i := 0) Tryd.isAgg3 rfl rfl rfl) rfl rfl rfl ?_
            refine At.yes rfl rfl ?_
            refine At.val (Val.bin rfl rfl rfl) rfl rfl rfl ?_
            refine At.val (Val.pickT rfl rfl) rfl rfl rfl ?_
            refine At.nil ?_
            refine At.thenN ?_
            refine At.cond rfl (fun h9 => ?_) (fun h9 => ?_)
            · skip
              try simp only [wI_T, wI_F, data_T, data_F, ino_T, ino_F, notT, notF, bneT, bneF, beqT, beqF, decT, decF] at h9
              refine At.seq ?_
              refine At.region ?_
              refine At.val (Val.assign rfl) rfl rfl rfl ?_
              refine At.nil ?_
              refine At.thenN ?_
              refine At.retC ?_
              refine At.thenR ?_
              refine At.ret1 (.inl rfl) rfl rfl rfl (fun w hw => ?_)
              exact ⟨retB (by first | exact (decide_eq_true (by (try simp only [GoodS, GoodU, GoodT] at *); omega)).symm | exact (decide_eq_false (by (try simp only [GoodS, GoodU, GoodT] at *); omega)).symm | (apply Bool.eq_iff_iff.2; simp only [decide_eq_true_eq, data_T, ino_T, beq_iff_eq]; (try simp only [GoodS, GoodU, GoodT] at *); omega)), hw.mod⟩
            · skip
              try simp only [wI_T, wI_F, data_T, data_F, ino_T, ino_F, notT, notF, bneT, bneF, beqT, beqF, decT, decF] at h9
              refine At.skipC ?_
              refine At.thenN ?_
              refine At.seq ?_
              refine At.seq ?_
              refine At.region ?_
              refine At.val (Val.field 0 rfl fo_65_0 rfl) rfl rfl rfl ?_
              refine At.val (Val.load (i := 0) Tryd.isAgg3 rfl rfl rfl) rfl rfl rfl ?_
              refine At.val (Val.bin rfl rfl rfl) rfl rfl rfl ?_
              refine At.val (Val.move rfl) rfl rfl rfl ?_
              refine At.split (t := 44) rfl (fun h10 => ?_) (fun h10 => ?_)
              · skip
                try simp only [wI_T, wI_F, data_T, data_F, ino_T, ino_F, notT, notF, bneT, bneF, beqT, beqF, decT, decF] at h10
                refine At.yes rfl rfl ?_
                refine At.val (Val.field 0 rfl fo_65_0 rfl) rfl rfl rfl ?_
                refine At.yes rfl rfl ?_
                refine At.val (Val.load (i := 0) Tryd.isAgg3 rfl rfl rfl) rfl rfl rfl ?_
                refine At.yes rfl rfl ?_
                refine At.val (Val.bin rfl rfl rfl) rfl rfl rfl ?_
                refine At.val (Val.pickT rfl rfl) rfl rfl rfl ?_
                refine At.nil ?_
                refine At.thenN ?_
                refine At.cond rfl (fun h11 => ?_) (fun h11 => ?_)
                · skip
                  try simp only [wI_T, wI_F, data_T, data_F, ino_T, ino_F, notT, notF, bneT, bneF, beqT, beqF, decT, decF] at h11
                  refine At.seq ?_
                  refine At.region ?_
                  refine At.val (Val.assign rfl) rfl rfl rfl ?_
                  refine At.nil ?_
                  refine At.thenN ?_
                  refine At.retC ?_
                  refine At.thenR ?_
                  refine At.ret1 (.inl rfl) rfl rfl rfl (fun w hw => ?_)
                  exact ⟨retB (by first | exact (decide_eq_true (by (try simp only [GoodS, GoodU, GoodT] at *); omega)).symm | exact (decide_eq_false (by (try simp only [GoodS, GoodU, GoodT] at *); omega)).symm | (apply Bool.eq_iff_iff.2; simp only [decide_eq_true_eq, data_T, ino_T, beq_iff_eq]; (try simp only [GoodS, GoodU, GoodT] at *); omega)), hw.mod⟩
                · skip
                  try simp only [wI_T, wI_F, data_T, data_F, ino_T, ino_F, notT, notF, bneT, bneF, beqT, beqF, decT, decF] at h11
                  refine At.skipC ?_
                  refine At.thenN ?_
                  refine At.seq ?_
                  refine At.seq ?_
                  refine At.region ?_
                  refine At.val (Val.field 2 rfl fo_65_2 rfl) rfl rfl rfl ?_
                  refine At.val (Val.load (i := 0) Tryd.isAgg3 rfl rfl rfl) rfl rfl rfl ?_
                  refine At.val (Val.bin rfl rfl rfl) rfl rfl rfl ?_
                  refine At.val (Val.move rfl) rfl rfl rfl ?_
                  refine At.split (t := 52) rfl (fun h12 => ?_) (fun h12 => ?_)
                  · skip
                    try simp only [wI_T, wI_F, data_T, data_F, ino_T, ino_F, notT, notF, bneT, bneF, beqT, beqF, decT, decF] at h12
                    refine At.yes rfl rfl ?_
                    refine At.val (Val.field 3 rfl fo_65_3 rfl) rfl rfl rfl ?_
                    refine At.yes rfl rfl ?_
                    refine At.val (Val.load (i := 0) Tryd.isAgg3 rfl rfl rfl) rfl rfl rfl ?_
                    refine At.yes rfl rfl ?_
                    refine At.val (Val.bin rfl rfl rfl) rfl rfl rfl ?_
                    refine At.val (Val.pickT rfl rfl) rfl rfl rfl ?_
                    refine At.nil ?_
                    refine At.thenN ?_
                    refine At.cond rfl (fun h13 => ?_) (fun h13 => ?_)
                    · skip
                      try simp only [wI_T, wI_F, data_T, data_F, ino_T, ino_F, notT, notF, bneT, bneF, beqT, beqF, decT, decF] at h13
                      refine At.seq ?_
                      refine At.region ?_
                      refine At.val (Val.assign rfl) rfl rfl rfl ?_
                      refine At.nil ?_
                      refine At.thenN ?_
                      refine At.retC ?_
                      refine At.thenR ?_
                      refine At.ret1 (.inl rfl) rfl rfl rfl (fun w hw => ?_)
                      exact ⟨retB (by first | exact (decide_eq_true (by (try simp only [GoodS, GoodU, GoodT] at *); omega)).symm | exact (decide_eq_false (by (try simp only [GoodS, GoodU, GoodT] at *); omega)).symm | (apply Bool.eq_iff_iff.2; simp only [decide_eq_true_eq, data_T, ino_T, beq_iff_eq]; (try simp only [GoodS, GoodU, GoodT] at *); omega)), hw.mod⟩
                    · skip
                      try simp only [wI_T, wI_F, data_T, data_F, ino_T, ino_F, notT, notF, bneT, bneF, beqT, beqF, decT, decF] at h13
                      refine At.skipC ?_
                      refine At.thenN ?_
                      refine At.seq ?_
                      refine At.region ?_
                      refine At.val (Val.field 3 rfl fo_65_3 rfl) rfl rfl rfl ?_
                      refine At.val (Val.load (i := 0) Tryd.isAgg3 rfl rfl rfl) rfl rfl rfl ?_
                      refine At.callP (fun w hw => goodTailR_p _ w hb) Tryd.call120 rfl rfl ?_
                      refine At.val (Val.assign rfl) rfl rfl rfl ?_
                      refine At.nil ?_
                      refine At.thenN ?_
                      refine At.seq ?_
                      refine At.region ?_
                      refine At.val (Val.move rfl) rfl rfl rfl ?_
                      refine At.val (Val.move rfl) rfl rfl rfl ?_
                      refine At.split (t := 61) rfl (fun h14 => ?_) (fun h14 => ?_)
                      · skip
                        try simp only [wI_T, wI_F, data_T, data_F, ino_T, ino_F, notT, notF, bneT, bneF, beqT, beqF, decT, decF] at h14
                        refine At.yes rfl rfl ?_
                        refine At.val (Val.field 2 rfl fo_65_2 rfl) rfl rfl rfl ?_
                        refine At.yes rfl rfl ?_
                        refine At.val (Val.load (i := 0) Tryd.isAgg3 rfl rfl rfl) rfl rfl rfl ?_
                        refine At.yes rfl rfl ?_
                        refine At.callP (fun w hw => dataR_p _ w) Tryd.call92 rfl rfl ?_
                        refine At.val (Val.pickT rfl rfl) rfl rfl rfl ?_
                        refine At.val (Val.assign rfl) rfl rfl rfl ?_
                        refine At.nil ?_
                        refine At.thenN ?_
                        refine At.retC ?_
                        refine At.ret1 (.inl rfl) rfl rfl rfl (fun w hw => ?_)
                        exact ⟨retB (by first | exact (decide_eq_true (by (try simp only [GoodS, GoodU, GoodT] at *); omega)).symm | exact (decide_eq_false (by (try simp only [GoodS, GoodU, GoodT] at *); omega)).symm | (apply Bool.eq_iff_iff.2; simp only [decide_eq_true_eq, data_T, ino_T, beq_iff_eq]; (try simp only [GoodS, GoodU, GoodT] at *); omega)), hw.mod⟩
                      · skip
                        try simp only [wI_T, wI_F, data_T, data_F, ino_T, ino_F, notT, notF, bneT, bneF, beqT, beqF, decT, decF] at h14
                        refine At.no rfl rfl rfl rfl ?_
                        refine At.no rfl rfl rfl rfl ?_
                        refine At.no rfl rfl rfl rfl ?_
                        refine At.val (Val.pickF rfl rfl) rfl rfl rfl ?_
                        refine At.val (Val.assign rfl) rfl rfl rfl ?_
                        refine At.nil ?_
                        refine At.thenN ?_
                        refine At.retC ?_
                        refine At.ret1 (.inl rfl) rfl rfl rfl (fun w hw => ?_)
                        exact ⟨retB (by first | exact (decide_eq_true (by (try simp only [GoodS, GoodU, GoodT] at *); omega)).symm | exact (decide_eq_false (by (try simp only [GoodS, GoodU, GoodT] at *); omega)).symm | (apply Bool.eq_iff_iff.2; simp only [decide_eq_true_eq, data_T, ino_T, beq_iff_eq]; (try simp only [GoodS, GoodU, GoodT] at *); omega)), hw.mod⟩
                  · skip
                    try simp only [wI_T, wI_F, data_T, data_F, ino_T, ino_F, notT, notF, bneT, bneF, beqT, beqF, decT, decF] at h12
                    refine At.no rfl rfl rfl rfl ?_
                    refine At.no rfl rfl rfl rfl ?_
                    refine At.no rfl rfl rfl rfl ?_
                    refine At.val (Val.pickF rfl rfl) rfl rfl rfl ?_
                    refine At.nil ?_
                    refine At.thenN ?_
                    refine At.condF rfl ?_
                    refine At.skipC ?_
                    refine At.thenN ?_
                    refine At.seq ?_
                    refine At.region ?_
                    refine At.val (Val.field 3 rfl fo_65_3 rfl) rfl rfl rfl ?_
                    refine At.val (Val.load (i := 0) Tryd.isAgg3 rfl rfl rfl) rfl rfl rfl ?_
                    refine At.callP (fun w hw => goodTailR_p _ w hb) Tryd.call120 rfl rfl ?_
                    refine At.val (Val.assign rfl) rfl rfl rfl ?_
                    refine At.nil ?_
                    refine At.thenN ?_
                    refine At.seq ?_
                    refine At.region ?_
                    refine At.val (Val.move rfl) rfl rfl rfl ?_
                    refine At.val (Val.move rfl) rfl rfl rfl ?_
                    refine At.split (t := 61) rfl (fun h15 => ?_) (fun h15 => ?_)
                    · skip
                      try simp only [wI_T, wI_F, data_T, data_F, ino_T, ino_F, notT, notF, bneT, bneF, beqT, beqF, decT, decF] at h15
                      refine At.yes rfl rfl ?_
                      refine At.val (Val.field 2 rfl fo_65_2 rfl) rfl rfl rfl ?_
                      refine At.yes rfl rfl ?_
                      refine At.val (Val.load (i := 0) Tryd.isAgg3 rfl rfl rfl) rfl rfl rfl ?_
                      refine At.yes rfl rfl ?_
                      refine At.callP (fun w hw => dataR_p _ w) Tryd.call92 rfl rfl ?_
                      refine At.val (Val.pickT rfl rfl) rfl rfl rfl ?_
                      refine At.val (Val.assign rfl) rfl rfl rfl ?_
                      refine At.nil ?_
                      refine At.thenN ?_
                      refine At.retC ?_
                      refine At.ret1 (.inl rfl) rfl rfl rfl (fun w hw => ?_)
                      exact ⟨retB (by first | exact (decide_eq_true (by (try simp only [GoodS, GoodU, GoodT] at *); omega)).symm | exact (decide_eq_false (by (try simp only [GoodS, GoodU, GoodT] at *); omega)).symm | (apply Bool.eq_iff_iff.2; simp only [decide_eq_true_eq, data_T, ino_T, beq_iff_eq]; (try simp only [GoodS, GoodU, GoodT] at *); omega)), hw.mod⟩
                    · skip
                      try simp only [wI_T, wI_F, data_T, data_F, ino_T, ino_F, notT, notF, bneT, bneF, beqT, beqF, decT, decF] at h15
                      refine At.no rfl rfl rfl rfl ?_
                      refine At.no rfl rfl rfl rfl ?_
                      refine At.no rfl rfl rfl rfl ?_
                      refine At.val (Val.pickF rfl rfl) rfl rfl rfl ?_
                      refine At.val (Val.assign rfl) rfl rfl rfl ?_
                      refine At.nil ?_
                      refine At.thenN ?_
                      refine At.retC ?_
                      refine At.ret1 (.inl rfl) rfl rfl rfl (fun w hw => ?_)
                      exact ⟨retB (by first | exact (decide_eq_true (by (try simp only [GoodS, GoodU, GoodT] at *); omega)).symm | exact (decide_eq_false (by (try simp only [GoodS, GoodU, GoodT] at *); omega)).symm | (apply Bool.eq_iff_iff.2; simp only [decide_eq_true_eq, data_T, ino_T, beq_iff_eq]; (try simp only [GoodS, GoodU, GoodT] at *); omega)), hw.mod⟩
              · skip
                try simp only [wI_T, wI_F, data_T, data_F, ino_T, ino_F, notT, notF, bneT, bneF, beqT, beqF, decT, decF] at h10
                refine At.no rfl rfl rfl rfl ?_
                refine At.no rfl rfl rfl rfl ?_
                refine At.no rfl rfl rfl rfl ?_
                refine At.val (Val.pickF rfl rfl) rfl rfl rfl ?_
                refine At.nil ?_
                refine At.thenN ?_
                refine At.condF rfl ?_
                refine At.skipC ?_
                refine At.thenN ?_
                refine At.seq ?_
                refine At.seq ?_
                refine At.region ?_
                refine At.val (Val.field 2 rfl fo_65_2 rfl) rfl rfl rfl ?_
                refine At.val (Val.load (i := 0) Tryd.isAgg3 rfl rfl rfl) rfl rfl rfl ?_
                refine At.val (Val.bin rfl rfl rfl) rfl rfl rfl ?_
                refine At.val (Val.move rfl) rfl rfl rfl ?_
                refine At.split (t := 52) rfl (fun h16 => ?_) (fun h16 => ?_)
                · skip
                  try simp only [wI_T, wI_F, data_T, data_F, ino_T, ino_F, notT, notF, bneT, bneF, beqT, beqF, decT, decF] at h16
                  refine At.yes rfl rfl ?_
                  refine At.val (Val.field 3 rfl fo_65_3 rfl) rfl rfl rfl ?_
                  refine At.yes rfl rfl ?_
                  refine At.val (Val.load (i := 0) Tryd.isAgg3 rfl rfl rfl) rfl rfl rfl ?_
                  refine At.yes rfl rfl ?_
                  refine At.val (Val.bin rfl rfl rfl) rfl rfl rfl ?_
                  refine At.val (Val.pickT rfl rfl) rfl rfl rfl ?_
                  refine At.nil ?_
                  refine At.thenN ?_
                  refine At.cond rfl (fun h17 => ?_) (fun h17 => ?_)
                  · skip
                    try simp only [wI_T, wI_F, data_T, data_F, ino_T, ino_F, notT, notF, bneT, bneF, beqT, beqF, decT, decF] at h17
                    refine At.seq ?_
                    refine At.region ?_
                    refine At.val (Val.assign rfl) rfl rfl rfl ?_
                    refine At.nil ?_
                    refine At.thenN ?_
                    refine At.retC ?_
                    refine At.thenR ?_
                    refine At.ret1 (.inl rfl) rfl rfl rfl (fun w hw => ?_)
                    exact ⟨retB (by first | exact (decide_eq_true (by (try simp only [GoodS, GoodU, GoodT] at *); omega)).symm | exact (decide_eq_false (by (try simp only [GoodS, GoodU, GoodT] at *); omega)).symm | (apply Bool.eq_iff_iff.2; simp only [decide_eq_true_eq, data_T, ino_T, beq_iff_eq]; (try simp only [GoodS, GoodU, GoodT] at *); omega)), hw.mod⟩
                  · skip
                    try simp only [wI_T, wI_F, data_T, data_F, ino_T, ino_F, notT, notF, bneT, bneF, beqT, beqF, decT, decF] at h17
                    refine At.skipC ?_
                    refine At.thenN ?_
                    refine At.seq ?_
                    refine At.region ?_
                    refine At.val (Val.field 3 rfl fo_65_3 rfl) rfl rfl rfl ?_
                    refine At.val (Val.load (i := 0) Tryd.isAgg3 rfl rfl rfl) rfl rfl rfl ?_
                    refine At.callP (fun w hw => goodTailR_p _ w hb) Tryd.call120 rfl rfl ?_
                    refine At.val (Val.assign rfl) rfl rfl rfl ?_
                    refine At.nil ?_
                    refine At.thenN ?_
                    refine At.seq ?_
                    refine At.region ?_
                    refine At.val (Val.move rfl) rfl rfl rfl ?_
                    refine At.val (Val.move rfl) rfl rfl rfl ?_
                    refine At.split (t := 61) rfl (fun h18 => ?_) (fun h18 => ?_)
                    · skip
                      try simp only [wI_T, wI_F, data_T, data_F, ino_T, ino_F, notT, notF, bneT, bneF, beqT, beqF, decT, decF] at h18
                      refine At.yes rfl rfl ?_
                      refine At.val (Val.field 2 rfl fo_65_2 rfl) rfl rfl rfl ?_
                      refine At.yes rfl rfl ?_
                      refine At.val (Val.load (i := 0) Tryd.isAgg3 rfl rfl rfl) rfl rfl rfl ?_
                      refine At.yes rfl rfl ?_
                      refine At.callP (fun w hw => dataR_p _ w) Tryd.call92 rfl rfl ?_
                      refine At.val (Val.pickT rfl rfl) rfl rfl rfl ?_
                      refine At.val (Val.assign rfl) rfl rfl rfl ?_
                      refine At.nil ?_
                      refine At.thenN ?_
                      refine At.retC ?_
                      refine At.ret1 (.inl rfl) rfl rfl rfl (fun w hw => ?_)
                      exact ⟨retB (by first | exact (decide_eq_true (by (try simp only [GoodS, GoodU, GoodT] at *); omega)).symm | exact (decide_eq_false (by (try simp only [GoodS, GoodU, GoodT] at *); omega)).symm | (apply Bool.eq_iff_iff.2; simp only [decide_eq_true_eq, data_T, ino_T, beq_iff_eq]; (try simp only [GoodS, GoodU, GoodT] at *); omega)), hw.mod⟩
                    · skip
                      try simp only [wI_T, wI_F, data_T, data_F, ino_T, ino_F, notT, notF, bneT, bneF, beqT, beqF, decT, decF] at h18
                      refine At.no rfl rfl rfl rfl ?_
                      refine At.no rfl rfl rfl rfl ?_
                      refine At.no rfl rfl rfl rfl ?_
                      refine At.val (Val.pickF rfl rfl) rfl rfl rfl ?_
                      refine At.val (Val.assign rfl) rfl rfl rfl ?_
                      refine At.nil ?_
                      refine At.thenN ?_
                      refine At.retC ?_
                      refine At.ret1 (.inl rfl) rfl rfl rfl (fun w hw => ?_)
                      exact ⟨retB (by first | exact (decide_eq_true (by (try simp only [GoodS, GoodU, GoodT] at *); omega)).symm | exact (decide_eq_false (by (try simp only [GoodS, GoodU, GoodT] at *); omega)).symm | (apply Bool.eq_iff_iff.2; simp only [decide_eq_true_eq, data_T, ino_T, beq_iff_eq]; (try simp only [GoodS, GoodU, GoodT] at *); omega)), hw.mod⟩
                · skip
                  try simp only [wI_T, wI_F, data_T, data_F, ino_T, ino_F, notT, notF, bneT, bneF, beqT, beqF, decT, decF] at h16
                  refine At.no rfl rfl rfl rfl ?_
                  refine At.no rfl rfl rfl rfl ?_
                  refine At.no rfl rfl rfl rfl ?_
                  refine At.val (Val.pickF rfl rfl) rfl rfl rfl ?_
                  refine At.nil ?_
                  refine At.thenN ?_
                  refine At.condF rfl ?_
                  refine At.skipC ?_
                  refine At.thenN ?_
                  refine At.seq ?_
                  refine At.region ?_
                  refine At.val (Val.field 3 rfl fo_65_3 rfl) rfl rfl rfl ?_
                  refine At.val (Val.load (i := 0) Tryd.isAgg3 rfl rfl rfl) rfl rfl rfl ?_
                  refine At.callP (fun w hw => goodTailR_p _ w hb) Tryd.call120 rfl rfl ?_
                  refine At.val (Val.assign rfl) rfl rfl rfl ?_
                  refine At.nil ?_
                  refine At.thenN ?_
                  refine At.seq ?_
                  refine At.region ?_
                  refine At.val (Val.move rfl) rfl rfl rfl ?_
                  refine At.val (Val.move rfl) rfl rfl rfl ?_
                  refine At.split (t := 61) rfl (fun h19 => ?_) (fun h19 => ?_)
                  · skip
                    try simp only [wI_T, wI_F, data_T, data_F, ino_T, ino_F, notT, notF, bneT, bneF, beqT, beqF, decT, decF] at h19
                    refine At.yes rfl rfl ?_
                    refine At.val (Val.field 2 rfl fo_65_2 rfl) rfl rfl rfl ?_
                    refine At.yes rfl rfl ?_
                    refine At.val (Val.load (i := 0) Tryd.isAgg3 rfl rfl rfl) rfl rfl rfl ?_
                    refine At.yes rfl rfl ?_
                    refine At.callP (fun w hw => dataR_p _ w) Tryd.call92 rfl rfl ?_
                    refine At.val (Val.pickT rfl rfl) rfl rfl rfl ?_
                    refine At.val (Val.assign rfl) rfl rfl rfl ?_
                    refine At.nil ?_
                    refine At.thenN ?_
                    refine At.retC ?_
                    refine At.ret1 (.inl rfl) rfl rfl rfl (fun w hw => ?_)
                    exact ⟨retB (by first | exact (decide_eq_true (by (try simp only [GoodS, GoodU, GoodT] at *); omega)).symm | exact (decide_eq_false (by (try simp only [GoodS, GoodU, GoodT] at *); omega)).symm | (apply Bool.eq_iff_iff.2; simp only [decide_eq_true_eq, data_T, ino_T, beq_iff_eq]; (try simp only [GoodS, GoodU, GoodT] at *); omega)), hw.mod⟩
                  · skip
                    try simp only [wI_T, wI_F, data_T, data_F, ino_T, ino_F, notT, notF, bneT, bneF, beqT, beqF, decT, decF] at h19
                    refine At.no rfl rfl rfl rfl ?_
                    refine At.no rfl rfl rfl rfl ?_
                    refine At.no rfl rfl rfl rfl ?_
                    refine At.val (Val.pickF rfl rfl) rfl rfl rfl ?_
                    refine At.val (Val.assign rfl) rfl rfl rfl ?_
                    refine At.nil ?_
                    refine At.thenN ?_
                    refine At.retC ?_
                    refine At.ret1 (.inl rfl) rfl rfl rfl (fun w hw => ?_)
                    exact ⟨retB (by first | exact (decide_eq_true (by (try simp only [GoodS, GoodU, GoodT] at *); omega)).symm | exact (decide_eq_false (by (try simp only [GoodS, GoodU, GoodT] at *); omega)).symm | (apply Bool.eq_iff_iff.2; simp only [decide_eq_true_eq, data_T, ino_T, beq_iff_eq]; (try simp only [GoodS, GoodU, GoodT] at *); omega)), hw.mod⟩
          · skip
            try simp only [wI_T, wI_F, data_T, data_F, ino_T, ino_F, notT, notF, bneT, bneF, beqT, beqF, decT, decF] at h8
            refine At.no rfl rfl rfl rfl ?_
            refine At.no rfl rfl rfl rfl ?_
            refine At.no rfl rfl rfl rfl ?_
            refine At.val (Val.pickF rfl rfl) rfl rfl rfl ?_
            refine At.nil ?_
            refine At.thenN ?_
            refine At.condF rfl ?_
            refine At.skipC ?_
            refine At.thenN ?_
            refine At.seq ?_
            refine At.seq ?_
            refine At.region ?_
            refine At.val (Val.field 0 rfl fo_65_0 rfl) rfl rfl rfl ?_
            refine At.val (Val.load (i := 0) Tryd.isAgg3 rfl rfl rfl) rfl rfl rfl ?_
            refine At.val (Val.bin rfl rfl rfl) rfl rfl rfl ?_
            refine At.val (Val.move rfl) rfl rfl rfl ?_
            refine At.split (t := 44) rfl (fun h20 => ?_) (fun h20 => ?_)
            · skip
              try simp only [wI_T, wI_F, data_T, data_F, ino_T, ino_F, notT, notF, bneT, bneF, beqT, beqF, decT, decF] at h20
              refine At.yes rfl rfl ?_
              refine At.val (Val.field 0 rfl fo_65_0 rfl) rfl rfl rfl ?_
              refine At.yes rfl rfl ?_
              refine At.val (Val.load (i := 0) Tryd.isAgg3 rfl rfl rfl) rfl rfl rfl ?_
              refine At.yes rfl rfl ?_
              refine At.val (Val.bin rfl rfl rfl) rfl rfl rfl ?_
              refine At.val (Val.pickT rfl rfl) rfl rfl rfl ?_
              refine At.nil ?_
              refine At.thenN ?_
              refine At.cond rfl (fun h21 => ?_) (fun h21 => ?_)
              · skip
                try simp only [wI_T, wI_F, data_T, data_F, ino_T, ino_F, notT, notF, bneT, bneF, beqT, beqF, decT, decF] at h21
                refine At.seq ?_
                refine At.region ?_
                refine At.val (Val.assign rfl) rfl rfl rfl ?_
                refine At.nil ?_
                refine At.thenN ?_
                refine At.retC ?_
                refine At.thenR ?_
                refine At.ret1 (.inl rfl) rfl rfl rfl (fun w hw => ?_)
                exact ⟨retB (by first | exact (decide_eq_true (by (try simp only [GoodS, GoodU, GoodT] at *); omega)).symm | exact (decide_eq_false (by (try simp only [GoodS, GoodU, GoodT] at *); omega)).symm | (apply Bool.eq_iff_iff.2; simp only [decide_eq_true_eq, data_T, ino_T, beq_iff_eq]; (try simp only [GoodS, GoodU, GoodT] at *); omega)), hw.mod⟩
              · skip
                try simp only [wI_T, wI_F, data_T, data_F, ino_T, ino_F, notT, notF, bneT, bneF, beqT, beqF, decT, decF] at h21
                refine At.skipC ?_
                refine At.thenN ?_
                refine At.seq ?_
                refine At.seq ?_
                refine At.region ?_
                refine At.val (Val.field 2 rfl fo_65_2 rfl) rfl rfl rfl ?_
                refine At.val (Val.load (i := 0) Tryd.isAgg3 rfl rfl rfl) rfl rfl rfl ?_
                refine At.val (Val.bin rfl rfl rfl) rfl rfl rfl ?_
                refine At.val (Val.move rfl) rfl rfl rfl ?_
                refine At.split (t := 52) rfl (fun h22 => ?_) (fun h22 => ?_)
                · skip
                  try simp only [wI_T, wI_F, data_T, data_F, ino_T, ino_F, notT, notF, bneT, bneF, beqT, beqF, decT, decF] at h22
                  refine At.yes rfl rfl ?_
                  refine At.val (Val.field 3 rfl fo_65_3 rfl) rfl rfl rfl ?_
                  refine At.yes rfl rfl ?_
                  refine At.val (Val.load (i := 0) Tryd.isAgg3 rfl rfl rfl) rfl rfl rfl ?_
                  refine At.yes rfl rfl ?_
                  refine At.val (Val.bin rfl rfl rfl) rfl rfl rfl ?_
                  refine At.val (Val.pickT rfl rfl) rfl rfl rfl ?_
                  refine At.nil ?_
                  refine At.thenN ?_
                  refine At.cond rfl (fun h23 => ?_) (fun h23 => ?_)
                  · skip
                    try simp only [wI_T, wI_F, data_T, data_F, ino_T, ino_F, notT, notF, bneT, bneF, beqT, beqF, decT, decF] at h23
                    refine At.seq ?_
                    refine At.region ?_
                    refine At.val (Val.assign rfl) rfl rfl rfl ?_
                    refine At.nil ?_
                    refine At.thenN ?_
                    refine At.retC ?_
                    refine At.thenR ?_
                    refine At.ret1 (.inl rfl) rfl rfl rfl (fun w hw => ?_)
                    exact ⟨retB (by first | exact (decide_eq_true (by (try simp only [GoodS, GoodU, GoodT] at *); omega)).symm | exact (decide_eq_false (by (try simp only [GoodS, GoodU, GoodT] at *); omega)).symm | (apply Bool.eq_iff_iff.2; simp only [decide_eq_true_eq, data_T, ino_T, beq_iff_eq]; (try simp only [GoodS, GoodU, GoodT] at *); omega)), hw.mod⟩
                  · skip
                    try simp only [wI_T, wI_F, data_T, data_F, ino_T, ino_F, notT, notF, bneT, bneF, beqT, beqF, decT, decF] at h23
                    refine At.skipC ?_
                    refine At.thenN ?_
                    refine At.seq ?_
                    refine At.region ?_
                    refine At.val (Val.field 3 rfl fo_65_3 rfl) rfl rfl rfl ?_
                    refine At.val (Val.load (i := 0) Tryd.isAgg3 rfl rfl rfl) rfl rfl rfl ?_
                    refine At.callP (fun w hw => goodTailR_p _ w hb) Tryd.call120 rfl rfl ?_
                    refine At.val (Val.assign rfl) rfl rfl rfl ?_
                    refine At.nil ?_
                    refine At.thenN ?_
                    refine At.seq ?_
                    refine At.region ?_
                    refine At.val (Val.move rfl) rfl rfl rfl ?_
                    refine At.val (Val.move rfl) rfl rfl rfl ?_
                    refine At.split (t := 61) rfl (fun h24 => ?_) (fun h24 => ?_)
                    · skip
                      try simp only [wI_T, wI_F, data_T, data_F, ino_T, ino_F, notT, notF, bneT, bneF, beqT, beqF, decT, decF] at h24
                      refine At.yes rfl rfl ?_
                      refine At.val (Val.field 2 rfl fo_65_2 rfl) rfl rfl rfl ?_
                      refine At.yes rfl rfl ?_
                      refine At.val (Val.load (i := 0) Tryd.isAgg3 rfl rfl rfl) rfl rfl rfl ?_
                      refine At.yes rfl rfl ?_
                      refine At.callP (fun w hw => dataR_p _ w) Tryd.call92 rfl rfl ?_
                      refine At.val (Val.pickT rfl rfl) rfl rfl rfl ?_
                      refine At.val (Val.assign rfl) rfl rfl rfl ?_
                      refine At.nil ?_
                      refine At.thenN ?_
                      refine At.retC ?_
                      refine At.ret1 (.inl rfl) rfl rfl rfl (fun w hw => ?_)
                      exact ⟨retB (by first | exact (decide_eq_true (by (try simp only [GoodS, GoodU, GoodT] at *); omega)).symm | exact (decide_eq_false (by (try simp only [GoodS, GoodU, GoodT] at *); omega)).symm | (apply Bool.eq_iff_iff.2; simp only [decide_eq_true_eq, data_T, ino_T, beq_iff_eq]; (try simp only [GoodS, GoodU, GoodT] at *); omega)), hw.mod⟩
                    · skip
                      try simp only [wI_T, wI_F, data_T, data_F, ino_T, ino_F, notT, notF, bneT, bneF, beqT, beqF, decT, decF] at h24
                      refine At.no rfl rfl rfl rfl ?_
                      refine At.no rfl rfl rfl rfl ?_
                      refine At.no rfl rfl rfl rfl ?_
                      refine At.val (Val.pickF rfl rfl) rfl rfl rfl ?_
                      refine At.val (Val.assign rfl) rfl rfl rfl ?_
                      refine At.nil ?_
                      refine At.thenN ?_
                      refine At.retC ?_
                      refine At.ret1 (.inl rfl) rfl rfl rfl (fun w hw => ?_)
                      exact ⟨retB (by first | exact (decide_eq_true (by (try simp only [GoodS, GoodU, GoodT] at *); omega)).symm | exact (decide_eq_false (by (try simp only [GoodS, GoodU, GoodT] at *); omega)).symm | (apply Bool.eq_iff_iff.2; simp only [decide_eq_true_eq, data_T, ino_T, beq_iff_eq]; (try simp only [GoodS, GoodU, GoodT] at *); omega)), hw.mod⟩
                · skip
                  try simp only [wI_T, wI_F, data_T, data_F, ino_T, ino_F, notT, notF, bneT, bneF, beqT, beqF, decT, decF] at h22
                  refine At.no rfl rfl rfl rfl ?_
                  refine At.no rfl rfl rfl rfl ?_
                  refine At.no rfl rfl rfl rfl ?_
                  refine At.val (Val.pickF rfl rfl) rfl rfl rfl ?_
                  refine At.nil ?_
                  refine At.thenN ?_
                  refine At.condF rfl ?_
                  refine At.skipC ?_
                  refine At.thenN ?_
                  refine At.seq ?_
                  refine At.region ?_
                  refine At.val (Val.field 3 rfl fo_65_3 rfl) rfl rfl rfl ?_
                  refine At.val (Val.load (i := 0) Tryd.isAgg3 rfl rfl rfl) rfl rfl rfl ?_
                  refine At.callP (fun w hw => goodTailR_p _ w hb) Tryd.call120 rfl rfl ?_
                  refine At.val (Val.assign rfl) rfl rfl rfl ?_
                  refine At.nil ?_
                  refine At.thenN ?_
                  refine At.seq ?_
                  refine At.region ?_
                  refine At.val (Val.move rfl) rfl rfl rfl ?_
                  refine At.val (Val.move rfl) rfl rfl rfl ?_
                  refine At.split (t := 61) rfl (fun h25 => ?_) (fun h25 => ?_)
                  · skip
                    try simp only [wI_T, wI_F, data_T, data_F, ino_T, ino_F, notT, notF, bneT, bneF, beqT, beqF, decT, decF] at h25
                    refine At.yes rfl rfl ?_
                    refine At.val (Val.field 2 rfl fo_65_2 rfl) rfl rfl rfl ?_
                    refine At.yes rfl rfl ?_
                    refine At.val (Val.load (i := 0) Tryd.isAgg3 rfl rfl rfl) rfl rfl rfl ?_
                    refine At.yes rfl rfl ?_
                    refine At.callP (fun w hw => dataR_p _ w) Tryd.call92 rfl rfl ?_
                    refine At.val (Val.pickT rfl rfl) rfl rfl rfl ?_
                    refine At.val (Val.assign rfl) rfl rfl rfl ?_
                    refine At.nil ?_
                    refine At.thenN ?_
                    refine At.retC ?_
                    refine At.ret1 (.inl rfl) rfl rfl rfl (fun w hw => ?_)
                    exact ⟨retB (by first | exact (decide_eq_true (by (try simp only [GoodS, GoodU, GoodT] at *); omega)).symm | exact (decide_eq_false (by (try simp only [GoodS, GoodU, GoodT] at *); omega)).symm | (apply Bool.eq_iff_iff.2; simp only [decide_eq_true_eq, data_T, ino_T, beq_iff_eq]; (try simp only [GoodS, GoodU, GoodT] at *); omega)), hw.mod⟩
                  · skip
                    try simp only [wI_T, wI_F, data_T, data_F, ino_T, ino_F, notT, notF, bneT, bneF, beqT, beqF, decT, decF] at h25
                    refine At.no rfl rfl rfl rfl ?_
                    refine At.no rfl rfl rfl rfl ?_
                    refine At.no rfl rfl rfl rfl ?_
                    refine At.val (Val.pickF rfl rfl) rfl rfl rfl ?_
                    refine At.val (Val.assign rfl) rfl rfl rfl ?_
                    refine At.nil ?_
                    refine At.thenN ?_
                    refine At.retC ?_
                    refine At.ret1 (.inl rfl) rfl rfl rfl (fun w hw => ?_)
                    exact ⟨retB (by first | exact (decide_eq_true (by (try simp only [GoodS, GoodU, GoodT] at *); omega)).symm | exact (decide_eq_false (by (try simp only [GoodS, GoodU, GoodT] at *); omega)).symm | (apply Bool.eq_iff_iff.2; simp only [decide_eq_true_eq, data_T, ino_T, beq_iff_eq]; (try simp only [GoodS, GoodU, GoodT] at *); omega)), hw.mod⟩
            · skip
              try simp only [wI_T, wI_F, data_T, data_F, ino_T, ino_F, notT, notF, bneT, bneF, beqT, beqF, decT, decF] at h20
              refine At.no rfl rfl rfl rfl ?_
              refine At.no rfl rfl rfl rfl ?_
              refine At.no rfl rfl rfl rfl ?_
              refine At.val (Val.pickF rfl rfl) rfl rfl rfl ?_
              refine At.nil ?_
              refine At.thenN ?_
              refine At.condF rfl ?_
              refine At.skipC ?_
              refine At.thenN ?_
              refine At.seq ?_
              refine At.seq ?_
              refine At.region ?_
              refine At.val (Val.field 2 rfl fo_65_2 rfl) rfl rfl rfl ?_
              refine At.val (Val.load (i := 0) Tryd.isAgg3 rfl rfl rfl) rfl rfl rfl ?_
              refine At.val (Val.bin rfl rfl rfl) rfl rfl rfl ?_
              refine At.val (Val.move rfl) rfl rfl rfl ?_
              refine At.split (t := 52) rfl (fun h26 => ?_) (fun h26 => ?_)
              · skip
                try simp only [wI_T, wI_F, data_T, data_F, ino_T, ino_F, notT, notF, bneT, bneF, beqT, beqF, decT, decF] at h26
                refine At.yes rfl rfl ?_
                refine At.val (Val.field 3 rfl fo_65_3 rfl) rfl rfl rfl ?_
                refine At.yes rfl rfl ?_
                refine At.val (Val.load (i := 0) Tryd.isAgg3 rfl rfl rfl) rfl rfl rfl ?_
                refine At.yes rfl rfl ?_
                refine At.val (Val.bin rfl rfl rfl) rfl rfl rfl ?_
                refine At.val (Val.pickT rfl rfl) rfl rfl rfl ?_
                refine At.nil ?_
                refine At.thenN ?_
                refine At.cond rfl (fun h27 => ?_) (fun h27 => ?_)
                · skip
                  try simp only [wI_T, wI_F, data_T, data_F, ino_T, ino_F, notT, notF, bneT, bneF, beqT, beqF, decT, decF] at h27
                  refine At.seq ?_
                  refine At.region ?_
                  refine At.val (Val.assign rfl) rfl rfl rfl ?_
                  refine At.nil ?_
                  refine At.thenN ?_
                  refine At.retC ?_
                  refine At.thenR ?_
                  refine At.ret1 (.inl rfl) rfl rfl rfl (fun w hw => ?_)
                  exact ⟨retB (by first | exact (decide_eq_true (by (try simp only [GoodS, GoodU, GoodT] at *); omega)).symm | exact (decide_eq_false (by (try simp only [GoodS, GoodU, GoodT] at *); omega)).symm | (apply Bool.eq_iff_iff.2; simp only [decide_eq_true_eq, data_T, ino_T, beq_iff_eq]; (try simp only [GoodS, GoodU, GoodT] at *); omega)), hw.mod⟩
                · skip
                  try simp only [wI_T, wI_F, data_T, data_F, ino_T, ino_F, notT, notF, bneT, bneF, beqT, beqF, decT, decF] at h27
                  refine At.skipC ?_
                  refine At.thenN ?_
                  refine At.seq ?_
                  refine At.region ?_
                  refine At.val (Val.field 3 rfl fo_65_3 rfl) rfl rfl rfl ?_
                  refine At.val (Val.load (i := 0) Tryd.isAgg3 rfl rfl rfl) rfl rfl rfl ?_
                  refine At.callP (fun w hw => goodTailR_p _ w hb) Tryd.call120 rfl rfl ?_
                  refine At.val (Val.assign rfl) rfl rfl rfl ?_
                  refine At.nil ?_
                  refine At.thenN ?_
                  refine At.seq ?_
                  refine At.region ?_
                  refine At.val (Val.move rfl) rfl rfl rfl ?_
                  refine At.val (Val.move rfl) rfl rfl rfl ?_
                  refine At.split (t := 61) rfl (fun h28 => ?_) (fun h28 => ?_)
                  · skip
                    try simp only [wI_T, wI_F, data_T, data_F, ino_T, ino_F, notT, notF, bneT, bneF, beqT, beqF, decT, decF] at h28
                    refine At.yes rfl rfl ?_
                    refine At.val (Val.field 2 rfl fo_65_2 rfl) rfl rfl rfl ?_
                    refine At.yes rfl rfl ?_
                    refine At.val (Val.load (i := 0) Tryd.isAgg3 rfl rfl rfl) rfl rfl rfl ?_
                    refine At.yes rfl rfl ?_
                    refine At.callP (fun w hw => dataR_p _ w) Tryd.call92 rfl rfl ?_
                    refine At.val (Val.pickT rfl rfl) rfl rfl rfl ?_
                    refine At.val (Val.assign rfl) rfl rfl rfl ?_
                    refine At.nil ?_
                    refine At.thenN ?_
                    refine At.retC ?_
                    refine At.ret1 (.inl rfl) rfl rfl rfl (fun w hw => ?_)
                    exact ⟨retB (by first | exact (decide_eq_true (by (try simp only [GoodS, GoodU, GoodT] at *); omega)).symm | exact (decide_eq_false (by (try simp only [GoodS, GoodU, GoodT] at *); omega)).symm | (apply Bool.eq_iff_iff.2; simp only [decide_eq_true_eq, data_T, ino_T, beq_iff_eq]; (try simp only [GoodS, GoodU, GoodT] at *); omega)), hw.mod⟩
                  · skip
                    try simp only [wI_T, wI_F, data_T, data_F, ino_T, ino_F, notT, notF, bneT, bneF, beqT, beqF, decT, decF] at h28
                    refine At.no rfl rfl rfl rfl ?_
                    refine At.no rfl rfl rfl rfl ?_
                    refine At.no rfl rfl rfl rfl ?_
                    refine At.val (Val.pickF rfl rfl) rfl rfl rfl ?_
                    refine At.val (Val.assign rfl) rfl rfl rfl ?_
                    refine At.nil ?_
                    refine At.thenN ?_
                    refine At.retC ?_
                    refine At.ret1 (.inl rfl) rfl rfl rfl (fun w hw => ?_)
                    exact ⟨retB (by first | exact (decide_eq_true (by (try simp only [GoodS, GoodU, GoodT] at *); omega)).symm | exact (decide_eq_false (by (try simp only [GoodS, GoodU, GoodT] at *); omega)).symm | (apply Bool.eq_iff_iff.2; simp only [decide_eq_true_eq, data_T, ino_T, beq_iff_eq]; (try simp only [GoodS, GoodU, GoodT] at *); omega)), hw.mod⟩
              · skip
                try simp only [wI_T, wI_F, data_T, data_F, ino_T, ino_F, notT, notF, bneT, bneF, beqT, beqF, decT, decF] at h26
                refine At.no rfl rfl rfl rfl ?_
                refine At.no rfl rfl rfl rfl ?_
                refine At.no rfl rfl rfl rfl ?_
                refine At.val (Val.pickF rfl rfl) rfl rfl rfl ?_
                refine At.nil ?_
                refine At.thenN ?_
                refine At.condF rfl ?_
                refine At.skipC ?_
                refine At.thenN ?_
                refine At.seq ?_
                refine At.region ?_
                refine At.val (Val.field 3 rfl fo_65_3 rfl) rfl rfl rfl ?_
                refine At.val (Val.load (i := 0) Tryd.isAgg3 rfl rfl rfl) rfl rfl rfl ?_
                refine At.callP (fun w hw => goodTailR_p _ w hb) Tryd.call120 rfl rfl ?_
                refine At.val (Val.assign rfl) rfl rfl rfl ?_
                refine At.nil ?_
                refine At.thenN ?_
                refine At.seq ?_
                refine At.region ?_
                refine At.val (Val.move rfl) rfl rfl rfl ?_
                refine At.val (Val.move rfl) rfl rfl rfl ?_
                refine At.split (t := 61) rfl (fun h29 => ?_) (fun h29 => ?_)
                · skip
                  try simp only [wI_T, wI_F, data_T, data_F, ino_T, ino_F, notT, notF, bneT, bneF, beqT, beqF, decT, decF] at h29
                  refine At.yes rfl rfl ?_
                  refine At.val (Val.field 2 rfl fo_65_2 rfl) rfl rfl rfl ?_
                  refine At.yes rfl rfl ?_
                  refine At.val (Val.load (i := 0) Tryd.isAgg3 rfl rfl rfl) rfl rfl rfl ?_
                  refine At.yes rfl rfl ?_
                  refine At.callP (fun w hw => dataR_p _ w) Tryd.call92 rfl rfl ?_
                  refine At.val (Val.pickT rfl rfl) rfl rfl rfl ?_
                  refine At.val (Val.assign rfl) rfl rfl rfl ?_
                  refine At.nil ?_
                  refine At.thenN ?_
                  refine At.retC ?_
                  refine At.ret1 (.inl rfl) rfl rfl rfl (fun w hw => ?_)
                  exact ⟨retB (by first | exact (decide_eq_true (by (try simp only [GoodS, GoodU, GoodT] at *); omega)).symm | exact (decide_eq_false (by (try simp only [GoodS, GoodU, GoodT] at *); omega)).symm | (apply Bool.eq_iff_iff.2; simp only [decide_eq_true_eq, data_T, ino_T, beq_iff_eq]; (try simp only [GoodS, GoodU, GoodT] at *); omega)), hw.mod⟩
                · skip
                  try simp only [wI_T, wI_F, data_T, data_F, ino_T, ino_F, notT, notF, bneT, bneF, beqT, beqF, decT, decF] at h29
                  refine At.no rfl rfl rfl rfl ?_
                  refine At.no rfl rfl rfl rfl ?_
                  refine At.no rfl rfl rfl rfl ?_
                  refine At.val (Val.pickF rfl rfl) rfl rfl rfl ?_
                  refine At.val (Val.assign rfl) rfl rfl rfl ?_
                  refine At.nil ?_
                  refine At.thenN ?_
                  refine At.retC ?_
                  refine At.ret1 (.inl rfl) rfl rfl rfl (fun w hw => ?_)
                  exact ⟨retB (by first | exact (decide_eq_true (by (try simp only [GoodS, GoodU, GoodT] at *); omega)).symm | exact (decide_eq_false (by (try simp only [GoodS, GoodU, GoodT] at *); omega)).symm | (apply Bool.eq_iff_iff.2; simp only [decide_eq_true_eq, data_T, ino_T, beq_iff_eq]; (try simp only [GoodS, GoodU, GoodT] at *); omega)), hw.mod⟩
    · skip
      try simp only [wI_T, wI_F, data_T, data_F, ino_T, ino_F, notT, notF, bneT, bneF, beqT, beqF, decT, decF] at h5
      refine At.no rfl rfl rfl rfl ?_
      refine At.no rfl rfl rfl rfl ?_
      refine At.no rfl rfl rfl rfl ?_
      refine At.no rfl rfl rfl rfl ?_
      refine At.noU rfl rfl rfl ?_
      refine At.noU rfl rfl rfl ?_
      refine At.noU rfl rfl rfl ?_
      refine At.no rfl rfl rfl rfl ?_
      refine At.val (Val.pickF rfl rfl) rfl rfl rfl ?_
      refine At.nil ?_
      refine At.thenN ?_
      refine At.condF rfl ?_
      refine At.skipC ?_
      refine At.thenN ?_
      refine At.seq ?_
      refine At.seq ?_
      refine At.region ?_
      refine At.val (Val.field 0 rfl fo_65_0 rfl) rfl rfl rfl ?_
      refine At.val (Val.load (i := 0) Tryd.isAgg3 rfl rfl rfl) rfl rfl rfl ?_
      refine At.val (Val.bin rfl rfl rfl) rfl rfl rfl ?_
      refine At.val (Val.move rfl) rfl rfl rfl ?_
      refine At.split (t := 36) rfl (fun h30 => ?_) (fun h30 => ?_)
      · skip
        try simp only [wI_T, wI_F, data_T, data_F, ino_T, ino_F, notT, notF, bneT, bneF, beqT, beqF, decT, decF] at h30
        refine At.yes rfl rfl ?_
        refine At.val (Val.field 1 rfl fo_65_1 rfl) rfl rfl rfl ?_
        refine At.yes rfl rfl ?_
        refine At.val (Val.load (i := 0) Tryd.isAgg3 rfl rfl rfl) rfl rfl rfl ?_
        refine At.yes rfl rfl ?_
        refine At.val (Val.bin rfl rfl rfl) rfl rfl rfl ?_
        refine At.val (Val.pickT rfl rfl) rfl rfl rfl ?_
        refine At.nil ?_
        refine At.thenN ?_
        refine At.cond rfl (fun h31 => ?_) (fun h31 => ?_)
        · skip
          try simp only [wI_T, wI_F, data_T, data_F, ino_T, ino_F, notT, notF, bneT, bneF, beqT, beqF, decT, decF] at h31
          refine At.seq ?_
          refine At.region ?_
          refine At.val (Val.assign rfl) rfl rfl rfl ?_
          refine At.nil ?_
          refine At.thenN ?_
          refine At.retC ?_
          refine At.thenR ?_
          refine At.ret1 (.inl rfl) rfl rfl rfl (fun w hw => ?_)
          exact ⟨retB (by first | exact (decide_eq_true (by (try simp only [GoodS, GoodU, GoodT] at *); omega)).symm | exact (decide_eq_false (by (try simp only [GoodS, GoodU, GoodT] at *); omega)).symm | (apply Bool.eq_iff_iff.2; simp only [decide_eq_true_eq, data_T, ino_T, beq_iff_eq]; (try simp only [GoodS, GoodU, GoodT] at *); omega)), hw.mod⟩
        · skip
          try simp only [wI_T, wI_F, data_T, data_F, ino_T, ino_F, notT, notF, bneT, bneF, beqT, beqF, decT, decF] at h31
          refine At.skipC ?_
          refine At.thenN ?_
          refine At.seq ?_
          refine At.seq ?_
          refine At.region ?_
          refine At.val (Val.field 0 rfl fo_65_0 rfl) rfl rfl rfl ?_
          refine At.val (Val.load (i := 0) Tryd.isAgg3 rfl rfl rfl) rfl rfl rfl ?_
          refine At.val (Val.bin rfl rfl rfl) rfl rfl rfl ?_
          refine At.val (Val.move rfl) rfl rfl rfl ?_
          refine At.split (t := 44) rfl (fun h32 => ?_) (fun h32 => ?_)
          · skip
            try simp only [wI_T, wI_F, data_T, data_F, ino_T, ino_F, notT, notF, bneT, bneF, beqT, beqF, decT, decF] at h32
            refine At.yes rfl rfl ?_
            refine At.val (Val.field 0 rfl fo_65_0 rfl) rfl rfl rfl ?_
            refine At.yes rfl rfl ?_
            refine At.val (Val.load (i := 0) Tryd.isAgg3 rfl rfl rfl) rfl rfl rfl ?_
            refine At.yes rfl rfl ?_
            refine At.val (Val.bin rfl rfl rfl) rfl rfl rfl ?_
            refine At.val (Val.pickT rfl rfl) rfl rfl rfl ?_
            refine At.nil ?_
            refine At.thenN ?_
            refine At.cond rfl (fun h33 => ?_) (fun h33 => ?_)
            · skip
              try simp only [wI_T, wI_F, data_T, data_F, ino_T, ino_F, notT, notF, bneT, bneF, beqT, beqF, decT, decF] at h33
              refine At.seq ?_
              refine At.region ?_
              refine At.val (Val.assign rfl) rfl rfl rfl ?_
              refine At.nil ?_
              refine At.thenN ?_
              refine At.retC ?_
              refine At.thenR ?_
              refine At.ret1 (.inl rfl) rfl rfl rfl (fun w hw => ?_)
              exact ⟨retB (by first | exact (decide_eq_true (by (try simp only [GoodS, GoodU, GoodT] at *); omega)).symm | exact (decide_eq_false (by (try simp only [GoodS, GoodU, GoodT] at *); omega)).symm | (apply Bool.eq_iff_iff.2; simp only [decide_eq_true_eq, data_T, ino_T, beq_iff_eq]; (try simp only [GoodS, GoodU, GoodT] at *); omega)), hw.mod⟩
            · skip
              try simp only [wI_T, wI_F, data_T, data_F, ino_T, ino_F, notT, notF, bneT, bneF, beqT, beqF, decT, decF] at h33
              refine At.skipC ?_
              refine At.thenN ?_
              refine At.seq ?_
              refine At.seq ?_
              refine At.region ?_
              refine At.val (Val.field 2 rfl fo_65_2 rfl) rfl rfl rfl ?_
              refine At.val (Val.load (i := 0) Tryd.isAgg3 rfl rfl rfl) rfl rfl rfl ?_
              refine At.val (Val.bin rfl rfl rfl) rfl rfl rfl ?_
              refine At.val (Val.move rfl) rfl rfl rfl ?_
              refine At.split (t := 52) rfl (fun h34 => ?_) (fun h34 => ?_)
              · skip
                try simp only [wI_T, wI_F, data_T, data_F, ino_T, ino_F, notT, notF, bneT, bneF, beqT, beqF, decT, decF] at h34
                refine At.yes rfl rfl ?_
                refine At.val (Val.field 3 rfl fo_65_3 rfl) rfl rfl rfl ?_
                refine At.yes rfl rfl ?_
                refine At.val (Val.load (i := 0) Tryd.isAgg3 rfl rfl rfl) rfl rfl rfl ?_
                refine At.yes rfl rfl ?_
                refine At.val (Val.bin rfl rfl rfl) rfl rfl rfl ?_
                refine At.val (Val.pickT rfl rfl) rfl rfl rfl ?_
                refine At.nil ?_
                refine At.thenN ?_
                refine At.cond rfl (fun h35 => ?_) (fun h35 => ?_)
                · skip
                  try simp only [wI_T, wI_F, data_T, data_F, ino_T, ino_F, notT, notF, bneT, bneF, beqT, beqF, decT, decF] at h35
                  refine At.seq ?_
                  refine At.region ?_
                  refine At.val (Val.assign rfl) rfl rfl rfl ?_
                  refine At.nil ?_
                  refine At.thenN ?_
                  refine At.retC ?_
                  refine At.thenR ?_
                  refine At.ret1 (.inl rfl) rfl rfl rfl (fun w hw => ?_)
                  exact ⟨retB (by first | exact (decide_eq_true (by (try simp only [GoodS, GoodU, GoodT] at *); omega)).symm | exact (decide_eq_false (by (try simp only [GoodS, GoodU, GoodT] at *); omega)).symm | (apply Bool.eq_iff_iff.2; simp only [decide_eq_true_eq, data_T, ino_T, beq_iff_eq]; (try simp only [GoodS, GoodU, GoodT] at *); omega)), hw.mod⟩
                · skip
                  try simp only [wI_T, wI_F, data_T, data_F, ino_T, ino_F, notT, notF, bneT, bneF, beqT, beqF, decT, decF] at h35
                  refine At.skipC ?_
                  refine At.thenN ?_
                  refine At.seq ?_
                  refine At.region ?_
                  refine At.val (Val.field 3 rfl fo_65_3 rfl) rfl rfl rfl ?_
                  refine At.val (Val.load (i := 0) Tryd.isAgg3 rfl rfl rfl) rfl rfl rfl ?_
                  refine At.callP (fun w hw => goodTailR_p _ w hb) Tryd.call120 rfl rfl ?_
                  refine At.val (Val.assign rfl) rfl rfl rfl ?_
                  refine At.nil ?_
                  refine At.thenN ?_
                  refine At.seq ?_
                  refine At.region ?_
                  refine At.val (Val.move rfl) rfl rfl rfl ?_
                  refine At.val (Val.move rfl) rfl rfl rfl ?_
                  refine At.split (t := 61) rfl (fun h36 => ?_) (fun h36 => ?_)
                  · skip
                    try simp only [wI_T, wI_F, data_T, data_F, ino_T, ino_F, notT, notF, bneT, bneF, beqT, beqF, decT, decF] at h36
                    refine At.yes rfl rfl ?_
                    refine At.val (Val.field 2 rfl fo_65_2 rfl) rfl rfl rfl ?_
                    refine At.yes rfl rfl ?_
                    refine At.val (Val.load (i := 0) Tryd.isAgg3 rfl rfl rfl) rfl rfl rfl ?_
                    refine At.yes rfl rfl ?_
                    refine At.callP (fun w hw => dataR_p _ w) Tryd.call92 rfl rfl ?_
                    refine At.val (Val.pickT rfl rfl) rfl rfl rfl ?_
                    refine At.val (Val.assign rfl) rfl rfl rfl ?_
                    refine At.nil ?_
                    refine At.thenN ?_
                    refine At.retC ?_
                    refine At.ret1 (.inl rfl) rfl rfl rfl (fun w hw => ?_)
                    exact ⟨retB (by first | exact (decide_eq_true (by (try simp only [GoodS, GoodU, GoodT] at *); omega)).symm | exact (decide_eq_false (by (try simp only [GoodS, GoodU, GoodT] at *); omega)).symm | (apply Bool.eq_iff_iff.2; simp only [decide_eq_true_eq, data_T, ino_T, beq_iff_eq]; (try simp only [GoodS, GoodU, GoodT] at *); omega)), hw.mod⟩
                  · skip
                    try simp only [wI_T, wI_F, data_T, data_F, ino_T, ino_F, notT, notF, bneT, bneF, beqT, beqF, decT, decF] at h36
                    refine At.no rfl rfl rfl rfl ?_
                    refine At.no rfl rfl rfl rfl ?_
                    refine At.no rfl rfl rfl rfl ?_
                    refine At.val (Val.pickF rfl rfl) rfl rfl rfl ?_
                    refine At.val (Val.assign rfl) rfl rfl rfl ?_
                    refine At.nil ?_
                    refine At.thenN ?_
                    refine At.retC ?_
                    refine At.ret1 (.inl rfl) rfl rfl rfl (fun w hw => ?_)
                    exact ⟨retB (by first | exact (decide_eq_true (by (try simp only [GoodS, GoodU, GoodT] at *); omega)).symm | exact (decide_eq_false (by (try simp only [GoodS, GoodU, GoodT] at *); omega)).symm | (apply Bool.eq_iff_iff.2; simp only [decide_eq_true_eq, data_T, ino_T, beq_iff_eq]; (try simp only [GoodS, GoodU, GoodT] at *); omega)), hw.mod⟩
              · skip
                try simp only [wI_T, wI_F, data_T, data_F, ino_T, ino_F, notT, notF, bneT, bneF, beqT, beqF, decT, decF] at h34
                refine At.no rfl rfl rfl rfl ?_
                refine At.no rfl rfl rfl rfl ?_
                refine At.no rfl rfl rfl rfl ?_
                refine At.val (Val.pickF rfl rfl) rfl rfl rfl ?_
                refine At.nil ?_
                refine At.thenN ?_
                refine At.condF rfl ?_
                refine At.skipC ?_
                refine At.thenN ?_
                refine At.seq ?_
                refine At.region ?_
                refine At.val (Val.field 3 rfl fo_65_3 rfl) rfl rfl rfl ?_
                refine At.val (Val.load (i := 0) Tryd.isAgg3 rfl rfl rfl) rfl rfl rfl ?_
                refine At.callP (fun w hw => goodTailR_p _ w hb) Tryd.call120 rfl rfl ?_
                refine At.val (Val.assign rfl) rfl rfl rfl ?_
                refine At.nil ?_
                refine At.thenN ?_
                refine At.seq ?_
                refine At.region ?_
                refine At.val (Val.move rfl) rfl rfl rfl ?_
                refine At.val (Val.move rfl) rfl rfl rfl ?_
                refine At.split (t := 61) rfl (fun h37 => ?_) (fun h37 => ?_)
                · skip
                  try simp only [wI_T, wI_F, data_T, data_F, ino_T, ino_F, notT, notF, bneT, bneF, beqT, beqF, decT, decF] at h37
                  refine At.yes rfl rfl ?_
                  refine At.val (Val.field 2 rfl fo_65_2 rfl) rfl rfl rfl ?_
                  refine At.yes rfl rfl ?_
                  refine At.val (Val.load (i := 0) Tryd.isAgg3 rfl rfl rfl) rfl rfl rfl ?_
                  refine At.yes rfl rfl ?_
                  refine At.callP (fun w hw => dataR_p _ w) Tryd.call92 rfl rfl ?_
                  refine At.val (Val.pickT rfl rfl) rfl rfl rfl ?_
                  refine At.val (Val.assign rfl) rfl rfl rfl ?_
                  refine At.nil ?_
                  refine At.thenN ?_
                  refine At.retC ?_
                  refine At.ret1 (.inl rfl) rfl rfl rfl (fun w hw => ?_)
                  exact ⟨retB (by first | exact (decide_eq_true (by (try simp only [GoodS, GoodU, GoodT] at *); omega)).symm | exact (decide_eq_false (by (try simp only [GoodS, GoodU, GoodT] at *); omega)).symm | (apply Bool.eq_iff_iff.2; simp only [decide_eq_true_eq, data_T, ino_T, beq_iff_eq]; (try simp only [GoodS, GoodU, GoodT] at *); omega)), hw.mod⟩
                · skip
                  try simp only [wI_T, wI_F, data_T, data_F, ino_T, ino_F, notT, notF, bneT, bneF, beqT, beqF, decT, decF] at h37
                  refine At.no rfl rfl rfl rfl ?_
                  refine At.no rfl rfl rfl rfl ?_
                  refine At.no rfl rfl rfl rfl ?_
                  refine At.val (Val.pickF rfl rfl) rfl rfl rfl ?_
                  refine At.val (Val.assign rfl) rfl rfl rfl ?_
                  refine At.nil ?_
                  refine At.thenN ?_
                  refine At.retC ?_
                  refine At.ret1 (.inl rfl) rfl rfl rfl (fun w hw => ?_)
                  exact ⟨retB (by first | exact (decide_eq_true (by (try simp only [GoodS, GoodU, GoodT] at *); omega)).symm | exact (decide_eq_false (by (try simp only [GoodS, GoodU, GoodT] at *); omega)).symm | (apply Bool.eq_iff_iff.2; simp only [decide_eq_true_eq, data_T, ino_T, beq_iff_eq]; (try simp only [GoodS, GoodU, GoodT] at *); omega)), hw.mod⟩
          · skip
            try simp only [wI_T, wI_F, data_T, data_F, ino_T, ino_F, notT, notF, bneT, bneF, beqT, beqF, decT, decF] at h32
            refine At.no rfl rfl rfl rfl ?_
            refine At.no rfl rfl rfl rfl ?_
            refine At.no rfl rfl rfl rfl ?_
            refine At.val (Val.pickF rfl rfl) rfl rfl rfl ?_
            refine At.nil ?_
            refine At.thenN ?_
            refine At.condF rfl ?_
            refine At.skipC ?_
            refine At.thenN ?_
            refine At.seq ?_
            refine At.seq ?_
            refine At.region ?_
            refine At.val (Val.field 2 rfl fo_65_2 rfl) rfl rfl rfl ?_
            refine At.val (Val.load (i := 0) Tryd.isAgg3 rfl rfl rfl) rfl rfl rfl ?_
            refine At.val (Val.bin rfl rfl rfl) rfl rfl rfl ?_
            refine At.val (Val.move rfl) rfl rfl rfl ?_
            refine At.split (t := 52) rfl (fun h38 => ?_) (fun h38 => ?_)
            · skip
              try simp only [wI_T, wI_F, data_T, data_F, ino_T, ino_F, notT, notF, bneT, bneF, beqT, beqF, decT, decF] at h38
              refine At.yes rfl rfl ?_
              refine At.val (Val.field 3 rfl fo_65_3 rfl) rfl rfl rfl ?_
              refine At.yes rfl rfl ?_
              refine At.val (Val.load (i := 0) Tryd.isAgg3 rfl rfl rfl) rfl rfl rfl ?_
              refine At.yes rfl rfl ?_
              refine At.val (Val.bin rfl rfl rfl) rfl rfl rfl ?_
              refine At.val (Val.pickT rfl rfl) rfl rfl rfl ?_
              refine At.nil ?_
              refine At.thenN ?_
              refine At.cond rfl (fun h39 => ?_) (fun h39 => ?_)
              · skip
                try simp only [wI_T, wI_F, data_T, data_F, ino_T, ino_F, notT, notF, bneT, bneF, beqT, beqF, decT, decF] at h39
                refine At.seq ?_
                refine At.region ?_
                refine At.val (Val.assign rfl) rfl rfl rfl ?_
                refine At.nil ?_
                refine At.thenN ?_
                refine At.retC ?_
                refine At.thenR ?_
                refine At.ret1 (.inl rfl) rfl rfl rfl (fun w hw => ?_)
                exact ⟨retB (by first | exact (decide_eq_true (by (try simp only [GoodS, GoodU, GoodT] at *); omega)).symm | exact (decide_eq_false (by (try simp only [GoodS, GoodU, GoodT] at *); omega)).symm | (apply Bool.eq_iff_iff.2; simp only [decide_eq_true_eq, data_T, ino_T, beq_iff_eq]; (try simp only [GoodS, GoodU, GoodT] at *); omega)), hw.mod⟩
              · skip
                try simp only [wI_T, wI_F, data_T, data_F, ino_T, ino_F, notT, notF, bneT, bneF, beqT, beqF, decT, decF] at h39
                refine At.skipC ?_
                refine At.thenN ?_
                refine At.seq ?_
                refine At.region ?_
                refine At.val (Val.field 3 rfl fo_65_3 rfl) rfl rfl rfl ?_
                refine At.val (Val.load (i := 0) Tryd.isAgg3 rfl rfl rfl) rfl rfl rfl ?_
                refine At.callP (fun w hw => goodTailR_p _ w hb) Tryd.call120 rfl rfl ?_
                refine At.val (Val.assign rfl) rfl rfl rfl ?_
                refine At.nil ?_
                refine At.thenN ?_
                refine At.seq ?_
                refine At.region ?_
                refine At.val (Val.move rfl) rfl rfl rfl ?_
                refine At.val (Val.move rfl) rfl rfl rfl ?_
                refine At.split (t := 61) rfl (fun h40 => ?_) (fun h40 => ?_)
                · skip
                  try simp only [wI_T, wI_F, data_T, data_F, ino_T, ino_F, notT, notF, bneT, bneF, beqT, beqF, decT, decF] at h40
                  refine At.yes rfl rfl ?_
                  refine At.val (Val.field 2 rfl fo_65_2 rfl) rfl rfl rfl ?_
                  refine At.yes rfl rfl ?_
                  refine At.val (Val.load (i := 0) Tryd.isAgg3 rfl rfl rfl) rfl rfl rfl ?_
                  refine At.yes rfl rfl ?_
                  refine At.callP (fun w hw => dataR_p _ w) Tryd.call92 rfl rfl ?_
                  refine At.val (Val.pickT rfl rfl) rfl rfl rfl ?_
                  refine At.val (Val.assign rfl) rfl rfl rfl ?_
                  refine At.nil ?_
                  refine At.thenN ?_
                  refine At.retC ?_
                  refine At.ret1 (.inl rfl) rfl rfl rfl (fun w hw => ?_)
                  exact ⟨retB (by first | exact (decide_eq_true (by (try simp only [GoodS, GoodU, GoodT] at *); omega)).symm | exact (decide_eq_false (by (try simp only [GoodS, GoodU, GoodT] at *); omega)).symm | (apply Bool.eq_iff_iff.2; simp only [decide_eq_true_eq, data_T, ino_T, beq_iff_eq]; (try simp only [GoodS, GoodU, GoodT] at *); omega)), hw.mod⟩
                · skip
                  try simp only [wI_T, wI_F, data_T, data_F, ino_T, ino_F, notT, notF, bneT, bneF, beqT, beqF, decT, decF] at h40
                  refine At.no rfl rfl rfl rfl ?_
                  refine At.no rfl rfl rfl rfl ?_
                  refine At.no rfl rfl rfl rfl ?_
                  refine At.val (Val.pickF rfl rfl) rfl rfl rfl ?_
                  refine At.val (Val.assign rfl) rfl rfl rfl ?_
                  refine At.nil ?_
                  refine At.thenN ?_
                  refine At.retC ?_
                  refine At.ret1 (.inl rfl) rfl rfl rfl (fun w hw => ?_)
                  exact ⟨retB (by first | exact (decide_eq_true (by (try simp only [GoodS, GoodU, GoodT] at *); omega)).symm | exact (decide_eq_false (by (try simp only [GoodS, GoodU, GoodT] at *); omega)).symm | (apply Bool.eq_iff_iff.2; simp only [decide_eq_true_eq, data_T, ino_T, beq_iff_eq]; (try simp only [GoodS, GoodU, GoodT] at *); omega)), hw.mod⟩
            · skip
              try simp only [wI_T, wI_F, data_T, data_F, ino_T, ino_F, notT, notF, bneT, bneF, beqT, beqF, decT, decF] at h38
              refine At.no rfl rfl rfl rfl ?_
              refine At.no rfl rfl rfl rfl ?_
              refine At.no rfl rfl rfl rfl ?_
              refine At.val (Val.pickF rfl rfl) rfl rfl rfl ?_
              refine At.nil ?_
              refine At.thenN ?_
              refine At.condF rfl ?_
              refine At.skipC ?_
              refine At.thenN ?_
              refine At.seq ?_
              refine At.region ?_
              refine At.val (Val.field 3 rfl fo_65_3 rfl) rfl rfl rfl ?_
              refine At.val (Val.load (i := 0) Tryd.isAgg3 rfl rfl rfl) rfl rfl rfl ?_
              refine At.callP (fun w hw => goodTailR_p _ w hb) Tryd.call120 rfl rfl ?_
              refine At.val (Val.assign rfl) rfl rfl rfl ?_
              refine At.nil ?_
              refine At.thenN ?_
              refine At.seq ?_
              refine At.region ?_
              refine At.val (Val.move rfl) rfl rfl rfl ?_
              refine At.val (Val.move rfl) rfl rfl rfl ?_
              refine At.split (t := 61) rfl (fun h41 => ?_) (fun h41 => ?_)
              · skip
                try simp only [wI_T, wI_F, data_T, data_F, ino_T, ino_F, notT, notF, bneT, bneF, beqT, beqF, decT, decF] at h41
                refine At.yes rfl rfl ?_
                refine At.val (Val.field 2 rfl fo_65_2 rfl) rfl rfl rfl ?_
                refine At.yes rfl rfl ?_
                refine At.val (Val.load (i := 0) Tryd.isAgg3 rfl rfl rfl) rfl rfl rfl ?_
                refine At.yes rfl rfl ?_
                refine At.callP (fun w hw => dataR_p _ w) Tryd.call92 rfl rfl ?_
                refine At.val (Val.pickT rfl rfl) rfl rfl rfl ?_
                refine At.val (Val.assign rfl) rfl rfl rfl ?_
                refine At.nil ?_
                refine At.thenN ?_
                refine At.retC ?_
                refine At.ret1 (.inl rfl) rfl rfl rfl (fun w hw => ?_)
                exact ⟨retB (by first | exact (decide_eq_true (by (try simp only [GoodS, GoodU, GoodT] at *); omega)).symm | exact (decide_eq_false (by (try simp only [GoodS, GoodU, GoodT] at *); omega)).symm | (apply Bool.eq_iff_iff.2; simp only [decide_eq_true_eq, data_T, ino_T, beq_iff_eq]; (try simp only [GoodS, GoodU, GoodT] at *); omega)), hw.mod⟩
              · skip
                try simp only [wI_T, wI_F, data_T, data_F, ino_T, ino_F, notT, notF, bneT, bneF, beqT, beqF, decT, decF] at h41
                refine At.no rfl rfl rfl rfl ?_
                refine At.no rfl rfl rfl rfl ?_
                refine At.no rfl rfl rfl rfl ?_
                refine At.val (Val.pickF rfl rfl) rfl rfl rfl ?_
                refine At.val (Val.assign rfl) rfl rfl rfl ?_
                refine At.nil ?_
                refine At.thenN ?_
                refine At.retC ?_
                refine At.ret1 (.inl rfl) rfl rfl rfl (fun w hw => ?_)
                exact ⟨retB (by first | exact (decide_eq_true (by (try simp only [GoodS, GoodU, GoodT] at *); omega)).symm | exact (decide_eq_false (by (try simp only [GoodS, GoodU, GoodT] at *); omega)).symm | (apply Bool.eq_iff_iff.2; simp only [decide_eq_true_eq, data_T, ino_T, beq_iff_eq]; (try simp only [GoodS, GoodU, GoodT] at *); omega)), hw.mod⟩
      · skip
        try simp only [wI_T, wI_F, data_T, data_F, ino_T, ino_F, notT, notF, bneT, bneF, beqT, beqF, decT, decF] at h30
        refine At.no rfl rfl rfl rfl ?_
        refine At.no rfl rfl rfl rfl ?_
        refine At.no rfl rfl rfl rfl ?_
        refine At.val (Val.pickF rfl rfl) rfl rfl rfl ?_
        refine At.nil ?_
        refine At.thenN ?_
        refine At.condF rfl ?_
        refine At.skipC ?_
        refine At.thenN ?_
        refine At.seq ?_
        refine At.seq ?_
        refine At.region ?_
        refine At.val (Val.field 0 rfl fo_65_0 rfl) rfl rfl rfl ?_
        refine At.val (Val.load (i := 0) Tryd.isAgg3 rfl rfl rfl) rfl rfl rfl ?_
        refine At.val (Val.bin rfl rfl rfl) rfl rfl rfl ?_
        refine At.val (Val.move rfl) rfl rfl rfl ?_
        refine At.split (t := 44) rfl (fun h42 => ?_) (fun h42 => ?_)
        · skip
          try simp only [wI_T, wI_F, data_T, data_F, ino_T, ino_F, notT, notF, bneT, bneF, beqT, beqF, decT, decF] at h42
          refine At.yes rfl rfl ?_
          refine At.val (Val.field 0 rfl fo_65_0 rfl) rfl rfl rfl ?_
          refine At.yes rfl rfl ?_
          refine At.val (Val.load (i := 0) Tryd.isAgg3 rfl rfl rfl) rfl rfl rfl ?_
          refine At.yes rfl rfl ?_
          refine At.val (Val.bin rfl rfl rfl) rfl rfl rfl ?_
          refine At.val (Val.pickT rfl rfl) rfl rfl rfl ?_
          refine At.nil ?_
          refine At.thenN ?_
          refine At.cond rfl (fun h43 => ?_) (fun h43 => ?_)
          · skip
            try simp only [wI_T, wI_F, data_T, data_F, ino_T, ino_F, notT, notF, bneT, bneF, beqT, beqF, decT, decF] at h43
            refine At.seq ?_
            refine At.region ?_
            refine At.val (Val.assign rfl) rfl rfl rfl ?_
            refine At.nil ?_
            refine At.thenN ?_
            refine At.retC ?_
            refine At.thenR ?_
            refine At.ret1 (.inl rfl) rfl rfl rfl (fun w hw => ?_)
            exact ⟨retB (by first | exact (decide_eq_true (by (try simp only [GoodS, GoodU, GoodT] at *); omega)).symm | exact (decide_eq_false (by (try simp only [GoodS, GoodU, GoodT] at *); omega)).symm | (apply Bool.eq_iff_iff.2; simp only [decide_eq_true_eq, data_T, ino_T, beq_iff_eq]; (try simp only [GoodS, GoodU, GoodT] at *); omega)), hw.mod⟩
          · skip
            try simp only [wI_T, wI_F, data_T, data_F, ino_T, ino_F, notT, notF, bneT, bneF, beqT, beqF, decT, decF] at h43
            refine At.skipC ?_
            refine At.thenN ?_
            refine At.seq ?_
            refine At.seq ?_
            refine At.region ?_
            refine At.val (Val.field 2 rfl fo_65_2 rfl) rfl rfl rfl ?_
            refine At.val (Val.load (i := 0) Tryd.isAgg3 rfl rfl rfl) rfl rfl rfl ?_
            refine At.val (Val.bin rfl rfl rfl) rfl rfl rfl ?_
            refine At.val (Val.move rfl) rfl rfl rfl ?_
            refine At.split (t := 52) rfl (fun h44 => ?_) (fun h44 => ?_)
            · skip
              try simp only [wI_T, wI_F, data_T, data_F, ino_T, ino_F, notT, notF, bneT, bneF, beqT, beqF, decT, decF] at h44
              refine At.yes rfl rfl ?_
              refine At.val (Val.field 3 rfl fo_65_3 rfl) rfl rfl rfl ?_
              refine At.yes rfl rfl ?_
              refine At.val (Val.load (i := 0) Tryd.isAgg3 rfl rfl rfl) rfl rfl rfl ?_
              refine At.yes rfl rfl ?_
              refine At.val (Val.bin rfl rfl rfl) rfl rfl rfl ?_
              refine At.val (Val.pickT rfl rfl) rfl rfl rfl ?_
              refine At.nil ?_
              refine At.thenN ?_
              refine At.cond rfl (fun h45 => ?_) (fun h45 => ?_)
              · skip
                try simp only [wI_T, wI_F, data_T, data_F, ino_T, ino_F, notT, notF, bneT, bneF, beqT, beqF, decT, decF] at h45
                refine At.seq ?_
                refine At.region ?_
                refine At.val (Val.assign rfl) rfl rfl rfl ?_
                refine At.nil ?_
                refine At.thenN ?_
                refine At.retC ?_
                refine At.thenR ?_
                refine At.ret1 (.inl rfl) rfl rfl rfl (fun w hw => ?_)
                exact ⟨retB (by first | exact (decide_eq_true (by (try simp only [GoodS, GoodU, GoodT] at *); omega)).symm | exact (decide_eq_false (by (try simp only [GoodS, GoodU, GoodT] at *); omega)).symm | (apply Bool.eq_iff_iff.2; simp only [decide_eq_true_eq, data_T, ino_T, beq_iff_eq]; (try simp only [GoodS, GoodU, GoodT] at *); omega)), hw.mod⟩
              · skip
                try simp only [wI_T, wI_F, data_T, data_F, ino_T, ino_F, notT, notF, bneT, bneF, beqT, beqF, decT, decF] at h45
                refine At.skipC ?_
                refine At.thenN ?_
                refine At.seq ?_
                refine At.region ?_
                refine At.val (Val.field 3 rfl fo_65_3 rfl) rfl rfl rfl ?_
                refine At.val (Val.load (i := 0) Tryd.isAgg3 rfl rfl rfl) rfl rfl rfl ?_
                refine At.callP (fun w hw => goodTailR_p _ w hb) Tryd.call120 rfl rfl ?_
                refine At.val (Val.assign rfl) rfl rfl rfl ?_
                refine At.nil ?_
                refine At.thenN ?_
                refine At.seq ?_
                refine At.region ?_
                refine At.val (Val.move rfl) rfl rfl rfl ?_
                refine At.val (Val.move rfl) rfl rfl rfl ?_
                refine At.split (t := 61) rfl (fun h46 => ?_) (fun h46 => ?_)
                · skip
                  try simp only [wI_T, wI_F, data_T, data_F, ino_T, ino_F, notT, notF, bneT, bneF, beqT, beqF, decT, decF] at h46
                  refine At.yes rfl rfl ?_
                  refine At.val (Val.field 2 rfl fo_65_2 rfl) rfl rfl rfl ?_
                  refine At.yes rfl rfl ?_
                  refine At.val (Val.load (i := 0) Tryd.isAgg3 rfl rfl rfl) rfl rfl rfl ?_
                  refine At.yes rfl rfl ?_
                  refine At.callP (fun w hw => dataR_p _ w) Tryd.call92 rfl rfl ?_
                  refine At.val (Val.pickT rfl rfl) rfl rfl rfl ?_
                  refine At.val (Val.assign rfl) rfl rfl rfl ?_
                  refine At.nil ?_
                  refine At.thenN ?_
                  refine At.retC ?_
                  refine At.ret1 (.inl rfl) rfl rfl rfl (fun w hw => ?_)
                  exact ⟨retB (by first | exact (decide_eq_true (by (try simp only [GoodS, GoodU, GoodT] at *); omega)).symm | exact (decide_eq_false (by (try simp only [GoodS, GoodU, GoodT] at *); omega)).symm | (apply Bool.eq_iff_iff.2; simp only [decide_eq_true_eq, data_T, ino_T, beq_iff_eq]; (try simp only [GoodS, GoodU, GoodT] at *); omega)), hw.mod⟩
                · skip
                  try simp only [wI_T, wI_F, data_T, data_F, ino_T, ino_F, notT, notF, bneT, bneF, beqT, beqF, decT, decF] at h46
                  refine At.no rfl rfl rfl rfl ?_
                  refine At.no rfl rfl rfl rfl ?_
                  refine At.no rfl rfl rfl rfl ?_
                  refine At.val (Val.pickF rfl rfl) rfl rfl rfl ?_
                  refine At.val (Val.assign rfl) rfl rfl rfl ?_
                  refine At.nil ?_
                  refine At.thenN ?_
                  refine At.retC ?_
                  refine At.ret1 (.inl rfl) rfl rfl rfl (fun w hw => ?_)
                  exact ⟨retB (by first | exact (decide_eq_true (by (try simp only [GoodS, GoodU, GoodT] at *); omega)).symm | exact (decide_eq_false (by (try simp only [GoodS, GoodU, GoodT] at *); omega)).symm | (apply Bool.eq_iff_iff.2; simp only [decide_eq_true_eq, data_T, ino_T, beq_iff_eq]; (try simp only [GoodS, GoodU, GoodT] at *); omega)), hw.mod⟩
            · skip
              try simp only [wI_T, wI_F, data_T, data_F, ino_T, ino_F, notT, notF, bneT, bneF, beqT, beqF, decT, decF] at h44
              refine At.no rfl rfl rfl rfl ?_
              refine At.no rfl rfl rfl rfl ?_
              refine At.no rfl rfl rfl rfl ?_
              refine At.val (Val.pickF rfl rfl) rfl rfl rfl ?_
              refine At.nil ?_
              refine At.thenN ?_
              refine At.condF rfl ?_
              refine At.skipC ?_
              refine At.thenN ?_
              refine At.seq ?_
              refine At.region ?_
              refine At.val (Val.field 3 rfl fo_65_3 rfl) rfl rfl rfl ?_
              refine At.val (Val.load (i := 0) Tryd.isAgg3 rfl rfl rfl) rfl rfl rfl ?_
              refine At.callP (fun w hw => goodTailR_p _ w hb) Tryd.call120 rfl rfl ?_
              refine At.val (Val.assign rfl) rfl rfl rfl ?_
              refine At.nil ?_
              refine At.thenN ?_
              refine At.seq ?_
              refine At.region ?_
              refine At.val (Val.move rfl) rfl rfl rfl ?_
              refine At.val (Val.move rfl) rfl rfl rfl ?_
              refine At.split (t := 61) rfl (fun h47 => ?_) (fun h47 => ?_)
              · skip
                try simp only [wI_T, wI_F, data_T, data_F, ino_T, ino_F, notT, notF, bneT, bneF, beqT, beqF, decT, decF] at h47
                refine At.yes rfl rfl ?_
                refine At.val (Val.field 2 rfl fo_65_2 rfl) rfl rfl rfl ?_
                refine At.yes rfl rfl ?_
                refine At.val (Val.load (i := 0) Tryd.isAgg3 rfl rfl rfl) rfl rfl rfl ?_
                refine At.yes rfl rfl ?_
                refine At.callP (fun w hw => dataR_p _ w) Tryd.call92 rfl rfl ?_
                refine At.val (Val.pickT rfl rfl) rfl rfl rfl ?_
                refine At.val (Val.assign rfl) rfl rfl rfl ?_
                refine At.nil ?_
                refine At.thenN ?_
                refine At.retC ?_
                refine At.ret1 (.inl rfl) rfl rfl rfl (fun w hw => ?_)
                exact ⟨retB (by first | exact (decide_eq_true (by (try simp only [GoodS, GoodU, GoodT] at *); omega)).symm | exact (decide_eq_false (by (try simp only [GoodS, GoodU, GoodT] at *); omega)).symm | (apply Bool.eq_iff_iff.2; simp only [decide_eq_true_eq, data_T, ino_T, beq_iff_eq]; (try simp only [GoodS, GoodU, GoodT] at *); omega)), hw.mod⟩
              · skip
                try simp only [wI_T, wI_F, data_T, data_F, ino_T, ino_F, notT, notF, bneT, bneF, beqT, beqF, decT, decF] at h47
                refine At.no rfl rfl rfl rfl ?_
                refine At.no rfl rfl rfl rfl ?_
                refine At.no rfl rfl rfl rfl ?_
                refine At.val (Val.pickF rfl rfl) rfl rfl rfl ?_
                refine At.val (Val.assign rfl) rfl rfl rfl ?_
                refine At.nil ?_
                refine At.thenN ?_
                refine At.retC ?_
                refine At.ret1 (.inl rfl) rfl rfl rfl (fun w hw => ?_)
                exact ⟨retB (by first | exact (decide_eq_true (by (try simp only [GoodS, GoodU, GoodT] at *); omega)).symm | exact (decide_eq_false (by (try simp only [GoodS, GoodU, GoodT] at *); omega)).symm | (apply Bool.eq_iff_iff.2; simp only [decide_eq_true_eq, data_T, ino_T, beq_iff_eq]; (try simp only [GoodS, GoodU, GoodT] at *); omega)), hw.mod⟩
        · skip
          try simp only [wI_T, wI_F, data_T, data_F, ino_T, ino_F, notT, notF, bneT, bneF, beqT, beqF, decT, decF] at h42
          refine At.no rfl rfl rfl rfl ?_
          refine At.no rfl rfl rfl rfl ?_
          refine At.no rfl rfl rfl rfl ?_
          refine At.val (Val.pickF rfl rfl) rfl rfl rfl ?_
          refine At.nil ?_
          refine At.thenN ?_
          refine At.condF rfl ?_
          refine At.skipC ?_
          refine At.thenN ?_
          refine At.seq ?_
          refine At.seq ?_
          refine At.region ?_
          refine At.val (Val.field 2 rfl fo_65_2 rfl) rfl rfl rfl ?_
          refine At.val (Val.load (i := 0) Tryd.isAgg3 rfl rfl rfl) rfl rfl rfl ?_
          refine At.val (Val.bin rfl rfl rfl) rfl rfl rfl ?_
          refine At.val (Val.move rfl) rfl rfl rfl ?_
          refine At.split (t := 52) rfl (fun h48 => ?_) (fun h48 => ?_)
          · skip
            try simp only [wI_T, wI_F, data_T, data_F, ino_T, ino_F, notT, notF, bneT, bneF, beqT, beqF, decT, decF] at h48
            refine At.yes rfl rfl ?_
            refine At.val (Val.field 3 rfl fo_65_3 rfl) rfl rfl rfl ?_
            refine At.yes rfl rfl ?_
            refine At.val (Val.load (i := 0) Tryd.isAgg3 rfl rfl rfl) rfl rfl rfl ?_
            refine At.yes rfl rfl ?_
            refine At.val (Val.bin rfl rfl rfl) rfl rfl rfl ?_
            refine At.val (Val.pickT rfl rfl) rfl rfl rfl ?_
            refine At.nil ?_
            refine At.thenN ?_
            refine At.cond rfl (fun h49 => ?_) (fun h49 => ?_)
            · skip
              try simp only [wI_T, wI_F, data_T, data_F, ino_T, ino_F, notT, notF, bneT, bneF, beqT, beqF, decT, decF] at h49
              refine At.seq ?_
              refine At.region ?_
              refine At.val (Val.assign rfl) rfl rfl rfl ?_
              refine At.nil ?_
              refine At.thenN ?_
              refine At.retC ?_
              refine At.thenR ?_
              refine At.ret1 (.inl rfl) rfl rfl rfl (fun w hw => ?_)
              exact ⟨retB (by first | exact (decide_eq_true (by (try simp only [GoodS, GoodU, GoodT] at *); omega)).symm | exact (decide_eq_false (by (try simp only [GoodS, GoodU, GoodT] at *); omega)).symm | (apply Bool.eq_iff_iff.2; simp only [decide_eq_true_eq, data_T, ino_T, beq_iff_eq]; (try simp only [GoodS, GoodU, GoodT] at *); omega)), hw.mod⟩
            · skip
              try simp only [wI_T, wI_F, data_T, data_F, ino_T, ino_F, notT, notF, bneT, bneF, beqT, beqF, decT, decF] at h49
              refine At.skipC ?_
              refine At.thenN ?_
              refine At.seq ?_
              refine At.region ?_
              refine At.val (Val.field 3 rfl fo_65_3 rfl) rfl rfl rfl ?_
              refine At.val (Val.load (i := 0) Tryd.isAgg3 rfl rfl rfl) rfl rfl rfl ?_
              refine At.callP (fun w hw => goodTailR_p _ w hb) Tryd.call120 rfl rfl ?_
              refine At.val (Val.assign rfl) rfl rfl rfl ?_
              refine At.nil ?_
              refine At.thenN ?_
              refine At.seq ?_
              refine At.region ?_
              refine At.val (Val.move rfl) rfl rfl rfl ?_
              refine At.val (Val.move rfl) rfl rfl rfl ?_
              refine At.split (t := 61) rfl (fun h50 => ?_) (fun h50 => ?_)
              · skip
                try simp only [wI_T, wI_F, data_T, data_F, ino_T, ino_F, notT, notF, bneT, bneF, beqT, beqF, decT, decF] at h50
                refine At.yes rfl rfl ?_
                refine At.val (Val.field 2 rfl fo_65_2 rfl) rfl rfl rfl ?_
                refine At.yes rfl rfl ?_
                refine At.val (Val.load (i := 0) Tryd.isAgg3 rfl rfl rfl) rfl rfl rfl ?_
                refine At.yes rfl rfl ?_
                refine At.callP (fun w hw => dataR_p _ w) Tryd.call92 rfl rfl ?_
                refine At.val (Val.pickT rfl rfl) rfl rfl rfl ?_
                refine At.val (Val.assign rfl) rfl rfl rfl ?_
                refine At.nil ?_
                refine At.thenN ?_
                refine At.retC ?_
                refine At.ret1 (.inl rfl) rfl rfl rfl (fun w hw => ?_)
                exact ⟨retB (by first | exact (decide_eq_true (by (try simp only [GoodS, GoodU, GoodT] at *); omega)).symm | exact (decide_eq_false (by (try simp only [GoodS, GoodU, GoodT] at *); omega)).symm | (apply Bool.eq_iff_iff.2; simp only [decide_eq_true_eq, data_T, ino_T, beq_iff_eq]; (try simp only [GoodS, GoodU, GoodT] at *); omega)), hw.mod⟩
              · skip
                try simp only [wI_T, wI_F, data_T, data_F, ino_T, ino_F, notT, notF, bneT, bneF, beqT, beqF, decT, decF] at h50
                refine At.no rfl rfl rfl rfl ?_
                refine At.no rfl rfl rfl rfl ?_
                refine At.no rfl rfl rfl rfl ?_
                refine At.val (Val.pickF rfl rfl) rfl rfl rfl ?_
                refine At.val (Val.assign rfl) rfl rfl rfl ?_
                refine At.nil ?_
                refine At.thenN ?_
                refine At.retC ?_
                refine At.ret1 (.inl rfl) rfl rfl rfl (fun w hw => ?_)
                exact ⟨retB (by first | exact (decide_eq_true (by (try simp only [GoodS, GoodU, GoodT] at *); omega)).symm | exact (decide_eq_false (by (try simp only [GoodS, GoodU, GoodT] at *); omega)).symm | (apply Bool.eq_iff_iff.2; simp only [decide_eq_true_eq, data_T, ino_T, beq_iff_eq]; (try simp only [GoodS, GoodU, GoodT] at *); omega)), hw.mod⟩
          · skip
            try simp only [wI_T, wI_F, data_T, data_F, ino_T, ino_F, notT, notF, bneT, bneF, beqT, beqF, decT, decF] at h48
            refine At.no rfl rfl rfl rfl ?_
            refine At.no rfl rfl rfl rfl ?_
            refine At.no rfl rfl rfl rfl ?_
            refine At.val (Val.pickF rfl rfl) rfl rfl rfl ?_
            refine At.nil ?_
            refine At.thenN ?_
            refine At.condF rfl ?_
            refine At.skipC ?_
            refine At.thenN ?_
            refine At.seq ?_
            refine At.region ?_
            refine At.val (Val.field 3 rfl fo_65_3 rfl) rfl rfl rfl ?_
            refine At.val (Val.load (i := 0) Tryd.isAgg3 rfl rfl rfl) rfl rfl rfl ?_
            refine At.callP (fun w hw => goodTailR_p _ w hb) Tryd.call120 rfl rfl ?_
            refine At.val (Val.assign rfl) rfl rfl rfl ?_
            refine At.nil ?_
            refine At.thenN ?_
            refine At.seq ?_
            refine At.region ?_
            refine At.val (Val.move rfl) rfl rfl rfl ?_
            refine At.val (Val.move rfl) rfl rfl rfl ?_
            refine At.split (t := 61) rfl (fun h51 => ?_) (fun h51 => ?_)
            · skip
              try simp only [wI_T, wI_F, data_T, data_F, ino_T, ino_F, notT, notF, bneT, bneF, beqT, beqF, decT, decF] at h51
              refine At.yes rfl rfl ?_
              refine At.val (Val.field 2 rfl fo_65_2 rfl) rfl rfl rfl ?_
              refine At.yes rfl rfl ?_
              refine At.val (Val.load (i := 0) Tryd.isAgg3 rfl rfl rfl) rfl rfl rfl ?_
              refine At.yes rfl rfl ?_
              refine At.callP (fun w hw => dataR_p _ w) Tryd.call92 rfl rfl ?_
              refine At.val (Val.pickT rfl rfl) rfl rfl rfl ?_
              refine At.val (Val.assign rfl) rfl rfl rfl ?_
              refine At.nil ?_
              refine At.thenN ?_
              refine At.retC ?_
              refine At.ret1 (.inl rfl) rfl rfl rfl (fun w hw => ?_)
              exact ⟨retB (by first | exact (decide_eq_true (by (try simp only [GoodS, GoodU, GoodT] at *); omega)).symm | exact (decide_eq_false (by (try simp only [GoodS, GoodU, GoodT] at *); omega)).symm | (apply Bool.eq_iff_iff.2; simp only [decide_eq_true_eq, data_T, ino_T, beq_iff_eq]; (try simp only [GoodS, GoodU, GoodT] at *); omega)), hw.mod⟩
            · skip
              try simp only [wI_T, wI_F, data_T, data_F, ino_T, ino_F, notT, notF, bneT, bneF, beqT, beqF, decT, decF] at h51
              refine At.no rfl rfl rfl rfl ?_
              refine At.no rfl rfl rfl rfl ?_
              refine At.no rfl rfl rfl rfl ?_
              refine At.val (Val.pickF rfl rfl) rfl rfl rfl ?_
              refine At.val (Val.assign rfl) rfl rfl rfl ?_
              refine At.nil ?_
              refine At.thenN ?_
              refine At.retC ?_
              refine At.ret1 (.inl rfl) rfl rfl rfl (fun w hw => ?_)
              exact ⟨retB (by first | exact (decide_eq_true (by (try simp only [GoodS, GoodU, GoodT] at *); omega)).symm | exact (decide_eq_false (by (try simp only [GoodS, GoodU, GoodT] at *); omega)).symm | (apply Bool.eq_iff_iff.2; simp only [decide_eq_true_eq, data_T, ino_T, beq_iff_eq]; (try simp only [GoodS, GoodU, GoodT] at *); omega)), hw.mod⟩

end Go.Proofs.YtoiebgnmknbkjaaDoor
