/- Parts of the proof, joined: see the law's text. -/
import Derived.Test.YthdmlpjhcalliaaGreatDoorY2
import Derived.Test.YthdmlpjhcalliaaGreatDoorY1
import Derived.Test.YthdmlpjhcalliaaGreatDoorY3
import Derived.Test.YthdmlpjhcalliaaGreatDoorY4
set_option linter.unusedVariables false
set_option linter.unusedSimpArgs false
namespace Go.Proofs.YthdmlpjhcalliaaGreatDoor
open Go Go.Wk
def GoodT (t : Int) : Prop := 0 < t ∧ t % 64 = 0 ∧ 5 ≤ (t - 1) / 512 ∧ (t - 1) / 512 ≤ 1023 ∧ 64 ≤ (t - 1) % 512
instance (t : Int) : Decidable (GoodT t) := by unfold GoodT; infer_instance
def GoodU (k l h t : Int) : Prop := (k = 1 ∧ 1 ≤ l ∧ l ≤ 100 ∨ k = 2 ∧ l = 1) ∧ (t = 0 ∧ h = 0 ∨ t ≠ 0 ∧ GoodT t ∧ 5 ≤ h ∧ h ≤ 1023)
instance (k l h t : Int) : Decidable (GoodU k l h t) := by unfold GoodU; infer_instance
def GoodS (k l h t : Int) : Prop := k = 0 ∧ l = 0 ∧ h = 0 ∧ t = 0 ∨ GoodU k l h t
instance (k l h t : Int) : Decidable (GoodS k l h t) := by unfold GoodS; infer_instance
theorem goodTail_p (t : Int) (w : World) (hb : -9223372036854775808 ≤ t ∧ t ≤ 9223372036854775807) :
    PureC Tryz.prog 99 [.int .i64 t] (.bool (decide (GoodT t))) w := by
 refine enter0 Tryz.func99 rfl Tryz.ntmps99 rfl ?_
 have e64 := @tmod_nn t 64
 have d512 := @tdiv_nn (t - 1) 512
 have m512 := @tmod_nn (t - 1) 512
 simp only [envOf]
 refine tR (tA rfl rfl (tE (tR (tM rfl rfl (tV (Val.bin rfl rfl rfl) rfl (tM rfl rfl ?_))))))
 refine At.split (t := 5) rfl (fun h1 => ?_) (fun h1 => ?_)
 ·try simp only [wI_T, wI_F, data_T, data_F, ino_T, ino_F, notT, notF, bneT, bneF, beqT, beqF, decT, decF] at h1
  refine At.yes rfl rfl (tM rfl rfl (At.yes rfl rfl (tV (Val.rem rfl rfl (by decide)) rfl (At.yes rfl rfl (tV (Val.bin rfl rfl rfl) rfl (tV (Val.pickT rfl rfl) rfl (tM rfl rfl ?_)))))))
  refine At.split (t := 10) rfl (fun h2 => ?_) (fun h2 => ?_)
  ·try simp only [wI_T, wI_F, data_T, data_F, ino_T, ino_F, notT, notF, bneT, bneF, beqT, beqF, decT, decF] at h2
   refine At.yes rfl rfl (tM rfl rfl (At.yes rfl rfl (tV (Val.bin rfl rfl rfl) rfl ?_)))
   rw [wrap_i64 (n := t - 1) (by omega) (by omega)]
   refine At.yes rfl rfl (tV (Val.quo rfl rfl (by decide)) rfl ?_)
   rw [tdiv_nn _ (by omega), wrap_i64 (n := (t - 1) / 512) (by omega) (by omega)]
   refine At.yes rfl rfl (At.callP (fun w hw => isData_p _ w) Tryz.call83 rfl rfl (tV (Val.pickT rfl rfl) rfl (tM rfl rfl ?_)))
   refine At.split (t := 16) rfl (fun h3 => ?_) (fun h3 => ?_)
   ·try simp only [wI_T, wI_F, data_T, data_F, ino_T, ino_F, notT, notF, bneT, bneF, beqT, beqF, decT, decF] at h3
    refine At.yes rfl rfl (tM rfl rfl (At.yes rfl rfl (tV (Val.bin rfl rfl rfl) rfl ?_)))
    rw [wrap_i64 (n := t - 1) (by omega) (by omega)]
    refine At.yes rfl rfl (tV (Val.rem rfl rfl (by decide)) rfl (At.yes rfl rfl (tV (Val.bin rfl rfl rfl) rfl (tV (Val.pickT rfl rfl) rfl (tA rfl rfl (tE (At.retC (At.ret1 (.inl rfl) rfl rfl rfl (fun w hw => ?_)))))))))
    exact ⟨retB (by first | exact (decide_eq_true (by unfold GoodT; omega)).symm | exact (decide_eq_false (by unfold GoodT; omega)).symm | (apply Bool.eq_iff_iff.2; simp only [decide_eq_true_eq, data_T, beq_iff_eq]; unfold GoodT; omega)), hw.mod⟩
   ·try simp only [wI_T, wI_F, data_T, data_F, ino_T, ino_F, notT, notF, bneT, bneF, beqT, beqF, decT, decF] at h3
    refine At.no rfl rfl rfl rfl (At.no rfl rfl rfl rfl (At.no rfl rfl rfl rfl (At.no rfl rfl rfl rfl (tV (Val.pickF rfl rfl) rfl (tA rfl rfl (tE (At.retC (At.ret1 (.inl rfl) rfl rfl rfl (fun w hw => ?_)))))))))
    exact ⟨retB (by first | exact (decide_eq_true (by unfold GoodT; omega)).symm | exact (decide_eq_false (by unfold GoodT; omega)).symm | (apply Bool.eq_iff_iff.2; simp only [decide_eq_true_eq, data_T, beq_iff_eq]; unfold GoodT; omega)), hw.mod⟩
  ·try simp only [wI_T, wI_F, data_T, data_F, ino_T, ino_F, notT, notF, bneT, bneF, beqT, beqF, decT, decF] at h2
   refine At.no rfl rfl rfl rfl (At.no rfl rfl rfl rfl (At.no rfl rfl rfl rfl (At.no rfl rfl rfl rfl (tV (Val.pickF rfl rfl) rfl (tM rfl rfl (At.no rfl rfl rfl rfl (At.no rfl rfl rfl rfl (At.no rfl rfl rfl rfl (At.no rfl rfl rfl rfl (tV (Val.pickF rfl rfl) rfl (tA rfl rfl (tE (At.retC (At.ret1 (.inl rfl) rfl rfl rfl (fun w hw => ?_)))))))))))))))
   exact ⟨retB (by first | exact (decide_eq_true (by unfold GoodT; omega)).symm | exact (decide_eq_false (by unfold GoodT; omega)).symm | (apply Bool.eq_iff_iff.2; simp only [decide_eq_true_eq, data_T, beq_iff_eq]; unfold GoodT; omega)), hw.mod⟩
 ·try simp only [wI_T, wI_F, data_T, data_F, ino_T, ino_F, notT, notF, bneT, bneF, beqT, beqF, decT, decF] at h1
  refine At.no rfl rfl rfl rfl (At.no rfl rfl rfl rfl (At.no rfl rfl rfl rfl (tV (Val.pickF rfl rfl) rfl (tM rfl rfl (At.no rfl rfl rfl rfl (At.no rfl rfl rfl rfl (At.no rfl rfl rfl rfl (At.no rfl rfl rfl rfl (tV (Val.pickF rfl rfl) rfl (tM rfl rfl (At.no rfl rfl rfl rfl (At.no rfl rfl rfl rfl (At.no rfl rfl rfl rfl (At.no rfl rfl rfl rfl (tV (Val.pickF rfl rfl) rfl (tA rfl rfl (tE (At.retC (At.ret1 (.inl rfl) rfl rfl rfl (fun w hw => ?_))))))))))))))))))))
  exact ⟨retB (by first | exact (decide_eq_true (by unfold GoodT; omega)).symm | exact (decide_eq_false (by unfold GoodT; omega)).symm | (apply Bool.eq_iff_iff.2; simp only [decide_eq_true_eq, data_T, beq_iff_eq]; unfold GoodT; omega)), hw.mod⟩
theorem goodTailR_p (t : Int) (w : World) (hb : -9223372036854775808 ≤ t ∧ t ≤ 9223372036854775807) :
    PureC Tryz.prog 101 [.int .i64 t] (.bool (decide (GoodT t))) w := by
 refine enter0 Tryz.func101 rfl Tryz.ntmps101 rfl ?_
 have e64 := @tmod_nn t 64
 have d512 := @tdiv_nn (t - 1) 512
 have m512 := @tmod_nn (t - 1) 512
 simp only [envOf]
 refine tR (tA rfl rfl (tE (At.seq (tR (tM rfl rfl (tV (Val.bin rfl rfl rfl) rfl (tM rfl rfl ?_)))))))
 refine At.split (t := 5) rfl (fun h1 => ?_) (fun h1 => ?_)
 ·try simp only [wI_T, wI_F, data_T, data_F, ino_T, ino_F, notT, notF, bneT, bneF, beqT, beqF, decT, decF] at h1
  refine At.no rfl rfl rfl rfl (At.no rfl rfl rfl rfl (At.no rfl rfl rfl rfl (tV (Val.pickT rfl rfl) rfl (tE (At.condT rfl (tR (tA rfl rfl (tE (At.retC (At.thenR (At.ret1 (.inl rfl) rfl rfl rfl (fun w hw => ?_))))))))))))
  exact ⟨retB (by first | exact (decide_eq_true (by unfold GoodT; omega)).symm | exact (decide_eq_false (by unfold GoodT; omega)).symm | (apply Bool.eq_iff_iff.2; simp only [decide_eq_true_eq, data_T, beq_iff_eq]; unfold GoodT; omega)), hw.mod⟩
 ·try simp only [wI_T, wI_F, data_T, data_F, ino_T, ino_F, notT, notF, bneT, bneF, beqT, beqF, decT, decF] at h1
  refine At.yes rfl rfl (tM rfl rfl (At.yes rfl rfl (tV (Val.rem rfl rfl (by decide)) rfl (At.yes rfl rfl (tV (Val.bin rfl rfl rfl) rfl (tV (Val.pickF rfl rfl) rfl (tE ?_)))))))
  refine At.cond rfl (fun h2 => ?_) (fun h2 => ?_)
  ·try simp only [wI_T, wI_F, data_T, data_F, ino_T, ino_F, notT, notF, bneT, bneF, beqT, beqF, decT, decF] at h2
   refine tR (tA rfl rfl (tE (At.retC (At.thenR (At.ret1 (.inl rfl) rfl rfl rfl (fun w hw => ?_))))))
   exact ⟨retB (by first | exact (decide_eq_true (by unfold GoodT; omega)).symm | exact (decide_eq_false (by unfold GoodT; omega)).symm | (apply Bool.eq_iff_iff.2; simp only [decide_eq_true_eq, data_T, beq_iff_eq]; unfold GoodT; omega)), hw.mod⟩
  ·try simp only [wI_T, wI_F, data_T, data_F, ino_T, ino_F, notT, notF, bneT, bneF, beqT, beqF, decT, decF] at h2
   refine At.skipC (At.thenN (tR (tM rfl rfl (tV (Val.bin rfl rfl rfl) rfl ?_))))
   rw [wrap_i64 (n := t - 1) (by omega) (by omega)]
   refine tV (Val.quo rfl rfl (by decide)) rfl ?_
   rw [tdiv_nn _ (by omega), wrap_i64 (n := (t - 1) / 512) (by omega) (by omega)]
   refine At.callP (fun w hw => dataR_p _ w) Tryz.call80 rfl rfl (tM rfl rfl ?_)
   refine At.split (t := 14) rfl (fun h3 => ?_) (fun h3 => ?_)
   ·try simp only [wI_T, wI_F, data_T, data_F, ino_T, ino_F, notT, notF, bneT, bneF, beqT, beqF, decT, decF] at h3
    refine At.yes rfl rfl (tM rfl rfl (At.yes rfl rfl (tV (Val.bin rfl rfl rfl) rfl ?_)))
    rw [wrap_i64 (n := t - 1) (by omega) (by omega)]
    refine At.yes rfl rfl (tV (Val.rem rfl rfl (by decide)) rfl (At.yes rfl rfl (tV (Val.bin rfl rfl rfl) rfl (tV (Val.pickT rfl rfl) rfl (tA rfl rfl (tE (At.retC (At.ret1 (.inl rfl) rfl rfl rfl (fun w hw => ?_)))))))))
    exact ⟨retB (by first | exact (decide_eq_true (by unfold GoodT; omega)).symm | exact (decide_eq_false (by unfold GoodT; omega)).symm | (apply Bool.eq_iff_iff.2; simp only [decide_eq_true_eq, data_T, beq_iff_eq]; unfold GoodT; omega)), hw.mod⟩
   ·try simp only [wI_T, wI_F, data_T, data_F, ino_T, ino_F, notT, notF, bneT, bneF, beqT, beqF, decT, decF] at h3
    refine At.no rfl rfl rfl rfl (At.no rfl rfl rfl rfl (At.no rfl rfl rfl rfl (At.no rfl rfl rfl rfl (tV (Val.pickF rfl rfl) rfl (tA rfl rfl (tE (At.retC (At.ret1 (.inl rfl) rfl rfl rfl (fun w hw => ?_)))))))))
    exact ⟨retB (by first | exact (decide_eq_true (by unfold GoodT; omega)).symm | exact (decide_eq_false (by unfold GoodT; omega)).symm | (apply Bool.eq_iff_iff.2; simp only [decide_eq_true_eq, data_T, beq_iff_eq]; unfold GoodT; omega)), hw.mod⟩
theorem goodUse_p (k l h t : Int) (w : World) (hb : -9223372036854775808 ≤ t ∧ t ≤ 9223372036854775807) :
    PureC Tryz.prog 68 [.agg #[.int .i64 k, .int .i64 l, .int .i64 h, .int .i64 t]] (.bool (decide (GoodU k l h t))) w := by
 refine enter0 Tryz.func68 rfl Tryz.ntmps68 rfl ?_
 simp only [envOf]
 refine tR (At.box rfl rfl rfl (fun b1 => (tA rfl rfl (tE ?_))))
 refine At.join (σ := Unit) (fun _ => (k = 1 ∧ 1 ≤ l ∧ l ≤ 100 ∨ k = 2 ∧ l = 1)) (fun _ => [(1, .pointer (some ⟨b1, 0, none⟩))]) (fun _ => [blk b1 33 ([.int .i64 k, .int .i64 l, .int .i64 h, .int .i64 t])]) ?_ ?_
 ·refine tR (tV (Val.field 0 rfl fo_33_0 rfl) rfl (tV (Val.load (i := 0) Tryz.isAgg3 rfl rfl rfl) rfl (tE (At.block (tR (tV (Val.bin rfl rfl rfl) rfl (tA rfl rfl (tE ?_))))))))
  refine At.cond rfl (fun h2 => ?_) (fun h2 => ?_)
  ·try simp only [vN_T, vN_F, nmE_T, nmE_F, wI_T, wI_F, data_T, data_F, ino_T, ino_F, notT, notF, bneT, bneF, beqT, beqF, decT, decF] at h2
   refine tR (tV (Val.field 1 rfl fo_33_1 rfl) rfl (tV (Val.load (i := 0) Tryz.isAgg3 rfl rfl rfl) rfl (At.callP (fun w hw => within_p _ _ _ w) Tryz.call51 rfl rfl (tV (Val.not rfl) rfl (tE ?_)))))
   refine At.cond rfl (fun h3 => ?_) (fun h3 => ?_)
   ·try simp only [vN_T, vN_F, nmE_T, nmE_F, wI_T, wI_F, data_T, data_F, ino_T, ino_F, notT, notF, bneT, bneF, beqT, beqF, decT, decF] at h3
    refine tR (tA rfl rfl (tE (At.retC (At.blkR (At.thenR (At.ret1 (.inl rfl) rfl rfl rfl (fun w hw => ?_)))))))
    exact ⟨retB (by first | exact (decide_eq_true (by (try simp only [GoodS, GoodU, GoodT] at *); omega)).symm | exact (decide_eq_false (by (try simp only [GoodS, GoodU, GoodT] at *); omega)).symm | (apply Bool.eq_iff_iff.2; simp only [decide_eq_true_eq, data_T, ino_T, beq_iff_eq]; (try simp only [GoodS, GoodU, GoodT] at *); omega)), hw.mod⟩
   ·try simp only [vN_T, vN_F, nmE_T, nmE_F, wI_T, wI_F, data_T, data_F, ino_T, ino_F, notT, notF, bneT, bneF, beqT, beqF, decT, decF] at h3
    refine At.skipC (At.blkN (At.thenN ?_))
    exact At.meets () (by omega) (Sub.cons rfl Sub.nil) (List.Perm.refl _)
  ·try simp only [vN_T, vN_F, nmE_T, nmE_F, wI_T, wI_F, data_T, data_F, ino_T, ino_F, notT, notF, bneT, bneF, beqT, beqF, decT, decF] at h2
   refine tR (tV (Val.bin rfl rfl rfl) rfl (tA rfl rfl (tE ?_)))
   refine At.cond rfl (fun h4 => ?_) (fun h4 => ?_)
   ·try simp only [vN_T, vN_F, nmE_T, nmE_F, wI_T, wI_F, data_T, data_F, ino_T, ino_F, notT, notF, bneT, bneF, beqT, beqF, decT, decF] at h4
    refine tR (tV (Val.field 1 rfl fo_33_1 rfl) rfl (tV (Val.load (i := 0) Tryz.isAgg3 rfl rfl rfl) rfl (tV (Val.bin rfl rfl rfl) rfl (tE ?_))))
    refine At.cond rfl (fun h5 => ?_) (fun h5 => ?_)
    ·try simp only [vN_T, vN_F, nmE_T, nmE_F, wI_T, wI_F, data_T, data_F, ino_T, ino_F, notT, notF, bneT, bneF, beqT, beqF, decT, decF] at h5
     refine tR (tA rfl rfl (tE (At.retC (At.blkR (At.thenR (At.ret1 (.inl rfl) rfl rfl rfl (fun w hw => ?_)))))))
     exact ⟨retB (by first | exact (decide_eq_true (by (try simp only [GoodS, GoodU, GoodT] at *); omega)).symm | exact (decide_eq_false (by (try simp only [GoodS, GoodU, GoodT] at *); omega)).symm | (apply Bool.eq_iff_iff.2; simp only [decide_eq_true_eq, data_T, ino_T, beq_iff_eq]; (try simp only [GoodS, GoodU, GoodT] at *); omega)), hw.mod⟩
    ·try simp only [vN_T, vN_F, nmE_T, nmE_F, wI_T, wI_F, data_T, data_F, ino_T, ino_F, notT, notF, bneT, bneF, beqT, beqF, decT, decF] at h5
     refine At.skipC (At.blkN (At.thenN ?_))
     exact At.meets () (by omega) (Sub.cons rfl Sub.nil) (List.Perm.refl _)
   ·try simp only [vN_T, vN_F, nmE_T, nmE_F, wI_T, wI_F, data_T, data_F, ino_T, ino_F, notT, notF, bneT, bneF, beqT, beqF, decT, decF] at h4
    refine tR (tA rfl rfl (tE (At.retC (At.blkR (At.thenR (At.ret1 (.inl rfl) rfl rfl rfl (fun w hw => ?_)))))))
    exact ⟨retB (by first | exact (decide_eq_true (by (try simp only [GoodS, GoodU, GoodT] at *); omega)).symm | exact (decide_eq_false (by (try simp only [GoodS, GoodU, GoodT] at *); omega)).symm | (apply Bool.eq_iff_iff.2; simp only [decide_eq_true_eq, data_T, ino_T, beq_iff_eq]; (try simp only [GoodS, GoodU, GoodT] at *); omega)), hw.mod⟩
 ·intro _ hs
  have hkl := hs
  refine At.seq (tR (tV (Val.field 3 rfl fo_33_3 rfl) rfl (tV (Val.load (i := 0) Tryz.isAgg3 rfl rfl rfl) rfl (tV (Val.bin rfl rfl rfl) rfl (tE ?_)))))
  refine At.cond rfl (fun h6 => ?_) (fun h6 => ?_)
  ·try simp only [vN_T, vN_F, nmE_T, nmE_F, wI_T, wI_F, data_T, data_F, ino_T, ino_F, notT, notF, bneT, bneF, beqT, beqF, decT, decF] at h6
   refine tR (tV (Val.field 2 rfl fo_33_2 rfl) rfl (tV (Val.load (i := 0) Tryz.isAgg3 rfl rfl rfl) rfl (tV (Val.bin rfl rfl rfl) rfl (tA rfl rfl (tE (At.retC (At.thenR (At.ret1 (.inl rfl) rfl rfl rfl (fun w hw => ?_)))))))))
   exact ⟨retB (by first | exact (decide_eq_true (by (try simp only [GoodS, GoodU, GoodT] at *); omega)).symm | exact (decide_eq_false (by (try simp only [GoodS, GoodU, GoodT] at *); omega)).symm | (apply Bool.eq_iff_iff.2; simp only [decide_eq_true_eq, data_T, ino_T, beq_iff_eq]; (try simp only [GoodS, GoodU, GoodT] at *); omega)), hw.mod⟩
  ·try simp only [vN_T, vN_F, nmE_T, nmE_F, wI_T, wI_F, data_T, data_F, ino_T, ino_F, notT, notF, bneT, bneF, beqT, beqF, decT, decF] at h6
   refine At.skipC (At.thenN (tR (tV (Val.field 3 rfl fo_33_3 rfl) rfl (tV (Val.load (i := 0) Tryz.isAgg3 rfl rfl rfl) rfl (At.callP (fun w hw => goodTail_p _ w hb) Tryz.call99 rfl rfl (tM rfl rfl ?_))))))
   refine At.split (t := 25) rfl (fun h7 => ?_) (fun h7 => ?_)
   ·try simp only [vN_T, vN_F, nmE_T, nmE_F, wI_T, wI_F, data_T, data_F, ino_T, ino_F, notT, notF, bneT, bneF, beqT, beqF, decT, decF] at h7
    refine At.yes rfl rfl (tV (Val.field 2 rfl fo_33_2 rfl) rfl (At.yes rfl rfl (tV (Val.load (i := 0) Tryz.isAgg3 rfl rfl rfl) rfl (At.yes rfl rfl (At.callP (fun w hw => isData_p _ w) Tryz.call83 rfl rfl (tV (Val.pickT rfl rfl) rfl (tA rfl rfl (tE (At.retC (At.ret1 (.inl rfl) rfl rfl rfl (fun w hw => ?_)))))))))))
    exact ⟨retB (by first | exact (decide_eq_true (by (try simp only [GoodS, GoodU, GoodT] at *); omega)).symm | exact (decide_eq_false (by (try simp only [GoodS, GoodU, GoodT] at *); omega)).symm | (apply Bool.eq_iff_iff.2; simp only [decide_eq_true_eq, data_T, ino_T, beq_iff_eq]; (try simp only [GoodS, GoodU, GoodT] at *); omega)), hw.mod⟩
   ·try simp only [vN_T, vN_F, nmE_T, nmE_F, wI_T, wI_F, data_T, data_F, ino_T, ino_F, notT, notF, bneT, bneF, beqT, beqF, decT, decF] at h7
    refine At.no rfl rfl rfl rfl (At.no rfl rfl rfl rfl (At.no rfl rfl rfl rfl (tV (Val.pickF rfl rfl) rfl (tA rfl rfl (tE (At.retC (At.ret1 (.inl rfl) rfl rfl rfl (fun w hw => ?_))))))))
    exact ⟨retB (by first | exact (decide_eq_true (by (try simp only [GoodS, GoodU, GoodT] at *); omega)).symm | exact (decide_eq_false (by (try simp only [GoodS, GoodU, GoodT] at *); omega)).symm | (apply Bool.eq_iff_iff.2; simp only [decide_eq_true_eq, data_T, ino_T, beq_iff_eq]; (try simp only [GoodS, GoodU, GoodT] at *); omega)), hw.mod⟩
theorem goodSlotR_p (k l h t : Int) (w : World) (hb : -9223372036854775808 ≤ t ∧ t ≤ 9223372036854775807) :
    PureC Tryz.prog 70 [.agg #[.int .i64 k, .int .i64 l, .int .i64 h, .int .i64 t]] (.bool (decide (GoodS k l h t))) w := by
 refine enter0 Tryz.func70 rfl Tryz.ntmps70 rfl ?_
 have hT : GoodT t → 0 < t := fun h => h.1
 simp only [envOf]
 refine tR (At.box rfl rfl rfl (fun b1 => (tA rfl rfl (tE (At.seq (tR (tV (Val.field 0 rfl fo_33_0 rfl) rfl (tV (Val.load (i := 0) Tryz.isAgg3 rfl rfl rfl) rfl (tV (Val.bin rfl rfl rfl) rfl (tE ?_))))))))))
 refine At.cond rfl (fun h2 => ?_) (fun h2 => ?_)
 ·try simp only [vN_T, vN_F, nmE_T, nmE_F, wI_T, wI_F, data_T, data_F, ino_T, ino_F, notT, notF, bneT, bneF, beqT, beqF, decT, decF] at h2
  refine tR (At.weaken [(0, _), (1, _), (2, _), (4, _), (5, _), (6, _)] (Sub.cons rfl (Sub.cons rfl (Sub.cons rfl (Sub.cons rfl (Sub.cons rfl (Sub.cons rfl Sub.nil)))))) ?_)
  refine At.boolMeet 13 19 (decide (l = 0 ∧ h = 0 ∧ t = 0)) ?_ ?_
  ·simp only [List.take_succ_cons, List.take_zero]
   refine tV (Val.field 1 rfl fo_33_1 rfl) rfl (tV (Val.load (i := 0) Tryz.isAgg3 rfl rfl rfl) rfl (tV (Val.bin rfl rfl rfl) rfl (tM rfl rfl ?_)))
   refine At.split (t := 10) rfl (fun h3 => ?_) (fun h3 => ?_)
   ·try simp only [vN_T, vN_F, nmE_T, nmE_F, wI_T, wI_F, data_T, data_F, ino_T, ino_F, notT, notF, bneT, bneF, beqT, beqF, decT, decF] at h3
    refine At.yes rfl rfl (tV (Val.field 2 rfl fo_33_2 rfl) rfl (At.yes rfl rfl (tV (Val.load (i := 0) Tryz.isAgg3 rfl rfl rfl) rfl (At.yes rfl rfl (tV (Val.bin rfl rfl rfl) rfl (tV (Val.pickT rfl rfl) rfl (tM rfl rfl ?_)))))))
    refine At.split (t := 15) rfl (fun h4 => ?_) (fun h4 => ?_)
    ·try simp only [vN_T, vN_F, nmE_T, nmE_F, wI_T, wI_F, data_T, data_F, ino_T, ino_F, notT, notF, bneT, bneF, beqT, beqF, decT, decF] at h4
     refine At.yes rfl rfl (tV (Val.field 3 rfl fo_33_3 rfl) rfl (At.yes rfl rfl (tV (Val.load (i := 0) Tryz.isAgg3 rfl rfl rfl) rfl (At.yes rfl rfl (tV (Val.bin rfl rfl rfl) rfl (tV (Val.pickT rfl rfl) rfl (At.nil ?_)))))))
     exact At.boolEnd rfl (by first | rfl | exact (decide_eq_true (by omega)).symm | exact (decide_eq_false (by omega)).symm | (apply Bool.eq_iff_iff.2; simp only [decide_eq_true_eq, beq_iff_eq, bne_iff_ne, ne_eq, wI_T, data_T, ino_T, vN_T, nmE_T, Bool.not_eq_true', wI_F, data_F, ino_F, vN_F, nmE_F, decide_eq_false_iff_not]; omega)) (by repeat (first | exact Sub.nil | refine Sub.cons rfl ?_))
    ·try simp only [vN_T, vN_F, nmE_T, nmE_F, wI_T, wI_F, data_T, data_F, ino_T, ino_F, notT, notF, bneT, bneF, beqT, beqF, decT, decF] at h4
     refine At.no rfl rfl rfl rfl (At.no rfl rfl rfl rfl (At.no rfl rfl rfl rfl (tV (Val.pickF rfl rfl) rfl (At.nil ?_))))
     exact At.boolEnd rfl (by first | rfl | exact (decide_eq_true (by omega)).symm | exact (decide_eq_false (by omega)).symm | (apply Bool.eq_iff_iff.2; simp only [decide_eq_true_eq, beq_iff_eq, bne_iff_ne, ne_eq, wI_T, data_T, ino_T, vN_T, nmE_T, Bool.not_eq_true', wI_F, data_F, ino_F, vN_F, nmE_F, decide_eq_false_iff_not]; omega)) (by repeat (first | exact Sub.nil | refine Sub.cons rfl ?_))
   ·try simp only [vN_T, vN_F, nmE_T, nmE_F, wI_T, wI_F, data_T, data_F, ino_T, ino_F, notT, notF, bneT, bneF, beqT, beqF, decT, decF] at h3
    refine At.no rfl rfl rfl rfl (At.no rfl rfl rfl rfl (At.no rfl rfl rfl rfl (tV (Val.pickF rfl rfl) rfl (tM rfl rfl (At.no rfl rfl rfl rfl (At.no rfl rfl rfl rfl (At.no rfl rfl rfl rfl (tV (Val.pickF rfl rfl) rfl (At.nil ?_)))))))))
    exact At.boolEnd rfl (by first | rfl | exact (decide_eq_true (by omega)).symm | exact (decide_eq_false (by omega)).symm | (apply Bool.eq_iff_iff.2; simp only [decide_eq_true_eq, beq_iff_eq, bne_iff_ne, ne_eq, wI_T, data_T, ino_T, vN_T, nmE_T, Bool.not_eq_true', wI_F, data_F, ino_F, vN_F, nmE_F, decide_eq_false_iff_not]; omega)) (by repeat (first | exact Sub.nil | refine Sub.cons rfl ?_))
  ·simp only [List.drop_succ_cons, List.drop_zero]
   refine tA rfl rfl (tE (At.retC (At.thenR (At.ret1 (.inl rfl) rfl rfl rfl (fun w hw => ?_)))))
   exact ⟨retB (by first | exact (decide_eq_true (by (try simp only [GoodS, GoodU, GoodT] at *); omega)).symm | exact (decide_eq_false (by (try simp only [GoodS, GoodU, GoodT] at *); omega)).symm | (apply Bool.eq_iff_iff.2; simp only [decide_eq_true_eq, data_T, ino_T, beq_iff_eq]; (try simp only [GoodS, GoodU, GoodT] at *); omega)), hw.mod⟩
 ·try simp only [vN_T, vN_F, nmE_T, nmE_F, wI_T, wI_F, data_T, data_F, ino_T, ino_F, notT, notF, bneT, bneF, beqT, beqF, decT, decF] at h2
  refine At.skipC (At.thenN (At.seq (tR (At.weaken [(0, _), (1, _), (2, _), (4, _), (5, _), (6, _)] (Sub.cons rfl (Sub.cons rfl (Sub.cons rfl (Sub.cons rfl (Sub.cons rfl (Sub.cons rfl Sub.nil)))))) ?_))))
  refine At.boolMeet 13 32 (decide (k = 1 ∧ (l < 1 ∨ 100 < l))) ?_ ?_
  ·simp only [List.take_succ_cons, List.take_zero]
   refine tV (Val.field 0 rfl fo_33_0 rfl) rfl (tV (Val.load (i := 0) Tryz.isAgg3 rfl rfl rfl) rfl (tV (Val.bin rfl rfl rfl) rfl (tM rfl rfl ?_)))
   refine At.split (t := 23) rfl (fun h5 => ?_) (fun h5 => ?_)
   ·try simp only [vN_T, vN_F, nmE_T, nmE_F, wI_T, wI_F, data_T, data_F, ino_T, ino_F, notT, notF, bneT, bneF, beqT, beqF, decT, decF] at h5
    refine At.yes rfl rfl (tV (Val.field 1 rfl fo_33_1 rfl) rfl (At.yes rfl rfl (tV (Val.load (i := 0) Tryz.isAgg3 rfl rfl rfl) rfl (At.yes rfl rfl (tV (Val.bin rfl rfl rfl) rfl (At.yes rfl rfl (tM rfl rfl ?_)))))))
    refine At.split (t := 27) rfl (fun h6 => ?_) (fun h6 => ?_)
    ·try simp only [vN_T, vN_F, nmE_T, nmE_F, wI_T, wI_F, data_T, data_F, ino_T, ino_F, notT, notF, bneT, bneF, beqT, beqF, decT, decF] at h6
     refine At.no rfl rfl rfl rfl (At.no rfl rfl rfl rfl (At.no rfl rfl rfl rfl (At.yes rfl rfl (tV (Val.pickT rfl rfl) rfl (tV (Val.pickT rfl rfl) rfl (At.nil ?_))))))
     exact At.boolEnd rfl (by first | rfl | exact (decide_eq_true (by omega)).symm | exact (decide_eq_false (by omega)).symm | (apply Bool.eq_iff_iff.2; simp only [decide_eq_true_eq, beq_iff_eq, bne_iff_ne, ne_eq, wI_T, data_T, ino_T, vN_T, nmE_T, Bool.not_eq_true', wI_F, data_F, ino_F, vN_F, nmE_F, decide_eq_false_iff_not]; omega)) (by repeat (first | exact Sub.nil | refine Sub.cons rfl ?_))
    ·try simp only [vN_T, vN_F, nmE_T, nmE_F, wI_T, wI_F, data_T, data_F, ino_T, ino_F, notT, notF, bneT, bneF, beqT, beqF, decT, decF] at h6
     refine At.yes rfl rfl (tV (Val.field 1 rfl fo_33_1 rfl) rfl (At.yes rfl rfl (tV (Val.load (i := 0) Tryz.isAgg3 rfl rfl rfl) rfl (At.yes rfl rfl (tV (Val.bin rfl rfl rfl) rfl (At.yes rfl rfl (tV (Val.pickF rfl rfl) rfl (tV (Val.pickT rfl rfl) rfl (At.nil ?_)))))))))
     exact At.boolEnd rfl (by first | rfl | exact (decide_eq_true (by omega)).symm | exact (decide_eq_false (by omega)).symm | (apply Bool.eq_iff_iff.2; simp only [decide_eq_true_eq, beq_iff_eq, bne_iff_ne, ne_eq, wI_T, data_T, ino_T, vN_T, nmE_T, Bool.not_eq_true', wI_F, data_F, ino_F, vN_F, nmE_F, decide_eq_false_iff_not]; omega)) (by repeat (first | exact Sub.nil | refine Sub.cons rfl ?_))
   ·try simp only [vN_T, vN_F, nmE_T, nmE_F, wI_T, wI_F, data_T, data_F, ino_T, ino_F, notT, notF, bneT, bneF, beqT, beqF, decT, decF] at h5
    refine At.no rfl rfl rfl rfl (At.no rfl rfl rfl rfl (At.no rfl rfl rfl rfl (At.no rfl rfl rfl rfl (At.noU rfl rfl rfl (At.noU rfl rfl rfl (At.noU rfl rfl rfl (At.no rfl rfl rfl rfl (tV (Val.pickF rfl rfl) rfl (At.nil ?_)))))))))
    exact At.boolEnd rfl (by first | rfl | exact (decide_eq_true (by omega)).symm | exact (decide_eq_false (by omega)).symm | (apply Bool.eq_iff_iff.2; simp only [decide_eq_true_eq, beq_iff_eq, bne_iff_ne, ne_eq, wI_T, data_T, ino_T, vN_T, nmE_T, Bool.not_eq_true', wI_F, data_F, ino_F, vN_F, nmE_F, decide_eq_false_iff_not]; omega)) (by repeat (first | exact Sub.nil | refine Sub.cons rfl ?_))
  ·simp only [List.drop_succ_cons, List.drop_zero]
   refine tE ?_
   refine At.cond rfl (fun h7 => ?_) (fun h7 => ?_)
   ·try simp only [vN_T, vN_F, nmE_T, nmE_F, wI_T, wI_F, data_T, data_F, ino_T, ino_F, notT, notF, bneT, bneF, beqT, beqF, decT, decF] at h7
    refine tR (tA rfl rfl (tE (At.retC (At.thenR (At.ret1 (.inl rfl) rfl rfl rfl (fun w hw => ?_))))))
    exact ⟨retB (by first | exact (decide_eq_true (by (try simp only [GoodS, GoodU, GoodT] at *); omega)).symm | exact (decide_eq_false (by (try simp only [GoodS, GoodU, GoodT] at *); omega)).symm | (apply Bool.eq_iff_iff.2; simp only [decide_eq_true_eq, data_T, ino_T, beq_iff_eq]; (try simp only [GoodS, GoodU, GoodT] at *); omega)), hw.mod⟩
   ·try simp only [vN_T, vN_F, nmE_T, nmE_F, wI_T, wI_F, data_T, data_F, ino_T, ino_F, notT, notF, bneT, bneF, beqT, beqF, decT, decF] at h7
    refine At.skipC (At.thenN (At.seq (tR (At.weaken [(0, _), (1, _), (2, _), (4, _), (5, _), (6, _), (32, _)] (Sub.cons rfl (Sub.cons rfl (Sub.cons rfl (Sub.cons rfl (Sub.cons rfl (Sub.cons rfl (Sub.cons rfl Sub.nil))))))) ?_))))
    refine At.boolMeet 8 40 (decide (k = 2 ∧ ¬ l = 1)) ?_ ?_
    ·simp only [List.take_succ_cons, List.take_zero]
     refine tV (Val.field 0 rfl fo_33_0 rfl) rfl (tV (Val.load (i := 0) Tryz.isAgg3 rfl rfl rfl) rfl (tV (Val.bin rfl rfl rfl) rfl (tM rfl rfl ?_)))
     refine At.split (t := 36) rfl (fun h8 => ?_) (fun h8 => ?_)
     ·try simp only [vN_T, vN_F, nmE_T, nmE_F, wI_T, wI_F, data_T, data_F, ino_T, ino_F, notT, notF, bneT, bneF, beqT, beqF, decT, decF] at h8
      refine At.yes rfl rfl (tV (Val.field 1 rfl fo_33_1 rfl) rfl (At.yes rfl rfl (tV (Val.load (i := 0) Tryz.isAgg3 rfl rfl rfl) rfl (At.yes rfl rfl (tV (Val.bin rfl rfl rfl) rfl (tV (Val.pickT rfl rfl) rfl (At.nil ?_)))))))
      exact At.boolEnd rfl (by first | rfl | exact (decide_eq_true (by omega)).symm | exact (decide_eq_false (by omega)).symm | (apply Bool.eq_iff_iff.2; simp only [decide_eq_true_eq, beq_iff_eq, bne_iff_ne, ne_eq, wI_T, data_T, ino_T, vN_T, nmE_T, Bool.not_eq_true', wI_F, data_F, ino_F, vN_F, nmE_F, decide_eq_false_iff_not]; omega)) (by repeat (first | exact Sub.nil | refine Sub.cons rfl ?_))
     ·try simp only [vN_T, vN_F, nmE_T, nmE_F, wI_T, wI_F, data_T, data_F, ino_T, ino_F, notT, notF, bneT, bneF, beqT, beqF, decT, decF] at h8
      refine At.no rfl rfl rfl rfl (At.no rfl rfl rfl rfl (At.no rfl rfl rfl rfl (tV (Val.pickF rfl rfl) rfl (At.nil ?_))))
      exact At.boolEnd rfl (by first | rfl | exact (decide_eq_true (by omega)).symm | exact (decide_eq_false (by omega)).symm | (apply Bool.eq_iff_iff.2; simp only [decide_eq_true_eq, beq_iff_eq, bne_iff_ne, ne_eq, wI_T, data_T, ino_T, vN_T, nmE_T, Bool.not_eq_true', wI_F, data_F, ino_F, vN_F, nmE_F, decide_eq_false_iff_not]; omega)) (by repeat (first | exact Sub.nil | refine Sub.cons rfl ?_))
    ·simp only [List.drop_succ_cons, List.drop_zero]
     refine tE ?_
     refine At.cond rfl (fun h9 => ?_) (fun h9 => ?_)
     ·try simp only [vN_T, vN_F, nmE_T, nmE_F, wI_T, wI_F, data_T, data_F, ino_T, ino_F, notT, notF, bneT, bneF, beqT, beqF, decT, decF] at h9
      refine tR (tA rfl rfl (tE (At.retC (At.thenR (At.ret1 (.inl rfl) rfl rfl rfl (fun w hw => ?_))))))
      exact ⟨retB (by first | exact (decide_eq_true (by (try simp only [GoodS, GoodU, GoodT] at *); omega)).symm | exact (decide_eq_false (by (try simp only [GoodS, GoodU, GoodT] at *); omega)).symm | (apply Bool.eq_iff_iff.2; simp only [decide_eq_true_eq, data_T, ino_T, beq_iff_eq]; (try simp only [GoodS, GoodU, GoodT] at *); omega)), hw.mod⟩
     ·try simp only [vN_T, vN_F, nmE_T, nmE_F, wI_T, wI_F, data_T, data_F, ino_T, ino_F, notT, notF, bneT, bneF, beqT, beqF, decT, decF] at h9
      refine At.skipC (At.thenN (At.seq (tR (At.weaken [(0, _), (1, _), (2, _), (4, _), (5, _), (6, _), (32, _), (40, _)] (Sub.cons rfl (Sub.cons rfl (Sub.cons rfl (Sub.cons rfl (Sub.cons rfl (Sub.cons rfl (Sub.cons rfl (Sub.cons rfl Sub.nil)))))))) ?_))))
      refine At.boolMeet 8 48 (decide (¬ k = 1 ∧ ¬ k = 2)) ?_ ?_
      ·simp only [List.take_succ_cons, List.take_zero]
       refine tV (Val.field 0 rfl fo_33_0 rfl) rfl (tV (Val.load (i := 0) Tryz.isAgg3 rfl rfl rfl) rfl (tV (Val.bin rfl rfl rfl) rfl (tM rfl rfl ?_)))
       refine At.split (t := 44) rfl (fun h10 => ?_) (fun h10 => ?_)
       ·try simp only [vN_T, vN_F, nmE_T, nmE_F, wI_T, wI_F, data_T, data_F, ino_T, ino_F, notT, notF, bneT, bneF, beqT, beqF, decT, decF] at h10
        refine At.yes rfl rfl (tV (Val.field 0 rfl fo_33_0 rfl) rfl (At.yes rfl rfl (tV (Val.load (i := 0) Tryz.isAgg3 rfl rfl rfl) rfl (At.yes rfl rfl (tV (Val.bin rfl rfl rfl) rfl (tV (Val.pickT rfl rfl) rfl (At.nil ?_)))))))
        exact At.boolEnd rfl (by first | rfl | exact (decide_eq_true (by omega)).symm | exact (decide_eq_false (by omega)).symm | (apply Bool.eq_iff_iff.2; simp only [decide_eq_true_eq, beq_iff_eq, bne_iff_ne, ne_eq, wI_T, data_T, ino_T, vN_T, nmE_T, Bool.not_eq_true', wI_F, data_F, ino_F, vN_F, nmE_F, decide_eq_false_iff_not]; omega)) (by repeat (first | exact Sub.nil | refine Sub.cons rfl ?_))
       ·try simp only [vN_T, vN_F, nmE_T, nmE_F, wI_T, wI_F, data_T, data_F, ino_T, ino_F, notT, notF, bneT, bneF, beqT, beqF, decT, decF] at h10
        refine At.no rfl rfl rfl rfl (At.no rfl rfl rfl rfl (At.no rfl rfl rfl rfl (tV (Val.pickF rfl rfl) rfl (At.nil ?_))))
        exact At.boolEnd rfl (by first | rfl | exact (decide_eq_true (by omega)).symm | exact (decide_eq_false (by omega)).symm | (apply Bool.eq_iff_iff.2; simp only [decide_eq_true_eq, beq_iff_eq, bne_iff_ne, ne_eq, wI_T, data_T, ino_T, vN_T, nmE_T, Bool.not_eq_true', wI_F, data_F, ino_F, vN_F, nmE_F, decide_eq_false_iff_not]; omega)) (by repeat (first | exact Sub.nil | refine Sub.cons rfl ?_))
      ·simp only [List.drop_succ_cons, List.drop_zero]
       refine tE ?_
       refine At.cond rfl (fun h11 => ?_) (fun h11 => ?_)
       ·try simp only [vN_T, vN_F, nmE_T, nmE_F, wI_T, wI_F, data_T, data_F, ino_T, ino_F, notT, notF, bneT, bneF, beqT, beqF, decT, decF] at h11
        refine tR (tA rfl rfl (tE (At.retC (At.thenR (At.ret1 (.inl rfl) rfl rfl rfl (fun w hw => ?_))))))
        exact ⟨retB (by first | exact (decide_eq_true (by (try simp only [GoodS, GoodU, GoodT] at *); omega)).symm | exact (decide_eq_false (by (try simp only [GoodS, GoodU, GoodT] at *); omega)).symm | (apply Bool.eq_iff_iff.2; simp only [decide_eq_true_eq, data_T, ino_T, beq_iff_eq]; (try simp only [GoodS, GoodU, GoodT] at *); omega)), hw.mod⟩
       ·try simp only [vN_T, vN_F, nmE_T, nmE_F, wI_T, wI_F, data_T, data_F, ino_T, ino_F, notT, notF, bneT, bneF, beqT, beqF, decT, decF] at h11
        refine At.skipC (At.thenN (At.seq (tR (At.weaken [(0, _), (1, _), (2, _), (4, _), (5, _), (6, _), (32, _), (40, _), (48, _)] (Sub.cons rfl (Sub.cons rfl (Sub.cons rfl (Sub.cons rfl (Sub.cons rfl (Sub.cons rfl (Sub.cons rfl (Sub.cons rfl (Sub.cons rfl Sub.nil))))))))) ?_))))
        refine At.boolMeet 8 56 (decide (h = 0 ∧ t = 0)) ?_ ?_
        ·simp only [List.take_succ_cons, List.take_zero]
         refine tV (Val.field 2 rfl fo_33_2 rfl) rfl (tV (Val.load (i := 0) Tryz.isAgg3 rfl rfl rfl) rfl (tV (Val.bin rfl rfl rfl) rfl (tM rfl rfl ?_)))
         refine At.split (t := 52) rfl (fun h12 => ?_) (fun h12 => ?_)
         ·try simp only [vN_T, vN_F, nmE_T, nmE_F, wI_T, wI_F, data_T, data_F, ino_T, ino_F, notT, notF, bneT, bneF, beqT, beqF, decT, decF] at h12
          refine At.yes rfl rfl (tV (Val.field 3 rfl fo_33_3 rfl) rfl (At.yes rfl rfl (tV (Val.load (i := 0) Tryz.isAgg3 rfl rfl rfl) rfl (At.yes rfl rfl (tV (Val.bin rfl rfl rfl) rfl (tV (Val.pickT rfl rfl) rfl (At.nil ?_)))))))
          exact At.boolEnd rfl (by first | rfl | exact (decide_eq_true (by omega)).symm | exact (decide_eq_false (by omega)).symm | (apply Bool.eq_iff_iff.2; simp only [decide_eq_true_eq, beq_iff_eq, bne_iff_ne, ne_eq, wI_T, data_T, ino_T, vN_T, nmE_T, Bool.not_eq_true', wI_F, data_F, ino_F, vN_F, nmE_F, decide_eq_false_iff_not]; omega)) (by repeat (first | exact Sub.nil | refine Sub.cons rfl ?_))
         ·try simp only [vN_T, vN_F, nmE_T, nmE_F, wI_T, wI_F, data_T, data_F, ino_T, ino_F, notT, notF, bneT, bneF, beqT, beqF, decT, decF] at h12
          refine At.no rfl rfl rfl rfl (At.no rfl rfl rfl rfl (At.no rfl rfl rfl rfl (tV (Val.pickF rfl rfl) rfl (At.nil ?_))))
          exact At.boolEnd rfl (by first | rfl | exact (decide_eq_true (by omega)).symm | exact (decide_eq_false (by omega)).symm | (apply Bool.eq_iff_iff.2; simp only [decide_eq_true_eq, beq_iff_eq, bne_iff_ne, ne_eq, wI_T, data_T, ino_T, vN_T, nmE_T, Bool.not_eq_true', wI_F, data_F, ino_F, vN_F, nmE_F, decide_eq_false_iff_not]; omega)) (by repeat (first | exact Sub.nil | refine Sub.cons rfl ?_))
        ·simp only [List.drop_succ_cons, List.drop_zero]
         refine tE ?_
         refine At.cond rfl (fun h13 => ?_) (fun h13 => ?_)
         ·try simp only [vN_T, vN_F, nmE_T, nmE_F, wI_T, wI_F, data_T, data_F, ino_T, ino_F, notT, notF, bneT, bneF, beqT, beqF, decT, decF] at h13
          refine tR (tA rfl rfl (tE (At.retC (At.thenR (At.ret1 (.inl rfl) rfl rfl rfl (fun w hw => ?_))))))
          exact ⟨retB (by first | exact (decide_eq_true (by (try simp only [GoodS, GoodU, GoodT] at *); omega)).symm | exact (decide_eq_false (by (try simp only [GoodS, GoodU, GoodT] at *); omega)).symm | (apply Bool.eq_iff_iff.2; simp only [decide_eq_true_eq, data_T, ino_T, beq_iff_eq]; (try simp only [GoodS, GoodU, GoodT] at *); omega)), hw.mod⟩
         ·try simp only [vN_T, vN_F, nmE_T, nmE_F, wI_T, wI_F, data_T, data_F, ino_T, ino_F, notT, notF, bneT, bneF, beqT, beqF, decT, decF] at h13
          refine At.skipC (At.thenN (tR (tV (Val.field 3 rfl fo_33_3 rfl) rfl (tV (Val.load (i := 0) Tryz.isAgg3 rfl rfl rfl) rfl (At.callP (fun w hw => goodTailR_p _ w hb) Tryz.call101 rfl rfl (tA rfl rfl (tE (tR (At.weaken [(0, _), (1, _), (2, _), (4, _), (5, _), (6, _), (32, _), (40, _), (48, _), (56, _), (57, _), (58, _), (59, _), (3, _)] (Sub.cons rfl (Sub.cons rfl (Sub.cons rfl (Sub.cons rfl (Sub.cons rfl (Sub.cons rfl (Sub.cons rfl (Sub.cons rfl (Sub.cons rfl (Sub.cons rfl (Sub.cons rfl (Sub.cons rfl (Sub.cons rfl (Sub.cons rfl Sub.nil)))))))))))))) ?_)))))))))
          refine At.boolMeet 6 65 (decide (GoodT t ∧ 5 ≤ h ∧ h ≤ 1023)) ?_ ?_
          ·simp only [List.take_succ_cons, List.take_zero]
           refine tM rfl rfl (tM rfl rfl ?_)
           refine At.split (t := 61) rfl (fun h14 => ?_) (fun h14 => ?_)
           ·try simp only [vN_T, vN_F, nmE_T, nmE_F, wI_T, wI_F, data_T, data_F, ino_T, ino_F, notT, notF, bneT, bneF, beqT, beqF, decT, decF] at h14
            refine At.yes rfl rfl (tV (Val.field 2 rfl fo_33_2 rfl) rfl (At.yes rfl rfl (tV (Val.load (i := 0) Tryz.isAgg3 rfl rfl rfl) rfl (At.yes rfl rfl (At.callP (fun w hw => dataR_p _ w) Tryz.call80 rfl rfl (tV (Val.pickT rfl rfl) rfl (At.nil ?_)))))))
            exact At.boolEnd rfl (by first | (apply Bool.eq_iff_iff.2; simp only [decide_eq_true_eq, data_T]; exact ⟨fun q => ⟨by assumption, q⟩, fun q => q.2⟩) | exact (decide_eq_false (fun q => absurd q.1 (by assumption))).symm) (by repeat (first | exact Sub.nil | refine Sub.cons rfl ?_))
           ·try simp only [vN_T, vN_F, nmE_T, nmE_F, wI_T, wI_F, data_T, data_F, ino_T, ino_F, notT, notF, bneT, bneF, beqT, beqF, decT, decF] at h14
            refine At.no rfl rfl rfl rfl (At.no rfl rfl rfl rfl (At.no rfl rfl rfl rfl (tV (Val.pickF rfl rfl) rfl (At.nil ?_))))
            exact At.boolEnd rfl (by first | (apply Bool.eq_iff_iff.2; simp only [decide_eq_true_eq, data_T]; exact ⟨fun q => ⟨by assumption, q⟩, fun q => q.2⟩) | exact (decide_eq_false (fun q => absurd q.1 (by assumption))).symm) (by repeat (first | exact Sub.nil | refine Sub.cons rfl ?_))
          ·simp only [List.drop_succ_cons, List.drop_zero]
           refine tA rfl rfl (tE (At.retC (At.ret1 (.inl rfl) rfl rfl rfl (fun w hw => ?_))))
           exact ⟨retB (by first | exact (decide_eq_true (by (try simp only [GoodS, GoodU, GoodT] at *); omega)).symm | exact (decide_eq_false (by (try simp only [GoodS, GoodU, GoodT] at *); omega)).symm | (apply Bool.eq_iff_iff.2; simp only [decide_eq_true_eq, data_T, ino_T, beq_iff_eq]; (try simp only [GoodS, GoodU, GoodT] at *); omega)), hw.mod⟩
end Go.Proofs.YthdmlpjhcalliaaGreatDoor
namespace Go.Proofs.YthdmlpjhcalliaaGreatDoor
open Go Go.Wk
def slotW (i k l h t : Int) : List (BitVec 64) := [sealW (BitVec.ofInt 64 (slotAt i)) (BitVec.ofInt 32 (k + 256 * l)), sealW (BitVec.ofInt 64 (slotAt i + 8)) (BitVec.ofInt 32 h), sealW (BitVec.ofInt 64 (slotAt i + 16)) (BitVec.ofInt 32 t)]
def GoodP (i k l h t : Int) : Prop := isInoB i = true ∧ GoodS k l h t
instance (i k l h t : Int) : Decidable (GoodP i k l h t) := by unfold GoodP; infer_instance
def packSlotV (i k l h t : Int) : Value := if GoodP i k l h t then .tuple #[.agg ((slotW i k l h t).map b64).toArray, .int .i64 0] else .tuple #[.agg #[.int .u64 0, .int .u64 0, .int .u64 0], .int .i64 32]
theorem packSlot_yes {i k l h t : Int} (g : GoodP i k l h t) : packSlotV i k l h t = .tuple #[.agg ((slotW i k l h t).map b64).toArray, .int .i64 0] := if_pos g
theorem packSlot_no {i k l h t : Int} (g : ¬ GoodP i k l h t) : packSlotV i k l h t = .tuple #[.agg #[.int .u64 0, .int .u64 0, .int .u64 0], .int .i64 32] := if_neg g
theorem or_1 : ∀ l : Fin 101, ib .or .i64 1 (256 * ((l.1 : Nat) : Int)) = 1 + 256 * ((l.1 : Nat) : Int) ∧ ib .or .i64 2 (256 * ((l.1 : Nat) : Int)) = 2 + 256 * ((l.1 : Nat) : Int) := by decide +kernel
theorem meta_or {k l h t : Int} (g : GoodS k l h t) : ib .or .i64 k (IntKind.i64.wrap (l * 2 ^ min (8 : Int).toNat IntKind.i64.bits)) = k + 256 * l := by
  have e : l * 2 ^ min (8 : Int).toNat IntKind.i64.bits = 256 * l := by rw [show (2 : Int) ^ min (8 : Int).toNat IntKind.i64.bits = 256 from rfl]; omega
  rw [e]
  rcases g with ⟨rfl, rfl, _⟩ | ⟨hk, _⟩
  · decide
  · have hl : 0 ≤ l ∧ l ≤ 100 := by omega
    have hn : l = ((l.toNat : Nat) : Int) := by omega
    rw [wrap_i64 (by omega) (by omega), hn]
    have := or_1 ⟨l.toNat, by omega⟩
    rcases hk with ⟨rfl, _⟩ | ⟨rfl, _⟩
    · exact this.1
    · exact this.2
theorem slot_len (i k l h t : Int) : ((slotW i k l h t).map b64).length = (List.replicate 3 (Value.int IntKind.u64 0)).length := rfl
theorem slot_at (i k l h t : Int) (j : Nat) (hj : j < 3) : ∃ v : Int, (#[.int .i64 (k + 256 * l), .int .i64 h, .int .i64 t] : Array Value)[j]? = some (.int .i64 v) ∧ ((slotW i k l h t).map b64)[j]? = some (b64 (sealW (BitVec.ofInt 64 (slotAt i + (j : Int) * 8)) (BitVec.ofInt 32 v))) := by
  match j, hj with
  | 0, _ => exact ⟨_, rfl, by simp [slotW]⟩
  | 1, _ => exact ⟨_, rfl, by simp [slotW]⟩
  | 2, _ => exact ⟨_, rfl, by simp [slotW]⟩
theorem packSlot_p (i k l h t : Int) (w : World) (ht : Tab w) (hb : -9223372036854775808 ≤ t ∧ t ≤ 9223372036854775807) :
    PureC Tryz.prog 27 [.int .i64 i, .agg #[.int .i64 k, .int .i64 l, .int .i64 h, .int .i64 t]] (packSlotV i k l h t) w := by
 refine enter0 Tryz.func27 rfl Tryz.ntmps27 rfl ?_
 simp only [envOf]
 refine tR (At.box rfl rfl rfl (fun b1 => (At.alloc zero_35 zc_35 rfl (fun b2 => (tA rfl rfl (tE (At.seq (tR (tM rfl rfl (At.callP (fun w hw => isInode_p _ w) Tryz.call59 rfl rfl (tV (Val.not rfl) rfl (tM rfl rfl ?_))))))))))))
 refine At.split (t := 12) rfl (fun h3 => ?_) (fun h3 => ?_)
 ·have hi : isInoB i = false := by simpa using h3
  refine At.no rfl rfl rfl rfl (At.no rfl rfl rfl rfl (At.no rfl rfl rfl rfl (At.no rfl rfl rfl rfl (At.noU rfl rfl rfl (At.noU rfl rfl rfl (At.noU rfl rfl rfl (At.no rfl rfl rfl rfl (tV (Val.pickT rfl rfl) rfl (tE (At.condT rfl (tR ?_)))))))))))
  refine tV (Val.build (fun a ha => by simp only [List.map_toArray, List.map_cons, List.map_nil] <;> rfl) (bld_35_)) rfl (At.storeAll (i := 0) Tryz.sizeOf35 rfl rfl rfl (by simp [Value.oneCell']) rfl (by simp) ?_)
  simp only [sc0, scS]
  refine tA rfl rfl (tE (At.retC (At.thenR (At.ret2 (.inl rfl) rfl rfl (ResOf.all (i := 0) Tryz.isAgg35 Tryz.sizeOf35 rfl rfl (by simp)) rfl (fun w hw => ?_)))))
  exact ⟨by rw [packSlot_no (fun g => by rw [g.1] at hi; cases hi)], hw.mod⟩
 ·have hi : isInoB i = true := by simpa using h3
  refine At.yes rfl rfl (tV (Val.loadAll (i := 1) Tryz.isAgg33 Tryz.sizeOf33 rfl rfl rfl) rfl (At.yes rfl rfl ?_))
  refine tV (Val.build (fun a ha => by simp only [List.map_toArray, List.map_cons, List.map_nil] <;> rfl) (bld_33_)) rfl (At.yes rfl rfl (tV (Val.neAgg Tryz.eqGuardType33 (fun w => eq_33 _ _ _ _ _ _ _ _ w) rfl rfl) rfl (At.yes rfl rfl (tM rfl rfl ?_))))
  refine At.split (t := 16) rfl (fun h4 => ?_) (fun h4 => ?_)
  ·have hz : ¬ (k = 0 ∧ l = 0 ∧ h = 0 ∧ t = 0) := by rintro ⟨rfl, rfl, rfl, rfl⟩; simp at h4
   refine At.yes rfl rfl (tV (Val.loadAll (i := 1) Tryz.isAgg33 Tryz.sizeOf33 rfl rfl rfl) rfl (At.yes rfl rfl (At.callP (fun w hw => goodUse_p _ _ _ _ w hb) Tryz.call68 rfl rfl (At.yes rfl rfl (tV (Val.not rfl) rfl (At.yes rfl rfl (tV (Val.pickT rfl rfl) rfl (tV (Val.pickF rfl rfl) rfl (tE ?_)))))))))
   refine At.cond rfl (fun h5 => ?_) (fun h5 => ?_)
   ·have hU : ¬ GoodU k l h t := by simpa using h5
    refine tR ?_
    refine tV (Val.build (fun a ha => by simp only [List.map_toArray, List.map_cons, List.map_nil] <;> rfl) (bld_35_)) rfl (At.storeAll (i := 0) Tryz.sizeOf35 rfl rfl rfl (by simp [Value.oneCell']) rfl (by simp) ?_)
    simp only [sc0, scS]
    refine tA rfl rfl (tE (At.retC (At.thenR (At.ret2 (.inl rfl) rfl rfl (ResOf.all (i := 0) Tryz.isAgg35 Tryz.sizeOf35 rfl rfl (by simp)) rfl (fun w hw => ?_)))))
    exact ⟨by rw [packSlot_no (fun g => g.2.elim hz hU)], hw.mod⟩
   ·have hS : GoodS k l h t := Or.inr (by simpa using h5)
    refine At.skipC (At.thenN (tR (At.alloc zero_35 zc_35 rfl (fun b6 => (tE (At.seq (tR (tV (Val.field 0 rfl fo_33_0 rfl) rfl (tV (Val.load (i := 2) Tryz.isAgg3 rfl rfl rfl) rfl (tV (Val.field 1 rfl fo_33_1 rfl) rfl (tV (Val.load (i := 2) Tryz.isAgg3 rfl rfl rfl) rfl (tV (Val.shl rfl rfl (by decide)) rfl (tV (Val.bin rfl rfl rfl) rfl ?_)))))))))))))
    rw [meta_or hS]
    refine tV (Val.field 2 rfl fo_33_2 rfl) rfl (tV (Val.load (i := 2) Tryz.isAgg3 rfl rfl rfl) rfl (tV (Val.field 3 rfl fo_33_3 rfl) rfl (tV (Val.load (i := 2) Tryz.isAgg3 rfl rfl rfl) rfl ?_)))
    refine tV (Val.build (fun a ha => by simp only [List.map_toArray, List.map_cons, List.map_nil, ha.eval (x := (.tmp 28)) rfl, ha.eval (x := (.tmp 30)) rfl, ha.eval (x := (.tmp 32)) rfl] <;> rfl) (bld_120_0_1_2 _ _ _ )) rfl (tM rfl rfl (At.nil ?_))
    have hsl := ino_T.1 hi
    have hse := slotAt_T hi
    refine At.thenN (At.block ?_)
    skip
    refine At.loop (σ := Nat) (fun j => j ≤ 3) (fun j => [(0, .int .i64 i), (4, .pointer (some ⟨b2, 0, none⟩)), (6, .pointer (some ⟨b6, 0, none⟩)), (33, .agg #[.int .i64 (k + 256 * l), .int .i64 h, .int .i64 t]), (34, .int .i64 (j : Int))]) (fun j => [blk b6 35 (fillG ((slotW i k l h t).map b64) (List.replicate 3 (Value.int .u64 0)) j), blk b2 35 (List.replicate 3 (Value.int .u64 0)), blk b1 33 ([.int .i64 k, .int .i64 l, .int .i64 h, .int .i64 t])]) (fun j => 3 - j) 0 (by omega) (Sub.cons rfl (Sub.cons rfl (Sub.cons rfl (Sub.cons rfl (Sub.cons rfl Sub.nil))))) (List.Perm.refl _) ?_
    intro j hs
    refine tR (tV (Val.bin rfl rfl rfl) rfl (tE (At.seq ?_)))
    refine At.cond rfl (fun h7 => ?_) (fun h7 => ?_)
    ·have hj : j < 3 := by have := h7; simp at this; omega
     obtain ⟨v, hv, hws⟩ := slot_at i k l h t j hj
     refine At.skipC (At.thenN (At.seq (At.block (tR (tM rfl rfl ?_)))))
     refine tV (Val.indexVal (v := .int .i64 v) Tryz.underlying120 Tryz.sizeOf3 Tryz.isAgg3 rfl rfl (by omega) (by omega) (by rw [Int.toNat_natCast]; exact hv)) rfl (tA rfl rfl (tA rfl rfl (tE (At.region (tM rfl rfl (tM rfl rfl (At.callP (fun w hw => slotAt_p i w) Tryz.call19 rfl rfl (tM rfl rfl (tV (Val.bin rfl rfl rfl) rfl ?_)))))))))
     rw [wrap_i64 (n := (j : Int) * 8) (by omega) (by omega)]
     refine tV (Val.bin rfl rfl rfl) rfl ?_
     rw [wrap_i64 (n := slotAt i + (j : Int) * 8) (by omega) (by omega)]
     refine tM rfl rfl (tV (Val.conv Tryz.underlying3 Tryz.underlying41 rfl) rfl ?_)
     rw [wrap_u32_int v]
     refine At.callP (fun w hw => seal_p _ _ w (ht.mod hw.mod)) Tryz.call69 rfl rfl (tV (Val.indexArr j (by omega) Tryz.underlying35 Tryz.sizeOf34 rfl rfl (by omega) (by omega)) rfl ?_)
     refine At.store (i := 0) Tryz.sizeOf34 rfl rfl rfl rfl (by rw [fillG_length (slot_len ..)]; exact hj) ?_
     simp only [sc0, scS]
     rw [fillG_step hws (slot_len ..)]
     refine At.nil (At.blkN (At.thenN (At.region (tV (Val.bin rfl rfl rfl) rfl (tM rfl rfl (tE ?_))))))
     exact At.again (j + 1) (by omega) (by omega) (Sub.cons rfl (Sub.cons rfl (Sub.cons rfl (Sub.cons rfl (Sub.cons (congrArg (fun z => some (Value.int IntKind.i64 z)) (wrap_i64 (by omega) (by omega))) Sub.nil))))) (List.Perm.refl _)
    ·obtain rfl : j = 3 := by have := h7; simp at this; omega
     rw [fillG_all (l := (slotW i k l h t).map b64) (m := List.replicate 3 (Value.int IntKind.u64 0)) (n := 3) rfl rfl]
     refine At.exitC (At.thenX (At.thenX (At.blkX (At.thenN (tR ?_)))))
     refine tV (Val.loadAll (i := 0) Tryz.isAgg35 Tryz.sizeOf35 rfl rfl (by first | rfl | (rw [fillG_length (slot_len ..)]; rfl))) rfl ?_
     refine At.storeAll (i := 1) Tryz.sizeOf35 rfl rfl (by first | rfl | (rw [fillG_length (slot_len ..)]; rfl)) (by simp [Value.oneCell']) rfl rfl ?_
     simp only [sc0, scS]
     refine tA rfl rfl (tE (At.retC ?_))
     refine At.ret2 (.inl rfl) rfl rfl (ResOf.all (i := 1) Tryz.isAgg35 Tryz.sizeOf35 rfl rfl (by first | rfl | (rw [fillG_length (slot_len ..)]; rfl))) rfl (fun w hw => ?_)
     exact ⟨by rw [packSlot_yes ⟨hi, hS⟩], hw.mod⟩
  ·have hS : GoodS k l h t := Or.inl (by simpa [and_assoc] using h4)
   refine At.no rfl rfl rfl rfl (At.no rfl rfl rfl rfl (At.no rfl rfl rfl rfl (At.yes rfl rfl (tV (Val.pickF rfl rfl) rfl (tV (Val.pickF rfl rfl) rfl (tE (At.condF rfl (At.skipC (At.thenN (tR (At.alloc zero_35 zc_35 rfl (fun b8 => (tE (At.seq (tR (tV (Val.field 0 rfl fo_33_0 rfl) rfl (tV (Val.load (i := 2) Tryz.isAgg3 rfl rfl rfl) rfl (tV (Val.field 1 rfl fo_33_1 rfl) rfl (tV (Val.load (i := 2) Tryz.isAgg3 rfl rfl rfl) rfl (tV (Val.shl rfl rfl (by decide)) rfl (tV (Val.bin rfl rfl rfl) rfl ?_)))))))))))))))))))))
   rw [meta_or hS]
   refine tV (Val.field 2 rfl fo_33_2 rfl) rfl (tV (Val.load (i := 2) Tryz.isAgg3 rfl rfl rfl) rfl (tV (Val.field 3 rfl fo_33_3 rfl) rfl (tV (Val.load (i := 2) Tryz.isAgg3 rfl rfl rfl) rfl ?_)))
   refine tV (Val.build (fun a ha => by simp only [List.map_toArray, List.map_cons, List.map_nil, ha.eval (x := (.tmp 28)) rfl, ha.eval (x := (.tmp 30)) rfl, ha.eval (x := (.tmp 32)) rfl] <;> rfl) (bld_120_0_1_2 _ _ _ )) rfl (tM rfl rfl (At.nil ?_))
   have hsl := ino_T.1 hi
   have hse := slotAt_T hi
   refine At.thenN (At.block ?_)
   skip
   refine At.loop (σ := Nat) (fun j => j ≤ 3) (fun j => [(0, .int .i64 i), (4, .pointer (some ⟨b2, 0, none⟩)), (6, .pointer (some ⟨b8, 0, none⟩)), (33, .agg #[.int .i64 (k + 256 * l), .int .i64 h, .int .i64 t]), (34, .int .i64 (j : Int))]) (fun j => [blk b8 35 (fillG ((slotW i k l h t).map b64) (List.replicate 3 (Value.int .u64 0)) j), blk b2 35 (List.replicate 3 (Value.int .u64 0)), blk b1 33 ([.int .i64 k, .int .i64 l, .int .i64 h, .int .i64 t])]) (fun j => 3 - j) 0 (by omega) (Sub.cons rfl (Sub.cons rfl (Sub.cons rfl (Sub.cons rfl (Sub.cons rfl Sub.nil))))) (List.Perm.refl _) ?_
   intro j hs
   refine tR (tV (Val.bin rfl rfl rfl) rfl (tE (At.seq ?_)))
   refine At.cond rfl (fun h9 => ?_) (fun h9 => ?_)
   ·have hj : j < 3 := by have := h9; simp at this; omega
    obtain ⟨v, hv, hws⟩ := slot_at i k l h t j hj
    refine At.skipC (At.thenN (At.seq (At.block (tR (tM rfl rfl ?_)))))
    refine tV (Val.indexVal (v := .int .i64 v) Tryz.underlying120 Tryz.sizeOf3 Tryz.isAgg3 rfl rfl (by omega) (by omega) (by rw [Int.toNat_natCast]; exact hv)) rfl (tA rfl rfl (tA rfl rfl (tE (At.region (tM rfl rfl (tM rfl rfl (At.callP (fun w hw => slotAt_p i w) Tryz.call19 rfl rfl (tM rfl rfl (tV (Val.bin rfl rfl rfl) rfl ?_)))))))))
    rw [wrap_i64 (n := (j : Int) * 8) (by omega) (by omega)]
    refine tV (Val.bin rfl rfl rfl) rfl ?_
    rw [wrap_i64 (n := slotAt i + (j : Int) * 8) (by omega) (by omega)]
    refine tM rfl rfl (tV (Val.conv Tryz.underlying3 Tryz.underlying41 rfl) rfl ?_)
    rw [wrap_u32_int v]
    refine At.callP (fun w hw => seal_p _ _ w (ht.mod hw.mod)) Tryz.call69 rfl rfl (tV (Val.indexArr j (by omega) Tryz.underlying35 Tryz.sizeOf34 rfl rfl (by omega) (by omega)) rfl ?_)
    refine At.store (i := 0) Tryz.sizeOf34 rfl rfl rfl rfl (by rw [fillG_length (slot_len ..)]; exact hj) ?_
    simp only [sc0, scS]
    rw [fillG_step hws (slot_len ..)]
    refine At.nil (At.blkN (At.thenN (At.region (tV (Val.bin rfl rfl rfl) rfl (tM rfl rfl (tE ?_))))))
    exact At.again (j + 1) (by omega) (by omega) (Sub.cons rfl (Sub.cons rfl (Sub.cons rfl (Sub.cons rfl (Sub.cons (congrArg (fun z => some (Value.int IntKind.i64 z)) (wrap_i64 (by omega) (by omega))) Sub.nil))))) (List.Perm.refl _)
   ·obtain rfl : j = 3 := by have := h9; simp at this; omega
    rw [fillG_all (l := (slotW i k l h t).map b64) (m := List.replicate 3 (Value.int IntKind.u64 0)) (n := 3) rfl rfl]
    refine At.exitC (At.thenX (At.thenX (At.blkX (At.thenN (tR ?_)))))
    refine tV (Val.loadAll (i := 0) Tryz.isAgg35 Tryz.sizeOf35 rfl rfl (by first | rfl | (rw [fillG_length (slot_len ..)]; rfl))) rfl ?_
    refine At.storeAll (i := 1) Tryz.sizeOf35 rfl rfl (by first | rfl | (rw [fillG_length (slot_len ..)]; rfl)) (by simp [Value.oneCell']) rfl rfl ?_
    simp only [sc0, scS]
    refine tA rfl rfl (tE (At.retC ?_))
    refine At.ret2 (.inl rfl) rfl rfl (ResOf.all (i := 1) Tryz.isAgg35 Tryz.sizeOf35 rfl rfl (by first | rfl | (rw [fillG_length (slot_len ..)]; rfl))) rfl (fun w hw => ?_)
    exact ⟨by rw [packSlot_yes ⟨hi, hS⟩], hw.mod⟩
theorem packSlotR_p (i k l h t : Int) (w : World) (hb : -9223372036854775808 ≤ t ∧ t ≤ 9223372036854775807) :
    PureC Tryz.prog 28 [.int .i64 i, .agg #[.int .i64 k, .int .i64 l, .int .i64 h, .int .i64 t]] (packSlotV i k l h t) w := by
 refine enter0 Tryz.func28 rfl Tryz.ntmps28 rfl ?_
 simp only [envOf]
 refine tR (At.box rfl rfl rfl (fun b1 => (At.alloc zero_35 zc_35 rfl (fun b2 => (tA rfl rfl (tE (tR (tV (Val.loadAll (i := 1) Tryz.isAgg33 Tryz.sizeOf33 rfl rfl rfl) rfl (At.callP (fun w hw => goodSlotR_p _ _ _ _ w hb) Tryz.call70 rfl rfl (tA rfl rfl (tE (At.seq (tR (tM rfl rfl (At.callP (fun w hw => inodeR_p _ w) Tryz.call60 rfl rfl (tV (Val.not rfl) rfl (tM rfl rfl ?_)))))))))))))))))
 refine At.split (t := 14) rfl (fun h3 => ?_) (fun h3 => ?_)
 ·have hi : isInoB i = false := by simpa using h3
  refine At.no rfl rfl rfl rfl (At.no rfl rfl rfl rfl (tV (Val.pickT rfl rfl) rfl (tE (At.condT rfl (tR ?_)))))
  refine tV (Val.build (fun a ha => by simp only [List.map_toArray, List.map_cons, List.map_nil] <;> rfl) (bld_35_)) rfl (At.storeAll (i := 0) Tryz.sizeOf35 rfl rfl rfl (by simp [Value.oneCell']) rfl (by simp) ?_)
  simp only [sc0, scS]
  refine tA rfl rfl (tE (At.retC (At.thenR (At.ret2 (.inl rfl) rfl rfl (ResOf.all (i := 0) Tryz.isAgg35 Tryz.sizeOf35 rfl rfl (by simp)) rfl (fun w hw => ?_)))))
  exact ⟨by rw [packSlot_no (fun g => by rw [g.1] at hi; cases hi)], hw.mod⟩
 ·have hi : isInoB i = true := by simpa using h3
  refine At.yes rfl rfl (tM rfl rfl (At.yes rfl rfl (tV (Val.not rfl) rfl (tV (Val.pickF rfl rfl) rfl (tE ?_)))))
  refine At.cond rfl (fun h4 => ?_) (fun h4 => ?_)
  ·have hS : ¬ GoodS k l h t := by simpa using h4
   refine tR ?_
   refine tV (Val.build (fun a ha => by simp only [List.map_toArray, List.map_cons, List.map_nil] <;> rfl) (bld_35_)) rfl (At.storeAll (i := 0) Tryz.sizeOf35 rfl rfl rfl (by simp [Value.oneCell']) rfl (by simp) ?_)
   simp only [sc0, scS]
   refine tA rfl rfl (tE (At.retC (At.thenR (At.ret2 (.inl rfl) rfl rfl (ResOf.all (i := 0) Tryz.isAgg35 Tryz.sizeOf35 rfl rfl (by simp)) rfl (fun w hw => ?_)))))
   exact ⟨by rw [packSlot_no (fun g => hS g.2)], hw.mod⟩
  ·have hS : GoodS k l h t := by simpa using h4
   have hsl := ino_T.1 hi
   have hse := slotAt_T hi
   have hkl : 0 ≤ k ∧ k ≤ 2 ∧ 0 ≤ l ∧ l ≤ 100 := by have h2 := hS; unfold GoodS GoodU at h2; omega
   refine At.skipC (At.thenN (tR (tM rfl rfl (At.callP (fun w hw => slotAtR_p i w) Tryz.call20 rfl rfl (tA rfl rfl (tE (tR (At.alloc zero_35 zc_35 rfl (fun b5 => (tE (tR (tM rfl rfl (tV (Val.field 0 rfl fo_33_0 rfl) rfl (tV (Val.load (i := 2) Tryz.isAgg3 rfl rfl rfl) rfl (tV (Val.field 1 rfl fo_33_1 rfl) rfl (tV (Val.load (i := 2) Tryz.isAgg3 rfl rfl rfl) rfl (tV (Val.bin rfl rfl rfl) rfl ?_)))))))))))))))))
   rw [wrap_i64 (n := 256 * l) (by omega) (by omega)]
   refine tV (Val.bin rfl rfl rfl) rfl ?_
   rw [wrap_i64 (n := k + 256 * l) (by omega) (by omega)]
   refine tV (Val.conv Tryz.underlying3 Tryz.underlying41 rfl) rfl ?_
   rw [wrap_u32_int (k + 256 * l)]
   refine At.callP (fun w hw => sealR_p _ _ w) Tryz.call71 rfl rfl (tV (Val.indexArr 0 rfl Tryz.underlying35 Tryz.sizeOf34 rfl rfl (by decide) (by decide)) rfl ?_)
   refine At.store (i := 0) Tryz.sizeOf34 rfl rfl rfl rfl (by first | (simp; done) | (simp; omega)) ?_
   simp only [sc0, scS]
   refine tE (tR (tM rfl rfl (tV (Val.bin rfl rfl rfl) rfl ?_)))
   rw [wrap_i64 (n := slotAt i + 8) (by omega) (by omega)]
   refine tV (Val.field 2 rfl fo_33_2 rfl) rfl (tV (Val.load (i := 2) Tryz.isAgg3 rfl rfl rfl) rfl (tV (Val.conv Tryz.underlying3 Tryz.underlying41 rfl) rfl ?_))
   rw [wrap_u32_int h]
   refine At.callP (fun w hw => sealR_p _ _ w) Tryz.call71 rfl rfl (tV (Val.indexArr 1 rfl Tryz.underlying35 Tryz.sizeOf34 rfl rfl (by decide) (by decide)) rfl ?_)
   refine At.store (i := 0) Tryz.sizeOf34 rfl rfl rfl rfl (by first | (simp; done) | (simp; omega)) ?_
   simp only [sc0, scS]
   refine tE (tR (tM rfl rfl (tV (Val.bin rfl rfl rfl) rfl ?_)))
   rw [wrap_i64 (n := slotAt i + 16) (by omega) (by omega)]
   refine tV (Val.field 3 rfl fo_33_3 rfl) rfl (tV (Val.load (i := 2) Tryz.isAgg3 rfl rfl rfl) rfl (tV (Val.conv Tryz.underlying3 Tryz.underlying41 rfl) rfl ?_))
   rw [wrap_u32_int t]
   refine At.callP (fun w hw => sealR_p _ _ w) Tryz.call71 rfl rfl (tV (Val.indexArr 2 rfl Tryz.underlying35 Tryz.sizeOf34 rfl rfl (by decide) (by decide)) rfl ?_)
   refine At.store (i := 0) Tryz.sizeOf34 rfl rfl rfl rfl (by first | (simp; done) | (simp; omega)) ?_
   simp only [sc0, scS]
   refine tE (tR (tV (Val.loadAll (i := 0) Tryz.isAgg35 Tryz.sizeOf35 rfl rfl (by simp)) rfl (At.storeAll (i := 1) Tryz.sizeOf35 rfl rfl (by simp) (by simp [Value.oneCell']) rfl (by simp) ?_)))
   simp only [sc0, scS]
   refine tA rfl rfl (tE (At.retC (At.ret2 (.inl rfl) rfl rfl (ResOf.all (i := 1) Tryz.isAgg35 Tryz.sizeOf35 rfl rfl (by simp)) rfl (fun w hw => ?_))))
   exact ⟨by rw [packSlot_yes ⟨hi, hS⟩]; rfl, hw.mod⟩
end Go.Proofs.YthdmlpjhcalliaaGreatDoor
namespace Go.Proofs.YthdmlpjhcalliaaGreatDoor
open Go Go.Wk
def loW (x : BitVec 64) : Nat := (x.setWidth 32).toNat
theorem loW_lt (x : BitVec 64) : loW x < 4294967296 := (x.setWidth 32).isLt
def hdOf (y z : BitVec 64) : Nat := if loW z = 0 then 0 else loW y
theorem hdOf_0 {y z : BitVec 64} (h : loW z = 0) : hdOf y z = 0 := if_pos h
theorem hdOf_1 {y z : BitVec 64} (h : ¬ loW z = 0) : hdOf y z = loW y := if_neg h
def SlW (a : Int) (x : BitVec 64) : Prop := sealW (BitVec.ofInt 64 a) (x.setWidth 32) = x
instance (a : Int) (x : BitVec 64) : Decidable (SlW a x) := by unfold SlW; infer_instance
def OkSl (i : Int) (x y z : BitVec 64) : Prop := isInoB i = true ∧ SlW (slotAt i) x ∧ (loW x = 0 ∨ (SlW (slotAt i + 16) z ∧ (loW z = 0 ∨ SlW (slotAt i + 8) y) ∧ GoodU (loW x % 256 : Nat) (loW x / 256 : Nat) (hdOf y z : Nat) (loW z : Nat)))
instance (i : Int) (x y z : BitVec 64) : Decidable (OkSl i x y z) := by unfold OkSl; infer_instance
def slotOf (x y z : BitVec 64) : Value := if loW x = 0 then .agg #[.int .i64 0, .int .i64 0, .int .i64 0, .int .i64 0] else .agg #[.int .i64 (loW x % 256 : Nat), .int .i64 (loW x / 256 : Nat), .int .i64 (hdOf y z : Nat), .int .i64 (loW z : Nat)]
theorem slotOf_0 {x y z : BitVec 64} (h : loW x = 0) : slotOf x y z = .agg #[.int .i64 0, .int .i64 0, .int .i64 0, .int .i64 0] := if_pos h
theorem slotOf_1 {x y z : BitVec 64} (h : ¬ loW x = 0) : slotOf x y z = .agg #[.int .i64 (loW x % 256 : Nat), .int .i64 (loW x / 256 : Nat), .int .i64 (hdOf y z : Nat), .int .i64 (loW z : Nat)] := if_neg h
def openSlotV (i : Int) (x y z : BitVec 64) : Value := if OkSl i x y z then .tuple #[slotOf x y z, .int .i64 0] else .tuple #[.agg #[.int .i64 0, .int .i64 0, .int .i64 0, .int .i64 0], .int .i64 32]
theorem openSlot_yes {i : Int} {x y z : BitVec 64} (h : OkSl i x y z) : openSlotV i x y z = .tuple #[slotOf x y z, .int .i64 0] := if_pos h
theorem openSlot_no {i : Int} {x y z : BitVec 64} (h : ¬ OkSl i x y z) : openSlotV i x y z = .tuple #[.agg #[.int .i64 0, .int .i64 0, .int .i64 0, .int .i64 0], .int .i64 32] := if_neg h
theorem and_255 {n : Nat} (h : n < 4294967296) : ib .and .i64 (n : Int) 255 = ((n % 256 : Nat) : Int) := by
  show IntKind.i64.wrap ((BitVec.ofInt 64 (n : Int) &&& BitVec.ofInt 64 255).toNat : Int) = _
  have e1 : (BitVec.ofInt 64 (n : Int)).toNat = n := by simp [BitVec.toNat_ofInt]; omega
  have e2 : (BitVec.ofInt 64 (255 : Int)).toNat = 2 ^ 8 - 1 := by decide
  rw [BitVec.toNat_and, e1, e2, Nat.and_two_pow_sub_one_eq_mod]
  exact wrap_i64 (by omega) (by omega)
theorem shr_8 (n : Nat) : (n : Int).fdiv (2 ^ min (8 : Int).toNat IntKind.i64.bits) = ((n / 256 : Nat) : Int) := by
  rw [show (2 : Int) ^ min (8 : Int).toNat IntKind.i64.bits = ((256 : Nat) : Int) from rfl, Int.fdiv_eq_ediv_of_nonneg _ (by omega)]; rfl
theorem held_lo (x : BitVec 64) : ((x.setWidth 32).toNat : Int) = (loW x : Nat) := rfl
theorem lo_eqT {x : BitVec 64} (h : (((x.setWidth 32).toNat : Int) == 0) = true) : loW x = 0 := by rw [held_lo] at h; simpa using h
theorem lo_eqF {x : BitVec 64} (h : (((x.setWidth 32).toNat : Int) == 0) = false) : ¬ loW x = 0 := by rw [held_lo] at h; simpa using h
theorem lo_neT {x : BitVec 64} (h : (((x.setWidth 32).toNat : Int) != 0) = true) : ¬ loW x = 0 := by rw [held_lo] at h; simpa using h
theorem lo_neF {x : BitVec 64} (h : (((x.setWidth 32).toNat : Int) != 0) = false) : loW x = 0 := by rw [held_lo] at h; simpa using h
theorem rem_256 {n : Nat} (h : n < 4294967296) : IntKind.i64.wrap ((n : Int).tmod 256) = ((n % 256 : Nat) : Int) := by
  rw [Int.tmod_eq_emod_of_nonneg (by omega), wrap_i64 (by omega) (by omega)]; omega
theorem quo_256 {n : Nat} (h : n < 4294967296) : IntKind.i64.wrap (IntKind.u32.wrap ((n : Int).tdiv 256)) = ((n / 256 : Nat) : Int) := by
  rw [Int.tdiv_eq_ediv_of_nonneg (by omega), wrap_u32 (by omega) (by omega), wrap_i64 (by omega) (by omega)]; omega
theorem openSlot_p (i : Int) (x y z : BitVec 64) (w : World) (ht : Tab w) :
    PureC Tryz.prog 29 [.int .i64 i, .agg #[b64 x, b64 y, b64 z]] (openSlotV i x y z) w := by
 refine enterD0 Tryz.func29 rfl Tryz.ntmps29 rfl ?_
 have hbz : -9223372036854775808 ≤ ((loW z : Nat) : Int) ∧ ((loW z : Nat) : Int) ≤ 9223372036854775807 := by have := loW_lt z; omega
 have hlx := loW_lt x
 simp only [envOf]
 refine tR (At.box rfl rfl rfl (fun b1 => (At.alloc Tryz.zeroValue33 rfl rfl (fun b2 => (At.alloc Tryz.zeroValue67 rfl rfl (fun b3 => (tE (tR (At.defer rfl (tE (tR (tM rfl rfl (At.callP (fun w hw => isInode_p _ w) Tryz.call59 rfl rfl ?_)))))))))))))
 refine At.split (t := 9) rfl (fun h4 => ?_) (fun h4 => ?_)
 ·have hi := h4
  have hsl := ino_T.1 hi
  have hse := slotAt_T hi
  refine At.callP (fun w hw => must_T _ w) Tryz.call62 rfl rfl (tE (tR (tM rfl rfl (At.callP (fun w hw => slotAt_p i w) Tryz.call19 rfl rfl (tA rfl rfl (tE (tR (tM rfl rfl (tV (Val.indexArr 0 rfl Tryz.underlying35 Tryz.sizeOf34 rfl rfl (by decide) (by decide)) rfl (tV (Val.load (i := 2) Tryz.isAgg34 rfl rfl rfl) rfl ?_))))))))))
  by_cases hs0 : SlW (slotAt i) x
  ·refine At.callP (fun w hw => held_T (slotAt i) x 32 w (ht.mod hw.mod) hs0) Tryz.call73 rfl rfl (tA rfl rfl (At.nil ?_))
   try rw [held_lo x]
   refine At.thenN (At.seq (tR (tM rfl rfl (tV (Val.bin rfl rfl rfl) rfl (tE ?_)))))
   refine At.cond rfl (fun h5 => ?_) (fun h5 => ?_)
   ·have hm : loW x = 0 := by have := h5; simp at this; omega
    refine tR ?_
    refine tV (Val.build (fun a ha => by simp only [List.map_toArray, List.map_cons, List.map_nil] <;> rfl) (bld_33_)) rfl (At.storeAll (i := 1) Tryz.sizeOf33 rfl rfl rfl (by simp [Value.oneCell']) rfl rfl ?_)
    simp only [sc0, scS]
    refine At.store (i := 0) Tryz.sizeOf67 rfl rfl rfl rfl (by first | decide | simp) ?_
    simp only [sc0, scS]
    refine tE (At.retC (At.thenR (At.leaveN (.inl rfl) rfl Tryz.call72 (fun w hw => caughtSlot_idle _ _ w) rfl (ResOf.all (i := 1) Tryz.isAgg33 Tryz.sizeOf33 rfl rfl rfl) (ResOf.one (i := 0) Tryz.isAgg67 rfl rfl rfl) (fun w hw => ?_))))
    exact ⟨by rw [openSlot_yes ⟨hi, hs0, .inl hm⟩, slotOf_0 hm], hw.mod⟩
   ·have hm : ¬ loW x = 0 := by have := h5; simp at this; omega
    refine At.skipC (At.thenN (tR (tM rfl rfl (tV (Val.bin rfl rfl rfl) rfl ?_))))
    rw [and_255 hlx]
    refine tM rfl rfl (tV (Val.shr rfl rfl (by decide)) rfl ?_)
    rw [shr_8]
    refine tV (Val.field 0 rfl fo_33_0 rfl) rfl (At.store (i := 1) Tryz.sizeOf3 rfl rfl rfl rfl (by first | decide | simp) ?_)
    simp only [sc0, scS]
    refine tV (Val.field 1 rfl fo_33_1 rfl) rfl (At.store (i := 1) Tryz.sizeOf3 rfl rfl rfl rfl (by first | decide | simp) ?_)
    simp only [sc0, scS]
    refine tE (tR (tM rfl rfl (tV (Val.bin rfl rfl rfl) rfl ?_)))
    rw [wrap_i64 (n := slotAt i + 16) (by omega) (by omega)]
    refine tV (Val.indexArr 2 rfl Tryz.underlying35 Tryz.sizeOf34 rfl rfl (by decide) (by decide)) rfl (tV (Val.load (i := 2) Tryz.isAgg34 rfl rfl rfl) rfl ?_)
    by_cases hs2 : SlW (slotAt i + 16) z
    ·refine At.callP (fun w hw => held_T (slotAt i + 16) z 32 w (ht.mod hw.mod) hs2) Tryz.call73 rfl rfl (tV (Val.field 3 rfl fo_33_3 rfl) rfl (At.store (i := 1) Tryz.sizeOf3 rfl rfl rfl rfl (by first | decide | simp) ?_))
     simp only [sc0, scS]
     refine At.nil ?_
     try rw [held_lo z]
     refine At.thenN (At.seq (tR (tV (Val.field 3 rfl fo_33_3 rfl) rfl (tV (Val.load (i := 1) Tryz.isAgg3 rfl rfl rfl) rfl (tV (Val.bin rfl rfl rfl) rfl (tE ?_))))))
     refine At.cond rfl (fun h6 => ?_) (fun h6 => ?_)
     ·have htl : ¬ loW z = 0 := by have := h6; simp at this; omega
      have hz' := hdOf_1 (y := y) htl
      refine At.region (tM rfl rfl (tV (Val.bin rfl rfl rfl) rfl ?_))
      rw [wrap_i64 (n := slotAt i + 8) (by omega) (by omega)]
      refine tV (Val.indexArr 1 rfl Tryz.underlying35 Tryz.sizeOf34 rfl rfl (by decide) (by decide)) rfl (tV (Val.load (i := 2) Tryz.isAgg34 rfl rfl rfl) rfl ?_)
      by_cases hs1 : SlW (slotAt i + 8) y
      ·refine At.callP (fun w hw => held_T (slotAt i + 8) y 32 w (ht.mod hw.mod) hs1) Tryz.call73 rfl rfl (tV (Val.field 2 rfl fo_33_2 rfl) rfl (At.store (i := 1) Tryz.sizeOf3 rfl rfl rfl rfl (by first | decide | simp) ?_))
       simp only [sc0, scS]
       refine At.nil ?_
       rw [held_lo y, ← hz']
       refine At.thenN (tR (tV (Val.loadAll (i := 1) Tryz.isAgg33 Tryz.sizeOf33 rfl rfl rfl) rfl (At.callP (fun w hw => goodUse_p _ _ _ _ w hbz) Tryz.call68 rfl rfl ?_)))
       refine At.split (t := 42) rfl (fun h7 => ?_) (fun h7 => ?_)
       ·have hg := of_decide_eq_true h7
        refine At.callP (fun w hw => must_T _ w) Tryz.call62 rfl rfl (tE (tR (tV (Val.loadAll (i := 1) Tryz.isAgg33 Tryz.sizeOf33 rfl rfl rfl) rfl (At.storeAll (i := 1) Tryz.sizeOf33 rfl rfl rfl (by simp [Value.oneCell']) rfl rfl ?_))))
        simp only [sc0, scS]
        refine At.store (i := 0) Tryz.sizeOf67 rfl rfl rfl rfl (by first | decide | simp) ?_
        simp only [sc0, scS]
        refine tE (At.retC (At.leaveN (.inl rfl) rfl Tryz.call72 (fun w hw => caughtSlot_idle _ _ w) rfl (ResOf.all (i := 1) Tryz.isAgg33 Tryz.sizeOf33 rfl rfl rfl) (ResOf.one (i := 0) Tryz.isAgg67 rfl rfl rfl) (fun w hw => ?_)))
        exact ⟨by rw [openSlot_yes ⟨hi, hs0, .inr ⟨hs2, .inr hs1, hg⟩⟩, slotOf_1 hm], hw.mod⟩
       ·have hg := of_decide_eq_false h7
        have hno : ¬ OkSl i x y z := fun g => g.2.2.elim hm (fun q => hg (by have := q.2.2; rw [hz'] at this; first | exact this | (rw [hz']; exact this)))
        refine At.callT0 (fun w hw => must_F _ w) Tryz.call62 rfl (At.thenE (At.leaveP rfl Tryz.call72 ((erase_perm _ 1 _ rfl).trans (List.Perm.cons _ (erase_perm _ 0 _ rfl))) (fun w hw => caughtSlot_pan _ _ _ _ _ w (hw.blk (i := 0) rfl) rfl (hw.blk (i := 1) rfl) hw.ne01) rfl (ResOf.all (i := 0) Tryz.isAgg33 Tryz.sizeOf33 rfl rfl rfl) (ResOf.one (i := 1) Tryz.isAgg67 rfl rfl rfl) (fun w hw => ?_)))
        exact ⟨by rw [openSlot_no hno], hw.mod⟩
      ·have hno : ¬ OkSl i x y z := fun g => g.2.2.elim hm (fun q => q.2.1.elim htl hs1)
       refine At.callT0 (fun w hw => held_F (slotAt i + 8) y 32 w (ht.mod hw.mod) hs1) Tryz.call73 rfl (At.thenE (At.leaveP rfl Tryz.call72 ((erase_perm _ 1 _ rfl).trans (List.Perm.cons _ (erase_perm _ 0 _ rfl))) (fun w hw => caughtSlot_pan _ _ _ _ _ w (hw.blk (i := 0) rfl) rfl (hw.blk (i := 1) rfl) hw.ne01) rfl (ResOf.all (i := 0) Tryz.isAgg33 Tryz.sizeOf33 rfl rfl rfl) (ResOf.one (i := 1) Tryz.isAgg67 rfl rfl rfl) (fun w hw => ?_)))
       exact ⟨by rw [openSlot_no hno], hw.mod⟩
     ·have htl : loW z = 0 := by have := h6; simp at this; omega
      have hz' := hdOf_0 (y := y) htl
      refine At.skipC (At.thenN (tR (tV (Val.loadAll (i := 1) Tryz.isAgg33 Tryz.sizeOf33 rfl rfl rfl) rfl (At.callP (fun w hw => goodUse_p _ _ _ _ w hbz) Tryz.call68 rfl rfl ?_))))
      refine At.split (t := 42) rfl (fun h8 => ?_) (fun h8 => ?_)
      ·have hg := of_decide_eq_true h8
       refine At.callP (fun w hw => must_T _ w) Tryz.call62 rfl rfl (tE (tR (tV (Val.loadAll (i := 1) Tryz.isAgg33 Tryz.sizeOf33 rfl rfl rfl) rfl (At.storeAll (i := 1) Tryz.sizeOf33 rfl rfl rfl (by simp [Value.oneCell']) rfl rfl ?_))))
       simp only [sc0, scS]
       refine At.store (i := 0) Tryz.sizeOf67 rfl rfl rfl rfl (by first | decide | simp) ?_
       simp only [sc0, scS]
       refine tE (At.retC (At.leaveN (.inl rfl) rfl Tryz.call72 (fun w hw => caughtSlot_idle _ _ w) rfl (ResOf.all (i := 1) Tryz.isAgg33 Tryz.sizeOf33 rfl rfl rfl) (ResOf.one (i := 0) Tryz.isAgg67 rfl rfl rfl) (fun w hw => ?_)))
       exact ⟨by rw [openSlot_yes ⟨hi, hs0, .inr ⟨hs2, .inl htl, by rw [hz']; exact hg⟩⟩, slotOf_1 hm, hz']; rfl, hw.mod⟩
      ·have hg := of_decide_eq_false h8
       have hno : ¬ OkSl i x y z := fun g => g.2.2.elim hm (fun q => hg (by have := q.2.2; rw [hz'] at this; first | exact this | (rw [hz']; exact this)))
       refine At.callT0 (fun w hw => must_F _ w) Tryz.call62 rfl (At.thenE (At.leaveP rfl Tryz.call72 ((erase_perm _ 1 _ rfl).trans (List.Perm.cons _ (erase_perm _ 0 _ rfl))) (fun w hw => caughtSlot_pan _ _ _ _ _ w (hw.blk (i := 0) rfl) rfl (hw.blk (i := 1) rfl) hw.ne01) rfl (ResOf.all (i := 0) Tryz.isAgg33 Tryz.sizeOf33 rfl rfl rfl) (ResOf.one (i := 1) Tryz.isAgg67 rfl rfl rfl) (fun w hw => ?_)))
       exact ⟨by rw [openSlot_no hno], hw.mod⟩
    ·have hno : ¬ OkSl i x y z := fun g => g.2.2.elim hm (fun q => hs2 q.1)
     refine At.callT0 (fun w hw => held_F (slotAt i + 16) z 32 w (ht.mod hw.mod) hs2) Tryz.call73 rfl (At.thenE (At.leaveP rfl Tryz.call72 ((erase_perm _ 1 _ rfl).trans (List.Perm.cons _ (erase_perm _ 0 _ rfl))) (fun w hw => caughtSlot_pan _ _ _ _ _ w (hw.blk (i := 0) rfl) rfl (hw.blk (i := 1) rfl) hw.ne01) rfl (ResOf.all (i := 0) Tryz.isAgg33 Tryz.sizeOf33 rfl rfl rfl) (ResOf.one (i := 1) Tryz.isAgg67 rfl rfl rfl) (fun w hw => ?_)))
     exact ⟨by rw [openSlot_no hno], hw.mod⟩
  ·have hno : ¬ OkSl i x y z := fun g => hs0 g.2.1
   refine At.callT0 (fun w hw => held_F (slotAt i) x 32 w (ht.mod hw.mod) hs0) Tryz.call73 rfl (At.thenE (At.leaveP rfl Tryz.call72 ((erase_perm _ 1 _ rfl).trans (List.Perm.cons _ (erase_perm _ 0 _ rfl))) (fun w hw => caughtSlot_pan _ _ _ _ _ w (hw.blk (i := 0) rfl) rfl (hw.blk (i := 1) rfl) hw.ne01) rfl (ResOf.all (i := 0) Tryz.isAgg33 Tryz.sizeOf33 rfl rfl rfl) (ResOf.one (i := 1) Tryz.isAgg67 rfl rfl rfl) (fun w hw => ?_)))
   exact ⟨by rw [openSlot_no hno], hw.mod⟩
 ·have hno : ¬ OkSl i x y z := fun g => by rw [g.1] at h4; cases h4
  refine At.callT0 (fun w hw => must_F _ w) Tryz.call62 rfl (At.thenE (At.leaveP rfl Tryz.call72 ((erase_perm _ 1 _ rfl).trans (List.Perm.cons _ (erase_perm _ 0 _ rfl))) (fun w hw => caughtSlot_pan _ _ _ _ _ w (hw.blk (i := 0) rfl) rfl (hw.blk (i := 1) rfl) hw.ne01) rfl (ResOf.all (i := 0) Tryz.isAgg33 Tryz.sizeOf33 rfl rfl rfl) (ResOf.one (i := 1) Tryz.isAgg67 rfl rfl rfl) (fun w hw => ?_)))
  exact ⟨by rw [openSlot_no hno], hw.mod⟩
theorem openSlotR_p (i : Int) (x y z : BitVec 64) (w : World) :
    PureC Tryz.prog 30 [.int .i64 i, .agg #[b64 x, b64 y, b64 z]] (openSlotV i x y z) w := by
 refine enter0 Tryz.func30 rfl Tryz.ntmps30 rfl ?_
 have hbz : -9223372036854775808 ≤ ((loW z : Nat) : Int) ∧ ((loW z : Nat) : Int) ≤ 9223372036854775807 := by have := loW_lt z; omega
 have hlx := loW_lt x
 simp only [envOf]
 refine tR (At.box rfl rfl rfl (fun b1 => (At.alloc Tryz.zeroValue33 rfl rfl (fun b2 => (tA rfl rfl (tE (At.seq (tR (tM rfl rfl (At.callP (fun w hw => inodeR_p _ w) Tryz.call60 rfl rfl (tV (Val.not rfl) rfl (tE ?_))))))))))))
 refine At.cond rfl (fun h3 => ?_) (fun h3 => ?_)
 ·have hno : ¬ OkSl i x y z := fun g => by rw [g.1] at h3; cases h3
  refine tR ?_
  refine tV (Val.build (fun a ha => by simp only [List.map_toArray, List.map_cons, List.map_nil] <;> rfl) (bld_33_)) rfl (At.storeAll (i := 0) Tryz.sizeOf33 rfl rfl rfl (by simp [Value.oneCell']) rfl rfl ?_)
  simp only [sc0, scS]
  refine tA rfl rfl (tE (At.retC (At.thenR (At.ret2 (.inl rfl) rfl rfl (ResOf.all (i := 0) Tryz.isAgg33 Tryz.sizeOf33 rfl rfl rfl) rfl (fun w hw => ?_)))))
  exact ⟨by first | rw [openSlot_no hno] | rw [openSlot_yes ⟨hi, hs0, .inl hm⟩, slotOf_0 hm] | (simp only [Bool.not_eq_true', decide_eq_false_iff_not, beq_iff_eq, beq_eq_false_iff_ne, decide_eq_true_eq, Bool.not_eq_false'] at *; rw [openSlot_no (fun g => g.2.2.elim hm (fun q => by have := q.2.2; rw [hz'] at *; first | (exact hS (Or.inr this)) | (unfold GoodU at this; omega)))]) | (simp only [Bool.not_eq_true', decide_eq_false_iff_not, beq_iff_eq, beq_eq_false_iff_ne, decide_eq_true_eq, Bool.not_eq_false'] at *; rw [openSlot_yes ⟨hi, hs0, .inr ⟨hs2, by first | exact .inl htl | exact .inr hs1, by rw [hz'] at *; rcases hS with hS | hS; exact absurd hS.1 hk; exact hS⟩⟩, slotOf_1 hm]; (try rw [hz']); try rfl), hw.mod⟩
 ·have hi : isInoB i = true := by simpa using h3
  have hsl := ino_T.1 hi
  have hse := slotAt_T hi
  refine At.skipC (At.thenN (tR (tM rfl rfl (At.callP (fun w hw => slotAtR_p i w) Tryz.call20 rfl rfl (tA rfl rfl (tE (tR (tM rfl rfl (tV (Val.indexArr 0 rfl Tryz.underlying35 Tryz.sizeOf34 rfl rfl (by decide) (by decide)) rfl (tV (Val.load (i := 1) Tryz.isAgg34 rfl rfl rfl) rfl ?_))))))))))
  by_cases hs0 : SlW (slotAt i) x
  ·refine At.callP (fun w hw => (by have := unsealR_p (slotAt i) x w; rwa [unseal_yes hs0] at this)) Tryz.call74 rfl rfl (tM rfl rfl (tV (Val.extract rfl rfl) rfl (tV (Val.extract rfl rfl) rfl (tA rfl rfl (tA rfl rfl (tE (At.seq (tR (tM rfl rfl (tV (Val.bin rfl rfl rfl) rfl (tE (At.condF rfl (At.skipC (At.thenN (At.seq (tR (tM rfl rfl (tV (Val.bin rfl rfl rfl) rfl (tE ?_)))))))))))))))))))
   refine At.cond rfl (fun h4 => ?_) (fun h4 => ?_)
   ·have hm := lo_eqT h4
    refine tR ?_
    refine tV (Val.build (fun a ha => by simp only [List.map_toArray, List.map_cons, List.map_nil] <;> rfl) (bld_33_)) rfl (At.storeAll (i := 0) Tryz.sizeOf33 rfl rfl rfl (by simp [Value.oneCell']) rfl rfl ?_)
    simp only [sc0, scS]
    refine tA rfl rfl (tE (At.retC (At.thenR (At.ret2 (.inl rfl) rfl rfl (ResOf.all (i := 0) Tryz.isAgg33 Tryz.sizeOf33 rfl rfl rfl) rfl (fun w hw => ?_)))))
    exact ⟨by first | rw [openSlot_no hno] | rw [openSlot_yes ⟨hi, hs0, .inl hm⟩, slotOf_0 hm] | (simp only [Bool.not_eq_true', decide_eq_false_iff_not, beq_iff_eq, beq_eq_false_iff_ne, decide_eq_true_eq, Bool.not_eq_false'] at *; rw [openSlot_no (fun g => g.2.2.elim hm (fun q => by have := q.2.2; rw [hz'] at *; first | (exact hS (Or.inr this)) | (unfold GoodU at this; omega)))]) | (simp only [Bool.not_eq_true', decide_eq_false_iff_not, beq_iff_eq, beq_eq_false_iff_ne, decide_eq_true_eq, Bool.not_eq_false'] at *; rw [openSlot_yes ⟨hi, hs0, .inr ⟨hs2, by first | exact .inl htl | exact .inr hs1, by rw [hz'] at *; rcases hS with hS | hS; exact absurd hS.1 hk; exact hS⟩⟩, slotOf_1 hm]; (try rw [hz']); try rfl), hw.mod⟩
   ·have hm := lo_eqF h4
    refine At.skipC (At.thenN (tR (tM rfl rfl (tV (Val.bin rfl rfl rfl) rfl ?_))))
    rw [wrap_i64 (n := slotAt i + 16) (by omega) (by omega)]
    refine tV (Val.indexArr 2 rfl Tryz.underlying35 Tryz.sizeOf34 rfl rfl (by decide) (by decide)) rfl (tV (Val.load (i := 1) Tryz.isAgg34 rfl rfl rfl) rfl ?_)
    by_cases hs2 : SlW (slotAt i + 16) z
    ·refine At.callP (fun w hw => (by have := unsealR_p (slotAt i + 16) z w; rwa [unseal_yes hs2] at this)) Tryz.call74 rfl rfl (tM rfl rfl (tV (Val.extract rfl rfl) rfl (tV (Val.extract rfl rfl) rfl (tA rfl rfl (tA rfl rfl (tE (At.seq (tR (tM rfl rfl (tV (Val.bin rfl rfl rfl) rfl (tE (At.condF rfl (At.skipC (At.thenN (tR (tM rfl rfl (tV (Val.rem rfl rfl (by decide)) rfl (tV (Val.conv Tryz.underlying41 Tryz.underlying3 rfl) rfl ?_))))))))))))))))))
     try rw [held_lo x]
     rw [rem_256 hlx]
     refine tM rfl rfl (tV (Val.quo rfl rfl (by decide)) rfl (tV (Val.conv Tryz.underlying41 Tryz.underlying3 rfl) rfl ?_))
     try rw [held_lo x]
     rw [quo_256 hlx]
     refine tM rfl rfl (tV (Val.conv Tryz.underlying41 Tryz.underlying3 rfl) rfl ?_)
     try rw [i64_32]
     try rw [held_lo z]
     refine tV (Val.build (fun a ha => by simp only [List.map_toArray, List.map_cons, List.map_nil, ha.eval (x := (.tmp 47)) rfl, ha.eval (x := (.tmp 50)) rfl, ha.eval (x := (.tmp 52)) rfl] <;> rfl) (bld_33_0_1_3 _ _ _ )) rfl (At.alloc Tryz.zeroValue33 rfl rfl (fun b5 => (At.storeAll (i := 0) Tryz.sizeOf33 rfl rfl rfl (by simp [Value.oneCell']) rfl rfl ?_)))
     simp only [sc0, scS]
     refine tE (At.seq (tR (tM rfl rfl (tV (Val.bin rfl rfl rfl) rfl (tE ?_)))))
     refine At.cond rfl (fun h6 => ?_) (fun h6 => ?_)
     ·have htl := lo_neT h6
      have hz' := hdOf_1 (y := y) htl
      refine tR (tM rfl rfl (tV (Val.bin rfl rfl rfl) rfl ?_))
      rw [wrap_i64 (n := slotAt i + 8) (by omega) (by omega)]
      refine tV (Val.indexArr 1 rfl Tryz.underlying35 Tryz.sizeOf34 rfl rfl (by decide) (by decide)) rfl (tV (Val.load (i := 2) Tryz.isAgg34 rfl rfl rfl) rfl ?_)
      by_cases hs1 : SlW (slotAt i + 8) y
      ·refine At.callP (fun w hw => (by have := unsealR_p (slotAt i + 8) y w; rwa [unseal_yes hs1] at this)) Tryz.call74 rfl rfl (tM rfl rfl (tV (Val.extract rfl rfl) rfl (tV (Val.extract rfl rfl) rfl (tA rfl rfl (tA rfl rfl (tE (At.seq (tR (tM rfl rfl (tV (Val.bin rfl rfl rfl) rfl (tM rfl rfl (At.yes rfl rfl (tM rfl rfl (At.yes rfl rfl (tV (Val.bin rfl rfl rfl) rfl (tV (Val.pickF rfl rfl) rfl (tE ?_)))))))))))))))))
       refine At.cond rfl (fun h7 => ?_) (fun h7 => ?_)
       ·have hy0 := lo_eqT h7
        have hno : ¬ OkSl i x y z := fun g => g.2.2.elim hm (fun q => by have := q.2.2; rw [hz', hy0] at this; unfold GoodU at this; omega)
        refine tR ?_
        refine tV (Val.build (fun a ha => by simp only [List.map_toArray, List.map_cons, List.map_nil] <;> rfl) (bld_33_)) rfl (At.storeAll (i := 1) Tryz.sizeOf33 rfl rfl rfl (by simp [Value.oneCell']) rfl rfl ?_)
        simp only [sc0, scS]
        refine tA rfl rfl (tE (At.retC (At.thenR (At.thenR (At.ret2 (.inl rfl) rfl rfl (ResOf.all (i := 1) Tryz.isAgg33 Tryz.sizeOf33 rfl rfl rfl) rfl (fun w hw => ?_))))))
        exact ⟨by first | rw [openSlot_no hno] | rw [openSlot_yes ⟨hi, hs0, .inl hm⟩, slotOf_0 hm] | (simp only [Bool.not_eq_true', decide_eq_false_iff_not, beq_iff_eq, beq_eq_false_iff_ne, decide_eq_true_eq, Bool.not_eq_false'] at *; rw [openSlot_no (fun g => g.2.2.elim hm (fun q => by have := q.2.2; rw [hz'] at *; first | (exact hS (Or.inr this)) | (unfold GoodU at this; omega)))]) | (simp only [Bool.not_eq_true', decide_eq_false_iff_not, beq_iff_eq, beq_eq_false_iff_ne, decide_eq_true_eq, Bool.not_eq_false'] at *; rw [openSlot_yes ⟨hi, hs0, .inr ⟨hs2, by first | exact .inl htl | exact .inr hs1, by rw [hz'] at *; rcases hS with hS | hS; exact absurd hS.1 hk; exact hS⟩⟩, slotOf_1 hm]; (try rw [hz']); try rfl), hw.mod⟩
       ·refine At.skipC (At.thenN (At.region (tM rfl rfl (tV (Val.conv Tryz.underlying41 Tryz.underlying3 rfl) rfl ?_))))
        try rw [i64_32]
        try rw [held_lo y]
        try rw [← hz']
        refine tV (Val.field 2 rfl fo_33_2 rfl) rfl (At.store (i := 0) Tryz.sizeOf3 rfl rfl rfl rfl (by first | decide | simp) ?_)
        simp only [sc0, scS]
        refine tE (tR (tV (Val.loadAll (i := 0) Tryz.isAgg33 Tryz.sizeOf33 rfl rfl rfl) rfl (At.callP (fun w hw => goodSlotR_p _ _ _ _ w hbz) Tryz.call70 rfl rfl (tA rfl rfl (tE (At.seq (tR (tM rfl rfl (tV (Val.not rfl) rfl (tM rfl rfl ?_))))))))))
        refine At.split (t := 78) rfl (fun h8 => ?_) (fun h8 => ?_)
        ·have hS := h8
         refine At.no rfl rfl rfl rfl (At.no rfl rfl rfl rfl (At.no rfl rfl rfl rfl (tV (Val.pickT rfl rfl) rfl (tE (At.condT rfl (tR ?_))))))
         refine tV (Val.build (fun a ha => by simp only [List.map_toArray, List.map_cons, List.map_nil] <;> rfl) (bld_33_)) rfl (At.storeAll (i := 1) Tryz.sizeOf33 rfl rfl rfl (by simp [Value.oneCell']) rfl rfl ?_)
         simp only [sc0, scS]
         refine tA rfl rfl (tE (At.retC (At.thenR (At.ret2 (.inl rfl) rfl rfl (ResOf.all (i := 1) Tryz.isAgg33 Tryz.sizeOf33 rfl rfl rfl) rfl (fun w hw => ?_)))))
         exact ⟨by first | rw [openSlot_no hno] | rw [openSlot_yes ⟨hi, hs0, .inl hm⟩, slotOf_0 hm] | (simp only [Bool.not_eq_true', decide_eq_false_iff_not, beq_iff_eq, beq_eq_false_iff_ne, decide_eq_true_eq, Bool.not_eq_false'] at *; rw [openSlot_no (fun g => g.2.2.elim hm (fun q => by have := q.2.2; rw [hz'] at *; first | (exact hS (Or.inr this)) | (unfold GoodU at this; omega)))]) | (simp only [Bool.not_eq_true', decide_eq_false_iff_not, beq_iff_eq, beq_eq_false_iff_ne, decide_eq_true_eq, Bool.not_eq_false'] at *; rw [openSlot_yes ⟨hi, hs0, .inr ⟨hs2, by first | exact .inl htl | exact .inr hs1, by rw [hz'] at *; rcases hS with hS | hS; exact absurd hS.1 hk; exact hS⟩⟩, slotOf_1 hm]; (try rw [hz']); try rfl), hw.mod⟩
        ·have hS := h8
         refine At.yes rfl rfl (tV (Val.field 0 rfl fo_33_0 rfl) rfl (At.yes rfl rfl (tV (Val.load (i := 0) Tryz.isAgg3 rfl rfl rfl) rfl (At.yes rfl rfl (tV (Val.bin rfl rfl rfl) rfl (tV (Val.pickF rfl rfl) rfl (tE ?_)))))))
         refine At.cond rfl (fun h9 => ?_) (fun h9 => ?_)
         ·have hk := h9
          refine tR ?_
          refine tV (Val.build (fun a ha => by simp only [List.map_toArray, List.map_cons, List.map_nil] <;> rfl) (bld_33_)) rfl (At.storeAll (i := 1) Tryz.sizeOf33 rfl rfl rfl (by simp [Value.oneCell']) rfl rfl ?_)
          simp only [sc0, scS]
          refine tA rfl rfl (tE (At.retC (At.thenR (At.ret2 (.inl rfl) rfl rfl (ResOf.all (i := 1) Tryz.isAgg33 Tryz.sizeOf33 rfl rfl rfl) rfl (fun w hw => ?_)))))
          exact ⟨by first | rw [openSlot_no hno] | rw [openSlot_yes ⟨hi, hs0, .inl hm⟩, slotOf_0 hm] | (simp only [Bool.not_eq_true', decide_eq_false_iff_not, beq_iff_eq, beq_eq_false_iff_ne, decide_eq_true_eq, Bool.not_eq_false'] at *; rw [openSlot_no (fun g => g.2.2.elim hm (fun q => by have := q.2.2; rw [hz'] at *; first | (exact hS (Or.inr this)) | (unfold GoodU at this; omega)))]) | (simp only [Bool.not_eq_true', decide_eq_false_iff_not, beq_iff_eq, beq_eq_false_iff_ne, decide_eq_true_eq, Bool.not_eq_false'] at *; rw [openSlot_yes ⟨hi, hs0, .inr ⟨hs2, by first | exact .inl htl | exact .inr hs1, by rw [hz'] at *; rcases hS with hS | hS; exact absurd hS.1 hk; exact hS⟩⟩, slotOf_1 hm]; (try rw [hz']); try rfl), hw.mod⟩
         ·have hk := h9
          refine At.skipC (At.thenN (tR (tV (Val.loadAll (i := 0) Tryz.isAgg33 Tryz.sizeOf33 rfl rfl rfl) rfl (At.storeAll (i := 1) Tryz.sizeOf33 rfl rfl rfl (by simp [Value.oneCell']) rfl rfl ?_))))
          simp only [sc0, scS]
          refine tA rfl rfl (tE (At.retC (At.ret2 (.inl rfl) rfl rfl (ResOf.all (i := 1) Tryz.isAgg33 Tryz.sizeOf33 rfl rfl rfl) rfl (fun w hw => ?_))))
          exact ⟨by first | rw [openSlot_no hno] | rw [openSlot_yes ⟨hi, hs0, .inl hm⟩, slotOf_0 hm] | (simp only [Bool.not_eq_true', decide_eq_false_iff_not, beq_iff_eq, beq_eq_false_iff_ne, decide_eq_true_eq, Bool.not_eq_false'] at *; rw [openSlot_no (fun g => g.2.2.elim hm (fun q => by have := q.2.2; rw [hz'] at *; first | (exact hS (Or.inr this)) | (unfold GoodU at this; omega)))]) | (simp only [Bool.not_eq_true', decide_eq_false_iff_not, beq_iff_eq, beq_eq_false_iff_ne, decide_eq_true_eq, Bool.not_eq_false'] at *; rw [openSlot_yes ⟨hi, hs0, .inr ⟨hs2, by first | exact .inl htl | exact .inr hs1, by rw [hz'] at *; rcases hS with hS | hS; exact absurd hS.1 hk; exact hS⟩⟩, slotOf_1 hm]; (try rw [hz']); try rfl), hw.mod⟩
      ·have hno : ¬ OkSl i x y z := fun g => g.2.2.elim hm (fun q => q.2.1.elim htl hs1)
       refine At.callP (fun w hw => (by have := unsealR_p (slotAt i + 8) y w; rwa [unseal_no hs1] at this)) Tryz.call74 rfl rfl (tM rfl rfl (tV (Val.extract rfl rfl) rfl (tV (Val.extract rfl rfl) rfl (tA rfl rfl (tA rfl rfl (tE (At.seq (tR (tM rfl rfl (tV (Val.bin rfl rfl rfl) rfl (tM rfl rfl (At.no rfl rfl rfl rfl (At.no rfl rfl rfl rfl (tV (Val.pickT rfl rfl) rfl (tE (At.condT rfl (tR ?_)))))))))))))))))
       refine tV (Val.build (fun a ha => by simp only [List.map_toArray, List.map_cons, List.map_nil] <;> rfl) (bld_33_)) rfl (At.storeAll (i := 1) Tryz.sizeOf33 rfl rfl rfl (by simp [Value.oneCell']) rfl rfl ?_)
       simp only [sc0, scS]
       refine tA rfl rfl (tE (At.retC (At.thenR (At.thenR (At.ret2 (.inl rfl) rfl rfl (ResOf.all (i := 1) Tryz.isAgg33 Tryz.sizeOf33 rfl rfl rfl) rfl (fun w hw => ?_))))))
       exact ⟨by first | rw [openSlot_no hno] | rw [openSlot_yes ⟨hi, hs0, .inl hm⟩, slotOf_0 hm] | (simp only [Bool.not_eq_true', decide_eq_false_iff_not, beq_iff_eq, beq_eq_false_iff_ne, decide_eq_true_eq, Bool.not_eq_false'] at *; rw [openSlot_no (fun g => g.2.2.elim hm (fun q => by have := q.2.2; rw [hz'] at *; first | (exact hS (Or.inr this)) | (unfold GoodU at this; omega)))]) | (simp only [Bool.not_eq_true', decide_eq_false_iff_not, beq_iff_eq, beq_eq_false_iff_ne, decide_eq_true_eq, Bool.not_eq_false'] at *; rw [openSlot_yes ⟨hi, hs0, .inr ⟨hs2, by first | exact .inl htl | exact .inr hs1, by rw [hz'] at *; rcases hS with hS | hS; exact absurd hS.1 hk; exact hS⟩⟩, slotOf_1 hm]; (try rw [hz']); try rfl), hw.mod⟩
     ·have htl := lo_neF h6
      have hz' := hdOf_0 (y := y) htl
      refine At.skipC (At.thenN (tR (tV (Val.loadAll (i := 0) Tryz.isAgg33 Tryz.sizeOf33 rfl rfl rfl) rfl (At.callP (fun w hw => goodSlotR_p _ _ _ _ w hbz) Tryz.call70 rfl rfl (tA rfl rfl (tE (At.seq (tR (tM rfl rfl (tV (Val.not rfl) rfl (tM rfl rfl ?_)))))))))))
      refine At.split (t := 78) rfl (fun h10 => ?_) (fun h10 => ?_)
      ·have hS := h10
       refine At.no rfl rfl rfl rfl (At.no rfl rfl rfl rfl (At.no rfl rfl rfl rfl (tV (Val.pickT rfl rfl) rfl (tE (At.condT rfl (tR ?_))))))
       refine tV (Val.build (fun a ha => by simp only [List.map_toArray, List.map_cons, List.map_nil] <;> rfl) (bld_33_)) rfl (At.storeAll (i := 1) Tryz.sizeOf33 rfl rfl rfl (by simp [Value.oneCell']) rfl rfl ?_)
       simp only [sc0, scS]
       refine tA rfl rfl (tE (At.retC (At.thenR (At.ret2 (.inl rfl) rfl rfl (ResOf.all (i := 1) Tryz.isAgg33 Tryz.sizeOf33 rfl rfl rfl) rfl (fun w hw => ?_)))))
       exact ⟨by first | rw [openSlot_no hno] | rw [openSlot_yes ⟨hi, hs0, .inl hm⟩, slotOf_0 hm] | (simp only [Bool.not_eq_true', decide_eq_false_iff_not, beq_iff_eq, beq_eq_false_iff_ne, decide_eq_true_eq, Bool.not_eq_false'] at *; rw [openSlot_no (fun g => g.2.2.elim hm (fun q => by have := q.2.2; rw [hz'] at *; first | (exact hS (Or.inr this)) | (unfold GoodU at this; omega)))]) | (simp only [Bool.not_eq_true', decide_eq_false_iff_not, beq_iff_eq, beq_eq_false_iff_ne, decide_eq_true_eq, Bool.not_eq_false'] at *; rw [openSlot_yes ⟨hi, hs0, .inr ⟨hs2, by first | exact .inl htl | exact .inr hs1, by rw [hz'] at *; rcases hS with hS | hS; exact absurd hS.1 hk; exact hS⟩⟩, slotOf_1 hm]; (try rw [hz']); try rfl), hw.mod⟩
      ·have hS := h10
       refine At.yes rfl rfl (tV (Val.field 0 rfl fo_33_0 rfl) rfl (At.yes rfl rfl (tV (Val.load (i := 0) Tryz.isAgg3 rfl rfl rfl) rfl (At.yes rfl rfl (tV (Val.bin rfl rfl rfl) rfl (tV (Val.pickF rfl rfl) rfl (tE ?_)))))))
       refine At.cond rfl (fun h11 => ?_) (fun h11 => ?_)
       ·have hk := h11
        refine tR ?_
        refine tV (Val.build (fun a ha => by simp only [List.map_toArray, List.map_cons, List.map_nil] <;> rfl) (bld_33_)) rfl (At.storeAll (i := 1) Tryz.sizeOf33 rfl rfl rfl (by simp [Value.oneCell']) rfl rfl ?_)
        simp only [sc0, scS]
        refine tA rfl rfl (tE (At.retC (At.thenR (At.ret2 (.inl rfl) rfl rfl (ResOf.all (i := 1) Tryz.isAgg33 Tryz.sizeOf33 rfl rfl rfl) rfl (fun w hw => ?_)))))
        exact ⟨by first | rw [openSlot_no hno] | rw [openSlot_yes ⟨hi, hs0, .inl hm⟩, slotOf_0 hm] | (simp only [Bool.not_eq_true', decide_eq_false_iff_not, beq_iff_eq, beq_eq_false_iff_ne, decide_eq_true_eq, Bool.not_eq_false'] at *; rw [openSlot_no (fun g => g.2.2.elim hm (fun q => by have := q.2.2; rw [hz'] at *; first | (exact hS (Or.inr this)) | (unfold GoodU at this; omega)))]) | (simp only [Bool.not_eq_true', decide_eq_false_iff_not, beq_iff_eq, beq_eq_false_iff_ne, decide_eq_true_eq, Bool.not_eq_false'] at *; rw [openSlot_yes ⟨hi, hs0, .inr ⟨hs2, by first | exact .inl htl | exact .inr hs1, by rw [hz'] at *; rcases hS with hS | hS; exact absurd hS.1 hk; exact hS⟩⟩, slotOf_1 hm]; (try rw [hz']); try rfl), hw.mod⟩
       ·have hk := h11
        refine At.skipC (At.thenN (tR (tV (Val.loadAll (i := 0) Tryz.isAgg33 Tryz.sizeOf33 rfl rfl rfl) rfl (At.storeAll (i := 1) Tryz.sizeOf33 rfl rfl rfl (by simp [Value.oneCell']) rfl rfl ?_))))
        simp only [sc0, scS]
        refine tA rfl rfl (tE (At.retC (At.ret2 (.inl rfl) rfl rfl (ResOf.all (i := 1) Tryz.isAgg33 Tryz.sizeOf33 rfl rfl rfl) rfl (fun w hw => ?_))))
        exact ⟨by first | rw [openSlot_no hno] | rw [openSlot_yes ⟨hi, hs0, .inl hm⟩, slotOf_0 hm] | (simp only [Bool.not_eq_true', decide_eq_false_iff_not, beq_iff_eq, beq_eq_false_iff_ne, decide_eq_true_eq, Bool.not_eq_false'] at *; rw [openSlot_no (fun g => g.2.2.elim hm (fun q => by have := q.2.2; rw [hz'] at *; first | (exact hS (Or.inr this)) | (unfold GoodU at this; omega)))]) | (simp only [Bool.not_eq_true', decide_eq_false_iff_not, beq_iff_eq, beq_eq_false_iff_ne, decide_eq_true_eq, Bool.not_eq_false'] at *; rw [openSlot_yes ⟨hi, hs0, .inr ⟨hs2, by first | exact .inl htl | exact .inr hs1, by rw [hz'] at *; rcases hS with hS | hS; exact absurd hS.1 hk; exact hS⟩⟩, slotOf_1 hm]; (try rw [hz']); try rfl), hw.mod⟩
    ·have hno : ¬ OkSl i x y z := fun g => g.2.2.elim hm (fun q => hs2 q.1)
     refine At.callP (fun w hw => (by have := unsealR_p (slotAt i + 16) z w; rwa [unseal_no hs2] at this)) Tryz.call74 rfl rfl (tM rfl rfl (tV (Val.extract rfl rfl) rfl (tV (Val.extract rfl rfl) rfl (tA rfl rfl (tA rfl rfl (tE (At.seq (tR (tM rfl rfl (tV (Val.bin rfl rfl rfl) rfl (tE (At.condT rfl (tR ?_)))))))))))))
     refine tV (Val.build (fun a ha => by simp only [List.map_toArray, List.map_cons, List.map_nil] <;> rfl) (bld_33_)) rfl (At.storeAll (i := 0) Tryz.sizeOf33 rfl rfl rfl (by simp [Value.oneCell']) rfl rfl ?_)
     simp only [sc0, scS]
     refine tA rfl rfl (tE (At.retC (At.thenR (At.ret2 (.inl rfl) rfl rfl (ResOf.all (i := 0) Tryz.isAgg33 Tryz.sizeOf33 rfl rfl rfl) rfl (fun w hw => ?_)))))
     exact ⟨by first | rw [openSlot_no hno] | rw [openSlot_yes ⟨hi, hs0, .inl hm⟩, slotOf_0 hm] | (simp only [Bool.not_eq_true', decide_eq_false_iff_not, beq_iff_eq, beq_eq_false_iff_ne, decide_eq_true_eq, Bool.not_eq_false'] at *; rw [openSlot_no (fun g => g.2.2.elim hm (fun q => by have := q.2.2; rw [hz'] at *; first | (exact hS (Or.inr this)) | (unfold GoodU at this; omega)))]) | (simp only [Bool.not_eq_true', decide_eq_false_iff_not, beq_iff_eq, beq_eq_false_iff_ne, decide_eq_true_eq, Bool.not_eq_false'] at *; rw [openSlot_yes ⟨hi, hs0, .inr ⟨hs2, by first | exact .inl htl | exact .inr hs1, by rw [hz'] at *; rcases hS with hS | hS; exact absurd hS.1 hk; exact hS⟩⟩, slotOf_1 hm]; (try rw [hz']); try rfl), hw.mod⟩
  ·have hno : ¬ OkSl i x y z := fun g => hs0 g.2.1
   refine At.callP (fun w hw => (by have := unsealR_p (slotAt i) x w; rwa [unseal_no hs0] at this)) Tryz.call74 rfl rfl (tM rfl rfl (tV (Val.extract rfl rfl) rfl (tV (Val.extract rfl rfl) rfl (tA rfl rfl (tA rfl rfl (tE (At.seq (tR (tM rfl rfl (tV (Val.bin rfl rfl rfl) rfl (tE (At.condT rfl (tR ?_)))))))))))))
   refine tV (Val.build (fun a ha => by simp only [List.map_toArray, List.map_cons, List.map_nil] <;> rfl) (bld_33_)) rfl (At.storeAll (i := 0) Tryz.sizeOf33 rfl rfl rfl (by simp [Value.oneCell']) rfl rfl ?_)
   simp only [sc0, scS]
   refine tA rfl rfl (tE (At.retC (At.thenR (At.ret2 (.inl rfl) rfl rfl (ResOf.all (i := 0) Tryz.isAgg33 Tryz.sizeOf33 rfl rfl rfl) rfl (fun w hw => ?_)))))
   exact ⟨by first | rw [openSlot_no hno] | rw [openSlot_yes ⟨hi, hs0, .inl hm⟩, slotOf_0 hm] | (simp only [Bool.not_eq_true', decide_eq_false_iff_not, beq_iff_eq, beq_eq_false_iff_ne, decide_eq_true_eq, Bool.not_eq_false'] at *; rw [openSlot_no (fun g => g.2.2.elim hm (fun q => by have := q.2.2; rw [hz'] at *; first | (exact hS (Or.inr this)) | (unfold GoodU at this; omega)))]) | (simp only [Bool.not_eq_true', decide_eq_false_iff_not, beq_iff_eq, beq_eq_false_iff_ne, decide_eq_true_eq, Bool.not_eq_false'] at *; rw [openSlot_yes ⟨hi, hs0, .inr ⟨hs2, by first | exact .inl htl | exact .inr hs1, by rw [hz'] at *; rcases hS with hS | hS; exact absurd hS.1 hk; exact hS⟩⟩, slotOf_1 hm]; (try rw [hz']); try rfl), hw.mod⟩
end Go.Proofs.YthdmlpjhcalliaaGreatDoor
namespace Go.Proofs.YthdmlpjhcalliaaGreatDoor
open Go Go.Wk
theorem lawSlots_T0 (i k l h t : Int) (x y z : BitVec 64) (w : World) (ht : Tab w) (hb : -9223372036854775808 ≤ t ∧ t ≤ 9223372036854775807) (hg : GoodP i k l h t) (ho : ¬ OkSl i x y z) :
    PureC Tryz.prog 9 [.int .i64 i, .agg #[.int .i64 k, .int .i64 l, .int .i64 h, .int .i64 t], .agg #[b64 x, b64 y, b64 z]] (.bool true) w := by
 refine enter0 Tryz.func9 rfl Tryz.ntmps9 rfl ?_
 simp only [envOf]
 refine tR (At.box rfl rfl rfl (fun b1 => (At.box rfl rfl rfl (fun b2 => (tA rfl rfl (tE (tR (tM rfl rfl (tV (Val.loadAll (i := 1) Tryz.isAgg33 Tryz.sizeOf33 rfl rfl rfl) rfl ?_)))))))))
 refine At.callP (fun w hw => (by have := packSlot_p i k l h t w (ht.mod hw.mod) hb; rwa [packSlot_yes hg] at this)) Tryz.call27 rfl rfl (tM rfl rfl (tV (Val.extract rfl rfl) rfl (tV (Val.extract rfl rfl) rfl (At.alloc zero_35 zc_35 rfl (fun b3 => (At.storeAll (i := 0) Tryz.sizeOf35 rfl rfl rfl (by simp [Value.oneCell']) rfl (by simp) ?_))))))
 simp only [sc0, scS]
 refine tA rfl rfl (tE (tR (tM rfl rfl (tV (Val.loadAll (i := 2) Tryz.isAgg33 Tryz.sizeOf33 rfl rfl rfl) rfl ?_))))
 refine At.callP (fun w hw => (by have := packSlotR_p i k l h t w hb; rwa [packSlot_yes hg] at this)) Tryz.call28 rfl rfl (tM rfl rfl (tV (Val.extract rfl rfl) rfl (tV (Val.extract rfl rfl) rfl (At.alloc zero_35 zc_35 rfl (fun b4 => (At.storeAll (i := 0) Tryz.sizeOf35 rfl rfl rfl (by simp [Value.oneCell']) rfl (by simp) ?_))))))
 simp only [sc0, scS]
 refine tA rfl rfl (tE (At.seq (tR (tV (Val.loadAll (i := 1) Tryz.isAgg35 Tryz.sizeOf35 rfl rfl rfl) rfl (tV (Val.loadAll (i := 0) Tryz.isAgg35 Tryz.sizeOf35 rfl rfl rfl) rfl (tV (Val.neAgg (b := true) Tryz.eqGuardType35 (fun w => run_same_words Tryz.underlying35 Tryz.underlying34 Tryz.isAgg34 Tryz.sizeOf34 (slotW i k l h t) rfl w) rfl rfl) rfl (tM rfl rfl (At.yes rfl rfl (tM rfl rfl (At.yes rfl rfl (tM rfl rfl (At.yes rfl rfl (tV (Val.bin rfl rfl rfl) rfl (tV (Val.pickF rfl rfl) rfl (tE (At.condF rfl (At.skipC (At.thenN (tR (tM rfl rfl (tV (Val.loadAll (i := 2) Tryz.isAgg35 Tryz.sizeOf35 rfl rfl rfl) rfl ?_)))))))))))))))))))))
 refine At.callP (fun w hw => (by have := openSlot_p i x y z w (ht.mod hw.mod); rwa [openSlot_no ho] at this)) Tryz.call29 rfl rfl (tM rfl rfl (tV (Val.extract rfl rfl) rfl (tV (Val.extract rfl rfl) rfl (At.alloc Tryz.zeroValue33 rfl rfl (fun b5 => (At.storeAll (i := 0) Tryz.sizeOf33 rfl rfl rfl (by simp [Value.oneCell']) rfl rfl ?_))))))
 simp only [sc0, scS]
 refine tA rfl rfl (tE (tR (tM rfl rfl (tV (Val.loadAll (i := 3) Tryz.isAgg35 Tryz.sizeOf35 rfl rfl rfl) rfl ?_))))
 refine At.callP (fun w hw => (by have := openSlotR_p i x y z w; rwa [openSlot_no ho] at this)) Tryz.call30 rfl rfl (tM rfl rfl (tV (Val.extract rfl rfl) rfl (tV (Val.extract rfl rfl) rfl (At.alloc Tryz.zeroValue33 rfl rfl (fun b6 => (At.storeAll (i := 0) Tryz.sizeOf33 rfl rfl rfl (by simp [Value.oneCell']) rfl rfl ?_))))))
 simp only [sc0, scS]
 refine tA rfl rfl (tE (tR (tV (Val.loadAll (i := 1) Tryz.isAgg33 Tryz.sizeOf33 rfl rfl rfl) rfl (tV (Val.loadAll (i := 0) Tryz.isAgg33 Tryz.sizeOf33 rfl rfl rfl) rfl (tV (Val.eqAgg (b := true) Tryz.eqGuardType33 (fun w => by simpa using eq_33 0 0 0 0 0 0 0 0 w) rfl rfl) rfl (tM rfl rfl (At.yes rfl rfl (tM rfl rfl (At.yes rfl rfl (tM rfl rfl (At.yes rfl rfl (tV (Val.bin rfl rfl rfl) rfl (tV (Val.pickT rfl rfl) rfl (tA rfl rfl (tE (At.retC (At.ret1 (.inl rfl) rfl rfl rfl (fun w hw => ?_))))))))))))))))))
 exact ⟨rfl, hw.mod⟩
theorem lawSlots_T1 (i k l h t : Int) (x y z : BitVec 64) (w : World) (ht : Tab w) (hb : -9223372036854775808 ≤ t ∧ t ≤ 9223372036854775807) (hg : GoodP i k l h t) (ho : OkSl i x y z) (hm : loW x = 0) :
    PureC Tryz.prog 9 [.int .i64 i, .agg #[.int .i64 k, .int .i64 l, .int .i64 h, .int .i64 t], .agg #[b64 x, b64 y, b64 z]] (.bool true) w := by
 refine enter0 Tryz.func9 rfl Tryz.ntmps9 rfl ?_
 simp only [envOf]
 refine tR (At.box rfl rfl rfl (fun b1 => (At.box rfl rfl rfl (fun b2 => (tA rfl rfl (tE (tR (tM rfl rfl (tV (Val.loadAll (i := 1) Tryz.isAgg33 Tryz.sizeOf33 rfl rfl rfl) rfl ?_)))))))))
 refine At.callP (fun w hw => (by have := packSlot_p i k l h t w (ht.mod hw.mod) hb; rwa [packSlot_yes hg] at this)) Tryz.call27 rfl rfl (tM rfl rfl (tV (Val.extract rfl rfl) rfl (tV (Val.extract rfl rfl) rfl (At.alloc zero_35 zc_35 rfl (fun b3 => (At.storeAll (i := 0) Tryz.sizeOf35 rfl rfl rfl (by simp [Value.oneCell']) rfl (by simp) ?_))))))
 simp only [sc0, scS]
 refine tA rfl rfl (tE (tR (tM rfl rfl (tV (Val.loadAll (i := 2) Tryz.isAgg33 Tryz.sizeOf33 rfl rfl rfl) rfl ?_))))
 refine At.callP (fun w hw => (by have := packSlotR_p i k l h t w hb; rwa [packSlot_yes hg] at this)) Tryz.call28 rfl rfl (tM rfl rfl (tV (Val.extract rfl rfl) rfl (tV (Val.extract rfl rfl) rfl (At.alloc zero_35 zc_35 rfl (fun b4 => (At.storeAll (i := 0) Tryz.sizeOf35 rfl rfl rfl (by simp [Value.oneCell']) rfl (by simp) ?_))))))
 simp only [sc0, scS]
 refine tA rfl rfl (tE (At.seq (tR (tV (Val.loadAll (i := 1) Tryz.isAgg35 Tryz.sizeOf35 rfl rfl rfl) rfl (tV (Val.loadAll (i := 0) Tryz.isAgg35 Tryz.sizeOf35 rfl rfl rfl) rfl (tV (Val.neAgg (b := true) Tryz.eqGuardType35 (fun w => run_same_words Tryz.underlying35 Tryz.underlying34 Tryz.isAgg34 Tryz.sizeOf34 (slotW i k l h t) rfl w) rfl rfl) rfl (tM rfl rfl (At.yes rfl rfl (tM rfl rfl (At.yes rfl rfl (tM rfl rfl (At.yes rfl rfl (tV (Val.bin rfl rfl rfl) rfl (tV (Val.pickF rfl rfl) rfl (tE (At.condF rfl (At.skipC (At.thenN (tR (tM rfl rfl (tV (Val.loadAll (i := 2) Tryz.isAgg35 Tryz.sizeOf35 rfl rfl rfl) rfl ?_)))))))))))))))))))))
 refine At.callP (fun w hw => (by have := openSlot_p i x y z w (ht.mod hw.mod); rwa [openSlot_yes ho, slotOf_0 hm] at this)) Tryz.call29 rfl rfl (tM rfl rfl (tV (Val.extract rfl rfl) rfl (tV (Val.extract rfl rfl) rfl (At.alloc Tryz.zeroValue33 rfl rfl (fun b5 => (At.storeAll (i := 0) Tryz.sizeOf33 rfl rfl rfl (by simp [Value.oneCell']) rfl rfl ?_))))))
 simp only [sc0, scS]
 refine tA rfl rfl (tE (tR (tM rfl rfl (tV (Val.loadAll (i := 3) Tryz.isAgg35 Tryz.sizeOf35 rfl rfl rfl) rfl ?_))))
 refine At.callP (fun w hw => (by have := openSlotR_p i x y z w; rwa [openSlot_yes ho, slotOf_0 hm] at this)) Tryz.call30 rfl rfl (tM rfl rfl (tV (Val.extract rfl rfl) rfl (tV (Val.extract rfl rfl) rfl (At.alloc Tryz.zeroValue33 rfl rfl (fun b6 => (At.storeAll (i := 0) Tryz.sizeOf33 rfl rfl rfl (by simp [Value.oneCell']) rfl rfl ?_))))))
 simp only [sc0, scS]
 refine tA rfl rfl (tE (tR (tV (Val.loadAll (i := 1) Tryz.isAgg33 Tryz.sizeOf33 rfl rfl rfl) rfl (tV (Val.loadAll (i := 0) Tryz.isAgg33 Tryz.sizeOf33 rfl rfl rfl) rfl (tV (Val.eqAgg (b := true) Tryz.eqGuardType33 (fun w => by simpa using eq_33 0 0 0 0 0 0 0 0 w) rfl rfl) rfl (tM rfl rfl (At.yes rfl rfl (tM rfl rfl (At.yes rfl rfl (tM rfl rfl (At.yes rfl rfl (tV (Val.bin rfl rfl rfl) rfl (tV (Val.pickT rfl rfl) rfl (tA rfl rfl (tE (At.retC (At.ret1 (.inl rfl) rfl rfl rfl (fun w hw => ?_))))))))))))))))))
 exact ⟨rfl, hw.mod⟩
theorem lawSlots_T2 (i k l h t : Int) (x y z : BitVec 64) (w : World) (ht : Tab w) (hb : -9223372036854775808 ≤ t ∧ t ≤ 9223372036854775807) (hg : GoodP i k l h t) (ho : OkSl i x y z) (hm : ¬ loW x = 0) :
    PureC Tryz.prog 9 [.int .i64 i, .agg #[.int .i64 k, .int .i64 l, .int .i64 h, .int .i64 t], .agg #[b64 x, b64 y, b64 z]] (.bool true) w := by
 refine enter0 Tryz.func9 rfl Tryz.ntmps9 rfl ?_
 simp only [envOf]
 refine tR (At.box rfl rfl rfl (fun b1 => (At.box rfl rfl rfl (fun b2 => (tA rfl rfl (tE (tR (tM rfl rfl (tV (Val.loadAll (i := 1) Tryz.isAgg33 Tryz.sizeOf33 rfl rfl rfl) rfl ?_)))))))))
 refine At.callP (fun w hw => (by have := packSlot_p i k l h t w (ht.mod hw.mod) hb; rwa [packSlot_yes hg] at this)) Tryz.call27 rfl rfl (tM rfl rfl (tV (Val.extract rfl rfl) rfl (tV (Val.extract rfl rfl) rfl (At.alloc zero_35 zc_35 rfl (fun b3 => (At.storeAll (i := 0) Tryz.sizeOf35 rfl rfl rfl (by simp [Value.oneCell']) rfl (by simp) ?_))))))
 simp only [sc0, scS]
 refine tA rfl rfl (tE (tR (tM rfl rfl (tV (Val.loadAll (i := 2) Tryz.isAgg33 Tryz.sizeOf33 rfl rfl rfl) rfl ?_))))
 refine At.callP (fun w hw => (by have := packSlotR_p i k l h t w hb; rwa [packSlot_yes hg] at this)) Tryz.call28 rfl rfl (tM rfl rfl (tV (Val.extract rfl rfl) rfl (tV (Val.extract rfl rfl) rfl (At.alloc zero_35 zc_35 rfl (fun b4 => (At.storeAll (i := 0) Tryz.sizeOf35 rfl rfl rfl (by simp [Value.oneCell']) rfl (by simp) ?_))))))
 simp only [sc0, scS]
 refine tA rfl rfl (tE (At.seq (tR (tV (Val.loadAll (i := 1) Tryz.isAgg35 Tryz.sizeOf35 rfl rfl rfl) rfl (tV (Val.loadAll (i := 0) Tryz.isAgg35 Tryz.sizeOf35 rfl rfl rfl) rfl (tV (Val.neAgg (b := true) Tryz.eqGuardType35 (fun w => run_same_words Tryz.underlying35 Tryz.underlying34 Tryz.isAgg34 Tryz.sizeOf34 (slotW i k l h t) rfl w) rfl rfl) rfl (tM rfl rfl (At.yes rfl rfl (tM rfl rfl (At.yes rfl rfl (tM rfl rfl (At.yes rfl rfl (tV (Val.bin rfl rfl rfl) rfl (tV (Val.pickF rfl rfl) rfl (tE (At.condF rfl (At.skipC (At.thenN (tR (tM rfl rfl (tV (Val.loadAll (i := 2) Tryz.isAgg35 Tryz.sizeOf35 rfl rfl rfl) rfl ?_)))))))))))))))))))))
 refine At.callP (fun w hw => (by have := openSlot_p i x y z w (ht.mod hw.mod); rwa [openSlot_yes ho, slotOf_1 hm] at this)) Tryz.call29 rfl rfl (tM rfl rfl (tV (Val.extract rfl rfl) rfl (tV (Val.extract rfl rfl) rfl (At.alloc Tryz.zeroValue33 rfl rfl (fun b5 => (At.storeAll (i := 0) Tryz.sizeOf33 rfl rfl rfl (by simp [Value.oneCell']) rfl rfl ?_))))))
 simp only [sc0, scS]
 refine tA rfl rfl (tE (tR (tM rfl rfl (tV (Val.loadAll (i := 3) Tryz.isAgg35 Tryz.sizeOf35 rfl rfl rfl) rfl ?_))))
 refine At.callP (fun w hw => (by have := openSlotR_p i x y z w; rwa [openSlot_yes ho, slotOf_1 hm] at this)) Tryz.call30 rfl rfl (tM rfl rfl (tV (Val.extract rfl rfl) rfl (tV (Val.extract rfl rfl) rfl (At.alloc Tryz.zeroValue33 rfl rfl (fun b6 => (At.storeAll (i := 0) Tryz.sizeOf33 rfl rfl rfl (by simp [Value.oneCell']) rfl rfl ?_))))))
 simp only [sc0, scS]
 refine tA rfl rfl (tE (tR (tV (Val.loadAll (i := 1) Tryz.isAgg33 Tryz.sizeOf33 rfl rfl rfl) rfl (tV (Val.loadAll (i := 0) Tryz.isAgg33 Tryz.sizeOf33 rfl rfl rfl) rfl (tV (Val.eqAgg (b := true) Tryz.eqGuardType33 (fun w => by simpa using eq_33 (loW x % 256 : Nat) (loW x / 256 : Nat) (hdOf y z : Nat) (loW z : Nat) (loW x % 256 : Nat) (loW x / 256 : Nat) (hdOf y z : Nat) (loW z : Nat) w) rfl rfl) rfl (tM rfl rfl (At.yes rfl rfl (tM rfl rfl (At.yes rfl rfl (tM rfl rfl (At.yes rfl rfl (tV (Val.bin rfl rfl rfl) rfl (tV (Val.pickT rfl rfl) rfl (tA rfl rfl (tE (At.retC (At.ret1 (.inl rfl) rfl rfl rfl (fun w hw => ?_))))))))))))))))))
 exact ⟨rfl, hw.mod⟩
theorem lawSlots_F0 (i k l h t : Int) (x y z : BitVec 64) (w : World) (ht : Tab w) (hb : -9223372036854775808 ≤ t ∧ t ≤ 9223372036854775807) (hg : ¬ GoodP i k l h t) (ho : ¬ OkSl i x y z) :
    PureC Tryz.prog 9 [.int .i64 i, .agg #[.int .i64 k, .int .i64 l, .int .i64 h, .int .i64 t], .agg #[b64 x, b64 y, b64 z]] (.bool true) w := by
 refine enter0 Tryz.func9 rfl Tryz.ntmps9 rfl ?_
 simp only [envOf]
 refine tR (At.box rfl rfl rfl (fun b1 => (At.box rfl rfl rfl (fun b2 => (tA rfl rfl (tE (tR (tM rfl rfl (tV (Val.loadAll (i := 1) Tryz.isAgg33 Tryz.sizeOf33 rfl rfl rfl) rfl ?_)))))))))
 refine At.callP (fun w hw => (by have := packSlot_p i k l h t w (ht.mod hw.mod) hb; rwa [packSlot_no hg] at this)) Tryz.call27 rfl rfl (tM rfl rfl (tV (Val.extract rfl rfl) rfl (tV (Val.extract rfl rfl) rfl (At.alloc zero_35 zc_35 rfl (fun b3 => (At.storeAll (i := 0) Tryz.sizeOf35 rfl rfl rfl (by simp [Value.oneCell']) rfl (by simp) ?_))))))
 simp only [sc0, scS]
 refine tA rfl rfl (tE (tR (tM rfl rfl (tV (Val.loadAll (i := 2) Tryz.isAgg33 Tryz.sizeOf33 rfl rfl rfl) rfl ?_))))
 refine At.callP (fun w hw => (by have := packSlotR_p i k l h t w hb; rwa [packSlot_no hg] at this)) Tryz.call28 rfl rfl (tM rfl rfl (tV (Val.extract rfl rfl) rfl (tV (Val.extract rfl rfl) rfl (At.alloc zero_35 zc_35 rfl (fun b4 => (At.storeAll (i := 0) Tryz.sizeOf35 rfl rfl rfl (by simp [Value.oneCell']) rfl (by simp) ?_))))))
 simp only [sc0, scS]
 refine tA rfl rfl (tE (At.seq (tR (tV (Val.loadAll (i := 1) Tryz.isAgg35 Tryz.sizeOf35 rfl rfl (by simp)) rfl (tV (Val.loadAll (i := 0) Tryz.isAgg35 Tryz.sizeOf35 rfl rfl (by simp)) rfl (tV (Val.neAgg (b := true) Tryz.eqGuardType35 (fun w => run_same_words Tryz.underlying35 Tryz.underlying34 Tryz.isAgg34 Tryz.sizeOf34 ([(0 : BitVec 64), 0, 0]) rfl w) rfl rfl) rfl (tM rfl rfl (At.yes rfl rfl (tM rfl rfl (At.yes rfl rfl (tM rfl rfl (At.yes rfl rfl (tV (Val.bin rfl rfl rfl) rfl (tV (Val.pickF rfl rfl) rfl (tE (At.condF rfl (At.skipC (At.thenN (tR (tM rfl rfl (tV (Val.loadAll (i := 2) Tryz.isAgg35 Tryz.sizeOf35 rfl rfl rfl) rfl ?_)))))))))))))))))))))
 refine At.callP (fun w hw => (by have := openSlot_p i x y z w (ht.mod hw.mod); rwa [openSlot_no ho] at this)) Tryz.call29 rfl rfl (tM rfl rfl (tV (Val.extract rfl rfl) rfl (tV (Val.extract rfl rfl) rfl (At.alloc Tryz.zeroValue33 rfl rfl (fun b5 => (At.storeAll (i := 0) Tryz.sizeOf33 rfl rfl rfl (by simp [Value.oneCell']) rfl rfl ?_))))))
 simp only [sc0, scS]
 refine tA rfl rfl (tE (tR (tM rfl rfl (tV (Val.loadAll (i := 3) Tryz.isAgg35 Tryz.sizeOf35 rfl rfl rfl) rfl ?_))))
 refine At.callP (fun w hw => (by have := openSlotR_p i x y z w; rwa [openSlot_no ho] at this)) Tryz.call30 rfl rfl (tM rfl rfl (tV (Val.extract rfl rfl) rfl (tV (Val.extract rfl rfl) rfl (At.alloc Tryz.zeroValue33 rfl rfl (fun b6 => (At.storeAll (i := 0) Tryz.sizeOf33 rfl rfl rfl (by simp [Value.oneCell']) rfl rfl ?_))))))
 simp only [sc0, scS]
 refine tA rfl rfl (tE (tR (tV (Val.loadAll (i := 1) Tryz.isAgg33 Tryz.sizeOf33 rfl rfl rfl) rfl (tV (Val.loadAll (i := 0) Tryz.isAgg33 Tryz.sizeOf33 rfl rfl rfl) rfl (tV (Val.eqAgg (b := true) Tryz.eqGuardType33 (fun w => by simpa using eq_33 0 0 0 0 0 0 0 0 w) rfl rfl) rfl (tM rfl rfl (At.yes rfl rfl (tM rfl rfl (At.yes rfl rfl (tM rfl rfl (At.yes rfl rfl (tV (Val.bin rfl rfl rfl) rfl (tV (Val.pickT rfl rfl) rfl (tA rfl rfl (tE (At.retC (At.ret1 (.inl rfl) rfl rfl rfl (fun w hw => ?_))))))))))))))))))
 exact ⟨rfl, hw.mod⟩
theorem lawSlots_F1 (i k l h t : Int) (x y z : BitVec 64) (w : World) (ht : Tab w) (hb : -9223372036854775808 ≤ t ∧ t ≤ 9223372036854775807) (hg : ¬ GoodP i k l h t) (ho : OkSl i x y z) (hm : loW x = 0) :
    PureC Tryz.prog 9 [.int .i64 i, .agg #[.int .i64 k, .int .i64 l, .int .i64 h, .int .i64 t], .agg #[b64 x, b64 y, b64 z]] (.bool true) w := by
 refine enter0 Tryz.func9 rfl Tryz.ntmps9 rfl ?_
 simp only [envOf]
 refine tR (At.box rfl rfl rfl (fun b1 => (At.box rfl rfl rfl (fun b2 => (tA rfl rfl (tE (tR (tM rfl rfl (tV (Val.loadAll (i := 1) Tryz.isAgg33 Tryz.sizeOf33 rfl rfl rfl) rfl ?_)))))))))
 refine At.callP (fun w hw => (by have := packSlot_p i k l h t w (ht.mod hw.mod) hb; rwa [packSlot_no hg] at this)) Tryz.call27 rfl rfl (tM rfl rfl (tV (Val.extract rfl rfl) rfl (tV (Val.extract rfl rfl) rfl (At.alloc zero_35 zc_35 rfl (fun b3 => (At.storeAll (i := 0) Tryz.sizeOf35 rfl rfl rfl (by simp [Value.oneCell']) rfl (by simp) ?_))))))
 simp only [sc0, scS]
 refine tA rfl rfl (tE (tR (tM rfl rfl (tV (Val.loadAll (i := 2) Tryz.isAgg33 Tryz.sizeOf33 rfl rfl rfl) rfl ?_))))
 refine At.callP (fun w hw => (by have := packSlotR_p i k l h t w hb; rwa [packSlot_no hg] at this)) Tryz.call28 rfl rfl (tM rfl rfl (tV (Val.extract rfl rfl) rfl (tV (Val.extract rfl rfl) rfl (At.alloc zero_35 zc_35 rfl (fun b4 => (At.storeAll (i := 0) Tryz.sizeOf35 rfl rfl rfl (by simp [Value.oneCell']) rfl (by simp) ?_))))))
 simp only [sc0, scS]
 refine tA rfl rfl (tE (At.seq (tR (tV (Val.loadAll (i := 1) Tryz.isAgg35 Tryz.sizeOf35 rfl rfl (by simp)) rfl (tV (Val.loadAll (i := 0) Tryz.isAgg35 Tryz.sizeOf35 rfl rfl (by simp)) rfl (tV (Val.neAgg (b := true) Tryz.eqGuardType35 (fun w => run_same_words Tryz.underlying35 Tryz.underlying34 Tryz.isAgg34 Tryz.sizeOf34 ([(0 : BitVec 64), 0, 0]) rfl w) rfl rfl) rfl (tM rfl rfl (At.yes rfl rfl (tM rfl rfl (At.yes rfl rfl (tM rfl rfl (At.yes rfl rfl (tV (Val.bin rfl rfl rfl) rfl (tV (Val.pickF rfl rfl) rfl (tE (At.condF rfl (At.skipC (At.thenN (tR (tM rfl rfl (tV (Val.loadAll (i := 2) Tryz.isAgg35 Tryz.sizeOf35 rfl rfl rfl) rfl ?_)))))))))))))))))))))
 refine At.callP (fun w hw => (by have := openSlot_p i x y z w (ht.mod hw.mod); rwa [openSlot_yes ho, slotOf_0 hm] at this)) Tryz.call29 rfl rfl (tM rfl rfl (tV (Val.extract rfl rfl) rfl (tV (Val.extract rfl rfl) rfl (At.alloc Tryz.zeroValue33 rfl rfl (fun b5 => (At.storeAll (i := 0) Tryz.sizeOf33 rfl rfl rfl (by simp [Value.oneCell']) rfl rfl ?_))))))
 simp only [sc0, scS]
 refine tA rfl rfl (tE (tR (tM rfl rfl (tV (Val.loadAll (i := 3) Tryz.isAgg35 Tryz.sizeOf35 rfl rfl rfl) rfl ?_))))
 refine At.callP (fun w hw => (by have := openSlotR_p i x y z w; rwa [openSlot_yes ho, slotOf_0 hm] at this)) Tryz.call30 rfl rfl (tM rfl rfl (tV (Val.extract rfl rfl) rfl (tV (Val.extract rfl rfl) rfl (At.alloc Tryz.zeroValue33 rfl rfl (fun b6 => (At.storeAll (i := 0) Tryz.sizeOf33 rfl rfl rfl (by simp [Value.oneCell']) rfl rfl ?_))))))
 simp only [sc0, scS]
 refine tA rfl rfl (tE (tR (tV (Val.loadAll (i := 1) Tryz.isAgg33 Tryz.sizeOf33 rfl rfl rfl) rfl (tV (Val.loadAll (i := 0) Tryz.isAgg33 Tryz.sizeOf33 rfl rfl rfl) rfl (tV (Val.eqAgg (b := true) Tryz.eqGuardType33 (fun w => by simpa using eq_33 0 0 0 0 0 0 0 0 w) rfl rfl) rfl (tM rfl rfl (At.yes rfl rfl (tM rfl rfl (At.yes rfl rfl (tM rfl rfl (At.yes rfl rfl (tV (Val.bin rfl rfl rfl) rfl (tV (Val.pickT rfl rfl) rfl (tA rfl rfl (tE (At.retC (At.ret1 (.inl rfl) rfl rfl rfl (fun w hw => ?_))))))))))))))))))
 exact ⟨rfl, hw.mod⟩
theorem lawSlots_F2 (i k l h t : Int) (x y z : BitVec 64) (w : World) (ht : Tab w) (hb : -9223372036854775808 ≤ t ∧ t ≤ 9223372036854775807) (hg : ¬ GoodP i k l h t) (ho : OkSl i x y z) (hm : ¬ loW x = 0) :
    PureC Tryz.prog 9 [.int .i64 i, .agg #[.int .i64 k, .int .i64 l, .int .i64 h, .int .i64 t], .agg #[b64 x, b64 y, b64 z]] (.bool true) w := by
 refine enter0 Tryz.func9 rfl Tryz.ntmps9 rfl ?_
 simp only [envOf]
 refine tR (At.box rfl rfl rfl (fun b1 => (At.box rfl rfl rfl (fun b2 => (tA rfl rfl (tE (tR (tM rfl rfl (tV (Val.loadAll (i := 1) Tryz.isAgg33 Tryz.sizeOf33 rfl rfl rfl) rfl ?_)))))))))
 refine At.callP (fun w hw => (by have := packSlot_p i k l h t w (ht.mod hw.mod) hb; rwa [packSlot_no hg] at this)) Tryz.call27 rfl rfl (tM rfl rfl (tV (Val.extract rfl rfl) rfl (tV (Val.extract rfl rfl) rfl (At.alloc zero_35 zc_35 rfl (fun b3 => (At.storeAll (i := 0) Tryz.sizeOf35 rfl rfl rfl (by simp [Value.oneCell']) rfl (by simp) ?_))))))
 simp only [sc0, scS]
 refine tA rfl rfl (tE (tR (tM rfl rfl (tV (Val.loadAll (i := 2) Tryz.isAgg33 Tryz.sizeOf33 rfl rfl rfl) rfl ?_))))
 refine At.callP (fun w hw => (by have := packSlotR_p i k l h t w hb; rwa [packSlot_no hg] at this)) Tryz.call28 rfl rfl (tM rfl rfl (tV (Val.extract rfl rfl) rfl (tV (Val.extract rfl rfl) rfl (At.alloc zero_35 zc_35 rfl (fun b4 => (At.storeAll (i := 0) Tryz.sizeOf35 rfl rfl rfl (by simp [Value.oneCell']) rfl (by simp) ?_))))))
 simp only [sc0, scS]
 refine tA rfl rfl (tE (At.seq (tR (tV (Val.loadAll (i := 1) Tryz.isAgg35 Tryz.sizeOf35 rfl rfl (by simp)) rfl (tV (Val.loadAll (i := 0) Tryz.isAgg35 Tryz.sizeOf35 rfl rfl (by simp)) rfl (tV (Val.neAgg (b := true) Tryz.eqGuardType35 (fun w => run_same_words Tryz.underlying35 Tryz.underlying34 Tryz.isAgg34 Tryz.sizeOf34 ([(0 : BitVec 64), 0, 0]) rfl w) rfl rfl) rfl (tM rfl rfl (At.yes rfl rfl (tM rfl rfl (At.yes rfl rfl (tM rfl rfl (At.yes rfl rfl (tV (Val.bin rfl rfl rfl) rfl (tV (Val.pickF rfl rfl) rfl (tE (At.condF rfl (At.skipC (At.thenN (tR (tM rfl rfl (tV (Val.loadAll (i := 2) Tryz.isAgg35 Tryz.sizeOf35 rfl rfl rfl) rfl ?_)))))))))))))))))))))
 refine At.callP (fun w hw => (by have := openSlot_p i x y z w (ht.mod hw.mod); rwa [openSlot_yes ho, slotOf_1 hm] at this)) Tryz.call29 rfl rfl (tM rfl rfl (tV (Val.extract rfl rfl) rfl (tV (Val.extract rfl rfl) rfl (At.alloc Tryz.zeroValue33 rfl rfl (fun b5 => (At.storeAll (i := 0) Tryz.sizeOf33 rfl rfl rfl (by simp [Value.oneCell']) rfl rfl ?_))))))
 simp only [sc0, scS]
 refine tA rfl rfl (tE (tR (tM rfl rfl (tV (Val.loadAll (i := 3) Tryz.isAgg35 Tryz.sizeOf35 rfl rfl rfl) rfl ?_))))
 refine At.callP (fun w hw => (by have := openSlotR_p i x y z w; rwa [openSlot_yes ho, slotOf_1 hm] at this)) Tryz.call30 rfl rfl (tM rfl rfl (tV (Val.extract rfl rfl) rfl (tV (Val.extract rfl rfl) rfl (At.alloc Tryz.zeroValue33 rfl rfl (fun b6 => (At.storeAll (i := 0) Tryz.sizeOf33 rfl rfl rfl (by simp [Value.oneCell']) rfl rfl ?_))))))
 simp only [sc0, scS]
 refine tA rfl rfl (tE (tR (tV (Val.loadAll (i := 1) Tryz.isAgg33 Tryz.sizeOf33 rfl rfl rfl) rfl (tV (Val.loadAll (i := 0) Tryz.isAgg33 Tryz.sizeOf33 rfl rfl rfl) rfl (tV (Val.eqAgg (b := true) Tryz.eqGuardType33 (fun w => by simpa using eq_33 (loW x % 256 : Nat) (loW x / 256 : Nat) (hdOf y z : Nat) (loW z : Nat) (loW x % 256 : Nat) (loW x / 256 : Nat) (hdOf y z : Nat) (loW z : Nat) w) rfl rfl) rfl (tM rfl rfl (At.yes rfl rfl (tM rfl rfl (At.yes rfl rfl (tM rfl rfl (At.yes rfl rfl (tV (Val.bin rfl rfl rfl) rfl (tV (Val.pickT rfl rfl) rfl (tA rfl rfl (tE (At.retC (At.ret1 (.inl rfl) rfl rfl rfl (fun w hw => ?_))))))))))))))))))
 exact ⟨rfl, hw.mod⟩
theorem lawSlots_p (i k l h t : Int) (x y z : BitVec 64) (w : World) (ht : Tab w) (hb : -9223372036854775808 ≤ t ∧ t ≤ 9223372036854775807) : PureC Tryz.prog 9 [.int .i64 i, .agg #[.int .i64 k, .int .i64 l, .int .i64 h, .int .i64 t], .agg #[b64 x, b64 y, b64 z]] (.bool true) w := by
  by_cases hg : GoodP i k l h t
  · by_cases ho : OkSl i x y z
    · by_cases hm : loW x = 0
      · exact lawSlots_T1 i k l h t x y z w ht hb hg ho hm
      · exact lawSlots_T2 i k l h t x y z w ht hb hg ho hm
    · exact lawSlots_T0 i k l h t x y z w ht hb hg ho
  · by_cases ho : OkSl i x y z
    · by_cases hm : loW x = 0
      · exact lawSlots_F1 i k l h t x y z w ht hb hg ho hm
      · exact lawSlots_F2 i k l h t x y z w ht hb hg ho hm
    · exact lawSlots_F0 i k l h t x y z w ht hb hg ho
end Go.Proofs.YthdmlpjhcalliaaGreatDoor
namespace Go.Proofs.YthdmlpjhcalliaaGreatDoor
open Go Go.Wk
def lineAt (l : List UInt8) (k : Nat) : List UInt8 := (l.drop (64 * k)).take 64
theorem lineAt_length {l : List UInt8} {k : Nat} (h : 64 * k + 64 ≤ l.length) : (lineAt l k).length = 64 := by unfold lineAt; rw [List.length_take, List.length_drop]; omega
theorem lineAt_eq {l : List UInt8} {k : Nat} (h : 64 * k + 64 ≤ l.length) : ((l.drop (64 * k)).take (64 * k + 64 - (64 * k))).take 64 = lineAt l k := by unfold lineAt; rw [List.take_take, show min 64 (64 * k + 64 - 64 * k) = 64 by omega]
theorem lineAt_get {l : List UInt8} {k i : Nat} {q : UInt8} (hi : i < 64) (h : l[(64 * (k : Int) + (i : Int)).toNat]? = some q) : (lineAt l k)[i]? = some q := by
  unfold lineAt; rw [List.getElem?_take, if_pos hi, List.getElem?_drop, ← h, show (64 * (k : Int) + (i : Int)).toNat = 64 * k + i by omega]
def HasSup (l : List UInt8) (k : Nat) : Prop := OkSup (lineAt l k) ∧ num (lineAt l k) 8 4 * 512 = l.length
instance (l : List UInt8) (k : Nat) : Decidable (HasSup l k) := by unfold HasSup; infer_instance
def fitAt (l : List UInt8) (k : Nat) : Value := fitV (num (lineAt l k) 8 4 : Nat) (num (lineAt l k) 12 4 : Nat) (num (lineAt l k) 16 4 : Nat)
def findV (l : List UInt8) : Value := if 128 ≤ l.length ∧ HasSup l 0 then fitAt l 0 else if 128 ≤ l.length ∧ HasSup l 1 then fitAt l 1 else .tuple #[.agg #[.int .i64 0, .int .i64 0, .int .i64 0, .int .i64 0], .int .i64 31]
theorem find_at {l : List UInt8} {k : Nat} (hk : k < 2) (h : 128 ≤ l.length) (h1 : HasSup l k) (h2 : ∀ j, j < k → ¬ HasSup l j) : findV l = fitAt l k := by
  match k, hk with
  | 0, _ => exact if_pos ⟨h, h1⟩
  | 1, _ => unfold findV; rw [if_neg (fun q => h2 0 (by omega) q.2), if_pos ⟨h, h1⟩]
theorem find_no {l : List UInt8} (h : 128 ≤ l.length → ∀ j, j < 2 → ¬ HasSup l j) : findV l = .tuple #[.agg #[.int .i64 0, .int .i64 0, .int .i64 0, .int .i64 0], .int .i64 31] := by
  unfold findV; rw [if_neg (fun q => h q.1 0 (by omega) q.2), if_neg (fun q => h q.1 1 (by omega) q.2)]
theorem findI_p (v : Value) (l : List UInt8) (w : World) (ht : Tab w) (hv : RdB w v l) (hlen : l.length ≤ 140737488355328) :
    PureC Tryz.prog 24 [v] (findV l) w := by
 refine enter0 Tryz.func24 rfl Tryz.ntmps24 rfl ?_
 simp only [envOf]
 refine tR (At.alloc Tryz.zeroValue66 rfl rfl (fun b1 => (tA rfl rfl (tE (At.seq (tR (tA rfl rfl (tE (At.block ?_)))))))))
 skip
 refine At.loop (σ := Nat) (fun k => k ≤ 2 ∧ ∀ j, j < k → 128 ≤ l.length ∧ ¬ HasSup l j) (fun k => [(0, v), (2, .pointer (some ⟨b1, 0, none⟩)), (4, .int .i64 (64 * (k : Int)))]) (fun k => [blk b1 66 ([.int .i64 0, .int .i64 0, .int .i64 0, .int .i64 0])]) (fun k => 2 - k) 0 ⟨by omega, fun j h => by omega⟩ (Sub.cons rfl (Sub.cons rfl (Sub.cons rfl Sub.nil))) (List.Perm.refl _) ?_
 intro k hs
 refine At.seq (tR (tM rfl rfl (tV (Val.bin rfl rfl rfl) rfl (tM rfl rfl ?_))))
 refine At.split (t := 9) rfl (fun h2 => ?_) (fun h2 => ?_)
 ·try simp only [vN_T, vN_F, nmE_T, nmE_F, wI_T, wI_F, data_T, data_F, ino_T, ino_F, notT, notF, bneT, bneF, beqT, beqF, decT, decF] at h2
  refine At.yes rfl rfl (tM rfl rfl (At.yes rfl rfl (tV (Val.lenRd hv Tryz.underlying45 rfl) rfl (At.yes rfl rfl (tV (Val.bin rfl rfl rfl) rfl (tV (Val.pickT rfl rfl) rfl (tE ?_)))))))
  refine At.cond rfl (fun h3 => ?_) (fun h3 => ?_)
  ·try simp only [vN_T, vN_F, nmE_T, nmE_F, wI_T, wI_F, data_T, data_F, ino_T, ino_F, notT, notF, bneT, bneF, beqT, beqF, decT, decF] at h3
   have hk : k < 2 := by omega
   have h128 : 128 ≤ l.length := by omega
   have hL := lineAt_length (l := l) (k := k) (by omega)
   have hnum := num_lt (l := lineAt l k) 8 4
   refine At.skipC (At.thenN (At.seq (At.block (tR (tM rfl rfl (tM rfl rfl (tM rfl rfl ?_)))))))
   first | refine tV (Val.addI rfl rfl (by omega) (by omega)) rfl ?_ | refine tV (Val.bin rfl rfl rfl) rfl ?_
   refine At.cutB (64 * k) (64 * k + 64) hv Tryz.underlying45 Tryz.sizeOf5 rfl ⟨_, _, rfl, by omega, by omega⟩ ⟨_, _, rfl, by omega, by omega⟩ (by omega) (by omega) rfl rfl (fun v4 hv5 => ?_)
   refine At.arrB hv5 Tryz.underlying39 rfl (by rw [List.length_take, List.length_drop]; omega) (by decide) rfl rfl (fun b6 o7 hc8 => ?_)
   rw [lineAt_eq (by omega)] at hc8
   refine tV (Val.loadOldPart (vs := ((lineAt l k)).map bv) Tryz.isAgg39 Tryz.sizeOf39 rfl (by rw [List.length_map]; exact hL) hc8 (fun h => h)) rfl (At.callP (fun w hw => openSup_p (lineAt l k) w (ht.mod hw.mod) hL) Tryz.call21 rfl rfl ?_)
   by_cases ho : OkSup (lineAt l k)
   ·rw [openSup_yes ho]
    refine tM rfl rfl (tV (Val.extract rfl rfl) rfl (tV (Val.extract rfl rfl) rfl (At.alloc Tryz.zeroValue31 rfl rfl (fun b9 => (At.storeAll (i := 0) Tryz.sizeOf31 rfl rfl rfl (by simp [Value.oneCell']) rfl rfl ?_)))))
    simp only [sc0, scS]
    refine tA rfl rfl (tE (tR (tM rfl rfl (tV (Val.bin rfl rfl rfl) rfl (tM rfl rfl (At.yes rfl rfl (tV (Val.field 0 rfl fo_31_0 rfl) rfl (At.yes rfl rfl (tV (Val.load (i := 0) Tryz.isAgg3 rfl rfl rfl) rfl (At.yes rfl rfl ?_))))))))))
    first | refine tV (Val.mulI rfl rfl (by omega) (by omega)) rfl ?_ | refine tV (Val.bin rfl rfl rfl) rfl ?_
    refine At.yes rfl rfl (tM rfl rfl (At.yes rfl rfl (tV (Val.lenRd hv Tryz.underlying45 rfl) rfl (At.yes rfl rfl (tV (Val.bin rfl rfl rfl) rfl (tV (Val.pickT rfl rfl) rfl (tE ?_)))))))
    refine At.cond rfl (fun h10 => ?_) (fun h10 => ?_)
    ·try simp only [vN_T, vN_F, nmE_T, nmE_F, wI_T, wI_F, data_T, data_F, ino_T, ino_F, notT, notF, bneT, bneF, beqT, beqF, decT, decF] at h10
     refine tR (tV (Val.loadAll (i := 0) Tryz.isAgg31 Tryz.sizeOf31 rfl rfl rfl) rfl (At.callP (fun w hw => fit_p _ _ _ w) Tryz.call15 rfl rfl ?_))
     have hfit := fit_yes ho.1
     rw [hfit]
     ·refine tV (Val.extract rfl rfl) rfl (tV (Val.extract rfl rfl) rfl (At.storeAll (i := 1) Tryz.sizeOf66 rfl rfl rfl (by simp [Value.oneCell']) rfl rfl ?_))
      simp only [sc0, scS]
      refine tA rfl rfl (tE (At.retC (At.blkR (At.thenR (At.thenR (At.blkR (At.thenR (At.ret2 (.inl rfl) rfl rfl (ResOf.all (i := 1) Tryz.isAgg66 Tryz.sizeOf66 rfl rfl rfl) rfl (fun w hw => ?_)))))))))
      exact ⟨by rw [find_at (k := k) hk h128 ⟨ho, by omega⟩ (fun j hj => (hs.2 j hj).2)]; unfold fitAt; rw [hfit]; rfl, hw.mod⟩
    ·try simp only [vN_T, vN_F, nmE_T, nmE_F, wI_T, wI_F, data_T, data_F, ino_T, ino_F, notT, notF, bneT, bneF, beqT, beqF, decT, decF] at h10
     refine At.skipC (At.blkN (At.thenN (At.region (tM rfl rfl ?_))))
     first | refine tV (Val.addI rfl rfl (by omega) (by omega)) rfl ?_ | refine tV (Val.bin rfl rfl rfl) rfl ?_
     refine tA rfl rfl (tE (At.drop 0 ?_))
     simp only [ec0, ecS]
     exact At.again (k + 1) ⟨by omega, fun j hj => ⟨h128, by rcases Nat.lt_or_ge j k with h | h; exact (hs.2 j h).2; obtain rfl : j = k := (by omega); exact fun q => by first | exact ho q.1 | (have := q.2; omega)⟩⟩ (by omega) (Sub.cons rfl (Sub.cons rfl (Sub.cons (congrArg (fun z => some (Value.int IntKind.i64 z)) (by omega)) Sub.nil))) (List.Perm.refl _)
   ·rw [openSup_no ho]
    refine tM rfl rfl (tV (Val.extract rfl rfl) rfl (tV (Val.extract rfl rfl) rfl (At.alloc Tryz.zeroValue31 rfl rfl (fun b11 => (At.storeAll (i := 0) Tryz.sizeOf31 rfl rfl rfl (by simp [Value.oneCell']) rfl rfl ?_)))))
    simp only [sc0, scS]
    refine tA rfl rfl (tE (tR (tM rfl rfl (tV (Val.bin rfl rfl rfl) rfl (tM rfl rfl (At.no rfl rfl rfl rfl (At.no rfl rfl rfl rfl (At.no rfl rfl rfl rfl (At.no rfl rfl rfl rfl (At.no rfl rfl rfl rfl (At.no rfl rfl rfl rfl (tV (Val.pickF rfl rfl) rfl (tE (At.condF rfl (At.skipC (At.blkN (At.thenN (At.region (tM rfl rfl ?_)))))))))))))))))))
    first | refine tV (Val.addI rfl rfl (by omega) (by omega)) rfl ?_ | refine tV (Val.bin rfl rfl rfl) rfl ?_
    refine tA rfl rfl (tE (At.drop 0 ?_))
    simp only [ec0, ecS]
    exact At.again (k + 1) ⟨by omega, fun j hj => ⟨h128, by rcases Nat.lt_or_ge j k with h | h; exact (hs.2 j h).2; obtain rfl : j = k := (by omega); exact fun q => by first | exact ho q.1 | (have := q.2; omega)⟩⟩ (by omega) (Sub.cons rfl (Sub.cons rfl (Sub.cons (congrArg (fun z => some (Value.int IntKind.i64 z)) (by omega)) Sub.nil))) (List.Perm.refl _)
  ·try simp only [vN_T, vN_F, nmE_T, nmE_F, wI_T, wI_F, data_T, data_F, ino_T, ino_F, notT, notF, bneT, bneF, beqT, beqF, decT, decF] at h3
   refine At.exitC (At.thenX (At.thenX (At.blkX (At.thenN (tR ?_)))))
   refine tV (Val.build (fun a ha => by simp only [List.map_toArray, List.map_cons, List.map_nil] <;> rfl) (bld_66_)) rfl (At.storeAll (i := 0) Tryz.sizeOf66 rfl rfl rfl (by simp [Value.oneCell']) rfl rfl ?_)
   simp only [sc0, scS]
   refine tA rfl rfl (tE (At.retC (At.ret2 (.inl rfl) rfl rfl (ResOf.all (i := 0) Tryz.isAgg66 Tryz.sizeOf66 rfl rfl rfl) rfl (fun w hw => ?_))))
   exact ⟨by rw [find_no (fun h j hj => (hs.2 j (by omega)).2)], hw.mod⟩
 ·try simp only [vN_T, vN_F, nmE_T, nmE_F, wI_T, wI_F, data_T, data_F, ino_T, ino_F, notT, notF, bneT, bneF, beqT, beqF, decT, decF] at h2
  refine At.no rfl rfl rfl rfl (At.no rfl rfl rfl rfl (At.no rfl rfl rfl rfl (tV (Val.pickF rfl rfl) rfl (tE (At.condF rfl (At.exitC (At.thenX (At.thenX (At.blkX (At.thenN (tR ?_)))))))))))
  refine tV (Val.build (fun a ha => by simp only [List.map_toArray, List.map_cons, List.map_nil] <;> rfl) (bld_66_)) rfl (At.storeAll (i := 0) Tryz.sizeOf66 rfl rfl rfl (by simp [Value.oneCell']) rfl rfl ?_)
  simp only [sc0, scS]
  refine tA rfl rfl (tE (At.retC (At.ret2 (.inl rfl) rfl rfl (ResOf.all (i := 0) Tryz.isAgg66 Tryz.sizeOf66 rfl rfl rfl) rfl (fun w hw => ?_))))
  exact ⟨by rw [find_no (fun h j hj => (hs.2 j (by omega)).2)], hw.mod⟩
theorem findR_p (v : Value) (l : List UInt8) (w : World) (hv : RdB w v l) (hlen : l.length ≤ 140737488355328) :
    PureC Tryz.prog 25 [v] (findV l) w := by
 refine enter0 Tryz.func25 rfl Tryz.ntmps25 rfl ?_
 simp only [envOf]
 refine tR (At.alloc Tryz.zeroValue66 rfl rfl (fun b1 => (tA rfl rfl (tE (At.seq (tR (tM rfl rfl (tV (Val.lenRd hv Tryz.underlying45 rfl) rfl (tV (Val.bin rfl rfl rfl) rfl (tE ?_))))))))))
 refine At.cond rfl (fun h2 => ?_) (fun h2 => ?_)
 ·try simp only [vN_T, vN_F, nmE_T, nmE_F, wI_T, wI_F, data_T, data_F, ino_T, ino_F, notT, notF, bneT, bneF, beqT, beqF, decT, decF] at h2
  refine tR ?_
  refine tV (Val.build (fun a ha => by simp only [List.map_toArray, List.map_cons, List.map_nil] <;> rfl) (bld_66_)) rfl (At.storeAll (i := 0) Tryz.sizeOf66 rfl rfl rfl (by simp [Value.oneCell']) rfl rfl ?_)
  simp only [sc0, scS]
  refine tA rfl rfl (tE (At.retC (At.thenR (At.ret2 (.inl rfl) rfl rfl (ResOf.all (i := 0) Tryz.isAgg66 Tryz.sizeOf66 rfl rfl rfl) rfl (fun w hw => ?_)))))
  exact ⟨by rw [find_no (fun h => by omega)], hw.mod⟩
 ·try simp only [vN_T, vN_F, nmE_T, nmE_F, wI_T, wI_F, data_T, data_F, ino_T, ino_F, notT, notF, bneT, bneF, beqT, beqF, decT, decF] at h2
  refine At.skipC (At.thenN (At.seq (tR (tA rfl rfl (tE (At.block ?_))))))
  skip
  refine At.loop (σ := Nat) (fun k => k ≤ 2 ∧ ∀ j, j < k → ¬ HasSup l j) (fun k => [(0, v), (2, .pointer (some ⟨b1, 0, none⟩)), (4, .int .i64 (k : Int))]) (fun k => [blk b1 66 ([.int .i64 0, .int .i64 0, .int .i64 0, .int .i64 0])]) (fun k => 2 - k) 0 ⟨by omega, fun j h => by omega⟩ (Sub.cons rfl (Sub.cons rfl (Sub.cons rfl Sub.nil))) (List.Perm.refl _) ?_
  intro k hs
  refine At.seq (tR (tM rfl rfl (tV (Val.bin rfl rfl rfl) rfl (tE ?_))))
  refine At.cond rfl (fun h3 => ?_) (fun h3 => ?_)
  ·try simp only [vN_T, vN_F, nmE_T, nmE_F, wI_T, wI_F, data_T, data_F, ino_T, ino_F, notT, notF, bneT, bneF, beqT, beqF, decT, decF] at h3
   have hk : k < 2 := by omega
   have h128 : 128 ≤ l.length := by omega
   have hL := lineAt_length (l := l) (k := k) (by omega)
   have hnum := num_lt (l := lineAt l k) 8 4
   have hp : -9223372036854775808 ≤ ((num (lineAt l k) 8 4 : Nat) : Int) ∧ ((num (lineAt l k) 8 4 : Nat) : Int) ≤ 9223372036854775807 := by omega
   refine At.skipC (At.thenN (At.seq (At.block (tR (At.alloc zero_39 zc_39 rfl (fun b4 => (tE (At.seq (tR (tA rfl rfl (tE (At.block ?_))))))))))))
   skip
   refine At.loop (σ := Nat) (fun i => i ≤ 64) (fun i => [(0, v), (2, .pointer (some ⟨b1, 0, none⟩)), (4, .int .i64 (k : Int)), (5, .pointer (some ⟨b4, 0, none⟩)), (6, .int .i64 (i : Int))]) (fun i => [blk b4 39 ((fillTo (lineAt l k) (zs 64) i).map bv), blk b1 66 ([.int .i64 0, .int .i64 0, .int .i64 0, .int .i64 0])]) (fun i => 64 - i) 0 (by omega) (Sub.cons rfl (Sub.cons rfl (Sub.cons rfl (Sub.cons rfl (Sub.cons rfl Sub.nil))))) (by rw [fillTo_zero, zs_bv]) ?_
   intro i hi64
   refine At.seq (tR (tM rfl rfl (tV (Val.bin rfl rfl rfl) rfl (tE ?_))))
   refine At.cond rfl (fun h5 => ?_) (fun h5 => ?_)
   ·try simp only [vN_T, vN_F, nmE_T, nmE_F, wI_T, wI_F, data_T, data_F, ino_T, ino_F, notT, notF, bneT, bneF, beqT, beqF, decT, decF] at h5
    have hi : i < 64 := by omega
    refine At.skipC (At.thenN (At.seq (At.block (At.region (tM rfl rfl (tM rfl rfl (tM rfl rfl ?_)))))))
    first | refine tV (Val.mulI rfl rfl (by omega) (by omega)) rfl ?_ | refine tV (Val.bin rfl rfl rfl) rfl ?_
    refine tM rfl rfl ?_
    first | refine tV (Val.addI rfl rfl (by omega) (by omega)) rfl ?_ | refine tV (Val.bin rfl rfl rfl) rfl ?_
    refine At.idxB hv Tryz.underlying45 Tryz.sizeOf5 rfl rfl (by omega) (by omega) rfl rfl (fun b6 o7 q8 hq9 hl10 hc11 => (tV (Val.loadOld Tryz.isAgg5 rfl hc11 (fun h => h)) rfl (tV (Val.indexArr i (by omega) Tryz.underlying39 Tryz.sizeOf5 rfl rfl (by omega) (by omega)) rfl ?_)))
    refine At.store (i := 0) (v := bv q8) Tryz.sizeOf5 rfl rfl rfl rfl (by rw [fill_len (by rw [hL, zs_length]), hL]; exact hi) ?_
    simp only [sc0, scS]
    rw [fill_step (lineAt_get hi hq9) (by rw [hL, zs_length])]
    refine At.nil (At.blkN (At.thenN (At.region (tM rfl rfl ?_))))
    first | refine tV (Val.addI rfl rfl (by omega) (by omega)) rfl ?_ | refine tV (Val.bin rfl rfl rfl) rfl ?_
    refine tA rfl rfl (tE ?_)
    exact At.again (i + 1) (by omega) (by omega) (Sub.cons rfl (Sub.cons rfl (Sub.cons rfl (Sub.cons rfl (Sub.cons (congrArg (fun z => some (Value.int IntKind.i64 z)) (by omega)) Sub.nil))))) (List.Perm.refl _)
   ·try simp only [vN_T, vN_F, nmE_T, nmE_F, wI_T, wI_F, data_T, data_F, ino_T, ino_F, notT, notF, bneT, bneF, beqT, beqF, decT, decF] at h5
    obtain rfl : i = 64 := by omega
    rw [fillTo_all hL (zs_length 64)]
    refine At.exitC (At.thenX (At.thenX (At.blkX (At.thenN (tR ?_)))))
    refine tV (Val.loadAll (i := 0) Tryz.isAgg39 Tryz.sizeOf39 rfl rfl (by rw [List.length_map]; exact hL)) rfl (At.callP (fun w hw => openSupR_p (lineAt l k) w hL) Tryz.call22 rfl rfl ?_)
    by_cases ho : OkSup (lineAt l k)
    ·rw [openSup_yes ho]
     refine tM rfl rfl (tV (Val.extract rfl rfl) rfl (tV (Val.extract rfl rfl) rfl (At.alloc Tryz.zeroValue31 rfl rfl (fun b12 => (At.storeAll (i := 0) Tryz.sizeOf31 rfl rfl rfl (by simp [Value.oneCell']) rfl rfl ?_)))))
     simp only [sc0, scS]
     refine tA rfl rfl (tE (tR (tM rfl rfl (tV (Val.bin rfl rfl rfl) rfl (tM rfl rfl (At.yes rfl rfl (tV (Val.field 0 rfl fo_31_0 rfl) rfl (At.yes rfl rfl (tV (Val.load (i := 0) Tryz.isAgg3 rfl rfl rfl) rfl (At.yes rfl rfl ?_))))))))))
     first | refine tV (Val.mulI rfl rfl (by omega) (by omega)) rfl ?_ | refine tV (Val.bin rfl rfl rfl) rfl ?_
     refine At.yes rfl rfl (tM rfl rfl (At.yes rfl rfl (tV (Val.lenRd hv Tryz.underlying45 rfl) rfl (At.yes rfl rfl (tV (Val.bin rfl rfl rfl) rfl (tV (Val.pickT rfl rfl) rfl (tE ?_)))))))
     refine At.cond rfl (fun h13 => ?_) (fun h13 => ?_)
     ·try simp only [vN_T, vN_F, nmE_T, nmE_F, wI_T, wI_F, data_T, data_F, ino_T, ino_F, notT, notF, bneT, bneF, beqT, beqF, decT, decF] at h13
      refine tR (tV (Val.loadAll (i := 0) Tryz.isAgg31 Tryz.sizeOf31 rfl rfl rfl) rfl (At.callP (fun w hw => fitR_p _ _ _ w hp) Tryz.call16 rfl rfl ?_))
      have hfit := fit_yes ho.1
      rw [hfit]
      ·refine tV (Val.extract rfl rfl) rfl (tV (Val.extract rfl rfl) rfl (At.storeAll (i := 2) Tryz.sizeOf66 rfl rfl rfl (by simp [Value.oneCell']) rfl rfl ?_))
       simp only [sc0, scS]
       refine tA rfl rfl (tE (At.retC (At.blkR (At.thenR (At.thenR (At.blkR (At.thenR (At.ret2 (.inl rfl) rfl rfl (ResOf.all (i := 2) Tryz.isAgg66 Tryz.sizeOf66 rfl rfl rfl) rfl (fun w hw => ?_)))))))))
       exact ⟨by rw [find_at (k := k) hk h128 ⟨ho, by omega⟩ hs.2]; unfold fitAt; rw [hfit]; rfl, hw.mod⟩
     ·try simp only [vN_T, vN_F, nmE_T, nmE_F, wI_T, wI_F, data_T, data_F, ino_T, ino_F, notT, notF, bneT, bneF, beqT, beqF, decT, decF] at h13
      refine At.skipC (At.blkN (At.thenN (At.region (tM rfl rfl ?_))))
      first | refine tV (Val.addI rfl rfl (by omega) (by omega)) rfl ?_ | refine tV (Val.bin rfl rfl rfl) rfl ?_
      refine tA rfl rfl (tE (At.drop 1 ?_))
      simp only [ec0, ecS]
      refine At.drop 0 ?_
      simp only [ec0, ecS]
      exact At.again (k + 1) ⟨by omega, fun j hj => by rcases Nat.lt_or_ge j k with h | h; exact hs.2 j h; obtain rfl : j = k := (by omega); exact fun q => by first | exact ho q.1 | (have := q.2; omega)⟩ (by omega) (Sub.cons rfl (Sub.cons rfl (Sub.cons (congrArg (fun z => some (Value.int IntKind.i64 z)) (by omega)) Sub.nil))) (List.Perm.refl _)
    ·rw [openSup_no ho]
     refine tM rfl rfl (tV (Val.extract rfl rfl) rfl (tV (Val.extract rfl rfl) rfl (At.alloc Tryz.zeroValue31 rfl rfl (fun b14 => (At.storeAll (i := 0) Tryz.sizeOf31 rfl rfl rfl (by simp [Value.oneCell']) rfl rfl ?_)))))
     simp only [sc0, scS]
     refine tA rfl rfl (tE (tR (tM rfl rfl (tV (Val.bin rfl rfl rfl) rfl (tM rfl rfl (At.no rfl rfl rfl rfl (At.no rfl rfl rfl rfl (At.no rfl rfl rfl rfl (At.no rfl rfl rfl rfl (At.no rfl rfl rfl rfl (At.no rfl rfl rfl rfl (tV (Val.pickF rfl rfl) rfl (tE (At.condF rfl (At.skipC (At.blkN (At.thenN (At.region (tM rfl rfl ?_)))))))))))))))))))
     first | refine tV (Val.addI rfl rfl (by omega) (by omega)) rfl ?_ | refine tV (Val.bin rfl rfl rfl) rfl ?_
     refine tA rfl rfl (tE (At.drop 1 ?_))
     simp only [ec0, ecS]
     refine At.drop 0 ?_
     simp only [ec0, ecS]
     exact At.again (k + 1) ⟨by omega, fun j hj => by rcases Nat.lt_or_ge j k with h | h; exact hs.2 j h; obtain rfl : j = k := (by omega); exact fun q => by first | exact ho q.1 | (have := q.2; omega)⟩ (by omega) (Sub.cons rfl (Sub.cons rfl (Sub.cons (congrArg (fun z => some (Value.int IntKind.i64 z)) (by omega)) Sub.nil))) (List.Perm.refl _)
  ·try simp only [vN_T, vN_F, nmE_T, nmE_F, wI_T, wI_F, data_T, data_F, ino_T, ino_F, notT, notF, bneT, bneF, beqT, beqF, decT, decF] at h3
   refine At.exitC (At.thenX (At.thenX (At.blkX (At.thenN (tR ?_)))))
   refine tV (Val.build (fun a ha => by simp only [List.map_toArray, List.map_cons, List.map_nil] <;> rfl) (bld_66_)) rfl (At.storeAll (i := 0) Tryz.sizeOf66 rfl rfl rfl (by simp [Value.oneCell']) rfl rfl ?_)
   simp only [sc0, scS]
   refine tA rfl rfl (tE (At.retC (At.ret2 (.inl rfl) rfl rfl (ResOf.all (i := 0) Tryz.isAgg66 Tryz.sizeOf66 rfl rfl rfl) rfl (fun w hw => ?_))))
   exact ⟨by rw [find_no (fun h j hj => hs.2 j (by omega))], hw.mod⟩
end Go.Proofs.YthdmlpjhcalliaaGreatDoor
namespace Go.Proofs.YthdmlpjhcalliaaGreatDoor
open Go Go.Wk
theorem fit_shape (p i c : Int) : ∃ x0 x1 x2 x3 e : Int, fitV p i c = .tuple #[.agg #[.int .i64 x0, .int .i64 x1, .int .i64 x2, .int .i64 x3], .int .i64 e] := by
  by_cases h : GoodSup p i c
  · exact ⟨_, _, _, _, _, fit_yes h⟩
  · exact ⟨_, _, _, _, _, fit_no h⟩
theorem find_shape (l : List UInt8) : ∃ x0 x1 x2 x3 e : Int, findV l = .tuple #[.agg #[.int .i64 x0, .int .i64 x1, .int .i64 x2, .int .i64 x3], .int .i64 e] := by
  unfold findV; split
  · exact fit_shape _ _ _
  · split
    · exact fit_shape _ _ _
    · exact ⟨_, _, _, _, _, rfl⟩
theorem lawFinds_p (v : Value) (l : List UInt8) (w : World) (ht : Tab w) (hv : RdB w v l) (hlen : l.length ≤ 140737488355328) :
    PureC Tryz.prog 8 [v] (.bool true) w := by
 refine enter0 Tryz.func8 rfl Tryz.ntmps8 rfl ?_
 obtain ⟨x0, x1, x2, x3, e, hV⟩ := find_shape l
 simp only [envOf]
 refine tR (tA rfl rfl (tE (tR (tM rfl rfl (At.callN (fun w hw => copyBytes_n v l w (hv.mod hw.mod) hlen) Tryz.call23 rfl rfl (fun v1 => (tA rfl rfl (tE (tR (tM rfl rfl ?_))))))))))
 refine At.callP (fun w hw => (by have := findI_p v l w (ht.mod hw.mod) (hv.mod hw.mod) hlen; rwa [hV] at this)) Tryz.call24 rfl rfl (tM rfl rfl (tV (Val.extract rfl rfl) rfl (tV (Val.extract rfl rfl) rfl (At.alloc Tryz.zeroValue66 rfl rfl (fun b2 => (At.storeAll (i := 0) Tryz.sizeOf66 rfl rfl rfl (by simp [Value.oneCell']) rfl rfl ?_))))))
 simp only [sc0, scS]
 refine tA rfl rfl (tE (tR (tM rfl rfl ?_)))
 refine At.callP (fun w hw => (by have := findR_p _ l w (row_rd (hw.row (i := 1) rfl) (by decide)) hlen; rwa [hV] at this)) Tryz.call25 rfl rfl (tM rfl rfl (tV (Val.extract rfl rfl) rfl (tV (Val.extract rfl rfl) rfl (At.alloc Tryz.zeroValue66 rfl rfl (fun b3 => (At.storeAll (i := 0) Tryz.sizeOf66 rfl rfl rfl (by simp [Value.oneCell']) rfl rfl ?_))))))
 simp only [sc0, scS]
 refine tA rfl rfl (tE (tR (tV (Val.loadAll (i := 1) Tryz.isAgg66 Tryz.sizeOf66 rfl rfl rfl) rfl (tV (Val.loadAll (i := 0) Tryz.isAgg66 Tryz.sizeOf66 rfl rfl rfl) rfl (tV (Val.eqAgg (b := true) Tryz.eqGuardType66 (fun w => by simpa using eq_66 x0 x1 x2 x3 x0 x1 x2 x3 w) rfl rfl) rfl (tM rfl rfl (At.yes rfl rfl (tM rfl rfl (At.yes rfl rfl (tM rfl rfl (At.yes rfl rfl (tV (Val.bin rfl rfl rfl) rfl (tV (Val.pickT rfl rfl) rfl (tM rfl rfl ?_))))))))))))))
 refine At.split (t := 28) rfl (fun h4 => ?_) (fun h4 => ?_)
 ·try simp only [vN_T, vN_F, nmE_T, nmE_F, wI_T, wI_F, data_T, data_F, ino_T, ino_F, notT, notF, bneT, bneF, beqT, beqF, decT, decF] at h4
  refine At.yes rfl rfl (tM rfl rfl (At.yes rfl rfl (tM rfl rfl (At.yes rfl rfl (At.callP (fun w hw => sameBytes_p _ _ l l w (hv.mod hw.mod) (row_rd (hw.row (i := 2) rfl) (by decide)) hlen hlen) Tryz.call26 rfl rfl (tV (Val.pickT rfl rfl) rfl (tA rfl rfl (tE (At.retC (At.ret1 (.inl rfl) rfl rfl rfl (fun w hw => ?_)))))))))))
  exact ⟨retB (by simp), hw.mod⟩
 ·try simp only [vN_T, vN_F, nmE_T, nmE_F, wI_T, wI_F, data_T, data_F, ino_T, ino_F, notT, notF, bneT, bneF, beqT, beqF, decT, decF] at h4
  exact absurd rfl h4
end Go.Proofs.YthdmlpjhcalliaaGreatDoor
namespace Go.Wk
open Go
def GoodE (k q o c p z i : Int) (s : ByteArray) : Prop := 1 ≤ q ∧ q ≤ 4611686018427387904 ∧
  ((k = 1 ∧ 1 ≤ c ∧ c ≤ 16 ∧ 0 ≤ o ∧ o ≤ 512 - c ∧ 5 ≤ p ∧ p ≤ 1024 - c ∧ 0 ≤ z ∧ z ≤ 262144 ∧ i = 0 ∧ s.size = 0) ∨
   (k = 2 ∧ o = 0 ∧ c = 0 ∧ p = 0 ∧ 0 ≤ z ∧ z ≤ 262144 ∧ i = 0 ∧ s.size = 0) ∨
   (k = 3 ∧ o = 0 ∧ c = 0 ∧ p = 0 ∧ z = 0 ∧ 2 ≤ i ∧ i ≤ 256 ∧ vN s = 1) ∨
   (k = 4 ∧ o = 0 ∧ c = 0 ∧ p = 0 ∧ z = 0 ∧ i = 0 ∧ vN s = 1))
instance (k q o c p z i : Int) (s : ByteArray) : Decidable (GoodE k q o c p z i s) := by unfold GoodE; infer_instance
theorem vN_le {s : ByteArray} (h : vN s = 1) : s.size ≤ 28 := by
  have := vN_T.2 h
  unfold validB at this
  simp only [Bool.and_eq_true, decide_eq_true_eq] at this
  exact this.1.1.1.2
theorem GoodE.size {k q o c p z i : Int} {s : ByteArray} (h : GoodE k q o c p z i s) : s.size ≤ 28 := by
  rcases h.2.2 with h | h | h | h
  · omega
  · omega
  · exact vN_le h.2.2.2.2.2.2.2
  · exact vN_le h.2.2.2.2.2.2
def entB (k n q f c p z : Nat) (nm : List UInt8) : List UInt8 := le 1 k ++ le 7 n ++ le 8 q ++ le 4 f ++ le 4 c ++ le 4 p ++ le 4 z ++ nm
theorem entB_length (k n q f c p z : Nat) (nm : List UInt8) : (entB k n q f c p z nm).length = 32 + nm.length := by simp [entB, le_length]; omega
theorem le_7 {n : Nat} (h : n < 256) : le 7 n = le 1 n ++ zs 6 := by
  simp only [le, show n / 256 = 0 by omega]
  rfl
theorem ent_head {k n : Nat} (h : n < 256) : le 1 k ++ le 7 n = [UInt8.ofNat k, UInt8.ofNat n, 0, 0, 0, 0, 0, 0] := by rw [le_7 h]; rfl
def packEntV (k q o c p z i : Int) (s : ByteArray) : Value := if GoodE k q o c p z i s then .tuple #[lineV (entB k.toNat s.size q.toNat (o + i).toNat c.toNat p.toNat z.toNat s.data.toList), .int .i64 0] else .tuple #[zline, .int .i64 34]
theorem packEnt_yes {k q o c p z i : Int} {s : ByteArray} (h : GoodE k q o c p z i s) : packEntV k q o c p z i s = .tuple #[lineV (entB k.toNat s.size q.toNat (o + i).toNat c.toNat p.toNat z.toNat s.data.toList), .int .i64 0] := if_pos h
theorem packEnt_no {k q o c p z i : Int} {s : ByteArray} (h : ¬ GoodE k q o c p z i s) : packEntV k q o c p z i s = .tuple #[zline, .int .i64 34] := if_neg h
def EntL (l : List UInt8) : Prop := lineL (entB (num l 0 1) (num l 1 1) (num l 8 8) (num l 16 4) (num l 20 4) (num l 24 4) (num l 28 4) ((l.drop 32).take (num l 1 1))) = l
instance (l : List UInt8) : Decidable (EntL l) := by unfold EntL; infer_instance
theorem entL_iff {l : List UInt8} (hl : l.length = 64) (hn : num l 1 1 ≤ 28) : EntL l ↔ wholeB l = true ∧ allZero ((l.drop 2).take 6) ∧ allZero ((l.drop (32 + num l 1 1)).take (28 - num l 1 1)) := by
  unfold EntL
  generalize hm : num l 1 1 = n at *
  have hnm : ((l.drop 32).take n).length = n := by simp; omega
  rw [whole_line (by rw [entB_length, hnm]; omega) hl, entB_length, hnm]
  have e : l.take 60 = (l.drop 0).take 1 ++ ((l.drop 1).take 1 ++ (l.drop 2).take 6) ++ (l.drop 8).take 8 ++ (l.drop 16).take 4 ++ (l.drop 20).take 4 ++ (l.drop 24).take 4 ++ (l.drop 28).take 4 ++ (l.drop 32).take n ++ (l.drop (32 + n)).take (28 - n) := by
    rw [show 60 = (32 + n) + (28 - n) by omega, take_add_drop, take_add_drop, show 32 = 28 + 4 from rfl, take_add_drop, show 28 = 24 + 4 from rfl, take_add_drop, show 24 = 20 + 4 from rfl, take_add_drop, show 20 = 16 + 4 from rfl, take_add_drop, show 16 = 8 + 8 from rfl, take_add_drop, show 8 = 1 + 7 from rfl, take_add_drop]
    rw [show (l.drop 1).take 7 = (l.drop 1).take 1 ++ (l.drop 2).take 6 from by rw [show 7 = 1 + 6 from rfl, take_add_drop, List.drop_drop], List.drop_zero]
  have h1 : le 1 n = (l.drop 1).take 1 := by rw [← hm]; exact le_num (by omega)
  rw [e, entB, le_7 (by omega), h1, le_num (by omega), le_num (by omega), le_num (by omega), le_num (by omega), le_num (by omega), le_num (by omega)]
  have h6 : ((l.drop 2).take 6).length = 6 := by simp; omega
  have hz : ((l.drop (32 + n)).take (28 - n)).length = 28 - n := by simp; omega
  simp only [List.append_assoc, List.append_cancel_left_eq, show 60 - (32 + n) = 28 - n by omega]
  constructor
  · rintro ⟨h0, h⟩
    have h2 := List.append_inj h (by rw [h6]; rfl)
    have h3 := h2.2
    simp only [List.append_cancel_left_eq] at h3
    exact ⟨h0, by rw [h2.1]; exact zs_allZero 6, by rw [h3]; exact zs_allZero _⟩
  · rintro ⟨h0, h2, h3⟩
    have h4 := allZero_eq h2
    have h5 := allZero_eq h3
    rw [h6] at h4
    rw [hz] at h5
    exact ⟨h0, by rw [h4, h5]⟩
def entO (l : List UInt8) : Int := if num l 0 1 = 3 then 0 else (num l 16 4 : Nat)
def entI (l : List UInt8) : Int := if num l 0 1 = 3 then (num l 16 4 : Nat) else 0
theorem ent_OI (l : List UInt8) : (entO l + entI l).toNat = num l 16 4 := by unfold entO entI; split <;> simp
theorem entO_3 {l : List UInt8} (h : num l 0 1 = 3) : entO l = 0 := if_pos h
theorem entI_3 {l : List UInt8} (h : num l 0 1 = 3) : entI l = (num l 16 4 : Nat) := if_pos h
theorem entO_n {l : List UInt8} (h : ¬ num l 0 1 = 3) : entO l = (num l 16 4 : Nat) := if_neg h
theorem entI_n {l : List UInt8} (h : ¬ num l 0 1 = 3) : entI l = 0 := if_neg h
def entN (l : List UInt8) : ByteArray := ⟨((l.drop 32).take (num l 1 1)).toArray⟩
theorem entN_size {l : List UInt8} (hl : l.length = 64) (hn : num l 1 1 ≤ 28) : (entN l).size = num l 1 1 := by
  rw [← size_len]; unfold entN; simp; omega
theorem entN_list (l : List UInt8) : (entN l).data.toList = (l.drop 32).take (num l 1 1) := by unfold entN; simp
def OkE (l : List UInt8) : Prop := num l 1 1 ≤ 28 ∧ GoodE (num l 0 1 : Nat) (num l 8 8 : Nat) (entO l) (num l 20 4 : Nat) (num l 24 4 : Nat) (num l 28 4 : Nat) (entI l) (entN l) ∧ EntL l
instance (l : List UInt8) : Decidable (OkE l) := by unfold OkE; infer_instance
def entV (l : List UInt8) : Value := .agg #[.int .i64 (num l 0 1 : Nat), .int .u64 (num l 8 8 : Nat), .int .i64 (entO l), .int .i64 (num l 20 4 : Nat), .int .i64 (num l 24 4 : Nat), .int .i64 (num l 28 4 : Nat), .int .i64 (entI l), .string (entN l)]
def noEntV : Value := .agg #[.int .i64 0, .int .u64 0, .int .i64 0, .int .i64 0, .int .i64 0, .int .i64 0, .int .i64 0, .string ⟨#[]⟩]
def openEntV (l : List UInt8) : Value := if OkE l then .tuple #[entV l, .int .i64 0] else .tuple #[noEntV, .int .i64 34]
theorem openEnt_yes {l : List UInt8} (h : OkE l) : openEntV l = .tuple #[entV l, .int .i64 0] := if_pos h
theorem openEnt_no {l : List UInt8} (h : ¬ OkE l) : openEntV l = .tuple #[noEntV, .int .i64 34] := if_neg h
theorem entL_line {l : List UInt8} (hl : l.length = 64) (hn : num l 1 1 ≤ 28) : lineL (entB ((num l 0 1 : Nat) : Int).toNat (entN l).size ((num l 8 8 : Nat) : Int).toNat (entO l + entI l).toNat ((num l 20 4 : Nat) : Int).toNat ((num l 24 4 : Nat) : Int).toNat ((num l 28 4 : Nat) : Int).toNat (entN l).data.toList) = l ↔ EntL l := by
  rw [entN_size hl hn, ent_OI, entN_list]
  simp only [Int.toNat_natCast]
  exact Iff.rfl
end Go.Wk
namespace Go.Proofs.YthdmlpjhcalliaaGreatDoor
open Go Go.Wk
theorem str_at {s : ByteArray} {k : Nat} {c : UInt8} (h : s.data.toList[k]? = some c) : s[((k : Int)).toNat]? = some c := by
  obtain ⟨hk, rfl⟩ := List.getElem?_eq_some_iff.1 h
  have hk' : k < s.size := by rw [← size_len]; exact hk
  simp only [Int.toNat_natCast]
  rw [getElem?_pos s k hk']
  rfl
theorem validI_p (s : ByteArray) (w : World) (hlen : s.size ≤ 9223372036854775807) :
    PureC Tryz.prog 39 [.string s] (.bool (validB s)) w := by
 refine enter0 Tryz.func39 rfl Tryz.ntmps39 rfl ?_
 simp only [envOf]
 refine tR (tA rfl rfl (tE (At.seq (tR (tM rfl rfl (tV (Val.lenStr Tryz.underlying9 rfl) rfl (tV (Val.bin rfl rfl rfl) rfl (tM rfl rfl ?_))))))))
 refine At.split (t := 8) rfl (fun h1 => ?_) (fun h1 => ?_)
 ·refine At.no rfl rfl rfl rfl (At.no rfl rfl rfl rfl (At.no rfl rfl rfl rfl (tV (Val.pickT rfl rfl) rfl (tM rfl rfl (At.no rfl rfl rfl rfl (At.no rfl rfl rfl rfl (tV (Val.pickT rfl rfl) rfl (tM rfl rfl (At.no rfl rfl rfl rfl (At.no rfl rfl rfl rfl (tV (Val.pickT rfl rfl) rfl (tE (At.condT rfl (tR (tA rfl rfl (tE (At.retC (At.thenR (At.ret1 (.inl rfl) rfl rfl rfl (fun w hw => ?_))))))))))))))))))))
  exact ⟨by rw [valid_empty ‹_›], hw.mod⟩
 ·refine At.yes rfl rfl (tM rfl rfl (At.yes rfl rfl (tV (Val.lenStr Tryz.underlying9 rfl) rfl (At.yes rfl rfl (tV (Val.bin rfl rfl rfl) rfl (tV (Val.pickF rfl rfl) rfl (tM rfl rfl ?_)))))))
  refine At.split (t := 13) rfl (fun h2 => ?_) (fun h2 => ?_)
  ·refine At.no rfl rfl rfl rfl (At.no rfl rfl rfl rfl (tV (Val.pickT rfl rfl) rfl (tM rfl rfl (At.no rfl rfl rfl rfl (At.no rfl rfl rfl rfl (tV (Val.pickT rfl rfl) rfl (tE (At.condT rfl (tR (tA rfl rfl (tE (At.retC (At.thenR (At.ret1 (.inl rfl) rfl rfl rfl (fun w hw => ?_)))))))))))))))
   exact ⟨by rw [valid_long ‹_›], hw.mod⟩
  ·refine At.yes rfl rfl (tM rfl rfl (At.yes rfl rfl (tV (Val.seq_ rfl rfl) rfl (tV (Val.pickF rfl rfl) rfl (tM rfl rfl ?_)))))
   refine At.split (t := 17) rfl (fun h3 => ?_) (fun h3 => ?_)
   ·refine At.no rfl rfl rfl rfl (At.no rfl rfl rfl rfl (tV (Val.pickT rfl rfl) rfl (tE (At.condT rfl (tR (tA rfl rfl (tE (At.retC (At.thenR (At.ret1 (.inl rfl) rfl rfl rfl (fun w hw => ?_)))))))))))
    exact ⟨by rw [valid_dot ‹_›], hw.mod⟩
   ·refine At.yes rfl rfl (tM rfl rfl (At.yes rfl rfl (tV (Val.seq_ rfl rfl) rfl (tV (Val.pickF rfl rfl) rfl (tE ?_)))))
    refine At.cond rfl (fun h4 => ?_) (fun h4 => ?_)
    ·refine tR (tA rfl rfl (tE (At.retC (At.thenR (At.ret1 (.inl rfl) rfl rfl rfl (fun w hw => ?_))))))
     exact ⟨by rw [valid_dots ‹_›], hw.mod⟩
    ·refine At.skipC (At.thenN (At.seq (tR (tM rfl rfl (At.strBytes (us := .string) Tryz.underlying9 Tryz.underlying45 Tryz.underlying5 rfl rfl (fun b5 c6 sp7 => (tV (Val.len (bt := #[]) Tryz.underlying45 rfl) rfl (tM rfl rfl (tE (At.block ?_))))))))))
     skip
     refine At.loop (σ := Nat) (fun k => k ≤ s.size ∧ (s.data.toList.take k).all okc = true) (fun k => [(22, .slice (some ⟨b5, 0, none⟩) s.size c6), (23, .int .i64 s.size), (24, .int .i64 k)]) (fun k => [blk b5 5 (s.data.toList.map bv ++ sp7)]) (fun k => s.size - k) 0 ⟨Nat.zero_le _, rfl⟩ (Sub.cons rfl (Sub.cons rfl (Sub.cons rfl Sub.nil))) (List.Perm.refl _) ?_
     intro k hs
     obtain ⟨hs1, hs2⟩ := hs
     refine tR (tV (Val.bin rfl rfl rfl) rfl (tE (At.seq ?_)))
     refine At.cond rfl (fun h8 => ?_) (fun h8 => ?_)
     ·have hk : k < s.size := by simpa using h8
      obtain ⟨c', hc'⟩ : ∃ c', s.data.toList[k]? = some c' := ⟨_, List.getElem?_eq_getElem (by rw [size_len]; exact hk)⟩
      refine At.skipC (At.thenN (At.seq (At.block (tR (tV (Val.indexSl k (by simp) Tryz.underlying45 Tryz.sizeOf5 rfl rfl (by omega) (by omega)) rfl ?_)))))
      refine tV (Val.load (i := 0) Tryz.isAgg5 rfl rfl (by rw [List.getElem?_append_left (by simp; exact hk), List.getElem?_map, hc']; rfl)) rfl ?_
      refine tA rfl rfl (tE (tR (tM rfl rfl (tV (Val.bin rfl rfl rfl) rfl (tM rfl rfl ?_)))))
      refine At.split (t := 30) rfl (fun h9 => ?_) (fun h9 => ?_)
      ·refine At.no rfl rfl rfl rfl (At.no rfl rfl rfl rfl (tV (Val.pickT rfl rfl) rfl (tE (At.condT rfl (tR (tA rfl rfl (tE (At.retC (At.blkR (At.thenR (At.thenR (At.blkR (At.thenR (At.ret1 (.inl rfl) rfl rfl rfl (fun w hw => ?_)))))))))))))))
       exact ⟨by rw [valid_bad hc' (okc_0 ‹_›)], hw.mod⟩
      ·refine At.yes rfl rfl (tM rfl rfl (At.yes rfl rfl (tV (Val.bin rfl rfl rfl) rfl (tV (Val.pickF rfl rfl) rfl (tE ?_)))))
       refine At.cond rfl (fun h10 => ?_) (fun h10 => ?_)
       ·refine tR (tA rfl rfl (tE (At.retC (At.blkR (At.thenR (At.thenR (At.blkR (At.thenR (At.ret1 (.inl rfl) rfl rfl rfl (fun w hw => ?_))))))))))
        exact ⟨by rw [valid_bad hc' (okc_47 ‹_›)], hw.mod⟩
       ·refine At.skipC (At.blkN (At.thenN (At.region (tV (Val.bin rfl rfl rfl) rfl (tM rfl rfl (tE ?_))))))
        exact At.again (k + 1) ⟨by omega, all_take_succ hc' hs2 (okc_yes ‹_› ‹_›)⟩ (by omega) (Sub.cons rfl (Sub.cons rfl (Sub.cons (by rw [wrap_i64 (by omega) (by omega)]; rfl) Sub.nil))) (List.Perm.refl _)
     ·have hk : k = s.size := by have := h8; simp at this; omega
      refine At.exitC (At.thenX (At.thenX (At.blkX (At.thenN (tR (tA rfl rfl (tE (At.retC (At.ret1 (.inl rfl) rfl rfl rfl (fun w hw => ?_))))))))))
      exact ⟨by rw [valid_all ‹_› ‹_› ‹_› ‹_› (by rw [hk, ← size_len, List.take_length] at hs2; exact hs2)], hw.mod⟩
theorem validR_p (s : ByteArray) (w : World) (hlen : s.size ≤ 9223372036854775807) :
    PureC Tryz.prog 40 [.string s] (.bool (validB s)) w := by
 refine enter0 Tryz.func40 rfl Tryz.ntmps40 rfl ?_
 simp only [envOf]
 refine tR (tA rfl rfl (tE (At.seq (tR (tM rfl rfl (tV (Val.seq_ rfl rfl) rfl (tM rfl rfl ?_)))))))
 refine At.split (t := 6) rfl (fun h1 => ?_) (fun h1 => ?_)
 ·refine At.no rfl rfl rfl rfl (At.no rfl rfl rfl rfl (tV (Val.pickT rfl rfl) rfl (tM rfl rfl (At.no rfl rfl rfl rfl (At.no rfl rfl rfl rfl (tV (Val.pickT rfl rfl) rfl (tM rfl rfl (At.no rfl rfl rfl rfl (At.no rfl rfl rfl rfl (At.no rfl rfl rfl rfl (tV (Val.pickT rfl rfl) rfl (tE (At.condT rfl (tR (tA rfl rfl (tE (At.retC (At.thenR (At.ret1 (.inl rfl) rfl rfl rfl (fun w hw => ?_))))))))))))))))))))
  exact ⟨by rw [valid_emptyL ‹_›], hw.mod⟩
 ·refine At.yes rfl rfl (tM rfl rfl (At.yes rfl rfl (tV (Val.seq_ rfl rfl) rfl (tV (Val.pickF rfl rfl) rfl (tM rfl rfl ?_)))))
  refine At.split (t := 10) rfl (fun h2 => ?_) (fun h2 => ?_)
  ·refine At.no rfl rfl rfl rfl (At.no rfl rfl rfl rfl (tV (Val.pickT rfl rfl) rfl (tM rfl rfl (At.no rfl rfl rfl rfl (At.no rfl rfl rfl rfl (At.no rfl rfl rfl rfl (tV (Val.pickT rfl rfl) rfl (tE (At.condT rfl (tR (tA rfl rfl (tE (At.retC (At.thenR (At.ret1 (.inl rfl) rfl rfl rfl (fun w hw => ?_))))))))))))))))
   exact ⟨by rw [valid_dot ‹_›], hw.mod⟩
  ·refine At.yes rfl rfl (tM rfl rfl (At.yes rfl rfl (tV (Val.seq_ rfl rfl) rfl (tV (Val.pickF rfl rfl) rfl (tM rfl rfl ?_)))))
   refine At.split (t := 14) rfl (fun h3 => ?_) (fun h3 => ?_)
   ·refine At.no rfl rfl rfl rfl (At.no rfl rfl rfl rfl (At.no rfl rfl rfl rfl (tV (Val.pickT rfl rfl) rfl (tE (At.condT rfl (tR (tA rfl rfl (tE (At.retC (At.thenR (At.ret1 (.inl rfl) rfl rfl rfl (fun w hw => ?_))))))))))))
    exact ⟨by rw [valid_dots ‹_›], hw.mod⟩
   ·refine At.yes rfl rfl (tM rfl rfl (At.yes rfl rfl (tV (Val.lenStr Tryz.underlying9 rfl) rfl (At.yes rfl rfl (tV (Val.bin rfl rfl rfl) rfl (tV (Val.pickF rfl rfl) rfl (tE ?_)))))))
    refine At.cond rfl (fun h4 => ?_) (fun h4 => ?_)
    ·refine tR (tA rfl rfl (tE (At.retC (At.thenR (At.ret1 (.inl rfl) rfl rfl rfl (fun w hw => ?_))))))
     exact ⟨by rw [valid_long ‹_›], hw.mod⟩
    ·refine At.skipC (At.thenN (At.seq (tR (tA rfl rfl (tE (At.block ?_))))))
     skip
     refine At.loop (σ := Nat) (fun k => k ≤ s.size ∧ (s.data.toList.take k).all okc = true) (fun k => [(0, .string s), (3, .int .i64 k)]) (fun k => []) (fun k => s.size - k) 0 ⟨Nat.zero_le _, rfl⟩ (Sub.cons rfl (Sub.cons rfl Sub.nil)) (List.Perm.refl _) ?_
     intro k hs
     obtain ⟨hs1, hs2⟩ := hs
     refine At.seq (tR (tM rfl rfl (tM rfl rfl (tV (Val.lenStr Tryz.underlying9 rfl) rfl (tV (Val.bin rfl rfl rfl) rfl (tE ?_))))))
     refine At.cond rfl (fun h5 => ?_) (fun h5 => ?_)
     ·have hk : k < s.size := by simpa using h5
      obtain ⟨c', hc'⟩ : ∃ c', s.data.toList[k]? = some c' := ⟨_, List.getElem?_eq_getElem (by rw [size_len]; exact hk)⟩
      refine At.skipC (At.thenN (At.seq (At.block (tR (tM rfl rfl (tM rfl rfl (tV (Val.indexStr Tryz.underlying9 rfl rfl (by omega) (str_at hc')) rfl (tV (Val.bin rfl rfl rfl) rfl (tM rfl rfl ?_)))))))))
      refine At.split (t := 29) rfl (fun h6 => ?_) (fun h6 => ?_)
      ·refine At.no rfl rfl rfl rfl (At.no rfl rfl rfl rfl (At.no rfl rfl rfl rfl (At.no rfl rfl rfl rfl (tV (Val.pickT rfl rfl) rfl (tE (At.condT rfl (tR (tA rfl rfl (tE (At.retC (At.blkR (At.thenR (At.thenR (At.blkR (At.thenR (At.ret1 (.inl rfl) rfl rfl rfl (fun w hw => ?_)))))))))))))))))
       exact ⟨by rw [valid_bad hc' (okc_0 ‹_›)], hw.mod⟩
      ·refine At.yes rfl rfl (tM rfl rfl (At.yes rfl rfl (tM rfl rfl (At.yes rfl rfl (tV (Val.indexStr Tryz.underlying9 rfl rfl (by omega) (str_at hc')) rfl (At.yes rfl rfl (tV (Val.bin rfl rfl rfl) rfl (tV (Val.pickF rfl rfl) rfl (tE ?_)))))))))
       refine At.cond rfl (fun h7 => ?_) (fun h7 => ?_)
       ·refine tR (tA rfl rfl (tE (At.retC (At.blkR (At.thenR (At.thenR (At.blkR (At.thenR (At.ret1 (.inl rfl) rfl rfl rfl (fun w hw => ?_))))))))))
        exact ⟨by rw [valid_bad hc' (okc_47 ‹_›)], hw.mod⟩
       ·refine At.skipC (At.blkN (At.thenN (At.region (tM rfl rfl (tV (Val.bin rfl rfl rfl) rfl (tA rfl rfl (tE ?_)))))))
        exact At.again (k + 1) ⟨by omega, all_take_succ hc' hs2 (okc_yes ‹_› ‹_›)⟩ (by omega) (Sub.cons rfl (Sub.cons (by rw [wrap_i64 (by omega) (by omega)]; rfl) Sub.nil)) (List.Perm.refl _)
     ·have hk : k = s.size := by have := h5; simp at this; omega
      refine At.exitC (At.thenX (At.thenX (At.blkX (At.thenN (tR (tA rfl rfl (tE (At.retC (At.ret1 (.inl rfl) rfl rfl rfl (fun w hw => ?_))))))))))
      exact ⟨by rw [valid_all (notEmpty_of ‹_›) ‹_› ‹_› ‹_› (by rw [hk, ← size_len, List.take_length] at hs2; exact hs2)], hw.mod⟩
end Go.Proofs.YthdmlpjhcalliaaGreatDoor
namespace Go.Proofs.YthdmlpjhcalliaaGreatDoor
open Go Go.Wk
theorem vN_01 (s : ByteArray) : vN s = 0 ∨ vN s = 1 := by unfold vN; split <;> simp
theorem nmE_eq {s : ByteArray} : (ByteArray.mk #[]).toList = s.toList ↔ s.size = 0 := by
  rw [← nmE_T, beq_iff_eq]; exact eq_comm
theorem nmE_T' {s : ByteArray} : ((ByteArray.mk #[]).toList == s.toList) = true ↔ s.size = 0 := by
  rw [← nmE_T, beq_iff_eq, beq_iff_eq]; exact eq_comm
theorem goodEnt_p (k q o c p z i : Int) (s : ByteArray) (w : World) (hlen : s.size ≤ 9223372036854775807) (hq : 0 ≤ q) :
    PureC Tryz.prog 75 [.agg #[.int .i64 k, .int .u64 q, .int .i64 o, .int .i64 c, .int .i64 p, .int .i64 z, .int .i64 i, .string s]] (.bool (decide (GoodE k q o c p z i s))) w := by
 refine enter0 Tryz.func75 rfl Tryz.ntmps75 rfl ?_
 have hvn := vN_01 s
 simp only [envOf]
 refine tR (At.box rfl rfl rfl (fun b1 => (tA rfl rfl (tE (At.seq (tR (At.weaken [(0, _), (1, _), (2, _)] (Sub.cons rfl (Sub.cons rfl (Sub.cons rfl Sub.nil))) ?_)))))))
 refine At.boolMeet 8 14 (decide (q = 0 ∨ 4611686018427387904 < q)) ?_ ?_
 ·simp only [List.take_succ_cons, List.take_zero]
  refine tV (Val.field 1 rfl fo_37_1 rfl) rfl (tV (Val.load (i := 0) Tryz.isAgg34 rfl rfl rfl) rfl (tV (Val.bin rfl rfl rfl) rfl (tM rfl rfl ?_)))
  refine At.split (t := 10) rfl (fun h2 => ?_) (fun h2 => ?_)
  ·try simp only [vN_T, vN_F, nmE_T, nmE_F, wI_T, wI_F, data_T, data_F, ino_T, ino_F, notT, notF, bneT, bneF, beqT, beqF, decT, decF] at h2
   refine At.no rfl rfl rfl rfl (At.no rfl rfl rfl rfl (At.no rfl rfl rfl rfl (tV (Val.pickT rfl rfl) rfl (At.nil ?_))))
   exact At.boolEnd rfl (by first | rfl | exact (decide_eq_true (by omega)).symm | exact (decide_eq_false (by omega)).symm | (apply Bool.eq_iff_iff.2; simp only [decide_eq_true_eq, beq_iff_eq, bne_iff_ne, ne_eq, wI_T, data_T, ino_T, vN_T, nmE_T, Bool.not_eq_true', wI_F, data_F, ino_F, vN_F, nmE_F, decide_eq_false_iff_not]; omega)) (by repeat (first | exact Sub.nil | refine Sub.cons rfl ?_))
  ·try simp only [vN_T, vN_F, nmE_T, nmE_F, wI_T, wI_F, data_T, data_F, ino_T, ino_F, notT, notF, bneT, bneF, beqT, beqF, decT, decF] at h2
   refine At.yes rfl rfl (tV (Val.field 1 rfl fo_37_1 rfl) rfl (At.yes rfl rfl (tV (Val.load (i := 0) Tryz.isAgg34 rfl rfl rfl) rfl (At.yes rfl rfl (tV (Val.bin rfl rfl rfl) rfl (tV (Val.pickF rfl rfl) rfl (At.nil ?_)))))))
   exact At.boolEnd rfl (by first | rfl | exact (decide_eq_true (by omega)).symm | exact (decide_eq_false (by omega)).symm | (apply Bool.eq_iff_iff.2; simp only [decide_eq_true_eq, beq_iff_eq, bne_iff_ne, ne_eq, wI_T, data_T, ino_T, vN_T, nmE_T, Bool.not_eq_true', wI_F, data_F, ino_F, vN_F, nmE_F, decide_eq_false_iff_not]; omega)) (by repeat (first | exact Sub.nil | refine Sub.cons rfl ?_))
 ·simp only [List.drop_succ_cons, List.drop_zero]
  refine tE ?_
  refine At.cond rfl (fun h3 => ?_) (fun h3 => ?_)
  ·try simp only [vN_T, vN_F, nmE_T, nmE_F, wI_T, wI_F, data_T, data_F, ino_T, ino_F, notT, notF, bneT, bneF, beqT, beqF, decT, decF] at h3
   refine tR (tA rfl rfl (tE (At.retC (At.thenR (At.ret1 (.inl rfl) rfl rfl rfl (fun w hw => ?_))))))
   exact ⟨retB (by first | exact (decide_eq_false (by unfold GoodE; omega)).symm | (apply Bool.eq_iff_iff.2; simp only [decide_eq_true_eq]; unfold GoodE; omega)), hw.mod⟩
  ·try simp only [vN_T, vN_F, nmE_T, nmE_F, wI_T, wI_F, data_T, data_F, ino_T, ino_F, notT, notF, bneT, bneF, beqT, beqF, decT, decF] at h3
   refine At.skipC (At.thenN (At.seq (At.quiet rfl (by decide +kernel) (qV (Val.field 7 rfl fo_37_7 rfl) rfl (qV (Val.load (i := 0) Tryz.isAgg9 rfl rfl rfl) rfl (qV (Val.seq_ rfl rfl) rfl (QAt.weaken [(0, _), (1, _), (2, _), (14, _), (17, _)] (Sub.cons rfl (Sub.cons rfl (Sub.cons rfl (Sub.cons rfl (Sub.cons rfl Sub.nil))))) ?_)))))))
   refine QAt.boolMeet 13 30 (decide (o = 0 ∧ c = 0 ∧ p = 0)) ?_ ?_
   ·simp only [List.take_succ_cons, List.take_zero]
    refine qV (Val.field 2 rfl fo_37_2 rfl) rfl (qV (Val.load (i := 0) Tryz.isAgg3 rfl rfl rfl) rfl (qV (Val.bin rfl rfl rfl) rfl (qM rfl rfl ?_)))
    refine QAt.split (t := 21) rfl (fun h4 => ?_) (fun h4 => ?_)
    ·try simp only [vN_T, vN_F, nmE_T, nmE_F, wI_T, wI_F, data_T, data_F, ino_T, ino_F, notT, notF, bneT, bneF, beqT, beqF, decT, decF] at h4
     refine QAt.yes rfl rfl (qV (Val.field 3 rfl fo_37_3 rfl) rfl (QAt.yes rfl rfl (qV (Val.load (i := 0) Tryz.isAgg3 rfl rfl rfl) rfl (QAt.yes rfl rfl (qV (Val.bin rfl rfl rfl) rfl (qV (Val.pickT rfl rfl) rfl (qM rfl rfl ?_)))))))
     refine QAt.split (t := 26) rfl (fun h5 => ?_) (fun h5 => ?_)
     ·try simp only [vN_T, vN_F, nmE_T, nmE_F, wI_T, wI_F, data_T, data_F, ino_T, ino_F, notT, notF, bneT, bneF, beqT, beqF, decT, decF] at h5
      refine QAt.yes rfl rfl (qV (Val.field 4 rfl fo_37_4 rfl) rfl (QAt.yes rfl rfl (qV (Val.load (i := 0) Tryz.isAgg3 rfl rfl rfl) rfl (QAt.yes rfl rfl (qV (Val.bin rfl rfl rfl) rfl (qV (Val.pickT rfl rfl) rfl ?_))))))
      exact QAt.boolEnd rfl (by first | rfl | exact (decide_eq_true (by omega)).symm | exact (decide_eq_false (by omega)).symm | (apply Bool.eq_iff_iff.2; simp only [decide_eq_true_eq, beq_iff_eq, bne_iff_ne, ne_eq, wI_T, data_T, ino_T, vN_T, nmE_T, Bool.not_eq_true', wI_F, data_F, ino_F, vN_F, nmE_F, decide_eq_false_iff_not]; omega)) (by repeat (first | exact Sub.nil | refine Sub.cons rfl ?_))
     ·try simp only [vN_T, vN_F, nmE_T, nmE_F, wI_T, wI_F, data_T, data_F, ino_T, ino_F, notT, notF, bneT, bneF, beqT, beqF, decT, decF] at h5
      refine QAt.no rfl rfl rfl rfl (QAt.no rfl rfl rfl rfl (QAt.no rfl rfl rfl rfl (qV (Val.pickF rfl rfl) rfl ?_)))
      exact QAt.boolEnd rfl (by first | rfl | exact (decide_eq_true (by omega)).symm | exact (decide_eq_false (by omega)).symm | (apply Bool.eq_iff_iff.2; simp only [decide_eq_true_eq, beq_iff_eq, bne_iff_ne, ne_eq, wI_T, data_T, ino_T, vN_T, nmE_T, Bool.not_eq_true', wI_F, data_F, ino_F, vN_F, nmE_F, decide_eq_false_iff_not]; omega)) (by repeat (first | exact Sub.nil | refine Sub.cons rfl ?_))
    ·try simp only [vN_T, vN_F, nmE_T, nmE_F, wI_T, wI_F, data_T, data_F, ino_T, ino_F, notT, notF, bneT, bneF, beqT, beqF, decT, decF] at h4
     refine QAt.no rfl rfl rfl rfl (QAt.no rfl rfl rfl rfl (QAt.no rfl rfl rfl rfl (qV (Val.pickF rfl rfl) rfl (qM rfl rfl (QAt.no rfl rfl rfl rfl (QAt.no rfl rfl rfl rfl (QAt.no rfl rfl rfl rfl (qV (Val.pickF rfl rfl) rfl ?_))))))))
     exact QAt.boolEnd rfl (by first | rfl | exact (decide_eq_true (by omega)).symm | exact (decide_eq_false (by omega)).symm | (apply Bool.eq_iff_iff.2; simp only [decide_eq_true_eq, beq_iff_eq, bne_iff_ne, ne_eq, wI_T, data_T, ino_T, vN_T, nmE_T, Bool.not_eq_true', wI_F, data_F, ino_F, vN_F, nmE_F, decide_eq_false_iff_not]; omega)) (by repeat (first | exact Sub.nil | refine Sub.cons rfl ?_))
   ·simp only [List.drop_succ_cons, List.drop_zero]
    refine qV (Val.assign rfl) rfl (qV (Val.assign rfl) rfl (QAt.fin (At.thenN (tR (tV (Val.field 5 rfl fo_37_5 rfl) rfl (tV (Val.load (i := 0) Tryz.isAgg3 rfl rfl rfl) rfl (At.callP (fun w hw => within_p _ _ _ w) Tryz.call51 rfl rfl (tA rfl rfl (tE (At.seq (tR (tV (Val.field 0 rfl fo_37_0 rfl) rfl (tV (Val.load (i := 0) Tryz.isAgg3 rfl rfl rfl) rfl (tE (At.block (tR (tV (Val.bin rfl rfl rfl) rfl (tA rfl rfl (tE ?_)))))))))))))))))))
    refine At.cond rfl (fun h6 => ?_) (fun h6 => ?_)
    ·try simp only [vN_T, vN_F, nmE_T, nmE_F, wI_T, wI_F, data_T, data_F, ino_T, ino_F, notT, notF, bneT, bneF, beqT, beqF, decT, decF] at h6
     refine tR (At.weaken [(0, _), (1, _), (2, _), (14, _), (17, _), (30, _), (3, _), (4, _), (31, _), (32, _), (33, _), (5, _), (34, _), (35, _), (37, _), (36, _)] (Sub.cons rfl (Sub.cons rfl (Sub.cons rfl (Sub.cons rfl (Sub.cons rfl (Sub.cons rfl (Sub.cons rfl (Sub.cons rfl (Sub.cons rfl (Sub.cons rfl (Sub.cons rfl (Sub.cons rfl (Sub.cons rfl (Sub.cons rfl (Sub.cons rfl (Sub.cons rfl Sub.nil)))))))))))))))) ?_)
     refine At.boolMeet 19 56 (decide (1 ≤ c ∧ c ≤ 16 ∧ 0 ≤ o ∧ o ≤ 512 - c ∧ 5 ≤ p ∧ p ≤ 1024 - c)) ?_ ?_
     ·simp only [List.take_succ_cons, List.take_zero]
      refine tV (Val.field 3 rfl fo_37_3 rfl) rfl (tV (Val.load (i := 0) Tryz.isAgg3 rfl rfl rfl) rfl (At.callP (fun w hw => within_p _ _ _ w) Tryz.call51 rfl rfl (tM rfl rfl ?_)))
      refine At.split (t := 41) rfl (fun h7 => ?_) (fun h7 => ?_)
      ·try simp only [vN_T, vN_F, nmE_T, nmE_F, wI_T, wI_F, data_T, data_F, ino_T, ino_F, notT, notF, bneT, bneF, beqT, beqF, decT, decF] at h7
       refine At.yes rfl rfl (tV (Val.field 2 rfl fo_37_2 rfl) rfl (At.yes rfl rfl (tV (Val.load (i := 0) Tryz.isAgg3 rfl rfl rfl) rfl (At.yes rfl rfl (tV (Val.field 3 rfl fo_37_3 rfl) rfl (At.yes rfl rfl (tV (Val.load (i := 0) Tryz.isAgg3 rfl rfl rfl) rfl (At.yes rfl rfl ?_))))))))
       first | refine tV (Val.subI rfl rfl (by omega) (by omega)) rfl ?_ | refine tV (Val.bin rfl rfl rfl) rfl ?_
       refine At.yes rfl rfl (At.callP (fun w hw => within_p _ _ _ w) Tryz.call51 rfl rfl (tV (Val.pickT rfl rfl) rfl (tM rfl rfl ?_)))
       refine At.split (t := 49) rfl (fun h8 => ?_) (fun h8 => ?_)
       ·try simp only [vN_T, vN_F, nmE_T, nmE_F, wI_T, wI_F, data_T, data_F, ino_T, ino_F, notT, notF, bneT, bneF, beqT, beqF, decT, decF] at h8
        refine At.yes rfl rfl (tV (Val.field 4 rfl fo_37_4 rfl) rfl (At.yes rfl rfl (tV (Val.load (i := 0) Tryz.isAgg3 rfl rfl rfl) rfl (At.yes rfl rfl (tV (Val.field 3 rfl fo_37_3 rfl) rfl (At.yes rfl rfl (tV (Val.load (i := 0) Tryz.isAgg3 rfl rfl rfl) rfl (At.yes rfl rfl ?_))))))))
        first | refine tV (Val.subI rfl rfl (by omega) (by omega)) rfl ?_ | refine tV (Val.bin rfl rfl rfl) rfl ?_
        refine At.yes rfl rfl (At.callP (fun w hw => within_p _ _ _ w) Tryz.call51 rfl rfl (tV (Val.pickT rfl rfl) rfl (At.nil ?_)))
        exact At.boolEnd rfl (by first | rfl | exact (decide_eq_true (by omega)).symm | exact (decide_eq_false (by omega)).symm | (apply Bool.eq_iff_iff.2; simp only [decide_eq_true_eq, beq_iff_eq, bne_iff_ne, ne_eq, wI_T, data_T, ino_T, vN_T, nmE_T, Bool.not_eq_true', wI_F, data_F, ino_F, vN_F, nmE_F, decide_eq_false_iff_not]; omega)) (by repeat (first | exact Sub.nil | refine Sub.cons rfl ?_))
       ·try simp only [vN_T, vN_F, nmE_T, nmE_F, wI_T, wI_F, data_T, data_F, ino_T, ino_F, notT, notF, bneT, bneF, beqT, beqF, decT, decF] at h8
        refine At.no rfl rfl rfl rfl (At.no rfl rfl rfl rfl (At.no rfl rfl rfl rfl (At.no rfl rfl rfl rfl (At.no rfl rfl rfl rfl (At.no rfl rfl rfl rfl (tV (Val.pickF rfl rfl) rfl (At.nil ?_)))))))
        exact At.boolEnd rfl (by first | rfl | exact (decide_eq_true (by omega)).symm | exact (decide_eq_false (by omega)).symm | (apply Bool.eq_iff_iff.2; simp only [decide_eq_true_eq, beq_iff_eq, bne_iff_ne, ne_eq, wI_T, data_T, ino_T, vN_T, nmE_T, Bool.not_eq_true', wI_F, data_F, ino_F, vN_F, nmE_F, decide_eq_false_iff_not]; omega)) (by repeat (first | exact Sub.nil | refine Sub.cons rfl ?_))
      ·try simp only [vN_T, vN_F, nmE_T, nmE_F, wI_T, wI_F, data_T, data_F, ino_T, ino_F, notT, notF, bneT, bneF, beqT, beqF, decT, decF] at h7
       refine At.no rfl rfl rfl rfl (At.no rfl rfl rfl rfl (At.no rfl rfl rfl rfl (At.no rfl rfl rfl rfl (At.no rfl rfl rfl rfl (At.no rfl rfl rfl rfl (tV (Val.pickF rfl rfl) rfl (tM rfl rfl (At.no rfl rfl rfl rfl (At.no rfl rfl rfl rfl (At.no rfl rfl rfl rfl (At.no rfl rfl rfl rfl (At.no rfl rfl rfl rfl (At.no rfl rfl rfl rfl (tV (Val.pickF rfl rfl) rfl (At.nil ?_)))))))))))))))
       exact At.boolEnd rfl (by first | rfl | exact (decide_eq_true (by omega)).symm | exact (decide_eq_false (by omega)).symm | (apply Bool.eq_iff_iff.2; simp only [decide_eq_true_eq, beq_iff_eq, bne_iff_ne, ne_eq, wI_T, data_T, ino_T, vN_T, nmE_T, Bool.not_eq_true', wI_F, data_F, ino_F, vN_F, nmE_F, decide_eq_false_iff_not]; omega)) (by repeat (first | exact Sub.nil | refine Sub.cons rfl ?_))
     ·simp only [List.drop_succ_cons, List.drop_zero]
      refine tA rfl rfl (tE (tR (At.weaken [(0, _), (1, _), (2, _), (14, _), (17, _), (30, _), (3, _), (4, _), (31, _), (32, _), (33, _), (5, _), (34, _), (35, _), (37, _), (36, _), (56, _), (6, _)] (Sub.cons rfl (Sub.cons rfl (Sub.cons rfl (Sub.cons rfl (Sub.cons rfl (Sub.cons rfl (Sub.cons rfl (Sub.cons rfl (Sub.cons rfl (Sub.cons rfl (Sub.cons rfl (Sub.cons rfl (Sub.cons rfl (Sub.cons rfl (Sub.cons rfl (Sub.cons rfl (Sub.cons rfl (Sub.cons rfl Sub.nil)))))))))))))))))) ?_)))
      refine At.boolMeet 12 68 (decide ((1 ≤ c ∧ c ≤ 16 ∧ 0 ≤ o ∧ o ≤ 512 - c ∧ 5 ≤ p ∧ p ≤ 1024 - c) ∧ (0 ≤ z ∧ z ≤ 262144) ∧ s.size = 0 ∧ i = 0)) ?_ ?_
      ·simp only [List.take_succ_cons, List.take_zero]
       refine tM rfl rfl (tM rfl rfl ?_)
       refine At.split (t := 58) rfl (fun h9 => ?_) (fun h9 => ?_)
       ·try simp only [vN_T, vN_F, nmE_T, nmE_F, wI_T, wI_F, data_T, data_F, ino_T, ino_F, notT, notF, bneT, bneF, beqT, beqF, decT, decF] at h9
        refine At.yes rfl rfl (tM rfl rfl (tV (Val.pickT rfl rfl) rfl (tM rfl rfl ?_)))
        refine At.split (t := 61) rfl (fun h10 => ?_) (fun h10 => ?_)
        ·try simp only [vN_T, vN_F, nmE_T, nmE_F, wI_T, wI_F, data_T, data_F, ino_T, ino_F, notT, notF, bneT, bneF, beqT, beqF, decT, decF] at h10
         refine At.yes rfl rfl (tM rfl rfl (tV (Val.pickT rfl rfl) rfl (tM rfl rfl ?_)))
         refine At.split (t := 64) rfl (fun h11 => ?_) (fun h11 => ?_)
         ·try simp only [vN_T, vN_F, nmE_T, nmE_F, wI_T, wI_F, data_T, data_F, ino_T, ino_F, notT, notF, bneT, bneF, beqT, beqF, decT, decF] at h11
          refine At.yes rfl rfl (tV (Val.field 6 rfl fo_37_6 rfl) rfl (At.yes rfl rfl (tV (Val.load (i := 0) Tryz.isAgg3 rfl rfl rfl) rfl (At.yes rfl rfl (tV (Val.bin rfl rfl rfl) rfl (tV (Val.pickT rfl rfl) rfl (At.nil ?_)))))))
          exact At.boolEnd rfl (by first | rfl | exact (decide_eq_true (by omega)).symm | exact (decide_eq_false (by omega)).symm | (apply Bool.eq_iff_iff.2; simp only [decide_eq_true_eq, beq_iff_eq, bne_iff_ne, ne_eq, wI_T, data_T, ino_T, vN_T, nmE_T, Bool.not_eq_true', wI_F, data_F, ino_F, vN_F, nmE_F, decide_eq_false_iff_not]; omega)) (by repeat (first | exact Sub.nil | refine Sub.cons rfl ?_))
         ·try simp only [vN_T, vN_F, nmE_T, nmE_F, wI_T, wI_F, data_T, data_F, ino_T, ino_F, notT, notF, bneT, bneF, beqT, beqF, decT, decF] at h11
          refine At.no rfl rfl rfl rfl (At.no rfl rfl rfl rfl (At.no rfl rfl rfl rfl (tV (Val.pickF rfl rfl) rfl (At.nil ?_))))
          exact At.boolEnd rfl (by first | rfl | exact (decide_eq_true (by omega)).symm | exact (decide_eq_false (by omega)).symm | (apply Bool.eq_iff_iff.2; simp only [decide_eq_true_eq, beq_iff_eq, bne_iff_ne, ne_eq, wI_T, data_T, ino_T, vN_T, nmE_T, Bool.not_eq_true', wI_F, data_F, ino_F, vN_F, nmE_F, decide_eq_false_iff_not]; omega)) (by repeat (first | exact Sub.nil | refine Sub.cons rfl ?_))
        ·try simp only [vN_T, vN_F, nmE_T, nmE_F, wI_T, wI_F, data_T, data_F, ino_T, ino_F, notT, notF, bneT, bneF, beqT, beqF, decT, decF] at h10
         refine At.no rfl rfl rfl rfl (tV (Val.pickF rfl rfl) rfl (tM rfl rfl (At.no rfl rfl rfl rfl (At.no rfl rfl rfl rfl (At.no rfl rfl rfl rfl (tV (Val.pickF rfl rfl) rfl (At.nil ?_)))))))
         exact At.boolEnd rfl (by first | rfl | exact (decide_eq_true (by omega)).symm | exact (decide_eq_false (by omega)).symm | (apply Bool.eq_iff_iff.2; simp only [decide_eq_true_eq, beq_iff_eq, bne_iff_ne, ne_eq, wI_T, data_T, ino_T, vN_T, nmE_T, Bool.not_eq_true', wI_F, data_F, ino_F, vN_F, nmE_F, decide_eq_false_iff_not]; omega)) (by repeat (first | exact Sub.nil | refine Sub.cons rfl ?_))
       ·try simp only [vN_T, vN_F, nmE_T, nmE_F, wI_T, wI_F, data_T, data_F, ino_T, ino_F, notT, notF, bneT, bneF, beqT, beqF, decT, decF] at h9
        refine At.no rfl rfl rfl rfl (tV (Val.pickF rfl rfl) rfl (tM rfl rfl (At.no rfl rfl rfl rfl (tV (Val.pickF rfl rfl) rfl (tM rfl rfl (At.no rfl rfl rfl rfl (At.no rfl rfl rfl rfl (At.no rfl rfl rfl rfl (tV (Val.pickF rfl rfl) rfl (At.nil ?_))))))))))
        exact At.boolEnd rfl (by first | rfl | exact (decide_eq_true (by omega)).symm | exact (decide_eq_false (by omega)).symm | (apply Bool.eq_iff_iff.2; simp only [decide_eq_true_eq, beq_iff_eq, bne_iff_ne, ne_eq, wI_T, data_T, ino_T, vN_T, nmE_T, Bool.not_eq_true', wI_F, data_F, ino_F, vN_F, nmE_F, decide_eq_false_iff_not]; omega)) (by repeat (first | exact Sub.nil | refine Sub.cons rfl ?_))
      ·simp only [List.drop_succ_cons, List.drop_zero]
       refine tA rfl rfl (tE (At.retC (At.blkR (At.thenR (At.ret1 (.inl rfl) rfl rfl rfl (fun w hw => ?_))))))
       exact ⟨retB (by first | exact (decide_eq_false (by unfold GoodE; omega)).symm | (apply Bool.eq_iff_iff.2; simp only [decide_eq_true_eq]; unfold GoodE; omega)), hw.mod⟩
    ·try simp only [vN_T, vN_F, nmE_T, nmE_F, wI_T, wI_F, data_T, data_F, ino_T, ino_F, notT, notF, bneT, bneF, beqT, beqF, decT, decF] at h6
     refine tR (tV (Val.bin rfl rfl rfl) rfl (tA rfl rfl (tE ?_)))
     refine At.cond rfl (fun h12 => ?_) (fun h12 => ?_)
     ·try simp only [vN_T, vN_F, nmE_T, nmE_F, wI_T, wI_F, data_T, data_F, ino_T, ino_F, notT, notF, bneT, bneF, beqT, beqF, decT, decF] at h12
      refine tR (At.weaken [(0, _), (1, _), (2, _), (14, _), (17, _), (30, _), (3, _), (4, _), (31, _), (32, _), (33, _), (5, _), (34, _), (35, _), (37, _), (36, _), (70, _), (69, _)] (Sub.cons rfl (Sub.cons rfl (Sub.cons rfl (Sub.cons rfl (Sub.cons rfl (Sub.cons rfl (Sub.cons rfl (Sub.cons rfl (Sub.cons rfl (Sub.cons rfl (Sub.cons rfl (Sub.cons rfl (Sub.cons rfl (Sub.cons rfl (Sub.cons rfl (Sub.cons rfl (Sub.cons rfl (Sub.cons rfl Sub.nil)))))))))))))))))) ?_)
      refine At.boolMeet 12 82 (decide ((o = 0 ∧ c = 0 ∧ p = 0) ∧ (0 ≤ z ∧ z ≤ 262144) ∧ s.size = 0 ∧ i = 0)) ?_ ?_
      ·simp only [List.take_succ_cons, List.take_zero]
       refine tM rfl rfl (tM rfl rfl ?_)
       refine At.split (t := 72) rfl (fun h13 => ?_) (fun h13 => ?_)
       ·try simp only [vN_T, vN_F, nmE_T, nmE_F, wI_T, wI_F, data_T, data_F, ino_T, ino_F, notT, notF, bneT, bneF, beqT, beqF, decT, decF] at h13
        refine At.yes rfl rfl (tM rfl rfl (tV (Val.pickT rfl rfl) rfl (tM rfl rfl ?_)))
        refine At.split (t := 75) rfl (fun h14 => ?_) (fun h14 => ?_)
        ·try simp only [vN_T, vN_F, nmE_T, nmE_F, wI_T, wI_F, data_T, data_F, ino_T, ino_F, notT, notF, bneT, bneF, beqT, beqF, decT, decF] at h14
         refine At.yes rfl rfl (tM rfl rfl (tV (Val.pickT rfl rfl) rfl (tM rfl rfl ?_)))
         refine At.split (t := 78) rfl (fun h15 => ?_) (fun h15 => ?_)
         ·try simp only [vN_T, vN_F, nmE_T, nmE_F, wI_T, wI_F, data_T, data_F, ino_T, ino_F, notT, notF, bneT, bneF, beqT, beqF, decT, decF] at h15
          refine At.yes rfl rfl (tV (Val.field 6 rfl fo_37_6 rfl) rfl (At.yes rfl rfl (tV (Val.load (i := 0) Tryz.isAgg3 rfl rfl rfl) rfl (At.yes rfl rfl (tV (Val.bin rfl rfl rfl) rfl (tV (Val.pickT rfl rfl) rfl (At.nil ?_)))))))
          exact At.boolEnd rfl (by first | rfl | exact (decide_eq_true (by omega)).symm | exact (decide_eq_false (by omega)).symm | (apply Bool.eq_iff_iff.2; simp only [decide_eq_true_eq, beq_iff_eq, bne_iff_ne, ne_eq, wI_T, data_T, ino_T, vN_T, nmE_T, Bool.not_eq_true', wI_F, data_F, ino_F, vN_F, nmE_F, decide_eq_false_iff_not]; omega)) (by repeat (first | exact Sub.nil | refine Sub.cons rfl ?_))
         ·try simp only [vN_T, vN_F, nmE_T, nmE_F, wI_T, wI_F, data_T, data_F, ino_T, ino_F, notT, notF, bneT, bneF, beqT, beqF, decT, decF] at h15
          refine At.no rfl rfl rfl rfl (At.no rfl rfl rfl rfl (At.no rfl rfl rfl rfl (tV (Val.pickF rfl rfl) rfl (At.nil ?_))))
          exact At.boolEnd rfl (by first | rfl | exact (decide_eq_true (by omega)).symm | exact (decide_eq_false (by omega)).symm | (apply Bool.eq_iff_iff.2; simp only [decide_eq_true_eq, beq_iff_eq, bne_iff_ne, ne_eq, wI_T, data_T, ino_T, vN_T, nmE_T, Bool.not_eq_true', wI_F, data_F, ino_F, vN_F, nmE_F, decide_eq_false_iff_not]; omega)) (by repeat (first | exact Sub.nil | refine Sub.cons rfl ?_))
        ·try simp only [vN_T, vN_F, nmE_T, nmE_F, wI_T, wI_F, data_T, data_F, ino_T, ino_F, notT, notF, bneT, bneF, beqT, beqF, decT, decF] at h14
         refine At.no rfl rfl rfl rfl (tV (Val.pickF rfl rfl) rfl (tM rfl rfl (At.no rfl rfl rfl rfl (At.no rfl rfl rfl rfl (At.no rfl rfl rfl rfl (tV (Val.pickF rfl rfl) rfl (At.nil ?_)))))))
         exact At.boolEnd rfl (by first | rfl | exact (decide_eq_true (by omega)).symm | exact (decide_eq_false (by omega)).symm | (apply Bool.eq_iff_iff.2; simp only [decide_eq_true_eq, beq_iff_eq, bne_iff_ne, ne_eq, wI_T, data_T, ino_T, vN_T, nmE_T, Bool.not_eq_true', wI_F, data_F, ino_F, vN_F, nmE_F, decide_eq_false_iff_not]; omega)) (by repeat (first | exact Sub.nil | refine Sub.cons rfl ?_))
       ·try simp only [vN_T, vN_F, nmE_T, nmE_F, wI_T, wI_F, data_T, data_F, ino_T, ino_F, notT, notF, bneT, bneF, beqT, beqF, decT, decF] at h13
        refine At.no rfl rfl rfl rfl (tV (Val.pickF rfl rfl) rfl (tM rfl rfl (At.no rfl rfl rfl rfl (tV (Val.pickF rfl rfl) rfl (tM rfl rfl (At.no rfl rfl rfl rfl (At.no rfl rfl rfl rfl (At.no rfl rfl rfl rfl (tV (Val.pickF rfl rfl) rfl (At.nil ?_))))))))))
        exact At.boolEnd rfl (by first | rfl | exact (decide_eq_true (by omega)).symm | exact (decide_eq_false (by omega)).symm | (apply Bool.eq_iff_iff.2; simp only [decide_eq_true_eq, beq_iff_eq, bne_iff_ne, ne_eq, wI_T, data_T, ino_T, vN_T, nmE_T, Bool.not_eq_true', wI_F, data_F, ino_F, vN_F, nmE_F, decide_eq_false_iff_not]; omega)) (by repeat (first | exact Sub.nil | refine Sub.cons rfl ?_))
      ·simp only [List.drop_succ_cons, List.drop_zero]
       refine tA rfl rfl (tE (At.retC (At.blkR (At.thenR (At.ret1 (.inl rfl) rfl rfl rfl (fun w hw => ?_))))))
       exact ⟨retB (by first | exact (decide_eq_false (by unfold GoodE; omega)).symm | (apply Bool.eq_iff_iff.2; simp only [decide_eq_true_eq]; unfold GoodE; omega)), hw.mod⟩
     ·try simp only [vN_T, vN_F, nmE_T, nmE_F, wI_T, wI_F, data_T, data_F, ino_T, ino_F, notT, notF, bneT, bneF, beqT, beqF, decT, decF] at h12
      refine tR (tV (Val.bin rfl rfl rfl) rfl (tA rfl rfl (tE ?_)))
      refine At.cond rfl (fun h16 => ?_) (fun h16 => ?_)
      ·try simp only [vN_T, vN_F, nmE_T, nmE_F, wI_T, wI_F, data_T, data_F, ino_T, ino_F, notT, notF, bneT, bneF, beqT, beqF, decT, decF] at h16
       refine tR (At.weaken [(0, _), (1, _), (2, _), (14, _), (17, _), (30, _), (3, _), (4, _), (31, _), (32, _), (33, _), (5, _), (34, _), (35, _), (37, _), (36, _), (70, _), (69, _), (84, _), (83, _)] (Sub.cons rfl (Sub.cons rfl (Sub.cons rfl (Sub.cons rfl (Sub.cons rfl (Sub.cons rfl (Sub.cons rfl (Sub.cons rfl (Sub.cons rfl (Sub.cons rfl (Sub.cons rfl (Sub.cons rfl (Sub.cons rfl (Sub.cons rfl (Sub.cons rfl (Sub.cons rfl (Sub.cons rfl (Sub.cons rfl (Sub.cons rfl (Sub.cons rfl Sub.nil)))))))))))))))))))) ?_)
       refine At.boolMeet 16 100 (decide ((o = 0 ∧ c = 0 ∧ p = 0) ∧ z = 0 ∧ (2 ≤ i ∧ i ≤ 256) ∧ vN s = 1)) ?_ ?_
       ·simp only [List.take_succ_cons, List.take_zero]
        refine tM rfl rfl (tM rfl rfl ?_)
        refine At.split (t := 86) rfl (fun h17 => ?_) (fun h17 => ?_)
        ·try simp only [vN_T, vN_F, nmE_T, nmE_F, wI_T, wI_F, data_T, data_F, ino_T, ino_F, notT, notF, bneT, bneF, beqT, beqF, decT, decF] at h17
         refine At.yes rfl rfl (tV (Val.field 5 rfl fo_37_5 rfl) rfl (At.yes rfl rfl (tV (Val.load (i := 0) Tryz.isAgg3 rfl rfl rfl) rfl (At.yes rfl rfl (tV (Val.bin rfl rfl rfl) rfl (tV (Val.pickT rfl rfl) rfl (tM rfl rfl ?_)))))))
         refine At.split (t := 91) rfl (fun h18 => ?_) (fun h18 => ?_)
         ·try simp only [vN_T, vN_F, nmE_T, nmE_F, wI_T, wI_F, data_T, data_F, ino_T, ino_F, notT, notF, bneT, bneF, beqT, beqF, decT, decF] at h18
          refine At.yes rfl rfl (tV (Val.field 6 rfl fo_37_6 rfl) rfl (At.yes rfl rfl (tV (Val.load (i := 0) Tryz.isAgg3 rfl rfl rfl) rfl (At.yes rfl rfl (At.callP (fun w hw => within_p _ _ _ w) Tryz.call51 rfl rfl (tV (Val.pickT rfl rfl) rfl (tM rfl rfl ?_)))))))
          refine At.split (t := 96) rfl (fun h19 => ?_) (fun h19 => ?_)
          ·try simp only [vN_T, vN_F, nmE_T, nmE_F, wI_T, wI_F, data_T, data_F, ino_T, ino_F, notT, notF, bneT, bneF, beqT, beqF, decT, decF] at h19
           refine At.yes rfl rfl (tV (Val.field 7 rfl fo_37_7 rfl) rfl (At.yes rfl rfl (tV (Val.load (i := 0) Tryz.isAgg9 rfl rfl rfl) rfl (At.yes rfl rfl (At.callP (fun w hw => validI_p _ w hlen) Tryz.call39 rfl rfl (tV (Val.pickT rfl rfl) rfl (At.nil ?_)))))))
           exact At.boolEnd rfl (by first | rfl | exact (decide_eq_true (by omega)).symm | exact (decide_eq_false (by omega)).symm | (apply Bool.eq_iff_iff.2; simp only [decide_eq_true_eq, beq_iff_eq, bne_iff_ne, ne_eq, wI_T, data_T, ino_T, vN_T, nmE_T, Bool.not_eq_true', wI_F, data_F, ino_F, vN_F, nmE_F, decide_eq_false_iff_not]; omega)) (by repeat (first | exact Sub.nil | refine Sub.cons rfl ?_))
          ·try simp only [vN_T, vN_F, nmE_T, nmE_F, wI_T, wI_F, data_T, data_F, ino_T, ino_F, notT, notF, bneT, bneF, beqT, beqF, decT, decF] at h19
           refine At.no rfl rfl rfl rfl (At.no rfl rfl rfl rfl (At.no rfl rfl rfl rfl (tV (Val.pickF rfl rfl) rfl (At.nil ?_))))
           exact At.boolEnd rfl (by first | rfl | exact (decide_eq_true (by omega)).symm | exact (decide_eq_false (by omega)).symm | (apply Bool.eq_iff_iff.2; simp only [decide_eq_true_eq, beq_iff_eq, bne_iff_ne, ne_eq, wI_T, data_T, ino_T, vN_T, nmE_T, Bool.not_eq_true', wI_F, data_F, ino_F, vN_F, nmE_F, decide_eq_false_iff_not]; omega)) (by repeat (first | exact Sub.nil | refine Sub.cons rfl ?_))
         ·try simp only [vN_T, vN_F, nmE_T, nmE_F, wI_T, wI_F, data_T, data_F, ino_T, ino_F, notT, notF, bneT, bneF, beqT, beqF, decT, decF] at h18
          refine At.no rfl rfl rfl rfl (At.no rfl rfl rfl rfl (At.no rfl rfl rfl rfl (tV (Val.pickF rfl rfl) rfl (tM rfl rfl (At.no rfl rfl rfl rfl (At.no rfl rfl rfl rfl (At.no rfl rfl rfl rfl (tV (Val.pickF rfl rfl) rfl (At.nil ?_)))))))))
          exact At.boolEnd rfl (by first | rfl | exact (decide_eq_true (by omega)).symm | exact (decide_eq_false (by omega)).symm | (apply Bool.eq_iff_iff.2; simp only [decide_eq_true_eq, beq_iff_eq, bne_iff_ne, ne_eq, wI_T, data_T, ino_T, vN_T, nmE_T, Bool.not_eq_true', wI_F, data_F, ino_F, vN_F, nmE_F, decide_eq_false_iff_not]; omega)) (by repeat (first | exact Sub.nil | refine Sub.cons rfl ?_))
        ·try simp only [vN_T, vN_F, nmE_T, nmE_F, wI_T, wI_F, data_T, data_F, ino_T, ino_F, notT, notF, bneT, bneF, beqT, beqF, decT, decF] at h17
         refine At.no rfl rfl rfl rfl (At.no rfl rfl rfl rfl (At.no rfl rfl rfl rfl (tV (Val.pickF rfl rfl) rfl (tM rfl rfl (At.no rfl rfl rfl rfl (At.no rfl rfl rfl rfl (At.no rfl rfl rfl rfl (tV (Val.pickF rfl rfl) rfl (tM rfl rfl (At.no rfl rfl rfl rfl (At.no rfl rfl rfl rfl (At.no rfl rfl rfl rfl (tV (Val.pickF rfl rfl) rfl (At.nil ?_))))))))))))))
         exact At.boolEnd rfl (by first | rfl | exact (decide_eq_true (by omega)).symm | exact (decide_eq_false (by omega)).symm | (apply Bool.eq_iff_iff.2; simp only [decide_eq_true_eq, beq_iff_eq, bne_iff_ne, ne_eq, wI_T, data_T, ino_T, vN_T, nmE_T, Bool.not_eq_true', wI_F, data_F, ino_F, vN_F, nmE_F, decide_eq_false_iff_not]; omega)) (by repeat (first | exact Sub.nil | refine Sub.cons rfl ?_))
       ·simp only [List.drop_succ_cons, List.drop_zero]
        refine tA rfl rfl (tE (At.retC (At.blkR (At.thenR (At.ret1 (.inl rfl) rfl rfl rfl (fun w hw => ?_))))))
        exact ⟨retB (by first | exact (decide_eq_false (by unfold GoodE; omega)).symm | (apply Bool.eq_iff_iff.2; simp only [decide_eq_true_eq]; unfold GoodE; omega)), hw.mod⟩
      ·try simp only [vN_T, vN_F, nmE_T, nmE_F, wI_T, wI_F, data_T, data_F, ino_T, ino_F, notT, notF, bneT, bneF, beqT, beqF, decT, decF] at h16
       refine tR (tV (Val.bin rfl rfl rfl) rfl (tA rfl rfl (tE ?_)))
       refine At.cond rfl (fun h20 => ?_) (fun h20 => ?_)
       ·try simp only [vN_T, vN_F, nmE_T, nmE_F, wI_T, wI_F, data_T, data_F, ino_T, ino_F, notT, notF, bneT, bneF, beqT, beqF, decT, decF] at h20
        refine tR (At.weaken [(0, _), (1, _), (2, _), (14, _), (17, _), (30, _), (3, _), (4, _), (31, _), (32, _), (33, _), (5, _), (34, _), (35, _), (37, _), (36, _), (70, _), (69, _), (84, _), (83, _), (102, _), (101, _)] (Sub.cons rfl (Sub.cons rfl (Sub.cons rfl (Sub.cons rfl (Sub.cons rfl (Sub.cons rfl (Sub.cons rfl (Sub.cons rfl (Sub.cons rfl (Sub.cons rfl (Sub.cons rfl (Sub.cons rfl (Sub.cons rfl (Sub.cons rfl (Sub.cons rfl (Sub.cons rfl (Sub.cons rfl (Sub.cons rfl (Sub.cons rfl (Sub.cons rfl (Sub.cons rfl (Sub.cons rfl Sub.nil)))))))))))))))))))))) ?_)
        refine At.boolMeet 16 118 (decide ((o = 0 ∧ c = 0 ∧ p = 0) ∧ z = 0 ∧ i = 0 ∧ vN s = 1)) ?_ ?_
        ·simp only [List.take_succ_cons, List.take_zero]
         refine tM rfl rfl (tM rfl rfl ?_)
         refine At.split (t := 104) rfl (fun h21 => ?_) (fun h21 => ?_)
         ·try simp only [vN_T, vN_F, nmE_T, nmE_F, wI_T, wI_F, data_T, data_F, ino_T, ino_F, notT, notF, bneT, bneF, beqT, beqF, decT, decF] at h21
          refine At.yes rfl rfl (tV (Val.field 5 rfl fo_37_5 rfl) rfl (At.yes rfl rfl (tV (Val.load (i := 0) Tryz.isAgg3 rfl rfl rfl) rfl (At.yes rfl rfl (tV (Val.bin rfl rfl rfl) rfl (tV (Val.pickT rfl rfl) rfl (tM rfl rfl ?_)))))))
          refine At.split (t := 109) rfl (fun h22 => ?_) (fun h22 => ?_)
          ·try simp only [vN_T, vN_F, nmE_T, nmE_F, wI_T, wI_F, data_T, data_F, ino_T, ino_F, notT, notF, bneT, bneF, beqT, beqF, decT, decF] at h22
           refine At.yes rfl rfl (tV (Val.field 6 rfl fo_37_6 rfl) rfl (At.yes rfl rfl (tV (Val.load (i := 0) Tryz.isAgg3 rfl rfl rfl) rfl (At.yes rfl rfl (tV (Val.bin rfl rfl rfl) rfl (tV (Val.pickT rfl rfl) rfl (tM rfl rfl ?_)))))))
           refine At.split (t := 114) rfl (fun h23 => ?_) (fun h23 => ?_)
           ·try simp only [vN_T, vN_F, nmE_T, nmE_F, wI_T, wI_F, data_T, data_F, ino_T, ino_F, notT, notF, bneT, bneF, beqT, beqF, decT, decF] at h23
            refine At.yes rfl rfl (tV (Val.field 7 rfl fo_37_7 rfl) rfl (At.yes rfl rfl (tV (Val.load (i := 0) Tryz.isAgg9 rfl rfl rfl) rfl (At.yes rfl rfl (At.callP (fun w hw => validI_p _ w hlen) Tryz.call39 rfl rfl (tV (Val.pickT rfl rfl) rfl (At.nil ?_)))))))
            exact At.boolEnd rfl (by first | rfl | exact (decide_eq_true (by omega)).symm | exact (decide_eq_false (by omega)).symm | (apply Bool.eq_iff_iff.2; simp only [decide_eq_true_eq, beq_iff_eq, bne_iff_ne, ne_eq, wI_T, data_T, ino_T, vN_T, nmE_T, Bool.not_eq_true', wI_F, data_F, ino_F, vN_F, nmE_F, decide_eq_false_iff_not]; omega)) (by repeat (first | exact Sub.nil | refine Sub.cons rfl ?_))
           ·try simp only [vN_T, vN_F, nmE_T, nmE_F, wI_T, wI_F, data_T, data_F, ino_T, ino_F, notT, notF, bneT, bneF, beqT, beqF, decT, decF] at h23
            refine At.no rfl rfl rfl rfl (At.no rfl rfl rfl rfl (At.no rfl rfl rfl rfl (tV (Val.pickF rfl rfl) rfl (At.nil ?_))))
            exact At.boolEnd rfl (by first | rfl | exact (decide_eq_true (by omega)).symm | exact (decide_eq_false (by omega)).symm | (apply Bool.eq_iff_iff.2; simp only [decide_eq_true_eq, beq_iff_eq, bne_iff_ne, ne_eq, wI_T, data_T, ino_T, vN_T, nmE_T, Bool.not_eq_true', wI_F, data_F, ino_F, vN_F, nmE_F, decide_eq_false_iff_not]; omega)) (by repeat (first | exact Sub.nil | refine Sub.cons rfl ?_))
          ·try simp only [vN_T, vN_F, nmE_T, nmE_F, wI_T, wI_F, data_T, data_F, ino_T, ino_F, notT, notF, bneT, bneF, beqT, beqF, decT, decF] at h22
           refine At.no rfl rfl rfl rfl (At.no rfl rfl rfl rfl (At.no rfl rfl rfl rfl (tV (Val.pickF rfl rfl) rfl (tM rfl rfl (At.no rfl rfl rfl rfl (At.no rfl rfl rfl rfl (At.no rfl rfl rfl rfl (tV (Val.pickF rfl rfl) rfl (At.nil ?_)))))))))
           exact At.boolEnd rfl (by first | rfl | exact (decide_eq_true (by omega)).symm | exact (decide_eq_false (by omega)).symm | (apply Bool.eq_iff_iff.2; simp only [decide_eq_true_eq, beq_iff_eq, bne_iff_ne, ne_eq, wI_T, data_T, ino_T, vN_T, nmE_T, Bool.not_eq_true', wI_F, data_F, ino_F, vN_F, nmE_F, decide_eq_false_iff_not]; omega)) (by repeat (first | exact Sub.nil | refine Sub.cons rfl ?_))
         ·try simp only [vN_T, vN_F, nmE_T, nmE_F, wI_T, wI_F, data_T, data_F, ino_T, ino_F, notT, notF, bneT, bneF, beqT, beqF, decT, decF] at h21
          refine At.no rfl rfl rfl rfl (At.no rfl rfl rfl rfl (At.no rfl rfl rfl rfl (tV (Val.pickF rfl rfl) rfl (tM rfl rfl (At.no rfl rfl rfl rfl (At.no rfl rfl rfl rfl (At.no rfl rfl rfl rfl (tV (Val.pickF rfl rfl) rfl (tM rfl rfl (At.no rfl rfl rfl rfl (At.no rfl rfl rfl rfl (At.no rfl rfl rfl rfl (tV (Val.pickF rfl rfl) rfl (At.nil ?_))))))))))))))
          exact At.boolEnd rfl (by first | rfl | exact (decide_eq_true (by omega)).symm | exact (decide_eq_false (by omega)).symm | (apply Bool.eq_iff_iff.2; simp only [decide_eq_true_eq, beq_iff_eq, bne_iff_ne, ne_eq, wI_T, data_T, ino_T, vN_T, nmE_T, Bool.not_eq_true', wI_F, data_F, ino_F, vN_F, nmE_F, decide_eq_false_iff_not]; omega)) (by repeat (first | exact Sub.nil | refine Sub.cons rfl ?_))
        ·simp only [List.drop_succ_cons, List.drop_zero]
         refine tA rfl rfl (tE (At.retC (At.blkR (At.thenR (At.ret1 (.inl rfl) rfl rfl rfl (fun w hw => ?_))))))
         exact ⟨retB (by first | exact (decide_eq_false (by unfold GoodE; omega)).symm | (apply Bool.eq_iff_iff.2; simp only [decide_eq_true_eq]; unfold GoodE; omega)), hw.mod⟩
       ·try simp only [vN_T, vN_F, nmE_T, nmE_F, wI_T, wI_F, data_T, data_F, ino_T, ino_F, notT, notF, bneT, bneF, beqT, beqF, decT, decF] at h20
        refine At.skipC (At.blkN (At.thenN (tR (tA rfl rfl (tE (At.retC (At.ret1 (.inl rfl) rfl rfl rfl (fun w hw => ?_))))))))
        exact ⟨retB (by first | exact (decide_eq_false (by unfold GoodE; omega)).symm | (apply Bool.eq_iff_iff.2; simp only [decide_eq_true_eq]; unfold GoodE; omega)), hw.mod⟩
theorem plainR_p (k q o c p z i : Int) (s : ByteArray) (w : World) :
    PureC Tryz.prog 103 [.agg #[.int .i64 k, .int .u64 q, .int .i64 o, .int .i64 c, .int .i64 p, .int .i64 z, .int .i64 i, .string s]] (.agg #[.int .i64 k, .int .u64 q, .int .i64 0, .int .i64 0, .int .i64 0, .int .i64 0, .int .i64 0, .string ⟨#[]⟩]) w := by
 refine enter0 Tryz.func103 rfl Tryz.ntmps103 rfl ?_
 simp only [envOf]
 refine tR (At.box rfl rfl rfl (fun b1 => (At.alloc Tryz.zeroValue37 rfl rfl (fun b2 => (tE (tR (tV (Val.field 0 rfl fo_37_0 rfl) rfl (tV (Val.load (i := 1) Tryz.isAgg3 rfl rfl rfl) rfl (tV (Val.field 1 rfl fo_37_1 rfl) rfl (tV (Val.load (i := 1) Tryz.isAgg34 rfl rfl rfl) rfl ?_))))))))))
 refine tV (Val.build (fun a ha => by simp only [List.map_toArray, List.map_cons, List.map_nil, ha.eval (x := (.tmp 4)) rfl, ha.eval (x := (.tmp 6)) rfl] <;> rfl) (bld_37_0_1 _ _ )) rfl (At.storeAll (i := 0) Tryz.sizeOf37 rfl rfl rfl (by simp [Value.oneCell']) rfl rfl ?_)
 simp only [sc0, scS]
 refine tE (At.retC (At.ret1 (.inl rfl) rfl rfl (ResOf.all (i := 0) Tryz.isAgg37 Tryz.sizeOf37 rfl rfl rfl) (fun w hw => ?_)))
 exact ⟨rfl, hw.mod⟩
theorem goodEntR_p (k q o c p z i : Int) (s : ByteArray) (w : World) (hlen : s.size ≤ 9223372036854775807) (hq : 0 ≤ q) (hpp : -9223372036854775808 ≤ p ∧ p ≤ 9223372036854775807) :
    PureC Tryz.prog 76 [.agg #[.int .i64 k, .int .u64 q, .int .i64 o, .int .i64 c, .int .i64 p, .int .i64 z, .int .i64 i, .string s]] (.bool (decide (GoodE k q o c p z i s))) w := by
 refine enter0 Tryz.func76 rfl Tryz.ntmps76 rfl ?_
 have hvn := vN_01 s
 simp only [envOf]
 refine tR (At.box rfl rfl rfl (fun b1 => (tA rfl rfl (tE (At.seq (tR (At.weaken [(0, _), (1, _), (2, _)] (Sub.cons rfl (Sub.cons rfl (Sub.cons rfl Sub.nil))) ?_)))))))
 refine At.boolMeet 8 11 (decide (q < 1 ∨ 4611686018427387904 < q)) ?_ ?_
 ·simp only [List.take_succ_cons, List.take_zero]
  refine tV (Val.field 1 rfl fo_37_1 rfl) rfl (tV (Val.load (i := 0) Tryz.isAgg34 rfl rfl rfl) rfl (tV (Val.bin rfl rfl rfl) rfl (tM rfl rfl ?_)))
  refine At.split (t := 7) rfl (fun h2 => ?_) (fun h2 => ?_)
  ·try simp only [vN_T, vN_F, nmE_T, nmE_F, wI_T, wI_F, data_T, data_F, ino_T, ino_F, notT, notF, bneT, bneF, beqT, beqF, decT, decF] at h2
   refine At.no rfl rfl rfl rfl (At.no rfl rfl rfl rfl (At.no rfl rfl rfl rfl (tV (Val.pickT rfl rfl) rfl (At.nil ?_))))
   exact At.boolEnd rfl (by first | rfl | exact (decide_eq_true (by omega)).symm | exact (decide_eq_false (by omega)).symm | (apply Bool.eq_iff_iff.2; simp only [decide_eq_true_eq, beq_iff_eq, bne_iff_ne, ne_eq, wI_T, data_T, ino_T, vN_T, nmE_T, Bool.not_eq_true', wI_F, data_F, ino_F, vN_F, nmE_F, decide_eq_false_iff_not]; omega)) (by repeat (first | exact Sub.nil | refine Sub.cons rfl ?_))
  ·try simp only [vN_T, vN_F, nmE_T, nmE_F, wI_T, wI_F, data_T, data_F, ino_T, ino_F, notT, notF, bneT, bneF, beqT, beqF, decT, decF] at h2
   refine At.yes rfl rfl (tV (Val.field 1 rfl fo_37_1 rfl) rfl (At.yes rfl rfl (tV (Val.load (i := 0) Tryz.isAgg34 rfl rfl rfl) rfl (At.yes rfl rfl (tV (Val.bin rfl rfl rfl) rfl (tV (Val.pickF rfl rfl) rfl (At.nil ?_)))))))
   exact At.boolEnd rfl (by first | rfl | exact (decide_eq_true (by omega)).symm | exact (decide_eq_false (by omega)).symm | (apply Bool.eq_iff_iff.2; simp only [decide_eq_true_eq, beq_iff_eq, bne_iff_ne, ne_eq, wI_T, data_T, ino_T, vN_T, nmE_T, Bool.not_eq_true', wI_F, data_F, ino_F, vN_F, nmE_F, decide_eq_false_iff_not]; omega)) (by repeat (first | exact Sub.nil | refine Sub.cons rfl ?_))
 ·simp only [List.drop_succ_cons, List.drop_zero]
  refine tE ?_
  refine At.cond rfl (fun h3 => ?_) (fun h3 => ?_)
  ·try simp only [vN_T, vN_F, nmE_T, nmE_F, wI_T, wI_F, data_T, data_F, ino_T, ino_F, notT, notF, bneT, bneF, beqT, beqF, decT, decF] at h3
   refine tR (tA rfl rfl (tE (At.retC (At.thenR (At.ret1 (.inl rfl) rfl rfl rfl (fun w hw => ?_))))))
   first | exact ⟨retB (decide_eq_false (by unfold GoodE; omega)).symm, hw.mod⟩ | exact ⟨retB (Bool.eq_iff_iff.2 (by simp only [Bool.and_eq_true, beq_iff_eq, nmE_T, nmE_T', nmE_eq, decide_eq_true_eq, and_true, true_and, beq_self_eq_true]; unfold GoodE; omega)), hw.mod⟩
  ·try simp only [vN_T, vN_F, nmE_T, nmE_F, wI_T, wI_F, data_T, data_F, ino_T, ino_F, notT, notF, bneT, bneF, beqT, beqF, decT, decF] at h3
   refine At.skipC (At.thenN (tR (tV (Val.loadAll (i := 0) Tryz.isAgg37 Tryz.sizeOf37 rfl rfl rfl) rfl (At.callP (fun w hw => plainR_p _ _ _ _ _ _ _ _ w) Tryz.call103 rfl rfl (At.alloc Tryz.zeroValue37 rfl rfl (fun b4 => (At.storeAll (i := 0) Tryz.sizeOf37 rfl rfl rfl (by simp [Value.oneCell']) rfl rfl ?_)))))))
   simp only [sc0, scS]
   refine tE (At.seq (tR (tV (Val.field 0 rfl fo_37_0 rfl) rfl (tV (Val.load (i := 1) Tryz.isAgg3 rfl rfl rfl) rfl (tE (At.block (tR (tV (Val.bin rfl rfl rfl) rfl (tA rfl rfl (tE ?_))))))))))
   refine At.cond rfl (fun h5 => ?_) (fun h5 => ?_)
   ·try simp only [vN_T, vN_F, nmE_T, nmE_F, wI_T, wI_F, data_T, data_F, ino_T, ino_F, notT, notF, bneT, bneF, beqT, beqF, decT, decF] at h5
    refine tR (tV (Val.field 2 rfl fo_37_2 rfl) rfl (tV (Val.load (i := 1) Tryz.isAgg3 rfl rfl rfl) rfl (tV (Val.field 2 rfl fo_37_2 rfl) rfl (At.store (i := 0) Tryz.sizeOf3 rfl rfl rfl rfl (by first | decide | simp) ?_))))
    simp only [sc0, scS]
    refine tE (tR (tV (Val.field 3 rfl fo_37_3 rfl) rfl (tV (Val.load (i := 1) Tryz.isAgg3 rfl rfl rfl) rfl (tV (Val.field 3 rfl fo_37_3 rfl) rfl (At.store (i := 0) Tryz.sizeOf3 rfl rfl rfl rfl (by first | decide | simp) ?_)))))
    simp only [sc0, scS]
    refine tE (tR (tV (Val.field 4 rfl fo_37_4 rfl) rfl (tV (Val.load (i := 1) Tryz.isAgg3 rfl rfl rfl) rfl (tV (Val.field 4 rfl fo_37_4 rfl) rfl (At.store (i := 0) Tryz.sizeOf3 rfl rfl rfl rfl (by first | decide | simp) ?_)))))
    simp only [sc0, scS]
    refine tE (tR (tV (Val.field 5 rfl fo_37_5 rfl) rfl (tV (Val.load (i := 1) Tryz.isAgg3 rfl rfl rfl) rfl (tV (Val.field 5 rfl fo_37_5 rfl) rfl (At.store (i := 0) Tryz.sizeOf3 rfl rfl rfl rfl (by first | decide | simp) ?_)))))
    simp only [sc0, scS]
    refine tE (At.seq (tR (At.weaken [(0, _), (1, _), (2, _), (11, _), (12, _), (13, _), (3, _), (14, _), (15, _), (17, _), (16, _), (18, _), (19, _), (20, _), (21, _), (22, _), (23, _), (24, _), (25, _), (26, _), (27, _), (28, _), (29, _)] (Sub.cons rfl (Sub.cons rfl (Sub.cons rfl (Sub.cons rfl (Sub.cons rfl (Sub.cons rfl (Sub.cons rfl (Sub.cons rfl (Sub.cons rfl (Sub.cons rfl (Sub.cons rfl (Sub.cons rfl (Sub.cons rfl (Sub.cons rfl (Sub.cons rfl (Sub.cons rfl (Sub.cons rfl (Sub.cons rfl (Sub.cons rfl (Sub.cons rfl (Sub.cons rfl (Sub.cons rfl (Sub.cons rfl Sub.nil))))))))))))))))))))))) ?_)))
    refine At.boolMeet 31 60 (decide (c < 1 ∨ 16 < c ∨ o < 0 ∨ 512 - c < o ∨ z < 0 ∨ 262144 < z)) ?_ ?_
    ·simp only [List.take_succ_cons, List.take_zero]
     refine tV (Val.field 3 rfl fo_37_3 rfl) rfl (tV (Val.load (i := 1) Tryz.isAgg3 rfl rfl rfl) rfl (tV (Val.bin rfl rfl rfl) rfl (tM rfl rfl ?_)))
     refine At.split (t := 33) rfl (fun h6 => ?_) (fun h6 => ?_)
     ·try simp only [vN_T, vN_F, nmE_T, nmE_F, wI_T, wI_F, data_T, data_F, ino_T, ino_F, notT, notF, bneT, bneF, beqT, beqF, decT, decF] at h6
      refine At.no rfl rfl rfl rfl (At.no rfl rfl rfl rfl (At.no rfl rfl rfl rfl (tV (Val.pickT rfl rfl) rfl (tM rfl rfl (At.no rfl rfl rfl rfl (At.no rfl rfl rfl rfl (At.no rfl rfl rfl rfl (tV (Val.pickT rfl rfl) rfl (tM rfl rfl (At.no rfl rfl rfl rfl (At.no rfl rfl rfl rfl (At.no rfl rfl rfl rfl (At.no rfl rfl rfl rfl (At.no rfl rfl rfl rfl (At.no rfl rfl rfl rfl (tV (Val.pickT rfl rfl) rfl (tM rfl rfl (At.no rfl rfl rfl rfl (At.no rfl rfl rfl rfl (At.no rfl rfl rfl rfl (tV (Val.pickT rfl rfl) rfl (tM rfl rfl (At.no rfl rfl rfl rfl (At.no rfl rfl rfl rfl (At.no rfl rfl rfl rfl (tV (Val.pickT rfl rfl) rfl (At.nil ?_)))))))))))))))))))))))))))
      exact At.boolEnd rfl (by first | rfl | exact (decide_eq_true (by omega)).symm | exact (decide_eq_false (by omega)).symm | (apply Bool.eq_iff_iff.2; simp only [decide_eq_true_eq, beq_iff_eq, bne_iff_ne, ne_eq, wI_T, data_T, ino_T, vN_T, nmE_T, Bool.not_eq_true', wI_F, data_F, ino_F, vN_F, nmE_F, decide_eq_false_iff_not]; omega)) (by repeat (first | exact Sub.nil | refine Sub.cons rfl ?_))
     ·try simp only [vN_T, vN_F, nmE_T, nmE_F, wI_T, wI_F, data_T, data_F, ino_T, ino_F, notT, notF, bneT, bneF, beqT, beqF, decT, decF] at h6
      refine At.yes rfl rfl (tV (Val.field 3 rfl fo_37_3 rfl) rfl (At.yes rfl rfl (tV (Val.load (i := 1) Tryz.isAgg3 rfl rfl rfl) rfl (At.yes rfl rfl (tV (Val.bin rfl rfl rfl) rfl (tV (Val.pickF rfl rfl) rfl (tM rfl rfl ?_)))))))
      refine At.split (t := 38) rfl (fun h7 => ?_) (fun h7 => ?_)
      ·try simp only [vN_T, vN_F, nmE_T, nmE_F, wI_T, wI_F, data_T, data_F, ino_T, ino_F, notT, notF, bneT, bneF, beqT, beqF, decT, decF] at h7
       refine At.no rfl rfl rfl rfl (At.no rfl rfl rfl rfl (At.no rfl rfl rfl rfl (tV (Val.pickT rfl rfl) rfl (tM rfl rfl (At.no rfl rfl rfl rfl (At.no rfl rfl rfl rfl (At.no rfl rfl rfl rfl (At.no rfl rfl rfl rfl (At.no rfl rfl rfl rfl (At.no rfl rfl rfl rfl (tV (Val.pickT rfl rfl) rfl (tM rfl rfl (At.no rfl rfl rfl rfl (At.no rfl rfl rfl rfl (At.no rfl rfl rfl rfl (tV (Val.pickT rfl rfl) rfl (tM rfl rfl (At.no rfl rfl rfl rfl (At.no rfl rfl rfl rfl (At.no rfl rfl rfl rfl (tV (Val.pickT rfl rfl) rfl (At.nil ?_))))))))))))))))))))))
       exact At.boolEnd rfl (by first | rfl | exact (decide_eq_true (by omega)).symm | exact (decide_eq_false (by omega)).symm | (apply Bool.eq_iff_iff.2; simp only [decide_eq_true_eq, beq_iff_eq, bne_iff_ne, ne_eq, wI_T, data_T, ino_T, vN_T, nmE_T, Bool.not_eq_true', wI_F, data_F, ino_F, vN_F, nmE_F, decide_eq_false_iff_not]; omega)) (by repeat (first | exact Sub.nil | refine Sub.cons rfl ?_))
      ·try simp only [vN_T, vN_F, nmE_T, nmE_F, wI_T, wI_F, data_T, data_F, ino_T, ino_F, notT, notF, bneT, bneF, beqT, beqF, decT, decF] at h7
       refine At.yes rfl rfl (tV (Val.field 2 rfl fo_37_2 rfl) rfl (At.yes rfl rfl (tV (Val.load (i := 1) Tryz.isAgg3 rfl rfl rfl) rfl (At.yes rfl rfl (tV (Val.bin rfl rfl rfl) rfl (tV (Val.pickF rfl rfl) rfl (tM rfl rfl ?_)))))))
       refine At.split (t := 43) rfl (fun h8 => ?_) (fun h8 => ?_)
       ·try simp only [vN_T, vN_F, nmE_T, nmE_F, wI_T, wI_F, data_T, data_F, ino_T, ino_F, notT, notF, bneT, bneF, beqT, beqF, decT, decF] at h8
        refine At.no rfl rfl rfl rfl (At.no rfl rfl rfl rfl (At.no rfl rfl rfl rfl (At.no rfl rfl rfl rfl (At.no rfl rfl rfl rfl (At.no rfl rfl rfl rfl (tV (Val.pickT rfl rfl) rfl (tM rfl rfl (At.no rfl rfl rfl rfl (At.no rfl rfl rfl rfl (At.no rfl rfl rfl rfl (tV (Val.pickT rfl rfl) rfl (tM rfl rfl (At.no rfl rfl rfl rfl (At.no rfl rfl rfl rfl (At.no rfl rfl rfl rfl (tV (Val.pickT rfl rfl) rfl (At.nil ?_)))))))))))))))))
        exact At.boolEnd rfl (by first | rfl | exact (decide_eq_true (by omega)).symm | exact (decide_eq_false (by omega)).symm | (apply Bool.eq_iff_iff.2; simp only [decide_eq_true_eq, beq_iff_eq, bne_iff_ne, ne_eq, wI_T, data_T, ino_T, vN_T, nmE_T, Bool.not_eq_true', wI_F, data_F, ino_F, vN_F, nmE_F, decide_eq_false_iff_not]; omega)) (by repeat (first | exact Sub.nil | refine Sub.cons rfl ?_))
       ·try simp only [vN_T, vN_F, nmE_T, nmE_F, wI_T, wI_F, data_T, data_F, ino_T, ino_F, notT, notF, bneT, bneF, beqT, beqF, decT, decF] at h8
        refine At.yes rfl rfl (tV (Val.field 2 rfl fo_37_2 rfl) rfl (At.yes rfl rfl (tV (Val.load (i := 1) Tryz.isAgg3 rfl rfl rfl) rfl (At.yes rfl rfl (tV (Val.field 3 rfl fo_37_3 rfl) rfl (At.yes rfl rfl (tV (Val.load (i := 1) Tryz.isAgg3 rfl rfl rfl) rfl (At.yes rfl rfl ?_))))))))
        first | refine tV (Val.subI rfl rfl (by omega) (by omega)) rfl ?_ | refine tV (Val.bin rfl rfl rfl) rfl ?_
        refine At.yes rfl rfl (tV (Val.bin rfl rfl rfl) rfl (tV (Val.pickF rfl rfl) rfl (tM rfl rfl ?_)))
        refine At.split (t := 51) rfl (fun h9 => ?_) (fun h9 => ?_)
        ·try simp only [vN_T, vN_F, nmE_T, nmE_F, wI_T, wI_F, data_T, data_F, ino_T, ino_F, notT, notF, bneT, bneF, beqT, beqF, decT, decF] at h9
         refine At.no rfl rfl rfl rfl (At.no rfl rfl rfl rfl (At.no rfl rfl rfl rfl (tV (Val.pickT rfl rfl) rfl (tM rfl rfl (At.no rfl rfl rfl rfl (At.no rfl rfl rfl rfl (At.no rfl rfl rfl rfl (tV (Val.pickT rfl rfl) rfl (At.nil ?_)))))))))
         exact At.boolEnd rfl (by first | rfl | exact (decide_eq_true (by omega)).symm | exact (decide_eq_false (by omega)).symm | (apply Bool.eq_iff_iff.2; simp only [decide_eq_true_eq, beq_iff_eq, bne_iff_ne, ne_eq, wI_T, data_T, ino_T, vN_T, nmE_T, Bool.not_eq_true', wI_F, data_F, ino_F, vN_F, nmE_F, decide_eq_false_iff_not]; omega)) (by repeat (first | exact Sub.nil | refine Sub.cons rfl ?_))
        ·try simp only [vN_T, vN_F, nmE_T, nmE_F, wI_T, wI_F, data_T, data_F, ino_T, ino_F, notT, notF, bneT, bneF, beqT, beqF, decT, decF] at h9
         refine At.yes rfl rfl (tV (Val.field 5 rfl fo_37_5 rfl) rfl (At.yes rfl rfl (tV (Val.load (i := 1) Tryz.isAgg3 rfl rfl rfl) rfl (At.yes rfl rfl (tV (Val.bin rfl rfl rfl) rfl (tV (Val.pickF rfl rfl) rfl (tM rfl rfl ?_)))))))
         refine At.split (t := 56) rfl (fun h10 => ?_) (fun h10 => ?_)
         ·try simp only [vN_T, vN_F, nmE_T, nmE_F, wI_T, wI_F, data_T, data_F, ino_T, ino_F, notT, notF, bneT, bneF, beqT, beqF, decT, decF] at h10
          refine At.no rfl rfl rfl rfl (At.no rfl rfl rfl rfl (At.no rfl rfl rfl rfl (tV (Val.pickT rfl rfl) rfl (At.nil ?_))))
          exact At.boolEnd rfl (by first | rfl | exact (decide_eq_true (by omega)).symm | exact (decide_eq_false (by omega)).symm | (apply Bool.eq_iff_iff.2; simp only [decide_eq_true_eq, beq_iff_eq, bne_iff_ne, ne_eq, wI_T, data_T, ino_T, vN_T, nmE_T, Bool.not_eq_true', wI_F, data_F, ino_F, vN_F, nmE_F, decide_eq_false_iff_not]; omega)) (by repeat (first | exact Sub.nil | refine Sub.cons rfl ?_))
         ·try simp only [vN_T, vN_F, nmE_T, nmE_F, wI_T, wI_F, data_T, data_F, ino_T, ino_F, notT, notF, bneT, bneF, beqT, beqF, decT, decF] at h10
          refine At.yes rfl rfl (tV (Val.field 5 rfl fo_37_5 rfl) rfl (At.yes rfl rfl (tV (Val.load (i := 1) Tryz.isAgg3 rfl rfl rfl) rfl (At.yes rfl rfl (tV (Val.bin rfl rfl rfl) rfl (tV (Val.pickF rfl rfl) rfl (At.nil ?_)))))))
          exact At.boolEnd rfl (by first | rfl | exact (decide_eq_true (by omega)).symm | exact (decide_eq_false (by omega)).symm | (apply Bool.eq_iff_iff.2; simp only [decide_eq_true_eq, beq_iff_eq, bne_iff_ne, ne_eq, wI_T, data_T, ino_T, vN_T, nmE_T, Bool.not_eq_true', wI_F, data_F, ino_F, vN_F, nmE_F, decide_eq_false_iff_not]; omega)) (by repeat (first | exact Sub.nil | refine Sub.cons rfl ?_))
    ·simp only [List.drop_succ_cons, List.drop_zero]
     refine tE ?_
     refine At.cond rfl (fun h11 => ?_) (fun h11 => ?_)
     ·try simp only [vN_T, vN_F, nmE_T, nmE_F, wI_T, wI_F, data_T, data_F, ino_T, ino_F, notT, notF, bneT, bneF, beqT, beqF, decT, decF] at h11
      refine tR (tA rfl rfl (tE (At.retC (At.thenR (At.blkR (At.thenR (At.ret1 (.inl rfl) rfl rfl rfl (fun w hw => ?_))))))))
      first | exact ⟨retB (decide_eq_false (by unfold GoodE; omega)).symm, hw.mod⟩ | exact ⟨retB (Bool.eq_iff_iff.2 (by simp only [Bool.and_eq_true, beq_iff_eq, nmE_T, nmE_T', nmE_eq, decide_eq_true_eq, and_true, true_and, beq_self_eq_true]; unfold GoodE; omega)), hw.mod⟩
     ·try simp only [vN_T, vN_F, nmE_T, nmE_F, wI_T, wI_F, data_T, data_F, ino_T, ino_F, notT, notF, bneT, bneF, beqT, beqF, decT, decF] at h11
      refine At.skipC (At.thenN (tR (At.weaken [(0, _), (1, _), (2, _), (11, _), (12, _), (13, _), (3, _), (14, _), (15, _), (17, _), (16, _), (18, _), (19, _), (20, _), (21, _), (22, _), (23, _), (24, _), (25, _), (26, _), (27, _), (28, _), (29, _), (60, _)] (Sub.cons rfl (Sub.cons rfl (Sub.cons rfl (Sub.cons rfl (Sub.cons rfl (Sub.cons rfl (Sub.cons rfl (Sub.cons rfl (Sub.cons rfl (Sub.cons rfl (Sub.cons rfl (Sub.cons rfl (Sub.cons rfl (Sub.cons rfl (Sub.cons rfl (Sub.cons rfl (Sub.cons rfl (Sub.cons rfl (Sub.cons rfl (Sub.cons rfl (Sub.cons rfl (Sub.cons rfl (Sub.cons rfl (Sub.cons rfl Sub.nil)))))))))))))))))))))))) ?_)))
      refine At.boolMeet 14 74 (decide (¬ (5 ≤ p ∧ p ≤ 1023) ∨ ¬ (5 ≤ p + c - 1 ∧ p + c - 1 ≤ 1023))) ?_ ?_
      ·simp only [List.take_succ_cons, List.take_zero]
       refine tV (Val.field 4 rfl fo_37_4 rfl) rfl (tV (Val.load (i := 1) Tryz.isAgg3 rfl rfl rfl) rfl (At.callP (fun w hw => dataR_p _ w) Tryz.call80 rfl rfl (tV (Val.not rfl) rfl (tM rfl rfl ?_))))
       refine At.split (t := 65) rfl (fun h12 => ?_) (fun h12 => ?_)
       ·try simp only [vN_T, vN_F, nmE_T, nmE_F, wI_T, wI_F, data_T, data_F, ino_T, ino_F, notT, notF, bneT, bneF, beqT, beqF, decT, decF] at h12
        refine At.no rfl rfl rfl rfl (At.no rfl rfl rfl rfl (At.no rfl rfl rfl rfl (At.no rfl rfl rfl rfl (At.no rfl rfl rfl rfl (At.no rfl rfl rfl rfl (At.no rfl rfl rfl rfl (At.no rfl rfl rfl rfl (tV (Val.pickT rfl rfl) rfl (At.nil ?_)))))))))
        exact At.boolEnd rfl (by first | rfl | exact (decide_eq_true (by omega)).symm | exact (decide_eq_false (by omega)).symm | (apply Bool.eq_iff_iff.2; simp only [decide_eq_true_eq, beq_iff_eq, bne_iff_ne, ne_eq, wI_T, data_T, ino_T, vN_T, nmE_T, Bool.not_eq_true', wI_F, data_F, ino_F, vN_F, nmE_F, decide_eq_false_iff_not]; omega)) (by repeat (first | exact Sub.nil | refine Sub.cons rfl ?_))
       ·try simp only [vN_T, vN_F, nmE_T, nmE_F, wI_T, wI_F, data_T, data_F, ino_T, ino_F, notT, notF, bneT, bneF, beqT, beqF, decT, decF] at h12
        refine At.yes rfl rfl (tV (Val.field 4 rfl fo_37_4 rfl) rfl (At.yes rfl rfl (tV (Val.load (i := 1) Tryz.isAgg3 rfl rfl rfl) rfl (At.yes rfl rfl (tV (Val.field 3 rfl fo_37_3 rfl) rfl (At.yes rfl rfl (tV (Val.load (i := 1) Tryz.isAgg3 rfl rfl rfl) rfl (At.yes rfl rfl ?_))))))))
        first | refine tV (Val.addI rfl rfl (by omega) (by omega)) rfl ?_ | refine tV (Val.bin rfl rfl rfl) rfl ?_
        refine At.yes rfl rfl ?_
        first | refine tV (Val.subI rfl rfl (by omega) (by omega)) rfl ?_ | refine tV (Val.bin rfl rfl rfl) rfl ?_
        refine At.yes rfl rfl (At.callP (fun w hw => dataR_p _ w) Tryz.call80 rfl rfl (At.yes rfl rfl (tV (Val.not rfl) rfl (tV (Val.pickF rfl rfl) rfl (At.nil ?_)))))
        exact At.boolEnd rfl (by first | rfl | exact (decide_eq_true (by omega)).symm | exact (decide_eq_false (by omega)).symm | (apply Bool.eq_iff_iff.2; simp only [decide_eq_true_eq, beq_iff_eq, bne_iff_ne, ne_eq, wI_T, data_T, ino_T, vN_T, nmE_T, Bool.not_eq_true', wI_F, data_F, ino_F, vN_F, nmE_F, decide_eq_false_iff_not]; omega)) (by repeat (first | exact Sub.nil | refine Sub.cons rfl ?_))
      ·simp only [List.drop_succ_cons, List.drop_zero]
       refine tE ?_
       refine At.cond rfl (fun h13 => ?_) (fun h13 => ?_)
       ·try simp only [vN_T, vN_F, nmE_T, nmE_F, wI_T, wI_F, data_T, data_F, ino_T, ino_F, notT, notF, bneT, bneF, beqT, beqF, decT, decF] at h13
        refine tR (tA rfl rfl (tE (At.retC (At.blkR (At.thenR (At.ret1 (.inl rfl) rfl rfl rfl (fun w hw => ?_)))))))
        first | exact ⟨retB (decide_eq_false (by unfold GoodE; omega)).symm, hw.mod⟩ | exact ⟨retB (Bool.eq_iff_iff.2 (by simp only [Bool.and_eq_true, beq_iff_eq, nmE_T, nmE_T', nmE_eq, decide_eq_true_eq, and_true, true_and, beq_self_eq_true]; unfold GoodE; omega)), hw.mod⟩
       ·try simp only [vN_T, vN_F, nmE_T, nmE_F, wI_T, wI_F, data_T, data_F, ino_T, ino_F, notT, notF, bneT, bneF, beqT, beqF, decT, decF] at h13
        refine At.skipC (At.blkN (At.thenN (tR (tV (Val.loadAll (i := 0) Tryz.isAgg37 Tryz.sizeOf37 rfl rfl rfl) rfl (tV (Val.loadAll (i := 1) Tryz.isAgg37 Tryz.sizeOf37 rfl rfl rfl) rfl (tV (Val.eqAgg Tryz.eqGuardType37 (fun w => eq_37 _ _ _ _ _ _ _ _ _ _ _ _ _ _ _ _ w) rfl rfl) rfl (tA rfl rfl (tE (At.retC (At.ret1 (.inl rfl) rfl rfl rfl (fun w hw => ?_)))))))))))
        first | exact ⟨retB (decide_eq_false (by unfold GoodE; omega)).symm, hw.mod⟩ | exact ⟨retB (Bool.eq_iff_iff.2 (by simp only [Bool.and_eq_true, beq_iff_eq, nmE_T, nmE_T', nmE_eq, decide_eq_true_eq, and_true, true_and, beq_self_eq_true]; unfold GoodE; omega)), hw.mod⟩
   ·try simp only [vN_T, vN_F, nmE_T, nmE_F, wI_T, wI_F, data_T, data_F, ino_T, ino_F, notT, notF, bneT, bneF, beqT, beqF, decT, decF] at h5
    refine tR (tV (Val.bin rfl rfl rfl) rfl (tA rfl rfl (tE ?_)))
    refine At.cond rfl (fun h14 => ?_) (fun h14 => ?_)
    ·try simp only [vN_T, vN_F, nmE_T, nmE_F, wI_T, wI_F, data_T, data_F, ino_T, ino_F, notT, notF, bneT, bneF, beqT, beqF, decT, decF] at h14
     refine tR (tV (Val.field 5 rfl fo_37_5 rfl) rfl (tV (Val.load (i := 1) Tryz.isAgg3 rfl rfl rfl) rfl (tV (Val.field 5 rfl fo_37_5 rfl) rfl (At.store (i := 0) Tryz.sizeOf3 rfl rfl rfl rfl (by first | decide | simp) ?_))))
     simp only [sc0, scS]
     refine tE (tR (At.weaken [(0, _), (1, _), (2, _), (11, _), (12, _), (13, _), (3, _), (14, _), (15, _), (17, _), (16, _), (76, _), (75, _), (77, _), (78, _), (79, _)] (Sub.cons rfl (Sub.cons rfl (Sub.cons rfl (Sub.cons rfl (Sub.cons rfl (Sub.cons rfl (Sub.cons rfl (Sub.cons rfl (Sub.cons rfl (Sub.cons rfl (Sub.cons rfl (Sub.cons rfl (Sub.cons rfl (Sub.cons rfl (Sub.cons rfl (Sub.cons rfl Sub.nil)))))))))))))))) ?_))
     refine At.boolMeet 8 87 (decide (z < 0 ∨ 262144 < z)) ?_ ?_
     ·simp only [List.take_succ_cons, List.take_zero]
      refine tV (Val.field 5 rfl fo_37_5 rfl) rfl (tV (Val.load (i := 1) Tryz.isAgg3 rfl rfl rfl) rfl (tV (Val.bin rfl rfl rfl) rfl (tM rfl rfl ?_)))
      refine At.split (t := 83) rfl (fun h15 => ?_) (fun h15 => ?_)
      ·try simp only [vN_T, vN_F, nmE_T, nmE_F, wI_T, wI_F, data_T, data_F, ino_T, ino_F, notT, notF, bneT, bneF, beqT, beqF, decT, decF] at h15
       refine At.no rfl rfl rfl rfl (At.no rfl rfl rfl rfl (At.no rfl rfl rfl rfl (tV (Val.pickT rfl rfl) rfl (At.nil ?_))))
       exact At.boolEnd rfl (by first | rfl | exact (decide_eq_true (by omega)).symm | exact (decide_eq_false (by omega)).symm | (apply Bool.eq_iff_iff.2; simp only [decide_eq_true_eq, beq_iff_eq, bne_iff_ne, ne_eq, wI_T, data_T, ino_T, vN_T, nmE_T, Bool.not_eq_true', wI_F, data_F, ino_F, vN_F, nmE_F, decide_eq_false_iff_not]; omega)) (by repeat (first | exact Sub.nil | refine Sub.cons rfl ?_))
      ·try simp only [vN_T, vN_F, nmE_T, nmE_F, wI_T, wI_F, data_T, data_F, ino_T, ino_F, notT, notF, bneT, bneF, beqT, beqF, decT, decF] at h15
       refine At.yes rfl rfl (tV (Val.field 5 rfl fo_37_5 rfl) rfl (At.yes rfl rfl (tV (Val.load (i := 1) Tryz.isAgg3 rfl rfl rfl) rfl (At.yes rfl rfl (tV (Val.bin rfl rfl rfl) rfl (tV (Val.pickF rfl rfl) rfl (At.nil ?_)))))))
       exact At.boolEnd rfl (by first | rfl | exact (decide_eq_true (by omega)).symm | exact (decide_eq_false (by omega)).symm | (apply Bool.eq_iff_iff.2; simp only [decide_eq_true_eq, beq_iff_eq, bne_iff_ne, ne_eq, wI_T, data_T, ino_T, vN_T, nmE_T, Bool.not_eq_true', wI_F, data_F, ino_F, vN_F, nmE_F, decide_eq_false_iff_not]; omega)) (by repeat (first | exact Sub.nil | refine Sub.cons rfl ?_))
     ·simp only [List.drop_succ_cons, List.drop_zero]
      refine tE ?_
      refine At.cond rfl (fun h16 => ?_) (fun h16 => ?_)
      ·try simp only [vN_T, vN_F, nmE_T, nmE_F, wI_T, wI_F, data_T, data_F, ino_T, ino_F, notT, notF, bneT, bneF, beqT, beqF, decT, decF] at h16
       refine tR (tA rfl rfl (tE (At.retC (At.blkR (At.thenR (At.ret1 (.inl rfl) rfl rfl rfl (fun w hw => ?_)))))))
       first | exact ⟨retB (decide_eq_false (by unfold GoodE; omega)).symm, hw.mod⟩ | exact ⟨retB (Bool.eq_iff_iff.2 (by simp only [Bool.and_eq_true, beq_iff_eq, nmE_T, nmE_T', nmE_eq, decide_eq_true_eq, and_true, true_and, beq_self_eq_true]; unfold GoodE; omega)), hw.mod⟩
      ·try simp only [vN_T, vN_F, nmE_T, nmE_F, wI_T, wI_F, data_T, data_F, ino_T, ino_F, notT, notF, bneT, bneF, beqT, beqF, decT, decF] at h16
       refine At.skipC (At.blkN (At.thenN (tR (tV (Val.loadAll (i := 0) Tryz.isAgg37 Tryz.sizeOf37 rfl rfl rfl) rfl (tV (Val.loadAll (i := 1) Tryz.isAgg37 Tryz.sizeOf37 rfl rfl rfl) rfl (tV (Val.eqAgg Tryz.eqGuardType37 (fun w => eq_37 _ _ _ _ _ _ _ _ _ _ _ _ _ _ _ _ w) rfl rfl) rfl (tA rfl rfl (tE (At.retC (At.ret1 (.inl rfl) rfl rfl rfl (fun w hw => ?_)))))))))))
       first | exact ⟨retB (decide_eq_false (by unfold GoodE; omega)).symm, hw.mod⟩ | exact ⟨retB (Bool.eq_iff_iff.2 (by simp only [Bool.and_eq_true, beq_iff_eq, nmE_T, nmE_T', nmE_eq, decide_eq_true_eq, and_true, true_and, beq_self_eq_true]; unfold GoodE; omega)), hw.mod⟩
    ·try simp only [vN_T, vN_F, nmE_T, nmE_F, wI_T, wI_F, data_T, data_F, ino_T, ino_F, notT, notF, bneT, bneF, beqT, beqF, decT, decF] at h14
     refine tR (tV (Val.bin rfl rfl rfl) rfl (tA rfl rfl (tE ?_)))
     refine At.cond rfl (fun h17 => ?_) (fun h17 => ?_)
     ·try simp only [vN_T, vN_F, nmE_T, nmE_F, wI_T, wI_F, data_T, data_F, ino_T, ino_F, notT, notF, bneT, bneF, beqT, beqF, decT, decF] at h17
      refine tR (tV (Val.field 6 rfl fo_37_6 rfl) rfl (tV (Val.load (i := 1) Tryz.isAgg3 rfl rfl rfl) rfl (tV (Val.field 6 rfl fo_37_6 rfl) rfl (At.store (i := 0) Tryz.sizeOf3 rfl rfl rfl rfl (by first | decide | simp) ?_))))
      simp only [sc0, scS]
      refine tE (tR (tV (Val.field 7 rfl fo_37_7 rfl) rfl (tV (Val.load (i := 1) Tryz.isAgg9 rfl rfl rfl) rfl (tV (Val.field 7 rfl fo_37_7 rfl) rfl (At.store (i := 0) Tryz.sizeOf9 rfl rfl rfl rfl (by first | decide | simp) ?_)))))
      simp only [sc0, scS]
      refine tE (tR (At.weaken [(0, _), (1, _), (2, _), (11, _), (12, _), (13, _), (3, _), (14, _), (15, _), (17, _), (16, _), (76, _), (75, _), (89, _), (88, _), (90, _), (91, _), (92, _), (93, _), (94, _), (95, _)] (Sub.cons rfl (Sub.cons rfl (Sub.cons rfl (Sub.cons rfl (Sub.cons rfl (Sub.cons rfl (Sub.cons rfl (Sub.cons rfl (Sub.cons rfl (Sub.cons rfl (Sub.cons rfl (Sub.cons rfl (Sub.cons rfl (Sub.cons rfl (Sub.cons rfl (Sub.cons rfl (Sub.cons rfl (Sub.cons rfl (Sub.cons rfl (Sub.cons rfl (Sub.cons rfl Sub.nil))))))))))))))))))))) ?_))
      refine At.boolMeet 14 109 (decide (i < 2 ∨ 256 < i ∨ vN s = 0)) ?_ ?_
      ·simp only [List.take_succ_cons, List.take_zero]
       refine tV (Val.field 6 rfl fo_37_6 rfl) rfl (tV (Val.load (i := 1) Tryz.isAgg3 rfl rfl rfl) rfl (tV (Val.bin rfl rfl rfl) rfl (tM rfl rfl ?_)))
       refine At.split (t := 99) rfl (fun h18 => ?_) (fun h18 => ?_)
       ·try simp only [vN_T, vN_F, nmE_T, nmE_F, wI_T, wI_F, data_T, data_F, ino_T, ino_F, notT, notF, bneT, bneF, beqT, beqF, decT, decF] at h18
        refine At.no rfl rfl rfl rfl (At.no rfl rfl rfl rfl (At.no rfl rfl rfl rfl (tV (Val.pickT rfl rfl) rfl (tM rfl rfl (At.no rfl rfl rfl rfl (At.no rfl rfl rfl rfl (At.no rfl rfl rfl rfl (At.no rfl rfl rfl rfl (tV (Val.pickT rfl rfl) rfl (At.nil ?_))))))))))
        exact At.boolEnd rfl (by first | rfl | exact (decide_eq_true (by omega)).symm | exact (decide_eq_false (by omega)).symm | (apply Bool.eq_iff_iff.2; simp only [decide_eq_true_eq, beq_iff_eq, bne_iff_ne, ne_eq, wI_T, data_T, ino_T, vN_T, nmE_T, Bool.not_eq_true', wI_F, data_F, ino_F, vN_F, nmE_F, decide_eq_false_iff_not]; omega)) (by repeat (first | exact Sub.nil | refine Sub.cons rfl ?_))
       ·try simp only [vN_T, vN_F, nmE_T, nmE_F, wI_T, wI_F, data_T, data_F, ino_T, ino_F, notT, notF, bneT, bneF, beqT, beqF, decT, decF] at h18
        refine At.yes rfl rfl (tV (Val.field 6 rfl fo_37_6 rfl) rfl (At.yes rfl rfl (tV (Val.load (i := 1) Tryz.isAgg3 rfl rfl rfl) rfl (At.yes rfl rfl (tV (Val.bin rfl rfl rfl) rfl (tV (Val.pickF rfl rfl) rfl (tM rfl rfl ?_)))))))
        refine At.split (t := 104) rfl (fun h19 => ?_) (fun h19 => ?_)
        ·try simp only [vN_T, vN_F, nmE_T, nmE_F, wI_T, wI_F, data_T, data_F, ino_T, ino_F, notT, notF, bneT, bneF, beqT, beqF, decT, decF] at h19
         refine At.no rfl rfl rfl rfl (At.no rfl rfl rfl rfl (At.no rfl rfl rfl rfl (At.no rfl rfl rfl rfl (tV (Val.pickT rfl rfl) rfl (At.nil ?_)))))
         exact At.boolEnd rfl (by first | rfl | exact (decide_eq_true (by omega)).symm | exact (decide_eq_false (by omega)).symm | (apply Bool.eq_iff_iff.2; simp only [decide_eq_true_eq, beq_iff_eq, bne_iff_ne, ne_eq, wI_T, data_T, ino_T, vN_T, nmE_T, Bool.not_eq_true', wI_F, data_F, ino_F, vN_F, nmE_F, decide_eq_false_iff_not]; omega)) (by repeat (first | exact Sub.nil | refine Sub.cons rfl ?_))
        ·try simp only [vN_T, vN_F, nmE_T, nmE_F, wI_T, wI_F, data_T, data_F, ino_T, ino_F, notT, notF, bneT, bneF, beqT, beqF, decT, decF] at h19
         refine At.yes rfl rfl (tV (Val.field 7 rfl fo_37_7 rfl) rfl (At.yes rfl rfl (tV (Val.load (i := 1) Tryz.isAgg9 rfl rfl rfl) rfl (At.yes rfl rfl (At.callP (fun w hw => validR_p _ w hlen) Tryz.call40 rfl rfl (At.yes rfl rfl (tV (Val.not rfl) rfl (tV (Val.pickF rfl rfl) rfl (At.nil ?_)))))))))
         exact At.boolEnd rfl (by first | rfl | exact (decide_eq_true (by omega)).symm | exact (decide_eq_false (by omega)).symm | (apply Bool.eq_iff_iff.2; simp only [decide_eq_true_eq, beq_iff_eq, bne_iff_ne, ne_eq, wI_T, data_T, ino_T, vN_T, nmE_T, Bool.not_eq_true', wI_F, data_F, ino_F, vN_F, nmE_F, decide_eq_false_iff_not]; omega)) (by repeat (first | exact Sub.nil | refine Sub.cons rfl ?_))
      ·simp only [List.drop_succ_cons, List.drop_zero]
       refine tE ?_
       refine At.cond rfl (fun h20 => ?_) (fun h20 => ?_)
       ·try simp only [vN_T, vN_F, nmE_T, nmE_F, wI_T, wI_F, data_T, data_F, ino_T, ino_F, notT, notF, bneT, bneF, beqT, beqF, decT, decF] at h20
        refine tR (tA rfl rfl (tE (At.retC (At.blkR (At.thenR (At.ret1 (.inl rfl) rfl rfl rfl (fun w hw => ?_)))))))
        first | exact ⟨retB (decide_eq_false (by unfold GoodE; omega)).symm, hw.mod⟩ | exact ⟨retB (Bool.eq_iff_iff.2 (by simp only [Bool.and_eq_true, beq_iff_eq, nmE_T, nmE_T', nmE_eq, decide_eq_true_eq, and_true, true_and, beq_self_eq_true]; unfold GoodE; omega)), hw.mod⟩
       ·try simp only [vN_T, vN_F, nmE_T, nmE_F, wI_T, wI_F, data_T, data_F, ino_T, ino_F, notT, notF, bneT, bneF, beqT, beqF, decT, decF] at h20
        refine At.skipC (At.blkN (At.thenN (tR (tV (Val.loadAll (i := 0) Tryz.isAgg37 Tryz.sizeOf37 rfl rfl rfl) rfl (tV (Val.loadAll (i := 1) Tryz.isAgg37 Tryz.sizeOf37 rfl rfl rfl) rfl (tV (Val.eqAgg Tryz.eqGuardType37 (fun w => eq_37 _ _ _ _ _ _ _ _ _ _ _ _ _ _ _ _ w) rfl rfl) rfl (tA rfl rfl (tE (At.retC (At.ret1 (.inl rfl) rfl rfl rfl (fun w hw => ?_)))))))))))
        first | exact ⟨retB (decide_eq_false (by unfold GoodE; omega)).symm, hw.mod⟩ | exact ⟨retB (Bool.eq_iff_iff.2 (by simp only [Bool.and_eq_true, beq_iff_eq, nmE_T, nmE_T', nmE_eq, decide_eq_true_eq, and_true, true_and, beq_self_eq_true]; unfold GoodE; omega)), hw.mod⟩
     ·try simp only [vN_T, vN_F, nmE_T, nmE_F, wI_T, wI_F, data_T, data_F, ino_T, ino_F, notT, notF, bneT, bneF, beqT, beqF, decT, decF] at h17
      refine tR (tV (Val.bin rfl rfl rfl) rfl (tA rfl rfl (tE ?_)))
      refine At.cond rfl (fun h21 => ?_) (fun h21 => ?_)
      ·try simp only [vN_T, vN_F, nmE_T, nmE_F, wI_T, wI_F, data_T, data_F, ino_T, ino_F, notT, notF, bneT, bneF, beqT, beqF, decT, decF] at h21
       refine tR (tV (Val.field 7 rfl fo_37_7 rfl) rfl (tV (Val.load (i := 1) Tryz.isAgg9 rfl rfl rfl) rfl (tV (Val.field 7 rfl fo_37_7 rfl) rfl (At.store (i := 0) Tryz.sizeOf9 rfl rfl rfl rfl (by first | decide | simp) ?_))))
       simp only [sc0, scS]
       refine tE (tR (tV (Val.field 7 rfl fo_37_7 rfl) rfl (tV (Val.load (i := 1) Tryz.isAgg9 rfl rfl rfl) rfl (At.callP (fun w hw => validR_p _ w hlen) Tryz.call40 rfl rfl (tV (Val.not rfl) rfl (tE ?_))))))
       refine At.cond rfl (fun h22 => ?_) (fun h22 => ?_)
       ·try simp only [vN_T, vN_F, nmE_T, nmE_F, wI_T, wI_F, data_T, data_F, ino_T, ino_F, notT, notF, bneT, bneF, beqT, beqF, decT, decF] at h22
        refine tR (tA rfl rfl (tE (At.retC (At.blkR (At.thenR (At.ret1 (.inl rfl) rfl rfl rfl (fun w hw => ?_)))))))
        first | exact ⟨retB (decide_eq_false (by unfold GoodE; omega)).symm, hw.mod⟩ | exact ⟨retB (Bool.eq_iff_iff.2 (by simp only [Bool.and_eq_true, beq_iff_eq, nmE_T, nmE_T', nmE_eq, decide_eq_true_eq, and_true, true_and, beq_self_eq_true]; unfold GoodE; omega)), hw.mod⟩
       ·try simp only [vN_T, vN_F, nmE_T, nmE_F, wI_T, wI_F, data_T, data_F, ino_T, ino_F, notT, notF, bneT, bneF, beqT, beqF, decT, decF] at h22
        refine At.skipC (At.blkN (At.thenN (tR (tV (Val.loadAll (i := 0) Tryz.isAgg37 Tryz.sizeOf37 rfl rfl rfl) rfl (tV (Val.loadAll (i := 1) Tryz.isAgg37 Tryz.sizeOf37 rfl rfl rfl) rfl (tV (Val.eqAgg Tryz.eqGuardType37 (fun w => eq_37 _ _ _ _ _ _ _ _ _ _ _ _ _ _ _ _ w) rfl rfl) rfl (tA rfl rfl (tE (At.retC (At.ret1 (.inl rfl) rfl rfl rfl (fun w hw => ?_)))))))))))
        first | exact ⟨retB (decide_eq_false (by unfold GoodE; omega)).symm, hw.mod⟩ | exact ⟨retB (Bool.eq_iff_iff.2 (by simp only [Bool.and_eq_true, beq_iff_eq, nmE_T, nmE_T', nmE_eq, decide_eq_true_eq, and_true, true_and, beq_self_eq_true]; unfold GoodE; omega)), hw.mod⟩
      ·try simp only [vN_T, vN_F, nmE_T, nmE_F, wI_T, wI_F, data_T, data_F, ino_T, ino_F, notT, notF, bneT, bneF, beqT, beqF, decT, decF] at h21
       refine tR (tA rfl rfl (tE (At.retC (At.blkR (At.thenR (At.ret1 (.inl rfl) rfl rfl rfl (fun w hw => ?_)))))))
       first | exact ⟨retB (decide_eq_false (by unfold GoodE; omega)).symm, hw.mod⟩ | exact ⟨retB (Bool.eq_iff_iff.2 (by simp only [Bool.and_eq_true, beq_iff_eq, nmE_T, nmE_T', nmE_eq, decide_eq_true_eq, and_true, true_and, beq_self_eq_true]; unfold GoodE; omega)), hw.mod⟩
end Go.Proofs.YthdmlpjhcalliaaGreatDoor
namespace Go.Proofs.YthdmlpjhcalliaaGreatDoor
open Go Go.Wk
theorem packEnt_p (k q o c p z i : Int) (s : ByteArray) (w : World) (ht : Tab w) (hlen : s.size ≤ 9223372036854775807) (hq : 0 ≤ q) :
    PureC Tryz.prog 31 [.agg #[.int .i64 k, .int .u64 q, .int .i64 o, .int .i64 c, .int .i64 p, .int .i64 z, .int .i64 i, .string s]] (packEntV k q o c p z i s) w := by
 refine enter0 Tryz.func31 rfl Tryz.ntmps31 rfl ?_
 obtain ⟨qn, rfl⟩ : ∃ n : Nat, q = n := ⟨q.toNat, by omega⟩
 simp only [envOf]
 refine tR (At.box rfl rfl rfl (fun b1 => (At.alloc zero_39 zc_39 rfl (fun b2 => (tA rfl rfl (tE (At.seq (tR (tV (Val.loadAll (i := 1) Tryz.isAgg37 Tryz.sizeOf37 rfl rfl rfl) rfl (At.callP (fun w hw => goodEnt_p _ _ _ _ _ _ _ s w hlen (by omega)) Tryz.call75 rfl rfl (tV (Val.not rfl) rfl (tE ?_))))))))))))
 refine At.cond rfl (fun h3 => ?_) (fun h3 => ?_)
 ·try simp only [vN_T, vN_F, nmE_T, nmE_F, wI_T, wI_F, data_T, data_F, ino_T, ino_F, notT, notF, bneT, bneF, beqT, beqF, decT, decF] at h3
  have hg : ¬ GoodE k (qn : Nat) o c p z i s := by simpa using h3
  refine tR ?_
  refine tV (Val.build (fun a ha => by simp only [List.map_toArray, List.map_cons, List.map_nil] <;> rfl) (bld_39_)) rfl (At.storeAll (i := 0) Tryz.sizeOf39 rfl rfl rfl (by simp [Value.oneCell']) rfl (by simp) ?_)
  simp only [sc0, scS]
  refine tA rfl rfl (tE (At.retC (At.thenR (At.ret2 (.inl rfl) rfl rfl (ResOf.all (i := 0) Tryz.isAgg39 Tryz.sizeOf39 rfl rfl (by simp)) rfl (fun w hw => ?_)))))
  exact ⟨by rw [packEnt_no hg]; rfl, hw.mod⟩
 ·try simp only [vN_T, vN_F, nmE_T, nmE_F, wI_T, wI_F, data_T, data_F, ino_T, ino_F, notT, notF, bneT, bneF, beqT, beqF, decT, decF] at h3
  have hg : GoodE k (qn : Nat) o c p z i s := by simpa using h3
  have hsz := hg.size
  have hg' := hg
  unfold GoodE at hg'
  have hss : s.data.toList.length = s.size := size_len s
  refine At.skipC (At.thenN (tR ?_))
  refine tV (Val.build (fun a ha => by simp only [List.map_toArray, List.map_cons, List.map_nil] <;> rfl) (bld_100_)) rfl (At.alloc zero_100 zc_100 rfl (fun b4 => (At.storeAll (i := 0) Tryz.sizeOf100 rfl rfl rfl (by simp [Value.oneCell']) rfl (by simp) ?_)))
  simp only [sc0, scS]
  refine At.nil ?_
  rw [← penC_nil]
  refine At.thenN (tR (tV (Val.field 0 rfl fo_37_0 rfl) rfl (tV (Val.load (i := 2) Tryz.isAgg3 rfl rfl rfl) rfl (tV (Val.conv Tryz.underlying3 Tryz.underlying34 rfl) rfl ?_))))
  rw [toU64 (n := k) (by omega) (by omega)]
  refine At.call1 0 rfl (fun w hw hr => penNumber_p _ [] (k.toNat) 1 w hr (by simp [le_length]) (by omega) (by decide)) Tryz.call54 rfl rfl ?_
  simp only [sc0, scS]
  refine tE (tR (tV (Val.field 7 rfl fo_37_7 rfl) rfl (tV (Val.load (i := 2) Tryz.isAgg9 rfl rfl rfl) rfl (tV (Val.lenStr Tryz.underlying9 rfl) rfl ?_))))
  first | refine tV (Val.toU Tryz.underlying3 Tryz.underlying34 rfl (by omega) (by omega)) rfl ?_ | refine tV (Val.conv Tryz.underlying3 Tryz.underlying34 rfl) rfl ?_
  refine At.call1 0 rfl (fun w hw hr => penNumber_p _ ([] ++ le 1 k.toNat) (s.size) 7 w hr (by simp [le_length]) (by omega) (by decide)) Tryz.call54 rfl rfl ?_
  simp only [sc0, scS]
  refine tE (tR (tV (Val.field 1 rfl fo_37_1 rfl) rfl (tV (Val.load (i := 2) Tryz.isAgg34 rfl rfl rfl) rfl (At.call1 0 rfl (fun w hw hr => penNumber_p _ (([] ++ le 1 k.toNat) ++ le 7 s.size) (qn) 8 w hr (by simp [le_length]) (by omega) (by decide)) Tryz.call54 rfl rfl ?_))))
  simp only [sc0, scS]
  refine tE (tR (tV (Val.field 2 rfl fo_37_2 rfl) rfl (tV (Val.load (i := 2) Tryz.isAgg3 rfl rfl rfl) rfl (tV (Val.field 6 rfl fo_37_6 rfl) rfl (tV (Val.load (i := 2) Tryz.isAgg3 rfl rfl rfl) rfl (tV (Val.bin rfl rfl rfl) rfl ?_))))))
  rw [or_one (o := o) (i := i) (by omega) (by omega) (by omega) (by omega) (by omega)]
  refine tV (Val.conv Tryz.underlying3 Tryz.underlying34 rfl) rfl ?_
  rw [toU64 (n := o + i) (by omega) (by omega)]
  refine At.call1 0 rfl (fun w hw hr => penNumber_p _ ((([] ++ le 1 k.toNat) ++ le 7 s.size) ++ le 8 qn) ((o + i).toNat) 4 w hr (by simp [le_length]) (by omega) (by decide)) Tryz.call54 rfl rfl ?_
  simp only [sc0, scS]
  refine tE (tR (tV (Val.field 3 rfl fo_37_3 rfl) rfl (tV (Val.load (i := 2) Tryz.isAgg3 rfl rfl rfl) rfl (tV (Val.conv Tryz.underlying3 Tryz.underlying34 rfl) rfl ?_))))
  rw [toU64 (n := c) (by omega) (by omega)]
  refine At.call1 0 rfl (fun w hw hr => penNumber_p _ (((([] ++ le 1 k.toNat) ++ le 7 s.size) ++ le 8 qn) ++ le 4 (o + i).toNat) (c.toNat) 4 w hr (by simp [le_length]) (by omega) (by decide)) Tryz.call54 rfl rfl ?_
  simp only [sc0, scS]
  refine tE (tR (tV (Val.field 4 rfl fo_37_4 rfl) rfl (tV (Val.load (i := 2) Tryz.isAgg3 rfl rfl rfl) rfl (tV (Val.conv Tryz.underlying3 Tryz.underlying34 rfl) rfl ?_))))
  rw [toU64 (n := p) (by omega) (by omega)]
  refine At.call1 0 rfl (fun w hw hr => penNumber_p _ ((((([] ++ le 1 k.toNat) ++ le 7 s.size) ++ le 8 qn) ++ le 4 (o + i).toNat) ++ le 4 c.toNat) (p.toNat) 4 w hr (by simp [le_length]) (by omega) (by decide)) Tryz.call54 rfl rfl ?_
  simp only [sc0, scS]
  refine tE (tR (tV (Val.field 5 rfl fo_37_5 rfl) rfl (tV (Val.load (i := 2) Tryz.isAgg3 rfl rfl rfl) rfl (tV (Val.conv Tryz.underlying3 Tryz.underlying34 rfl) rfl ?_))))
  rw [toU64 (n := z) (by omega) (by omega)]
  refine At.call1 0 rfl (fun w hw hr => penNumber_p _ (((((([] ++ le 1 k.toNat) ++ le 7 s.size) ++ le 8 qn) ++ le 4 (o + i).toNat) ++ le 4 c.toNat) ++ le 4 p.toNat) (z.toNat) 4 w hr (by simp [le_length]) (by omega) (by decide)) Tryz.call54 rfl rfl ?_
  simp only [sc0, scS]
  refine tE (tR (tV (Val.field 7 rfl fo_37_7 rfl) rfl (tV (Val.load (i := 2) Tryz.isAgg9 rfl rfl rfl) rfl ?_)))
  refine At.call1 0 rfl (fun w hw hr => penText_p _ ((((((([] ++ le 1 k.toNat) ++ le 7 s.size) ++ le 8 qn) ++ le 4 (o + i).toNat) ++ le 4 c.toNat) ++ le 4 p.toNat) ++ le 4 z.toNat) s w hr (by simp only [List.length_append, le_length, List.length_nil]; omega)) Tryz.call53 rfl rfl ?_
  simp only [sc0, scS]
  refine At.nil ?_
  rw [show ((((((((([] : List UInt8) ++ le 1 k.toNat) ++ le 7 s.size) ++ le 8 qn) ++ le 4 (o + i).toNat) ++ le 4 c.toNat) ++ le 4 p.toNat) ++ le 4 z.toNat) ++ s.data.toList) = (entB k.toNat s.size qn (o + i).toNat c.toNat p.toNat z.toNat s.data.toList) from rfl]
  refine At.thenN (tR (tV (Val.field 0 rfl fo_100_0 rfl) rfl ?_))
  refine tV (Val.loadPart (i := 0) Tryz.isAgg39 Tryz.sizeOf39 rfl rfl (penC_line (by rw [entB_length, hss]; omega)) (by rw [List.length_map, List.length_append, zs_length, entB_length, hss]; omega)) rfl ?_
  refine At.callP (fun w hw => close_p _ w (by rw [List.length_append, zs_length, entB_length, hss]; omega) (ht.mod hw.mod)) Tryz.call55 rfl rfl ?_
  refine At.storeAll (i := 1) Tryz.sizeOf39 rfl rfl (lineV_length (by rw [entB_length, hss]; omega)) (by simp [Value.oneCell']) rfl (by simp) ?_
  simp only [sc0, scS]
  refine tA rfl rfl (tE (At.retC ?_))
  refine At.ret2 (.inl rfl) rfl rfl (ResOf.all (i := 1) Tryz.isAgg39 Tryz.sizeOf39 rfl rfl (lineV_length (by rw [entB_length, hss]; omega))) rfl (fun w hw => ?_)
  exact ⟨by rw [packEnt_yes hg]; rfl, hw.mod⟩
theorem packEntR_p (k q o c p z i : Int) (s : ByteArray) (w : World) (hlen : s.size ≤ 9223372036854775807) (hq : 0 ≤ q) (hpp : -9223372036854775808 ≤ p ∧ p ≤ 9223372036854775807) :
    PureC Tryz.prog 32 [.agg #[.int .i64 k, .int .u64 q, .int .i64 o, .int .i64 c, .int .i64 p, .int .i64 z, .int .i64 i, .string s]] (packEntV k q o c p z i s) w := by
 refine enter0 Tryz.func32 rfl Tryz.ntmps32 rfl ?_
 obtain ⟨qn, rfl⟩ : ∃ n : Nat, q = n := ⟨q.toNat, by omega⟩
 simp only [envOf]
 refine tR (At.box rfl rfl rfl (fun b1 => (At.alloc zero_39 zc_39 rfl (fun b2 => (tA rfl rfl (tE (tR (tV (Val.loadAll (i := 1) Tryz.isAgg37 Tryz.sizeOf37 rfl rfl rfl) rfl (At.callP (fun w hw => goodEntR_p _ _ _ _ _ _ _ s w hlen (by omega) hpp) Tryz.call76 rfl rfl (tA rfl rfl (tE (At.seq (tR (tM rfl rfl (tV (Val.not rfl) rfl (tE ?_))))))))))))))))
 refine At.cond rfl (fun h3 => ?_) (fun h3 => ?_)
 ·try simp only [vN_T, vN_F, nmE_T, nmE_F, wI_T, wI_F, data_T, data_F, ino_T, ino_F, notT, notF, bneT, bneF, beqT, beqF, decT, decF] at h3
  have hg : ¬ GoodE k (qn : Nat) o c p z i s := by simpa using h3
  refine tR ?_
  refine tV (Val.build (fun a ha => by simp only [List.map_toArray, List.map_cons, List.map_nil] <;> rfl) (bld_39_)) rfl (At.storeAll (i := 0) Tryz.sizeOf39 rfl rfl rfl (by simp [Value.oneCell']) rfl (by simp) ?_)
  simp only [sc0, scS]
  refine tA rfl rfl (tE (At.retC (At.thenR (At.ret2 (.inl rfl) rfl rfl (ResOf.all (i := 0) Tryz.isAgg39 Tryz.sizeOf39 rfl rfl (by simp)) rfl (fun w hw => ?_)))))
  exact ⟨by rw [packEnt_no hg]; rfl, hw.mod⟩
 ·try simp only [vN_T, vN_F, nmE_T, nmE_F, wI_T, wI_F, data_T, data_F, ino_T, ino_F, notT, notF, bneT, bneF, beqT, beqF, decT, decF] at h3
  have hg : GoodE k (qn : Nat) o c p z i s := by simpa using h3
  have hsz := hg.size
  have hg' := hg
  unfold GoodE at hg'
  have hss : s.data.toList.length = s.size := size_len s
  refine At.skipC (At.thenN (tR (tV (Val.field 2 rfl fo_37_2 rfl) rfl (tV (Val.load (i := 1) Tryz.isAgg3 rfl rfl rfl) rfl (tA rfl rfl (tE (At.seq (tR (tV (Val.field 0 rfl fo_37_0 rfl) rfl (tV (Val.load (i := 1) Tryz.isAgg3 rfl rfl rfl) rfl (tV (Val.bin rfl rfl rfl) rfl (tE ?_))))))))))))
  refine At.cond rfl (fun h4 => ?_) (fun h4 => ?_)
  ·try simp only [vN_T, vN_F, nmE_T, nmE_F, wI_T, wI_F, data_T, data_F, ino_T, ino_F, notT, notF, bneT, bneF, beqT, beqF, decT, decF] at h4
   have hoi : i.toNat = (o + i).toNat := by omega
   refine At.region (tV (Val.field 6 rfl fo_37_6 rfl) rfl (tV (Val.load (i := 1) Tryz.isAgg3 rfl rfl rfl) rfl (tA rfl rfl (tE (tR (tV (Val.field 0 rfl fo_37_0 rfl) rfl (tV (Val.load (i := 1) Tryz.isAgg3 rfl rfl rfl) rfl (tV (Val.toB Tryz.underlying3 Tryz.underlying5 rfl (by omega)) rfl (tV (Val.field 7 rfl fo_37_7 rfl) rfl (tV (Val.load (i := 1) Tryz.isAgg9 rfl rfl rfl) rfl (tV (Val.lenStr Tryz.underlying9 rfl) rfl (tV (Val.toB Tryz.underlying3 Tryz.underlying5 rfl (by omega)) rfl ?_))))))))))))
   rw [show ((s.size : Nat) : Int).toNat = s.size from Int.toNat_natCast _]
   refine At.buildRow (fun a ha => by simp only [List.map_toArray, List.map_cons, List.map_nil, ha.eval (x := (.tmp 22)) rfl, ha.eval (x := (.tmp 26)) rfl, ha.eval (x := (.const (.int .u8 (0)))) rfl, ha.eval (x := (.const (.int .u8 (0)))) rfl, ha.eval (x := (.const (.int .u8 (0)))) rfl, ha.eval (x := (.const (.int .u8 (0)))) rfl, ha.eval (x := (.const (.int .u8 (0)))) rfl, ha.eval (x := (.const (.int .u8 (0)))) rfl]; try rfl) (bs_45_8 _ _ _ _ _ _ _ _ ) 1 rfl (by decide) rfl (fun v5 => ?_)
   change At _ _ (brow 5 v5 ([UInt8.ofNat k.toNat, UInt8.ofNat s.size, 0, 0, 0, 0, 0, 0]) :: _) _
   rw [← ent_head (k := k.toNat) (n := s.size) (by omega)]
   refine tA rfl rfl (tE (tR (tM rfl rfl (tV (Val.field 1 rfl fo_37_1 rfl) rfl (tV (Val.load (i := 2) Tryz.isAgg34 rfl rfl rfl) rfl (At.callR 0 rfl (fun w hw hr => rlay_p _ (le 1 k.toNat ++ le 7 s.size) (qn) 8 w hr (by omega) (by decide) (by simp [le_length])) Tryz.call57 rfl rfl (fun v6 => ?_)))))))
   simp only [sc0, scS]
   refine tA rfl rfl (tE (tR (tM rfl rfl (tM rfl rfl (tV (Val.conv Tryz.underlying3 Tryz.underlying34 rfl) rfl ?_)))))
   first | rw [toU64 (n := i) (by omega) (by omega), hoi] | rw [toU64 (n := o) (by omega) (by omega), hoi]
   refine At.callR 0 rfl (fun w hw hr => rlay_p _ ((le 1 k.toNat ++ le 7 s.size) ++ le 8 qn) ((o + i).toNat) 4 w hr (by omega) (by decide) (by simp [le_length])) Tryz.call57 rfl rfl (fun v7 => ?_)
   simp only [sc0, scS]
   refine tA rfl rfl (tE (tR (tM rfl rfl (tV (Val.field 3 rfl fo_37_3 rfl) rfl (tV (Val.load (i := 2) Tryz.isAgg3 rfl rfl rfl) rfl (tV (Val.conv Tryz.underlying3 Tryz.underlying34 rfl) rfl ?_))))))
   rw [toU64 (n := c) (by omega) (by omega)]
   refine At.callR 0 rfl (fun w hw hr => rlay_p _ (((le 1 k.toNat ++ le 7 s.size) ++ le 8 qn) ++ le 4 (o + i).toNat) (c.toNat) 4 w hr (by omega) (by decide) (by simp [le_length])) Tryz.call57 rfl rfl (fun v8 => ?_)
   simp only [sc0, scS]
   refine tA rfl rfl (tE (tR (tM rfl rfl (tV (Val.field 4 rfl fo_37_4 rfl) rfl (tV (Val.load (i := 2) Tryz.isAgg3 rfl rfl rfl) rfl (tV (Val.conv Tryz.underlying3 Tryz.underlying34 rfl) rfl ?_))))))
   rw [toU64 (n := p) (by omega) (by omega)]
   refine At.callR 0 rfl (fun w hw hr => rlay_p _ ((((le 1 k.toNat ++ le 7 s.size) ++ le 8 qn) ++ le 4 (o + i).toNat) ++ le 4 c.toNat) (p.toNat) 4 w hr (by omega) (by decide) (by simp [le_length])) Tryz.call57 rfl rfl (fun v9 => ?_)
   simp only [sc0, scS]
   refine tA rfl rfl (tE (tR (tM rfl rfl (tV (Val.field 5 rfl fo_37_5 rfl) rfl (tV (Val.load (i := 2) Tryz.isAgg3 rfl rfl rfl) rfl (tV (Val.conv Tryz.underlying3 Tryz.underlying34 rfl) rfl ?_))))))
   rw [toU64 (n := z) (by omega) (by omega)]
   refine At.callR 0 rfl (fun w hw hr => rlay_p _ (((((le 1 k.toNat ++ le 7 s.size) ++ le 8 qn) ++ le 4 (o + i).toNat) ++ le 4 c.toNat) ++ le 4 p.toNat) (z.toNat) 4 w hr (by omega) (by decide) (by simp [le_length])) Tryz.call57 rfl rfl (fun v10 => ?_)
   simp only [sc0, scS]
   refine tA rfl rfl (tE (tR (tM rfl rfl (tV (Val.field 7 rfl fo_37_7 rfl) rfl (tV (Val.load (i := 2) Tryz.isAgg9 rfl rfl rfl) rfl ?_)))))
   refine At.callR 0 rfl (fun w hw hr => letters_p _ ((((((le 1 k.toNat ++ le 7 s.size) ++ le 8 qn) ++ le 4 (o + i).toNat) ++ le 4 c.toNat) ++ le 4 p.toNat) ++ le 4 z.toNat) s w hr (by simp only [List.length_append, le_length]; omega)) Tryz.call56 rfl rfl (fun v11 => ?_)
   simp only [sc0, scS]
   refine tA rfl rfl (tE (tR (tM rfl rfl ?_)))
   refine At.callU 0 rfl (fun w hw hr => line_p _ (entB k.toNat s.size qn (o + i).toNat c.toNat p.toNat z.toNat s.data.toList) w hr (by rw [entB_length, hss]; omega)) Tryz.call58 rfl rfl ?_
   simp only [ec0, ecS]
   refine At.alloc zero_39 zc_39 rfl (fun b12 => ?_)
   refine At.storeAll (i := 0) Tryz.sizeOf39 rfl rfl (lineV_length (by rw [entB_length, hss]; omega)) (by simp [Value.oneCell']) rfl (by simp) ?_
   simp only [sc0, scS]
   refine tE (tR ?_)
   refine tV (Val.loadAll (i := 0) Tryz.isAgg39 Tryz.sizeOf39 rfl rfl (lineV_length (by rw [entB_length, hss]; omega))) rfl ?_
   refine At.storeAll (i := 1) Tryz.sizeOf39 rfl rfl (lineV_length (by rw [entB_length, hss]; omega)) (by simp [Value.oneCell']) rfl (by simp) ?_
   simp only [sc0, scS]
   refine tA rfl rfl (tE (At.retC ?_))
   refine At.ret2 (.inl rfl) rfl rfl (ResOf.all (i := 1) Tryz.isAgg39 Tryz.sizeOf39 rfl rfl (lineV_length (by rw [entB_length, hss]; omega))) rfl (fun w hw => ?_)
   exact ⟨by rw [packEnt_yes hg]; rfl, hw.mod⟩
  ·try simp only [vN_T, vN_F, nmE_T, nmE_F, wI_T, wI_F, data_T, data_F, ino_T, ino_F, notT, notF, bneT, bneF, beqT, beqF, decT, decF] at h4
   have hoi : o.toNat = (o + i).toNat := by omega
   refine At.skipC (At.thenN (tR (tV (Val.field 0 rfl fo_37_0 rfl) rfl (tV (Val.load (i := 1) Tryz.isAgg3 rfl rfl rfl) rfl (tV (Val.toB Tryz.underlying3 Tryz.underlying5 rfl (by omega)) rfl (tV (Val.field 7 rfl fo_37_7 rfl) rfl (tV (Val.load (i := 1) Tryz.isAgg9 rfl rfl rfl) rfl (tV (Val.lenStr Tryz.underlying9 rfl) rfl (tV (Val.toB Tryz.underlying3 Tryz.underlying5 rfl (by omega)) rfl ?_)))))))))
   rw [show ((s.size : Nat) : Int).toNat = s.size from Int.toNat_natCast _]
   refine At.buildRow (fun a ha => by simp only [List.map_toArray, List.map_cons, List.map_nil, ha.eval (x := (.tmp 22)) rfl, ha.eval (x := (.tmp 26)) rfl, ha.eval (x := (.const (.int .u8 (0)))) rfl, ha.eval (x := (.const (.int .u8 (0)))) rfl, ha.eval (x := (.const (.int .u8 (0)))) rfl, ha.eval (x := (.const (.int .u8 (0)))) rfl, ha.eval (x := (.const (.int .u8 (0)))) rfl, ha.eval (x := (.const (.int .u8 (0)))) rfl]; try rfl) (bs_45_8 _ _ _ _ _ _ _ _ ) 1 rfl (by decide) rfl (fun v13 => ?_)
   change At _ _ (brow 5 v13 ([UInt8.ofNat k.toNat, UInt8.ofNat s.size, 0, 0, 0, 0, 0, 0]) :: _) _
   rw [← ent_head (k := k.toNat) (n := s.size) (by omega)]
   refine tA rfl rfl (tE (tR (tM rfl rfl (tV (Val.field 1 rfl fo_37_1 rfl) rfl (tV (Val.load (i := 2) Tryz.isAgg34 rfl rfl rfl) rfl (At.callR 0 rfl (fun w hw hr => rlay_p _ (le 1 k.toNat ++ le 7 s.size) (qn) 8 w hr (by omega) (by decide) (by simp [le_length])) Tryz.call57 rfl rfl (fun v14 => ?_)))))))
   simp only [sc0, scS]
   refine tA rfl rfl (tE (tR (tM rfl rfl (tM rfl rfl (tV (Val.conv Tryz.underlying3 Tryz.underlying34 rfl) rfl ?_)))))
   first | rw [toU64 (n := i) (by omega) (by omega), hoi] | rw [toU64 (n := o) (by omega) (by omega), hoi]
   refine At.callR 0 rfl (fun w hw hr => rlay_p _ ((le 1 k.toNat ++ le 7 s.size) ++ le 8 qn) ((o + i).toNat) 4 w hr (by omega) (by decide) (by simp [le_length])) Tryz.call57 rfl rfl (fun v15 => ?_)
   simp only [sc0, scS]
   refine tA rfl rfl (tE (tR (tM rfl rfl (tV (Val.field 3 rfl fo_37_3 rfl) rfl (tV (Val.load (i := 2) Tryz.isAgg3 rfl rfl rfl) rfl (tV (Val.conv Tryz.underlying3 Tryz.underlying34 rfl) rfl ?_))))))
   rw [toU64 (n := c) (by omega) (by omega)]
   refine At.callR 0 rfl (fun w hw hr => rlay_p _ (((le 1 k.toNat ++ le 7 s.size) ++ le 8 qn) ++ le 4 (o + i).toNat) (c.toNat) 4 w hr (by omega) (by decide) (by simp [le_length])) Tryz.call57 rfl rfl (fun v16 => ?_)
   simp only [sc0, scS]
   refine tA rfl rfl (tE (tR (tM rfl rfl (tV (Val.field 4 rfl fo_37_4 rfl) rfl (tV (Val.load (i := 2) Tryz.isAgg3 rfl rfl rfl) rfl (tV (Val.conv Tryz.underlying3 Tryz.underlying34 rfl) rfl ?_))))))
   rw [toU64 (n := p) (by omega) (by omega)]
   refine At.callR 0 rfl (fun w hw hr => rlay_p _ ((((le 1 k.toNat ++ le 7 s.size) ++ le 8 qn) ++ le 4 (o + i).toNat) ++ le 4 c.toNat) (p.toNat) 4 w hr (by omega) (by decide) (by simp [le_length])) Tryz.call57 rfl rfl (fun v17 => ?_)
   simp only [sc0, scS]
   refine tA rfl rfl (tE (tR (tM rfl rfl (tV (Val.field 5 rfl fo_37_5 rfl) rfl (tV (Val.load (i := 2) Tryz.isAgg3 rfl rfl rfl) rfl (tV (Val.conv Tryz.underlying3 Tryz.underlying34 rfl) rfl ?_))))))
   rw [toU64 (n := z) (by omega) (by omega)]
   refine At.callR 0 rfl (fun w hw hr => rlay_p _ (((((le 1 k.toNat ++ le 7 s.size) ++ le 8 qn) ++ le 4 (o + i).toNat) ++ le 4 c.toNat) ++ le 4 p.toNat) (z.toNat) 4 w hr (by omega) (by decide) (by simp [le_length])) Tryz.call57 rfl rfl (fun v18 => ?_)
   simp only [sc0, scS]
   refine tA rfl rfl (tE (tR (tM rfl rfl (tV (Val.field 7 rfl fo_37_7 rfl) rfl (tV (Val.load (i := 2) Tryz.isAgg9 rfl rfl rfl) rfl ?_)))))
   refine At.callR 0 rfl (fun w hw hr => letters_p _ ((((((le 1 k.toNat ++ le 7 s.size) ++ le 8 qn) ++ le 4 (o + i).toNat) ++ le 4 c.toNat) ++ le 4 p.toNat) ++ le 4 z.toNat) s w hr (by simp only [List.length_append, le_length]; omega)) Tryz.call56 rfl rfl (fun v19 => ?_)
   simp only [sc0, scS]
   refine tA rfl rfl (tE (tR (tM rfl rfl ?_)))
   refine At.callU 0 rfl (fun w hw hr => line_p _ (entB k.toNat s.size qn (o + i).toNat c.toNat p.toNat z.toNat s.data.toList) w hr (by rw [entB_length, hss]; omega)) Tryz.call58 rfl rfl ?_
   simp only [ec0, ecS]
   refine At.alloc zero_39 zc_39 rfl (fun b20 => ?_)
   refine At.storeAll (i := 0) Tryz.sizeOf39 rfl rfl (lineV_length (by rw [entB_length, hss]; omega)) (by simp [Value.oneCell']) rfl (by simp) ?_
   simp only [sc0, scS]
   refine tE (tR ?_)
   refine tV (Val.loadAll (i := 0) Tryz.isAgg39 Tryz.sizeOf39 rfl rfl (lineV_length (by rw [entB_length, hss]; omega))) rfl ?_
   refine At.storeAll (i := 1) Tryz.sizeOf39 rfl rfl (lineV_length (by rw [entB_length, hss]; omega)) (by simp [Value.oneCell']) rfl (by simp) ?_
   simp only [sc0, scS]
   refine tA rfl rfl (tE (At.retC ?_))
   refine At.ret2 (.inl rfl) rfl rfl (ResOf.all (i := 1) Tryz.isAgg39 Tryz.sizeOf39 rfl rfl (lineV_length (by rw [entB_length, hss]; omega))) rfl (fun w hw => ?_)
   exact ⟨by rw [packEnt_yes hg]; rfl, hw.mod⟩
end Go.Proofs.YthdmlpjhcalliaaGreatDoor
