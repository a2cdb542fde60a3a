/- Need. -/
import Derived.Test.YtlplkbbnpddihaaDoorB14
set_option linter.unusedVariables false
set_option linter.unusedSimpArgs false
namespace Go.Proofs.YtlplkbbnpddihaaDoor
open Go Go.Wk

def freeV (t : Int) : Int := if t = 0 then 0 else (512 * ((t - 1) / 512 + 1) - t) / 64
theorem freeV_0 : freeV 0 = 0 := rfl
theorem freeV_1 {t : Int} (h : ¬ t = 0) : freeV t = (512 * ((t - 1) / 512 + 1) - t) / 64 := if_neg h
def needV (t n : Int) : Int := if n < 1 then 0 else if t ≠ 0 ∧ ¬ GoodT t then -1 else if n ≤ freeV t then 0 else (n - freeV t - 1) / 7 + 1
theorem need_a {t n : Int} (h : n < 1) : needV t n = 0 := if_pos h
theorem need_b {t n : Int} (h : ¬ n < 1) (h1 : t ≠ 0) (h2 : ¬ GoodT t) : needV t n = -1 := by unfold needV; rw [if_neg h, if_pos ⟨h1, h2⟩]
theorem need_c {t n : Int} (h : ¬ n < 1) (h1 : t = 0 ∨ GoodT t) (h2 : n ≤ freeV t) : needV t n = 0 := by unfold needV; rw [if_neg h, if_neg (fun q => h1.elim q.1 q.2), if_pos h2]
theorem need_d {t n : Int} (h : ¬ n < 1) (h1 : t = 0 ∨ GoodT t) (h2 : ¬ n ≤ freeV t) : needV t n = (n - freeV t - 1) / 7 + 1 := by unfold needV; rw [if_neg h, if_neg (fun q => h1.elim q.1 q.2), if_neg h2]

theorem need_p (t n : Int) (w : World) (ht : Tab w) (hb : -9223372036854775808 ≤ t ∧ t ≤ 9223372036854775807) (hn : -9223372036854775808 ≤ n ∧ n ≤ 9223372036854775807) :
    PureC Tryd.prog 37 [.int .i64 t, .int .i64 n] (.int .i64 (needV t n)) w := by
  refine enter0 Tryd.func37 rfl Tryd.ntmps37 rfl ?_
  simp only [envOf]
  refine At.seq ?_
  refine At.region ?_
  refine At.val (Val.assign rfl) rfl rfl rfl ?_
  refine At.nil ?_
  refine At.thenN ?_
  refine At.seq ?_
  refine At.seq ?_
  refine At.region ?_
  refine At.val (Val.move rfl) rfl rfl rfl ?_
  refine At.val (Val.bin rfl rfl rfl) rfl rfl rfl ?_
  refine At.nil ?_
  refine At.thenN ?_
  refine At.cond rfl (fun h1 => ?_) (fun h1 => ?_)
  · skip
    try simp only [notT, notF, bneT, bneF, beqT, beqF, decT, decF] at h1
    refine At.seq ?_
    refine At.region ?_
    refine At.val (Val.assign rfl) rfl rfl rfl ?_
    refine At.nil ?_
    refine At.thenN ?_
    refine At.retC ?_
    refine At.thenR ?_
    refine At.ret1 (.inl rfl) rfl rfl rfl (fun w hw => ?_)
    exact ⟨retI (by first | exact (need_a (by assumption)).symm | exact (need_b (by assumption) (by assumption) hG).symm | (have h0 : t = 0 := ‹t = 0›; subst h0; first | exact (need_c (by assumption) (Or.inl rfl) (by rw [freeV_0]; assumption)).symm | (rw [need_d (by assumption) (Or.inl rfl) (by rw [freeV_0]; assumption), freeV_0, wrap_i64 (n := n - 0) (by omega) (by omega), wrap_i64 (n := n - 0 - 1) (by omega) (by omega), tdiv_nn _ (by omega), wrap_i64 (n := (n - 0 - 1) / 7) (by omega) (by omega), wrap_i64 (by omega) (by omega)])) | (have hz : freeV t = 0 := (by rw [freeV_1 ht0]; have := ‹t % 512 = 0›; omega); first | exact (need_c (by assumption) (Or.inr hG) (by rw [hz]; assumption)).symm | (rw [need_d (by assumption) (Or.inr hG) (by rw [hz]; assumption), hz, wrap_i64 (n := n - 0) (by omega) (by omega), wrap_i64 (n := n - 0 - 1) (by omega) (by omega), tdiv_nn _ (by omega), wrap_i64 (n := (n - 0 - 1) / 7) (by omega) (by omega), wrap_i64 (by omega) (by omega)])) | (have hf : 0 ≤ freeV t ∧ freeV t ≤ 7 := (by rw [freeV_1 ht0]; omega); first | exact (need_c (by assumption) (Or.inr hG) (by assumption)).symm | (rw [need_d (by assumption) (Or.inr hG) (by assumption), wrap_i64 (n := n - freeV t) (by omega) (by omega), wrap_i64 (n := n - freeV t - 1) (by omega) (by omega), tdiv_nn _ (by omega), wrap_i64 (n := (n - freeV t - 1) / 7) (by omega) (by omega), wrap_i64 (by omega) (by omega)]))), hw.mod⟩
  · skip
    try simp only [notT, notF, bneT, bneF, beqT, beqF, decT, decF] at h1
    refine At.skipC ?_
    refine At.thenN ?_
    refine At.seq ?_
    refine At.region ?_
    refine At.val (Val.assign rfl) rfl rfl rfl ?_
    refine At.nil ?_
    refine At.thenN ?_
    refine At.seq ?_
    refine At.seq ?_
    refine At.region ?_
    refine At.val (Val.move rfl) rfl rfl rfl ?_
    refine At.val (Val.bin rfl rfl rfl) rfl rfl rfl ?_
    refine At.nil ?_
    refine At.thenN ?_
    refine At.cond rfl (fun h2 => ?_) (fun h2 => ?_)
    · skip
      try simp only [notT, notF, bneT, bneF, beqT, beqF, decT, decF] at h2
      refine At.seq ?_
      refine At.seq ?_
      refine At.region ?_
      refine At.val (Val.move rfl) rfl rfl rfl ?_
      refine At.val (Val.build (fun a ha => by simp only [List.map_toArray, List.map_cons, List.map_nil, ha.eval (x := (.const (.int .i64 (2)))) rfl, ha.eval (x := (.const (.int .i64 (1)))) rfl, ha.eval (x := (.const (.int .i64 (1023)))) rfl, ha.eval (x := (.tmp 14)) rfl] <;> rfl) (bld_61_0_1_2_3 _ _ _ _ )) rfl rfl rfl ?_
      refine At.callP (fun w hw => packSlot_p 1 2 1 1023 t w (ht.mod hw.mod) hb) Tryd.call45 rfl rfl ?_
      by_cases hg : GoodP 1 2 1 1023 t
      · skip
        rw [packSlot_yes hg]
        have ht0 : ¬ t = 0 := ‹t ≠ 0›
        have hG : GoodT t := by rcases hg.2 with h | h; exact absurd h.1 (by decide); rcases h.2 with h | h; exact absurd h.1 ht0; exact h.2.1
        have hG' := hG
        unfold GoodT at hG'
        refine At.val (Val.move rfl) rfl rfl rfl ?_
        refine At.val (Val.extract rfl rfl) rfl rfl rfl ?_
        refine At.val (Val.extract rfl rfl) rfl rfl rfl ?_
        refine At.alloc zero_72 zc_72 rfl (fun b3 => ?_)
        refine At.storeAll (i := 0) Tryd.sizeOf72 rfl rfl rfl (by simp [Value.oneCell']) rfl (by simp) ?_
        simp only [List.set_cons_zero, List.set_cons_succ]
        refine At.val (Val.assign rfl) rfl rfl rfl ?_
        refine At.nil ?_
        refine At.thenN ?_
        refine At.seq ?_
        refine At.region ?_
        refine At.val (Val.move rfl) rfl rfl rfl ?_
        refine At.val (Val.bin rfl rfl rfl) rfl rfl rfl ?_
        refine At.nil ?_
        refine At.thenN ?_
        refine At.condF rfl ?_
        refine At.skipC ?_
        refine At.thenN ?_
        refine At.seq ?_
        refine At.region ?_
        refine At.val (Val.move rfl) rfl rfl rfl ?_
        refine At.val (Val.rem rfl rfl (by decide)) rfl rfl rfl ?_
        rw [tmod_nn _ (by omega)]
        refine At.val (Val.assign rfl) rfl rfl rfl ?_
        refine At.nil ?_
        refine At.thenN ?_
        refine At.seq ?_
        refine At.region ?_
        refine At.val (Val.move rfl) rfl rfl rfl ?_
        refine At.val (Val.bin rfl rfl rfl) rfl rfl rfl ?_
        refine At.nil ?_
        refine At.thenN ?_
        refine At.cond rfl (fun h4 => ?_) (fun h4 => ?_)
        · skip
          try simp only [notT, notF, bneT, bneF, beqT, beqF, decT, decF] at h4
          refine At.region ?_
          refine At.val (Val.move rfl) rfl rfl rfl ?_
          refine At.val (Val.bin rfl rfl rfl) rfl rfl rfl ?_
          rw [wrap_i64 (n := 512 - t % 512) (by omega) (by omega)]
          refine At.val (Val.quo rfl rfl (by decide)) rfl rfl rfl ?_
          rw [tdiv_nn _ (by omega), wrap_i64 (by omega) (by omega), show (512 - t % 512) / 64 = freeV t from by rw [freeV_1 ht0]; omega]
          refine At.val (Val.assign rfl) rfl rfl rfl ?_
          refine At.nil ?_
          refine At.thenN ?_
          refine At.seq ?_
          refine At.seq ?_
          refine At.region ?_
          refine At.val (Val.move rfl) rfl rfl rfl ?_
          refine At.val (Val.move rfl) rfl rfl rfl ?_
          refine At.val (Val.bin rfl rfl rfl) rfl rfl rfl ?_
          refine At.nil ?_
          refine At.thenN ?_
          refine At.cond rfl (fun h5 => ?_) (fun h5 => ?_)
          · skip
            try simp only [notT, notF, bneT, bneF, beqT, beqF, decT, decF] at h5
            refine At.seq ?_
            refine At.region ?_
            refine At.val (Val.assign rfl) rfl rfl rfl ?_
            refine At.nil ?_
            refine At.thenN ?_
            refine At.retC ?_
            refine At.thenR ?_
            refine At.ret1 (.inl rfl) rfl rfl rfl (fun w hw => ?_)
            exact ⟨retI (by first | exact (need_a (by assumption)).symm | exact (need_b (by assumption) (by assumption) hG).symm | (have h0 : t = 0 := ‹t = 0›; subst h0; first | exact (need_c (by assumption) (Or.inl rfl) (by rw [freeV_0]; assumption)).symm | (rw [need_d (by assumption) (Or.inl rfl) (by rw [freeV_0]; assumption), freeV_0, wrap_i64 (n := n - 0) (by omega) (by omega), wrap_i64 (n := n - 0 - 1) (by omega) (by omega), tdiv_nn _ (by omega), wrap_i64 (n := (n - 0 - 1) / 7) (by omega) (by omega), wrap_i64 (by omega) (by omega)])) | (have hz : freeV t = 0 := (by rw [freeV_1 ht0]; have := ‹t % 512 = 0›; omega); first | exact (need_c (by assumption) (Or.inr hG) (by rw [hz]; assumption)).symm | (rw [need_d (by assumption) (Or.inr hG) (by rw [hz]; assumption), hz, wrap_i64 (n := n - 0) (by omega) (by omega), wrap_i64 (n := n - 0 - 1) (by omega) (by omega), tdiv_nn _ (by omega), wrap_i64 (n := (n - 0 - 1) / 7) (by omega) (by omega), wrap_i64 (by omega) (by omega)])) | (have hf : 0 ≤ freeV t ∧ freeV t ≤ 7 := (by rw [freeV_1 ht0]; omega); first | exact (need_c (by assumption) (Or.inr hG) (by assumption)).symm | (rw [need_d (by assumption) (Or.inr hG) (by assumption), wrap_i64 (n := n - freeV t) (by omega) (by omega), wrap_i64 (n := n - freeV t - 1) (by omega) (by omega), tdiv_nn _ (by omega), wrap_i64 (n := (n - freeV t - 1) / 7) (by omega) (by omega), wrap_i64 (by omega) (by omega)]))), hw.mod⟩
          · skip
            try simp only [notT, notF, bneT, bneF, beqT, beqF, decT, decF] at h5
            refine At.skipC ?_
            refine At.thenN ?_
            refine At.seq ?_
            refine At.region ?_
            refine At.val (Val.move rfl) rfl rfl rfl ?_
            refine At.val (Val.move rfl) rfl rfl rfl ?_
            refine At.val (Val.bin rfl rfl rfl) rfl rfl rfl ?_
            refine At.val (Val.bin rfl rfl rfl) rfl rfl rfl ?_
            refine At.val (Val.quo rfl rfl (by decide)) rfl rfl rfl ?_
            refine At.val (Val.bin rfl rfl rfl) rfl rfl rfl ?_
            refine At.val (Val.assign rfl) rfl rfl rfl ?_
            refine At.nil ?_
            refine At.thenN ?_
            refine At.retC ?_
            refine At.ret1 (.inl rfl) rfl rfl rfl (fun w hw => ?_)
            exact ⟨retI (by first | exact (need_a (by assumption)).symm | exact (need_b (by assumption) (by assumption) hG).symm | (have h0 : t = 0 := ‹t = 0›; subst h0; first | exact (need_c (by assumption) (Or.inl rfl) (by rw [freeV_0]; assumption)).symm | (rw [need_d (by assumption) (Or.inl rfl) (by rw [freeV_0]; assumption), freeV_0, wrap_i64 (n := n - 0) (by omega) (by omega), wrap_i64 (n := n - 0 - 1) (by omega) (by omega), tdiv_nn _ (by omega), wrap_i64 (n := (n - 0 - 1) / 7) (by omega) (by omega), wrap_i64 (by omega) (by omega)])) | (have hz : freeV t = 0 := (by rw [freeV_1 ht0]; have := ‹t % 512 = 0›; omega); first | exact (need_c (by assumption) (Or.inr hG) (by rw [hz]; assumption)).symm | (rw [need_d (by assumption) (Or.inr hG) (by rw [hz]; assumption), hz, wrap_i64 (n := n - 0) (by omega) (by omega), wrap_i64 (n := n - 0 - 1) (by omega) (by omega), tdiv_nn _ (by omega), wrap_i64 (n := (n - 0 - 1) / 7) (by omega) (by omega), wrap_i64 (by omega) (by omega)])) | (have hf : 0 ≤ freeV t ∧ freeV t ≤ 7 := (by rw [freeV_1 ht0]; omega); first | exact (need_c (by assumption) (Or.inr hG) (by assumption)).symm | (rw [need_d (by assumption) (Or.inr hG) (by assumption), wrap_i64 (n := n - freeV t) (by omega) (by omega), wrap_i64 (n := n - freeV t - 1) (by omega) (by omega), tdiv_nn _ (by omega), wrap_i64 (n := (n - freeV t - 1) / 7) (by omega) (by omega), wrap_i64 (by omega) (by omega)]))), hw.mod⟩
        · skip
          try simp only [notT, notF, bneT, bneF, beqT, beqF, decT, decF] at h4
          refine At.skipC ?_
          refine At.thenN ?_
          refine At.seq ?_
          refine At.seq ?_
          refine At.region ?_
          refine At.val (Val.move rfl) rfl rfl rfl ?_
          refine At.val (Val.move rfl) rfl rfl rfl ?_
          refine At.val (Val.bin rfl rfl rfl) rfl rfl rfl ?_
          refine At.nil ?_
          refine At.thenN ?_
          refine At.cond rfl (fun h6 => ?_) (fun h6 => ?_)
          · skip
            try simp only [notT, notF, bneT, bneF, beqT, beqF, decT, decF] at h6
            refine At.seq ?_
            refine At.region ?_
            refine At.val (Val.assign rfl) rfl rfl rfl ?_
            refine At.nil ?_
            refine At.thenN ?_
            refine At.retC ?_
            refine At.thenR ?_
            refine At.ret1 (.inl rfl) rfl rfl rfl (fun w hw => ?_)
            exact ⟨retI (by first | exact (need_a (by assumption)).symm | exact (need_b (by assumption) (by assumption) hG).symm | (have h0 : t = 0 := ‹t = 0›; subst h0; first | exact (need_c (by assumption) (Or.inl rfl) (by rw [freeV_0]; assumption)).symm | (rw [need_d (by assumption) (Or.inl rfl) (by rw [freeV_0]; assumption), freeV_0, wrap_i64 (n := n - 0) (by omega) (by omega), wrap_i64 (n := n - 0 - 1) (by omega) (by omega), tdiv_nn _ (by omega), wrap_i64 (n := (n - 0 - 1) / 7) (by omega) (by omega), wrap_i64 (by omega) (by omega)])) | (have hz : freeV t = 0 := (by rw [freeV_1 ht0]; have := ‹t % 512 = 0›; omega); first | exact (need_c (by assumption) (Or.inr hG) (by rw [hz]; assumption)).symm | (rw [need_d (by assumption) (Or.inr hG) (by rw [hz]; assumption), hz, wrap_i64 (n := n - 0) (by omega) (by omega), wrap_i64 (n := n - 0 - 1) (by omega) (by omega), tdiv_nn _ (by omega), wrap_i64 (n := (n - 0 - 1) / 7) (by omega) (by omega), wrap_i64 (by omega) (by omega)])) | (have hf : 0 ≤ freeV t ∧ freeV t ≤ 7 := (by rw [freeV_1 ht0]; omega); first | exact (need_c (by assumption) (Or.inr hG) (by assumption)).symm | (rw [need_d (by assumption) (Or.inr hG) (by assumption), wrap_i64 (n := n - freeV t) (by omega) (by omega), wrap_i64 (n := n - freeV t - 1) (by omega) (by omega), tdiv_nn _ (by omega), wrap_i64 (n := (n - freeV t - 1) / 7) (by omega) (by omega), wrap_i64 (by omega) (by omega)]))), hw.mod⟩
          · skip
            try simp only [notT, notF, bneT, bneF, beqT, beqF, decT, decF] at h6
            refine At.skipC ?_
            refine At.thenN ?_
            refine At.seq ?_
            refine At.region ?_
            refine At.val (Val.move rfl) rfl rfl rfl ?_
            refine At.val (Val.move rfl) rfl rfl rfl ?_
            refine At.val (Val.bin rfl rfl rfl) rfl rfl rfl ?_
            refine At.val (Val.bin rfl rfl rfl) rfl rfl rfl ?_
            refine At.val (Val.quo rfl rfl (by decide)) rfl rfl rfl ?_
            refine At.val (Val.bin rfl rfl rfl) rfl rfl rfl ?_
            refine At.val (Val.assign rfl) rfl rfl rfl ?_
            refine At.nil ?_
            refine At.thenN ?_
            refine At.retC ?_
            refine At.ret1 (.inl rfl) rfl rfl rfl (fun w hw => ?_)
            exact ⟨retI (by first | exact (need_a (by assumption)).symm | exact (need_b (by assumption) (by assumption) hG).symm | (have h0 : t = 0 := ‹t = 0›; subst h0; first | exact (need_c (by assumption) (Or.inl rfl) (by rw [freeV_0]; assumption)).symm | (rw [need_d (by assumption) (Or.inl rfl) (by rw [freeV_0]; assumption), freeV_0, wrap_i64 (n := n - 0) (by omega) (by omega), wrap_i64 (n := n - 0 - 1) (by omega) (by omega), tdiv_nn _ (by omega), wrap_i64 (n := (n - 0 - 1) / 7) (by omega) (by omega), wrap_i64 (by omega) (by omega)])) | (have hz : freeV t = 0 := (by rw [freeV_1 ht0]; have := ‹t % 512 = 0›; omega); first | exact (need_c (by assumption) (Or.inr hG) (by rw [hz]; assumption)).symm | (rw [need_d (by assumption) (Or.inr hG) (by rw [hz]; assumption), hz, wrap_i64 (n := n - 0) (by omega) (by omega), wrap_i64 (n := n - 0 - 1) (by omega) (by omega), tdiv_nn _ (by omega), wrap_i64 (n := (n - 0 - 1) / 7) (by omega) (by omega), wrap_i64 (by omega) (by omega)])) | (have hf : 0 ≤ freeV t ∧ freeV t ≤ 7 := (by rw [freeV_1 ht0]; omega); first | exact (need_c (by assumption) (Or.inr hG) (by assumption)).symm | (rw [need_d (by assumption) (Or.inr hG) (by assumption), wrap_i64 (n := n - freeV t) (by omega) (by omega), wrap_i64 (n := n - freeV t - 1) (by omega) (by omega), tdiv_nn _ (by omega), wrap_i64 (n := (n - freeV t - 1) / 7) (by omega) (by omega), wrap_i64 (by omega) (by omega)]))), hw.mod⟩
      · skip
        rw [packSlot_no hg]
        have ht0 : ¬ t = 0 := ‹t ≠ 0›
        have hG : ¬ GoodT t := fun h => hg ⟨by decide, Or.inr ⟨Or.inr ⟨rfl, rfl⟩, Or.inr ⟨ht0, h, by decide, by decide⟩⟩⟩
        refine At.val (Val.move rfl) rfl rfl rfl ?_
        refine At.val (Val.extract rfl rfl) rfl rfl rfl ?_
        refine At.val (Val.extract rfl rfl) rfl rfl rfl ?_
        refine At.alloc zero_72 zc_72 rfl (fun b7 => ?_)
        refine At.storeAll (i := 0) Tryd.sizeOf72 rfl rfl rfl (by simp [Value.oneCell']) rfl (by simp) ?_
        simp only [List.set_cons_zero, List.set_cons_succ]
        refine At.val (Val.assign rfl) rfl rfl rfl ?_
        refine At.nil ?_
        refine At.thenN ?_
        refine At.seq ?_
        refine At.region ?_
        refine At.val (Val.move rfl) rfl rfl rfl ?_
        refine At.val (Val.bin rfl rfl rfl) rfl rfl rfl ?_
        refine At.nil ?_
        refine At.thenN ?_
        refine At.condT rfl ?_
        refine At.seq ?_
        refine At.region ?_
        refine At.val (Val.assign rfl) rfl rfl rfl ?_
        refine At.nil ?_
        refine At.thenN ?_
        refine At.retC ?_
        refine At.thenR ?_
        refine At.thenR ?_
        refine At.ret1 (.inl rfl) rfl rfl rfl (fun w hw => ?_)
        exact ⟨retI (by first | exact (need_a (by assumption)).symm | exact (need_b (by assumption) (by assumption) hG).symm | (have h0 : t = 0 := ‹t = 0›; subst h0; first | exact (need_c (by assumption) (Or.inl rfl) (by rw [freeV_0]; assumption)).symm | (rw [need_d (by assumption) (Or.inl rfl) (by rw [freeV_0]; assumption), freeV_0, wrap_i64 (n := n - 0) (by omega) (by omega), wrap_i64 (n := n - 0 - 1) (by omega) (by omega), tdiv_nn _ (by omega), wrap_i64 (n := (n - 0 - 1) / 7) (by omega) (by omega), wrap_i64 (by omega) (by omega)])) | (have hz : freeV t = 0 := (by rw [freeV_1 ht0]; have := ‹t % 512 = 0›; omega); first | exact (need_c (by assumption) (Or.inr hG) (by rw [hz]; assumption)).symm | (rw [need_d (by assumption) (Or.inr hG) (by rw [hz]; assumption), hz, wrap_i64 (n := n - 0) (by omega) (by omega), wrap_i64 (n := n - 0 - 1) (by omega) (by omega), tdiv_nn _ (by omega), wrap_i64 (n := (n - 0 - 1) / 7) (by omega) (by omega), wrap_i64 (by omega) (by omega)])) | (have hf : 0 ≤ freeV t ∧ freeV t ≤ 7 := (by rw [freeV_1 ht0]; omega); first | exact (need_c (by assumption) (Or.inr hG) (by assumption)).symm | (rw [need_d (by assumption) (Or.inr hG) (by assumption), wrap_i64 (n := n - freeV t) (by omega) (by omega), wrap_i64 (n := n - freeV t - 1) (by omega) (by omega), tdiv_nn _ (by omega), wrap_i64 (n := (n - freeV t - 1) / 7) (by omega) (by omega), wrap_i64 (by omega) (by omega)]))), hw.mod⟩
    · skip
      try simp only [notT, notF, bneT, bneF, beqT, beqF, decT, decF] at h2
      refine At.skipC ?_
      refine At.thenN ?_
      refine At.seq ?_
      refine At.seq ?_
      refine At.region ?_
      refine At.val (Val.move rfl) rfl rfl rfl ?_
      refine At.val (Val.move rfl) rfl rfl rfl ?_
      refine At.val (Val.bin rfl rfl rfl) rfl rfl rfl ?_
      refine At.nil ?_
      refine At.thenN ?_
      refine At.cond rfl (fun h8 => ?_) (fun h8 => ?_)
      · skip
        try simp only [notT, notF, bneT, bneF, beqT, beqF, decT, decF] at h8
        refine At.seq ?_
        refine At.region ?_
        refine At.val (Val.assign rfl) rfl rfl rfl ?_
        refine At.nil ?_
        refine At.thenN ?_
        refine At.retC ?_
        refine At.thenR ?_
        refine At.ret1 (.inl rfl) rfl rfl rfl (fun w hw => ?_)
        exact ⟨retI (by first | exact (need_a (by assumption)).symm | exact (need_b (by assumption) (by assumption) hG).symm | (have h0 : t = 0 := ‹t = 0›; subst h0; first | exact (need_c (by assumption) (Or.inl rfl) (by rw [freeV_0]; assumption)).symm | (rw [need_d (by assumption) (Or.inl rfl) (by rw [freeV_0]; assumption), freeV_0, wrap_i64 (n := n - 0) (by omega) (by omega), wrap_i64 (n := n - 0 - 1) (by omega) (by omega), tdiv_nn _ (by omega), wrap_i64 (n := (n - 0 - 1) / 7) (by omega) (by omega), wrap_i64 (by omega) (by omega)])) | (have hz : freeV t = 0 := (by rw [freeV_1 ht0]; have := ‹t % 512 = 0›; omega); first | exact (need_c (by assumption) (Or.inr hG) (by rw [hz]; assumption)).symm | (rw [need_d (by assumption) (Or.inr hG) (by rw [hz]; assumption), hz, wrap_i64 (n := n - 0) (by omega) (by omega), wrap_i64 (n := n - 0 - 1) (by omega) (by omega), tdiv_nn _ (by omega), wrap_i64 (n := (n - 0 - 1) / 7) (by omega) (by omega), wrap_i64 (by omega) (by omega)])) | (have hf : 0 ≤ freeV t ∧ freeV t ≤ 7 := (by rw [freeV_1 ht0]; omega); first | exact (need_c (by assumption) (Or.inr hG) (by assumption)).symm | (rw [need_d (by assumption) (Or.inr hG) (by assumption), wrap_i64 (n := n - freeV t) (by omega) (by omega), wrap_i64 (n := n - freeV t - 1) (by omega) (by omega), tdiv_nn _ (by omega), wrap_i64 (n := (n - freeV t - 1) / 7) (by omega) (by omega), wrap_i64 (by omega) (by omega)]))), hw.mod⟩
      · skip
        try simp only [notT, notF, bneT, bneF, beqT, beqF, decT, decF] at h8
        refine At.skipC ?_
        refine At.thenN ?_
        refine At.seq ?_
        refine At.region ?_
        refine At.val (Val.move rfl) rfl rfl rfl ?_
        refine At.val (Val.move rfl) rfl rfl rfl ?_
        refine At.val (Val.bin rfl rfl rfl) rfl rfl rfl ?_
        refine At.val (Val.bin rfl rfl rfl) rfl rfl rfl ?_
        refine At.val (Val.quo rfl rfl (by decide)) rfl rfl rfl ?_
        refine At.val (Val.bin rfl rfl rfl) rfl rfl rfl ?_
        refine At.val (Val.assign rfl) rfl rfl rfl ?_
        refine At.nil ?_
        refine At.thenN ?_
        refine At.retC ?_
        refine At.ret1 (.inl rfl) rfl rfl rfl (fun w hw => ?_)
        exact ⟨retI (by first | exact (need_a (by assumption)).symm | exact (need_b (by assumption) (by assumption) hG).symm | (have h0 : t = 0 := ‹t = 0›; subst h0; first | exact (need_c (by assumption) (Or.inl rfl) (by rw [freeV_0]; assumption)).symm | (rw [need_d (by assumption) (Or.inl rfl) (by rw [freeV_0]; assumption), freeV_0, wrap_i64 (n := n - 0) (by omega) (by omega), wrap_i64 (n := n - 0 - 1) (by omega) (by omega), tdiv_nn _ (by omega), wrap_i64 (n := (n - 0 - 1) / 7) (by omega) (by omega), wrap_i64 (by omega) (by omega)])) | (have hz : freeV t = 0 := (by rw [freeV_1 ht0]; have := ‹t % 512 = 0›; omega); first | exact (need_c (by assumption) (Or.inr hG) (by rw [hz]; assumption)).symm | (rw [need_d (by assumption) (Or.inr hG) (by rw [hz]; assumption), hz, wrap_i64 (n := n - 0) (by omega) (by omega), wrap_i64 (n := n - 0 - 1) (by omega) (by omega), tdiv_nn _ (by omega), wrap_i64 (n := (n - 0 - 1) / 7) (by omega) (by omega), wrap_i64 (by omega) (by omega)])) | (have hf : 0 ≤ freeV t ∧ freeV t ≤ 7 := (by rw [freeV_1 ht0]; omega); first | exact (need_c (by assumption) (Or.inr hG) (by assumption)).symm | (rw [need_d (by assumption) (Or.inr hG) (by assumption), wrap_i64 (n := n - freeV t) (by omega) (by omega), wrap_i64 (n := n - freeV t - 1) (by omega) (by omega), tdiv_nn _ (by omega), wrap_i64 (n := (n - freeV t - 1) / 7) (by omega) (by omega), wrap_i64 (by omega) (by omega)]))), hw.mod⟩

theorem lastR_p (t : Int) (w : World) (h0 : 0 < t) (h1 : t ≤ 9223372036854775807) :
    PureC Tryd.prog 124 [.int .i64 t] (.int .i64 ((t - 1) / 512)) w := by
  refine enter0 Tryd.func124 rfl Tryd.ntmps124 rfl ?_
  simp only [envOf]
  refine At.seq ?_
  refine At.region ?_
  refine At.val (Val.assign rfl) rfl rfl rfl ?_
  refine At.nil ?_
  refine At.thenN ?_
  refine At.seq ?_
  refine At.region ?_
  refine At.val (Val.move rfl) rfl rfl rfl ?_
  refine At.val (Val.bin rfl rfl rfl) rfl rfl rfl ?_
  rw [wrap_i64 (n := t - 1) (by omega) (by omega)]
  refine At.val (Val.quo rfl rfl (by decide)) rfl rfl rfl ?_
  rw [tdiv_nn _ (by omega), wrap_i64 (n := (t - 1) / 512) (by omega) (by omega)]
  refine At.val (Val.assign rfl) rfl rfl rfl ?_
  refine At.nil ?_
  refine At.thenN ?_
  refine At.retC ?_
  refine At.ret1 (.inl rfl) rfl rfl rfl (fun w hw => ?_)
  exact ⟨rfl, hw.mod⟩

theorem freeR_p (t : Int) (w : World) (hG : t = 0 ∨ GoodT t) :
    PureC Tryd.prog 99 [.int .i64 t] (.int .i64 (freeV t)) w := by
  refine enter0 Tryd.func99 rfl Tryd.ntmps99 rfl ?_
  simp only [envOf]
  refine At.seq ?_
  refine At.region ?_
  refine At.val (Val.assign rfl) rfl rfl rfl ?_
  refine At.nil ?_
  refine At.thenN ?_
  refine At.seq ?_
  refine At.seq ?_
  refine At.region ?_
  refine At.val (Val.move rfl) rfl rfl rfl ?_
  refine At.val (Val.bin rfl rfl rfl) rfl rfl rfl ?_
  refine At.nil ?_
  refine At.thenN ?_
  refine At.cond rfl (fun h1 => ?_) (fun h1 => ?_)
  · skip
    try simp only [notT, notF, bneT, bneF, beqT, beqF, decT, decF] at h1
    refine At.seq ?_
    refine At.region ?_
    refine At.val (Val.assign rfl) rfl rfl rfl ?_
    refine At.nil ?_
    refine At.thenN ?_
    refine At.retC ?_
    refine At.thenR ?_
    refine At.ret1 (.inl rfl) rfl rfl rfl (fun w hw => ?_)
    exact ⟨retI (by have h0 : t = 0 := ‹t = 0›; rw [h0, freeV_0]), hw.mod⟩
  · skip
    try simp only [notT, notF, bneT, bneF, beqT, beqF, decT, decF] at h1
    have hG' : GoodT t := hG.resolve_left h1
    unfold GoodT at hG'
    refine At.skipC ?_
    refine At.thenN ?_
    refine At.seq ?_
    refine At.region ?_
    refine At.val (Val.move rfl) rfl rfl rfl ?_
    refine At.callP (fun w hw => lastR_p t w (by omega) (by omega)) Tryd.call124 rfl rfl ?_
    refine At.val (Val.bin rfl rfl rfl) rfl rfl rfl ?_
    rw [wrap_i64 (n := (t - 1) / 512 + 1) (by omega) (by omega)]
    refine At.val (Val.bin rfl rfl rfl) rfl rfl rfl ?_
    rw [wrap_i64 (n := 512 * ((t - 1) / 512 + 1)) (by omega) (by omega)]
    refine At.val (Val.move rfl) rfl rfl rfl ?_
    refine At.val (Val.bin rfl rfl rfl) rfl rfl rfl ?_
    rw [wrap_i64 (n := 512 * ((t - 1) / 512 + 1) - t) (by omega) (by omega)]
    refine At.val (Val.quo rfl rfl (by decide)) rfl rfl rfl ?_
    rw [tdiv_nn _ (by omega), wrap_i64 (n := (512 * ((t - 1) / 512 + 1) - t) / 64) (by omega) (by omega)]
    refine At.val (Val.assign rfl) rfl rfl rfl ?_
    refine At.nil ?_
    refine At.thenN ?_
    refine At.retC ?_
    refine At.ret1 (.inl rfl) rfl rfl rfl (fun w hw => ?_)
    exact ⟨retI (freeV_1 (by assumption)).symm, hw.mod⟩

theorem needR_p (t n : Int) (w : World) (hb : -9223372036854775808 ≤ t ∧ t ≤ 9223372036854775807) (hn : -9223372036854775808 ≤ n ∧ n ≤ 9223372036854775807) :
    PureC Tryd.prog 38 [.int .i64 t, .int .i64 n] (.int .i64 (needV t n)) w := by
  refine enter0 Tryd.func38 rfl Tryd.ntmps38 rfl ?_
  simp only [envOf]
  refine At.seq ?_
  refine At.region ?_
  refine At.val (Val.assign rfl) rfl rfl rfl ?_
  refine At.nil ?_
  refine At.thenN ?_
  refine At.seq ?_
  refine At.seq ?_
  refine At.region ?_
  refine At.val (Val.move rfl) rfl rfl rfl ?_
  refine At.val (Val.bin rfl rfl rfl) rfl rfl rfl ?_
  refine At.nil ?_
  refine At.thenN ?_
  refine At.cond rfl (fun h1 => ?_) (fun h1 => ?_)
  · skip
    try simp only [notT, notF, bneT, bneF, beqT, beqF, decT, decF] at h1
    refine At.seq ?_
    refine At.region ?_
    refine At.val (Val.assign rfl) rfl rfl rfl ?_
    refine At.nil ?_
    refine At.thenN ?_
    refine At.retC ?_
    refine At.thenR ?_
    refine At.ret1 (.inl rfl) rfl rfl rfl (fun w hw => ?_)
    exact ⟨retI (by first | exact (need_a (by assumption)).symm | exact (need_b (by assumption) (by assumption) hB).symm | exact (need_c (by assumption) hG (by assumption)).symm | (rw [need_d (by assumption) hG (by assumption)]; omega)), hw.mod⟩
  · skip
    try simp only [notT, notF, bneT, bneF, beqT, beqF, decT, decF] at h1
    refine At.skipC ?_
    refine At.thenN ?_
    refine At.seq ?_
    refine At.seq ?_
    refine At.region ?_
    refine At.val (Val.move rfl) rfl rfl rfl ?_
    refine At.val (Val.bin rfl rfl rfl) rfl rfl rfl ?_
    refine At.val (Val.move rfl) rfl rfl rfl ?_
    refine At.split (t := 11) rfl (fun h2 => ?_) (fun h2 => ?_)
    · skip
      try simp only [notT, notF, bneT, bneF, beqT, beqF, decT, decF] at h2
      refine At.yes rfl rfl ?_
      refine At.val (Val.move rfl) rfl rfl rfl ?_
      refine At.yes rfl rfl ?_
      refine At.callP (fun w hw => goodTailR_p _ w hb) Tryd.call98 rfl rfl ?_
      refine At.yes rfl rfl ?_
      refine At.val (Val.not rfl) rfl rfl rfl ?_
      refine At.val (Val.pickT rfl rfl) rfl rfl rfl ?_
      refine At.nil ?_
      refine At.thenN ?_
      refine At.cond rfl (fun h3 => ?_) (fun h3 => ?_)
      · skip
        try simp only [notT, notF, bneT, bneF, beqT, beqF, decT, decF] at h3
        have hB : ¬ GoodT t := by assumption
        refine At.seq ?_
        refine At.region ?_
        refine At.val (Val.assign rfl) rfl rfl rfl ?_
        refine At.nil ?_
        refine At.thenN ?_
        refine At.retC ?_
        refine At.thenR ?_
        refine At.ret1 (.inl rfl) rfl rfl rfl (fun w hw => ?_)
        exact ⟨retI (by first | exact (need_a (by assumption)).symm | exact (need_b (by assumption) (by assumption) hB).symm | exact (need_c (by assumption) hG (by assumption)).symm | (rw [need_d (by assumption) hG (by assumption)]; omega)), hw.mod⟩
      · skip
        try simp only [notT, notF, bneT, bneF, beqT, beqF, decT, decF] at h3
        have hG : t = 0 ∨ GoodT t := Or.inr (by assumption)
        have hf : 0 ≤ freeV t ∧ freeV t ≤ 7 := (by rcases hG with h | h; rw [h, freeV_0]; decide; have h0 : ¬ t = 0 := (by unfold GoodT at h; omega); rw [freeV_1 h0]; unfold GoodT at h; omega)
        refine At.skipC ?_
        refine At.thenN ?_
        refine At.seq ?_
        refine At.region ?_
        refine At.val (Val.move rfl) rfl rfl rfl ?_
        refine At.callP (fun w hw => freeR_p t w hG) Tryd.call99 rfl rfl ?_
        refine At.val (Val.assign rfl) rfl rfl rfl ?_
        refine At.nil ?_
        refine At.thenN ?_
        refine At.seq ?_
        refine At.seq ?_
        refine At.region ?_
        refine At.val (Val.move rfl) rfl rfl rfl ?_
        refine At.val (Val.move rfl) rfl rfl rfl ?_
        refine At.val (Val.bin rfl rfl rfl) rfl rfl rfl ?_
        refine At.nil ?_
        refine At.thenN ?_
        refine At.cond rfl (fun h4 => ?_) (fun h4 => ?_)
        · skip
          try simp only [notT, notF, bneT, bneF, beqT, beqF, decT, decF] at h4
          refine At.seq ?_
          refine At.region ?_
          refine At.val (Val.assign rfl) rfl rfl rfl ?_
          refine At.nil ?_
          refine At.thenN ?_
          refine At.retC ?_
          refine At.thenR ?_
          refine At.ret1 (.inl rfl) rfl rfl rfl (fun w hw => ?_)
          exact ⟨retI (by first | exact (need_a (by assumption)).symm | exact (need_b (by assumption) (by assumption) hB).symm | exact (need_c (by assumption) hG (by assumption)).symm | (rw [need_d (by assumption) hG (by assumption)]; omega)), hw.mod⟩
        · skip
          try simp only [notT, notF, bneT, bneF, beqT, beqF, decT, decF] at h4
          refine At.skipC ?_
          refine At.thenN ?_
          refine At.seq ?_
          refine At.region ?_
          refine At.val (Val.move rfl) rfl rfl rfl ?_
          refine At.val (Val.move rfl) rfl rfl rfl ?_
          refine At.val (Val.bin rfl rfl rfl) rfl rfl rfl ?_
          rw [wrap_i64 (n := n - freeV t) (by omega) (by omega)]
          refine At.val (Val.quo rfl rfl (by decide)) rfl rfl rfl ?_
          rw [tdiv_nn _ (by omega), wrap_i64 (n := (n - freeV t) / 7) (by omega) (by omega)]
          refine At.val (Val.assign rfl) rfl rfl rfl ?_
          refine At.nil ?_
          refine At.thenN ?_
          refine At.seq ?_
          refine At.seq ?_
          refine At.region ?_
          refine At.val (Val.move rfl) rfl rfl rfl ?_
          refine At.val (Val.move rfl) rfl rfl rfl ?_
          refine At.val (Val.bin rfl rfl rfl) rfl rfl rfl ?_
          rw [wrap_i64 (n := n - freeV t) (by omega) (by omega)]
          refine At.val (Val.rem rfl rfl (by decide)) rfl rfl rfl ?_
          rw [tmod_nn _ (by omega)]
          refine At.val (Val.bin rfl rfl rfl) rfl rfl rfl ?_
          refine At.nil ?_
          refine At.thenN ?_
          refine At.cond rfl (fun h5 => ?_) (fun h5 => ?_)
          · skip
            try simp only [notT, notF, bneT, bneF, beqT, beqF, decT, decF] at h5
            refine At.region ?_
            refine At.val (Val.move rfl) rfl rfl rfl ?_
            refine At.val (Val.bin rfl rfl rfl) rfl rfl rfl ?_
            rw [wrap_i64 (n := (n - freeV t) / 7 + 1) (by omega) (by omega)]
            refine At.val (Val.assign rfl) rfl rfl rfl ?_
            refine At.nil ?_
            refine At.thenN ?_
            refine At.seq ?_
            refine At.region ?_
            refine At.val (Val.move rfl) rfl rfl rfl ?_
            refine At.val (Val.assign rfl) rfl rfl rfl ?_
            refine At.nil ?_
            refine At.thenN ?_
            refine At.retC ?_
            refine At.ret1 (.inl rfl) rfl rfl rfl (fun w hw => ?_)
            exact ⟨retI (by first | exact (need_a (by assumption)).symm | exact (need_b (by assumption) (by assumption) hB).symm | exact (need_c (by assumption) hG (by assumption)).symm | (rw [need_d (by assumption) hG (by assumption)]; omega)), hw.mod⟩
          · skip
            try simp only [notT, notF, bneT, bneF, beqT, beqF, decT, decF] at h5
            refine At.skipC ?_
            refine At.thenN ?_
            refine At.seq ?_
            refine At.region ?_
            refine At.val (Val.move rfl) rfl rfl rfl ?_
            refine At.val (Val.assign rfl) rfl rfl rfl ?_
            refine At.nil ?_
            refine At.thenN ?_
            refine At.retC ?_
            refine At.ret1 (.inl rfl) rfl rfl rfl (fun w hw => ?_)
            exact ⟨retI (by first | exact (need_a (by assumption)).symm | exact (need_b (by assumption) (by assumption) hB).symm | exact (need_c (by assumption) hG (by assumption)).symm | (rw [need_d (by assumption) hG (by assumption)]; omega)), hw.mod⟩
    · skip
      try simp only [notT, notF, bneT, bneF, beqT, beqF, decT, decF] at h2
      have hG : t = 0 ∨ GoodT t := Or.inl (by omega)
      have hf : 0 ≤ freeV t ∧ freeV t ≤ 7 := (by rcases hG with h | h; rw [h, freeV_0]; decide; have h0 : ¬ t = 0 := (by unfold GoodT at h; omega); rw [freeV_1 h0]; unfold GoodT at h; omega)
      refine At.no rfl rfl rfl rfl ?_
      refine At.no rfl rfl rfl rfl ?_
      refine At.no rfl rfl rfl rfl ?_
      refine At.val (Val.pickF rfl rfl) rfl rfl rfl ?_
      refine At.nil ?_
      refine At.thenN ?_
      refine At.condF rfl ?_
      refine At.skipC ?_
      refine At.thenN ?_
      refine At.seq ?_
      refine At.region ?_
      refine At.val (Val.move rfl) rfl rfl rfl ?_
      refine At.callP (fun w hw => freeR_p t w hG) Tryd.call99 rfl rfl ?_
      refine At.val (Val.assign rfl) rfl rfl rfl ?_
      refine At.nil ?_
      refine At.thenN ?_
      refine At.seq ?_
      refine At.seq ?_
      refine At.region ?_
      refine At.val (Val.move rfl) rfl rfl rfl ?_
      refine At.val (Val.move rfl) rfl rfl rfl ?_
      refine At.val (Val.bin rfl rfl rfl) rfl rfl rfl ?_
      refine At.nil ?_
      refine At.thenN ?_
      refine At.cond rfl (fun h6 => ?_) (fun h6 => ?_)
      · skip
        try simp only [notT, notF, bneT, bneF, beqT, beqF, decT, decF] at h6
        refine At.seq ?_
        refine At.region ?_
        refine At.val (Val.assign rfl) rfl rfl rfl ?_
        refine At.nil ?_
        refine At.thenN ?_
        refine At.retC ?_
        refine At.thenR ?_
        refine At.ret1 (.inl rfl) rfl rfl rfl (fun w hw => ?_)
        exact ⟨retI (by first | exact (need_a (by assumption)).symm | exact (need_b (by assumption) (by assumption) hB).symm | exact (need_c (by assumption) hG (by assumption)).symm | (rw [need_d (by assumption) hG (by assumption)]; omega)), hw.mod⟩
      · skip
        try simp only [notT, notF, bneT, bneF, beqT, beqF, decT, decF] at h6
        refine At.skipC ?_
        refine At.thenN ?_
        refine At.seq ?_
        refine At.region ?_
        refine At.val (Val.move rfl) rfl rfl rfl ?_
        refine At.val (Val.move rfl) rfl rfl rfl ?_
        refine At.val (Val.bin rfl rfl rfl) rfl rfl rfl ?_
        rw [wrap_i64 (n := n - freeV t) (by omega) (by omega)]
        refine At.val (Val.quo rfl rfl (by decide)) rfl rfl rfl ?_
        rw [tdiv_nn _ (by omega), wrap_i64 (n := (n - freeV t) / 7) (by omega) (by omega)]
        refine At.val (Val.assign rfl) rfl rfl rfl ?_
        refine At.nil ?_
        refine At.thenN ?_
        refine At.seq ?_
        refine At.seq ?_
        refine At.region ?_
        refine At.val (Val.move rfl) rfl rfl rfl ?_
        refine At.val (Val.move rfl) rfl rfl rfl ?_
        refine At.val (Val.bin rfl rfl rfl) rfl rfl rfl ?_
        rw [wrap_i64 (n := n - freeV t) (by omega) (by omega)]
        refine At.val (Val.rem rfl rfl (by decide)) rfl rfl rfl ?_
        rw [tmod_nn _ (by omega)]
        refine At.val (Val.bin rfl rfl rfl) rfl rfl rfl ?_
        refine At.nil ?_
        refine At.thenN ?_
        refine At.cond rfl (fun h7 => ?_) (fun h7 => ?_)
        · skip
          try simp only [notT, notF, bneT, bneF, beqT, beqF, decT, decF] at h7
          refine At.region ?_
          refine At.val (Val.move rfl) rfl rfl rfl ?_
          refine At.val (Val.bin rfl rfl rfl) rfl rfl rfl ?_
          rw [wrap_i64 (n := (n - freeV t) / 7 + 1) (by omega) (by omega)]
          refine At.val (Val.assign rfl) rfl rfl rfl ?_
          refine At.nil ?_
          refine At.thenN ?_
          refine At.seq ?_
          refine At.region ?_
          refine At.val (Val.move rfl) rfl rfl rfl ?_
          refine At.val (Val.assign rfl) rfl rfl rfl ?_
          refine At.nil ?_
          refine At.thenN ?_
          refine At.retC ?_
          refine At.ret1 (.inl rfl) rfl rfl rfl (fun w hw => ?_)
          exact ⟨retI (by first | exact (need_a (by assumption)).symm | exact (need_b (by assumption) (by assumption) hB).symm | exact (need_c (by assumption) hG (by assumption)).symm | (rw [need_d (by assumption) hG (by assumption)]; omega)), hw.mod⟩
        · skip
          try simp only [notT, notF, bneT, bneF, beqT, beqF, decT, decF] at h7
          refine At.skipC ?_
          refine At.thenN ?_
          refine At.seq ?_
          refine At.region ?_
          refine At.val (Val.move rfl) rfl rfl rfl ?_
          refine At.val (Val.assign rfl) rfl rfl rfl ?_
          refine At.nil ?_
          refine At.thenN ?_
          refine At.retC ?_
          refine At.ret1 (.inl rfl) rfl rfl rfl (fun w hw => ?_)
          exact ⟨retI (by first | exact (need_a (by assumption)).symm | exact (need_b (by assumption) (by assumption) hB).symm | exact (need_c (by assumption) hG (by assumption)).symm | (rw [need_d (by assumption) hG (by assumption)]; omega)), hw.mod⟩

theorem lawNeeds_p (t n : Int) (w : World) (ht : Tab w) (hb : -9223372036854775808 ≤ t ∧ t ≤ 9223372036854775807) (hn : -9223372036854775808 ≤ n ∧ n ≤ 9223372036854775807) :
    PureC Tryd.prog 8 [.int .i64 t, .int .i64 n] (.bool true) w := by
  refine enter0 Tryd.func8 rfl Tryd.ntmps8 rfl ?_
  simp only [envOf]
  refine At.seq ?_
  refine At.region ?_
  refine At.val (Val.assign rfl) rfl rfl rfl ?_
  refine At.nil ?_
  refine At.thenN ?_
  refine At.seq ?_
  refine At.region ?_
  refine At.val (Val.move rfl) rfl rfl rfl ?_
  refine At.val (Val.move rfl) rfl rfl rfl ?_
  refine At.callP (fun w hw => need_p t n w (ht.mod hw.mod) hb hn) Tryd.call37 rfl rfl ?_
  refine At.val (Val.assign rfl) rfl rfl rfl ?_
  refine At.nil ?_
  refine At.thenN ?_
  refine At.seq ?_
  refine At.region ?_
  refine At.val (Val.move rfl) rfl rfl rfl ?_
  refine At.val (Val.move rfl) rfl rfl rfl ?_
  refine At.val (Val.move rfl) rfl rfl rfl ?_
  refine At.callP (fun w hw => needR_p t n w hb hn) Tryd.call38 rfl rfl ?_
  refine At.val (Val.bin rfl rfl rfl) rfl rfl rfl ?_
  refine At.val (Val.assign rfl) rfl rfl rfl ?_
  refine At.nil ?_
  refine At.thenN ?_
  refine At.retC ?_
  refine At.ret1 (.inl rfl) rfl rfl rfl (fun w hw => ?_)
  exact ⟨by simp, hw.mod⟩

end Go.Proofs.YtlplkbbnpddihaaDoor
