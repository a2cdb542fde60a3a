/- Good records. -/
import Derived.Test.YtoiebgnmknbkjaaDoorA3
import Derived.Test.YtoiebgnmknbkjaaDoorB2
import Derived.Test.YtoiebgnmknbkjaaDoorWv
import Derived.Test.YtoiebgnmknbkjaaDoorW9
import Derived.Test.YtoiebgnmknbkjaaDoorB3
set_option linter.unusedVariables false
set_option linter.unusedSimpArgs false
namespace Go.Proofs.YtoiebgnmknbkjaaDoor
open Go Go.Wk

def loOf : Option (Int × Int) → Int
  | none => 5
  | some c => c.1 + c.2 + 1
def loAt (L : List (Int × Int)) (k : Nat) : Int := loOf (L.take k).getLast?
theorem loAt_0 (L : List (Int × Int)) : loAt L 0 = 5 := rfl
theorem loAt_succ {L : List (Int × Int)} {k : Nat} {c : Int × Int} (h : L[k]? = some c) : loAt L (k + 1) = c.1 + c.2 + 1 := by
  unfold loAt; rw [List.take_succ_of_get h]; simp [loOf]
def OkSp (lo : Int) (c : Int × Int) : Prop := lo ≤ c.1 ∧ c.1 ≤ 1023 ∧ 1 ≤ c.2 ∧ c.1 + c.2 ≤ 1024
instance (lo : Int) (c : Int × Int) : Decidable (OkSp lo c) := by unfold OkSp; infer_instance
def SpK (L : List (Int × Int)) (k : Nat) : Prop := ∀ j c, j < k → L[j]? = some c → OkSp (loAt L j) c
theorem spK_0 (L : List (Int × Int)) : SpK L 0 := fun j c h => absurd h (Nat.not_lt_zero _)
theorem spK_succ {L : List (Int × Int)} {k : Nat} {c : Int × Int} (h : SpK L k) (hc : L[k]? = some c) (ho : OkSp (loAt L k) c) : SpK L (k + 1) := fun j d hj hd => by
  rcases Nat.lt_or_ge j k with h1 | h1
  · exact h j d h1 hd
  · obtain rfl : k = j := by omega
    rw [hc] at hd; obtain rfl := Option.some.inj hd; exact ho
theorem lo_bd {L : List (Int × Int)} : ∀ {k : Nat}, SpK L k → k ≤ L.length → 5 ≤ loAt L k ∧ loAt L k ≤ 1025
  | 0, _, _ => by rw [loAt_0]; omega
  | k + 1, h, hk => by
    have ih := lo_bd (k := k) (fun j c hj hc => h j c (by omega) hc) (by omega)
    have hg : L[k]? = some (L[k]'(by omega)) := List.getElem?_eq_getElem (by omega)
    have ho := h k _ (by omega) hg
    rw [loAt_succ hg]
    unfold OkSp at ho; omega
def GoodSv (t : BitVec 32) (L : List (Int × Int)) : Prop := t.toNat ≠ 0 ∧ L.length ≤ 249 ∧ SpK L L.length
noncomputable instance (t : BitVec 32) (L : List (Int × Int)) : Decidable (GoodSv t L) := Classical.propDecidable _
theorem spK_no {L : List (Int × Int)} {t : BitVec 32} {k : Nat} {c : Int × Int} (hc : L[k]? = some c) (ho : ¬ OkSp (loAt L k) c) : ¬ GoodSv t L := fun g => ho (g.2.2 k c (List.getElem?_eq_some_iff.1 hc).1 hc)
def nxR (L : List (Int × Int)) (k : Nat) : Int := if k = 0 then 0 else loAt L k
theorem nxR_0 (L : List (Int × Int)) : nxR L 0 = 0 := rfl
theorem nxR_is (L : List (Int × Int)) (k : Nat) : (k = 0 ∧ nxR L k = 0 ∧ loAt L k = 5) ∨ (¬ k = 0 ∧ nxR L k = loAt L k) := by
  by_cases h : k = 0
  · subst h; exact .inl ⟨rfl, rfl, rfl⟩
  · exact .inr ⟨h, if_neg h⟩
theorem nxR_succ {L : List (Int × Int)} {k : Nat} {c : Int × Int} (h : L[k]? = some c) : nxR L (k + 1) = c.1 + c.2 + 1 := by unfold nxR; rw [if_neg (by omega), loAt_succ h]
theorem sp_eq {L : List (Int × Int)} {k : Nat} {a b : Int × Int} (h1 : L[(k : Int).toNat]? = some a) (h2 : L[k]? = some b) : a = b := by
  rw [Int.toNat_natCast, h2] at h1; exact (Option.some.inj h1).symm

theorem goodSv_p (t : BitVec 32) (v : Value) (L : List (Int × Int)) (w : World) (hv : RdS w v L) (hlen : L.length ≤ 8796093022144) :
    PureC Tryd.prog 102 [.agg #[b32 t, v]] (.bool (decide (GoodSv t L))) w := by
  refine enter0 Tryd.func102 rfl Tryd.ntmps102 rfl ?_
  simp only [envOf]
  refine At.seq ?_
  refine At.region ?_
  refine At.box rfl rfl rfl (fun b1 => ?_)
  refine At.val (Val.assign rfl) rfl rfl rfl ?_
  refine At.nil ?_
  refine At.thenN ?_
  refine At.seq ?_
  refine At.seq ?_
  refine At.region ?_
  refine At.weaken [(0, _), (1, _), (2, _)] (Sub.cons rfl (Sub.cons rfl (Sub.cons rfl Sub.nil))) ?_
  refine At.boolMeet 9 14 (decide (t.toNat = 0 ∨ 249 < L.length)) ?_ ?_
  · skip
    simp only [List.take_succ_cons, List.take_zero]
    refine At.val (Val.field 0 rfl fo_74_0 rfl) rfl rfl rfl ?_
    refine At.val (Val.load (i := 0) Tryd.isAgg48 rfl rfl rfl) rfl rfl rfl ?_
    refine At.val (Val.bin rfl rfl rfl) rfl rfl rfl ?_
    refine At.val (Val.move rfl) rfl rfl rfl ?_
    refine At.split (t := 9) rfl (fun h2 => ?_) (fun h2 => ?_)
    · skip
      try simp only [vN_T, vN_F, nmE_T, nmE_F, wI_T, wI_F, data_T, data_F, ino_T, ino_F, notT, notF, bneT, bneF, beqT, beqF, decT, decF] at h2
      refine At.no rfl rfl rfl rfl ?_
      refine At.no rfl rfl rfl rfl ?_
      refine At.no rfl rfl rfl rfl ?_
      refine At.no rfl rfl rfl rfl ?_
      refine At.val (Val.pickT rfl rfl) rfl rfl rfl ?_
      refine At.nil ?_
      exact At.boolEnd rfl (by first | rfl | exact (decide_eq_true (by omega)).symm | exact (decide_eq_false (by omega)).symm | (apply Bool.eq_iff_iff.2; simp only [decide_eq_true_eq, beq_iff_eq, bne_iff_ne, ne_eq, wI_T, data_T, ino_T, vN_T, nmE_T, Bool.not_eq_true', wI_F, data_F, ino_F, vN_F, nmE_F, decide_eq_false_iff_not]; omega)) (by repeat (first | exact Sub.nil | refine Sub.cons rfl ?_))
    · skip
      try simp only [vN_T, vN_F, nmE_T, nmE_F, wI_T, wI_F, data_T, data_F, ino_T, ino_F, notT, notF, bneT, bneF, beqT, beqF, decT, decF] at h2
      refine At.yes rfl rfl ?_
      refine At.val (Val.field 1 rfl fo_74_1 rfl) rfl rfl rfl ?_
      refine At.yes rfl rfl ?_
      refine At.val (Val.load (i := 0) Tryd.isAgg72 rfl rfl rfl) rfl rfl rfl ?_
      refine At.yes rfl rfl ?_
      refine At.val (Val.lenRd hv Tryd.underlying72 rfl) rfl rfl rfl ?_
      refine At.yes rfl rfl ?_
      refine At.val (Val.bin rfl rfl rfl) rfl rfl rfl ?_
      refine At.val (Val.pickF rfl rfl) rfl rfl rfl ?_
      refine At.nil ?_
      exact At.boolEnd rfl (by first | rfl | exact (decide_eq_true (by omega)).symm | exact (decide_eq_false (by omega)).symm | (apply Bool.eq_iff_iff.2; simp only [decide_eq_true_eq, beq_iff_eq, bne_iff_ne, ne_eq, wI_T, data_T, ino_T, vN_T, nmE_T, Bool.not_eq_true', wI_F, data_F, ino_F, vN_F, nmE_F, decide_eq_false_iff_not]; omega)) (by repeat (first | exact Sub.nil | refine Sub.cons rfl ?_))
  · skip
    simp only [List.drop_succ_cons, List.drop_zero]
    refine At.nil ?_
    refine At.thenN ?_
    refine At.cond rfl (fun h3 => ?_) (fun h3 => ?_)
    · skip
      try simp only [vN_T, vN_F, nmE_T, nmE_F, wI_T, wI_F, data_T, data_F, ino_T, ino_F, notT, notF, bneT, bneF, beqT, beqF, decT, decF] at h3
      refine At.seq ?_
      refine At.region ?_
      refine At.val (Val.assign rfl) rfl rfl rfl ?_
      refine At.nil ?_
      refine At.thenN ?_
      refine At.retC ?_
      refine At.thenR ?_
      refine At.ret1 (.inl rfl) rfl rfl rfl (fun w hw => ?_)
      exact ⟨retB (decide_eq_false (fun g => by have h1 := g.1; have h2 := g.2.1; omega)).symm, hw.mod⟩
    · skip
      try simp only [vN_T, vN_F, nmE_T, nmE_F, wI_T, wI_F, data_T, data_F, ino_T, ino_F, notT, notF, bneT, bneF, beqT, beqF, decT, decF] at h3
      refine At.skipC ?_
      refine At.thenN ?_
      refine At.seq ?_
      refine At.region ?_
      refine At.val (Val.assign rfl) rfl rfl rfl ?_
      refine At.nil ?_
      refine At.thenN ?_
      refine At.seq ?_
      refine At.seq ?_
      refine At.region ?_
      refine At.val (Val.field 1 rfl fo_74_1 rfl) rfl rfl rfl ?_
      refine At.val (Val.load (i := 0) Tryd.isAgg72 rfl rfl rfl) rfl rfl rfl ?_
      refine At.val (Val.lenRd hv Tryd.underlying72 rfl) rfl rfl rfl ?_
      refine At.val (Val.move rfl) rfl rfl rfl ?_
      refine At.nil ?_
      refine At.thenN ?_
      refine At.block ?_
      skip
      refine At.drop 0 ?_
      simp only [List.eraseIdx_cons_zero, List.eraseIdx_cons_succ]
      refine At.loop (σ := Nat) (fun k => k ≤ L.length ∧ SpK L k) (fun k => [(16, v), (17, .int .i64 (L.length : Int)), (18, .int .i64 (k : Int)), (3, .int .i64 (loAt L k - 2))]) (fun k => []) (fun k => L.length - k) 0 ⟨Nat.zero_le _, spK_0 L⟩ (Sub.cons rfl (Sub.cons rfl (Sub.cons rfl (Sub.cons (congrArg (fun z => some (Value.int IntKind.i64 z)) (by rw [loAt_0]; rfl)) Sub.nil)))) (List.Perm.refl _) ?_
      intro k hs
      refine At.seq ?_
      refine At.region ?_
      refine At.val (Val.bin rfl rfl rfl) rfl rfl rfl ?_
      refine At.nil ?_
      refine At.thenN ?_
      refine At.seq ?_
      refine At.cond rfl (fun h4 => ?_) (fun h4 => ?_)
      · skip
        try simp only [vN_T, vN_F, nmE_T, nmE_F, wI_T, wI_F, data_T, data_F, ino_T, ino_F, notT, notF, bneT, bneF, beqT, beqF, decT, decF] at h4
        have hk : k < L.length := by omega
        have hlo := lo_bd hs.2 hs.1
        refine At.skipC ?_
        refine At.thenN ?_
        refine At.seq ?_
        refine At.block ?_
        refine At.seq ?_
        refine At.region ?_
        refine At.idxS hv Tryd.underlying72 Tryd.sizeOf88 rfl rfl (by omega) (by omega) rfl rfl (fun b5 o6 q7 hq8 hc9 hd10 => ?_)
        refine At.val (Val.loadSpan Tryd.isAgg88 Tryd.sizeOf88 rfl hc9 hd10 (fun h => h)) rfl rfl rfl ?_
        refine At.alloc Tryd.zeroValue88 rfl rfl (fun b11 => ?_)
        refine At.storeAll (i := 0) Tryd.sizeOf88 rfl rfl rfl (by simp [Value.oneCell']) rfl rfl ?_
        simp only [List.set_cons_zero, List.set_cons_succ]
        refine At.nil ?_
        have hqk := hq8
        rw [Int.toNat_natCast] at hqk
        refine At.thenN ?_
        refine At.seq ?_
        refine At.seq ?_
        refine At.region ?_
        refine At.weaken [(16, _), (17, _), (18, _), (3, _), (19, _), (20, _), (21, _), (5, _)] (Sub.cons rfl (Sub.cons rfl (Sub.cons rfl (Sub.cons rfl (Sub.cons rfl (Sub.cons rfl (Sub.cons rfl (Sub.cons rfl Sub.nil)))))))) ?_
        refine At.boolMeet 23 44 (decide (¬ OkSp (loAt L k) q7)) ?_ ?_
        · skip
          simp only [List.take_succ_cons, List.take_zero]
          refine At.val (Val.field 1 rfl fo_88_1 rfl) rfl rfl rfl ?_
          refine At.val (Val.load (i := 0) Tryd.isAgg3 rfl rfl rfl) rfl rfl rfl ?_
          refine At.val (Val.bin rfl rfl rfl) rfl rfl rfl ?_
          refine At.val (Val.move rfl) rfl rfl rfl ?_
          refine At.split (t := 25) rfl (fun h12 => ?_) (fun h12 => ?_)
          · skip
            try simp only [vN_T, vN_F, nmE_T, nmE_F, wI_T, wI_F, data_T, data_F, ino_T, ino_F, notT, notF, bneT, bneF, beqT, beqF, decT, decF] at h12
            refine At.no rfl rfl rfl rfl ?_
            refine At.no rfl rfl rfl rfl ?_
            refine At.no rfl rfl rfl rfl ?_
            refine At.no rfl rfl rfl rfl ?_
            refine At.no rfl rfl rfl rfl ?_
            refine At.val (Val.pickT rfl rfl) rfl rfl rfl ?_
            refine At.val (Val.move rfl) rfl rfl rfl ?_
            refine At.no rfl rfl rfl rfl ?_
            refine At.no rfl rfl rfl rfl ?_
            refine At.no rfl rfl rfl rfl ?_
            refine At.val (Val.pickT rfl rfl) rfl rfl rfl ?_
            refine At.val (Val.move rfl) rfl rfl rfl ?_
            refine At.no rfl rfl rfl rfl ?_
            refine At.no rfl rfl rfl rfl ?_
            refine At.no rfl rfl rfl rfl ?_
            refine At.no rfl rfl rfl rfl ?_
            refine At.no rfl rfl rfl rfl ?_
            refine At.no rfl rfl rfl rfl ?_
            refine At.val (Val.pickT rfl rfl) rfl rfl rfl ?_
            refine At.nil ?_
            exact At.boolEnd rfl (by first | exact (decide_eq_true (show ¬ OkSp (loAt L k) q7 by unfold OkSp; omega)).symm | exact (decide_eq_false (show ¬ ¬ OkSp (loAt L k) q7 by unfold OkSp; omega)).symm | (apply Bool.eq_iff_iff.2; simp only [decide_eq_true_eq, Bool.not_eq_true', decide_eq_false_iff_not, data_F, data_T]; unfold OkSp; omega)) (by repeat (first | exact Sub.nil | refine Sub.cons rfl ?_))
          · skip
            try simp only [vN_T, vN_F, nmE_T, nmE_F, wI_T, wI_F, data_T, data_F, ino_T, ino_F, notT, notF, bneT, bneF, beqT, beqF, decT, decF] at h12
            refine At.yes rfl rfl ?_
            refine At.val (Val.field 0 rfl fo_88_0 rfl) rfl rfl rfl ?_
            refine At.yes rfl rfl ?_
            refine At.val (Val.load (i := 0) Tryd.isAgg3 rfl rfl rfl) rfl rfl rfl ?_
            refine At.yes rfl rfl ?_
            refine At.val (Val.move rfl) rfl rfl rfl ?_
            refine At.yes rfl rfl ?_
            first | refine At.val (Val.addI rfl rfl (by omega) (by omega)) rfl rfl rfl ?_ | refine At.val (Val.bin rfl rfl rfl) rfl rfl rfl ?_
            refine At.yes rfl rfl ?_
            refine At.val (Val.bin rfl rfl rfl) rfl rfl rfl ?_
            refine At.val (Val.pickF rfl rfl) rfl rfl rfl ?_
            refine At.val (Val.move rfl) rfl rfl rfl ?_
            refine At.split (t := 32) rfl (fun h13 => ?_) (fun h13 => ?_)
            · skip
              try simp only [vN_T, vN_F, nmE_T, nmE_F, wI_T, wI_F, data_T, data_F, ino_T, ino_F, notT, notF, bneT, bneF, beqT, beqF, decT, decF] at h13
              refine At.no rfl rfl rfl rfl ?_
              refine At.no rfl rfl rfl rfl ?_
              refine At.no rfl rfl rfl rfl ?_
              refine At.val (Val.pickT rfl rfl) rfl rfl rfl ?_
              refine At.val (Val.move rfl) rfl rfl rfl ?_
              refine At.no rfl rfl rfl rfl ?_
              refine At.no rfl rfl rfl rfl ?_
              refine At.no rfl rfl rfl rfl ?_
              refine At.no rfl rfl rfl rfl ?_
              refine At.no rfl rfl rfl rfl ?_
              refine At.no rfl rfl rfl rfl ?_
              refine At.val (Val.pickT rfl rfl) rfl rfl rfl ?_
              refine At.nil ?_
              exact At.boolEnd rfl (by first | exact (decide_eq_true (show ¬ OkSp (loAt L k) q7 by unfold OkSp; omega)).symm | exact (decide_eq_false (show ¬ ¬ OkSp (loAt L k) q7 by unfold OkSp; omega)).symm | (apply Bool.eq_iff_iff.2; simp only [decide_eq_true_eq, Bool.not_eq_true', decide_eq_false_iff_not, data_F, data_T]; unfold OkSp; omega)) (by repeat (first | exact Sub.nil | refine Sub.cons rfl ?_))
            · skip
              try simp only [vN_T, vN_F, nmE_T, nmE_F, wI_T, wI_F, data_T, data_F, ino_T, ino_F, notT, notF, bneT, bneF, beqT, beqF, decT, decF] at h13
              refine At.yes rfl rfl ?_
              refine At.val (Val.field 0 rfl fo_88_0 rfl) rfl rfl rfl ?_
              refine At.yes rfl rfl ?_
              refine At.val (Val.load (i := 0) Tryd.isAgg3 rfl rfl rfl) rfl rfl rfl ?_
              refine At.yes rfl rfl ?_
              refine At.val (Val.bin rfl rfl rfl) rfl rfl rfl ?_
              refine At.val (Val.pickF rfl rfl) rfl rfl rfl ?_
              refine At.val (Val.move rfl) rfl rfl rfl ?_
              refine At.split (t := 37) rfl (fun h14 => ?_) (fun h14 => ?_)
              · skip
                try simp only [vN_T, vN_F, nmE_T, nmE_F, wI_T, wI_F, data_T, data_F, ino_T, ino_F, notT, notF, bneT, bneF, beqT, beqF, decT, decF] at h14
                refine At.no rfl rfl rfl rfl ?_
                refine At.no rfl rfl rfl rfl ?_
                refine At.no rfl rfl rfl rfl ?_
                refine At.no rfl rfl rfl rfl ?_
                refine At.no rfl rfl rfl rfl ?_
                refine At.no rfl rfl rfl rfl ?_
                refine At.val (Val.pickT rfl rfl) rfl rfl rfl ?_
                refine At.nil ?_
                exact At.boolEnd rfl (by first | exact (decide_eq_true (show ¬ OkSp (loAt L k) q7 by unfold OkSp; omega)).symm | exact (decide_eq_false (show ¬ ¬ OkSp (loAt L k) q7 by unfold OkSp; omega)).symm | (apply Bool.eq_iff_iff.2; simp only [decide_eq_true_eq, Bool.not_eq_true', decide_eq_false_iff_not, data_F, data_T]; unfold OkSp; omega)) (by repeat (first | exact Sub.nil | refine Sub.cons rfl ?_))
              · skip
                try simp only [vN_T, vN_F, nmE_T, nmE_F, wI_T, wI_F, data_T, data_F, ino_T, ino_F, notT, notF, bneT, bneF, beqT, beqF, decT, decF] at h14
                refine At.yes rfl rfl ?_
                refine At.val (Val.field 1 rfl fo_88_1 rfl) rfl rfl rfl ?_
                refine At.yes rfl rfl ?_
                refine At.val (Val.load (i := 0) Tryd.isAgg3 rfl rfl rfl) rfl rfl rfl ?_
                refine At.yes rfl rfl ?_
                refine At.val (Val.field 0 rfl fo_88_0 rfl) rfl rfl rfl ?_
                refine At.yes rfl rfl ?_
                refine At.val (Val.load (i := 0) Tryd.isAgg3 rfl rfl rfl) rfl rfl rfl ?_
                refine At.yes rfl rfl ?_
                first | refine At.val (Val.subI rfl rfl (by omega) (by omega)) rfl rfl rfl ?_ | refine At.val (Val.bin rfl rfl rfl) rfl rfl rfl ?_
                refine At.yes rfl rfl ?_
                refine At.val (Val.bin rfl rfl rfl) rfl rfl rfl ?_
                refine At.val (Val.pickF rfl rfl) rfl rfl rfl ?_
                refine At.nil ?_
                exact At.boolEnd rfl (by first | exact (decide_eq_true (show ¬ OkSp (loAt L k) q7 by unfold OkSp; omega)).symm | exact (decide_eq_false (show ¬ ¬ OkSp (loAt L k) q7 by unfold OkSp; omega)).symm | (apply Bool.eq_iff_iff.2; simp only [decide_eq_true_eq, Bool.not_eq_true', decide_eq_false_iff_not, data_F, data_T]; unfold OkSp; omega)) (by repeat (first | exact Sub.nil | refine Sub.cons rfl ?_))
        · skip
          simp only [List.drop_succ_cons, List.drop_zero]
          refine At.nil ?_
          refine At.thenN ?_
          refine At.cond rfl (fun h15 => ?_) (fun h15 => ?_)
          · skip
            try simp only [vN_T, vN_F, nmE_T, nmE_F, wI_T, wI_F, data_T, data_F, ino_T, ino_F, notT, notF, bneT, bneF, beqT, beqF, decT, decF] at h15
            have hno : ¬ OkSp _ _ := h15
            refine At.seq ?_
            refine At.region ?_
            refine At.val (Val.assign rfl) rfl rfl rfl ?_
            refine At.nil ?_
            refine At.thenN ?_
            refine At.retC ?_
            refine At.thenR ?_
            refine At.blkR ?_
            refine At.thenR ?_
            refine At.thenR ?_
            refine At.blkR ?_
            refine At.thenR ?_
            refine At.ret1 (.inl rfl) rfl rfl rfl (fun w hw => ?_)
            exact ⟨retB (decide_eq_false (spK_no hqk hno)).symm, hw.mod⟩
          · skip
            try simp only [vN_T, vN_F, nmE_T, nmE_F, wI_T, wI_F, data_T, data_F, ino_T, ino_F, notT, notF, bneT, bneF, beqT, beqF, decT, decF] at h15
            have hyes : OkSp _ _ := Classical.not_not.1 h15
            have hyes2 := hyes
            unfold OkSp at hyes2
            refine At.skipC ?_
            refine At.thenN ?_
            refine At.region ?_
            refine At.val (Val.field 0 rfl fo_88_0 rfl) rfl rfl rfl ?_
            refine At.val (Val.load (i := 0) Tryd.isAgg3 rfl rfl rfl) rfl rfl rfl ?_
            refine At.val (Val.field 1 rfl fo_88_1 rfl) rfl rfl rfl ?_
            refine At.val (Val.load (i := 0) Tryd.isAgg3 rfl rfl rfl) rfl rfl rfl ?_
            first | refine At.val (Val.addI rfl rfl (by omega) (by omega)) rfl rfl rfl ?_ | refine At.val (Val.bin rfl rfl rfl) rfl rfl rfl ?_
            first | refine At.val (Val.subI rfl rfl (by omega) (by omega)) rfl rfl rfl ?_ | refine At.val (Val.bin rfl rfl rfl) rfl rfl rfl ?_
            refine At.val (Val.assign rfl) rfl rfl rfl ?_
            refine At.nil ?_
            refine At.blkN ?_
            refine At.thenN ?_
            refine At.region ?_
            first | refine At.val (Val.addI rfl rfl (by omega) (by omega)) rfl rfl rfl ?_ | refine At.val (Val.bin rfl rfl rfl) rfl rfl rfl ?_
            refine At.val (Val.move rfl) rfl rfl rfl ?_
            refine At.nil ?_
            refine At.thenN ?_
            refine At.drop 0 ?_
            simp only [List.eraseIdx_cons_zero, List.eraseIdx_cons_succ]
            exact At.again (k + 1) ⟨by omega, spK_succ hs.2 hqk hyes⟩ (by omega) (Sub.cons rfl (Sub.cons rfl (Sub.cons (congrArg (fun z => some (Value.int IntKind.i64 z)) (by omega)) (Sub.cons (congrArg (fun z => some (Value.int IntKind.i64 z)) (by rw [loAt_succ hqk]; omega)) Sub.nil)))) (List.Perm.refl _)
      · skip
        try simp only [vN_T, vN_F, nmE_T, nmE_F, wI_T, wI_F, data_T, data_F, ino_T, ino_F, notT, notF, bneT, bneF, beqT, beqF, decT, decF] at h4
        obtain rfl : k = L.length := by omega
        refine At.exitC ?_
        refine At.thenX ?_
        refine At.thenX ?_
        refine At.blkX ?_
        refine At.thenN ?_
        refine At.seq ?_
        refine At.region ?_
        refine At.val (Val.assign rfl) rfl rfl rfl ?_
        refine At.nil ?_
        refine At.thenN ?_
        refine At.retC ?_
        refine At.ret1 (.inl rfl) rfl rfl rfl (fun w hw => ?_)
        exact ⟨retB (decide_eq_true ⟨by omega, by omega, hs.2⟩).symm, hw.mod⟩

theorem goodSvR_p (t : BitVec 32) (v : Value) (L : List (Int × Int)) (w : World) (hv : RdS w v L) (hlen : L.length ≤ 8796093022144) :
    PureC Tryd.prog 105 [.agg #[b32 t, v]] (.bool (decide (GoodSv t L))) w := by
  refine enter0 Tryd.func105 rfl Tryd.ntmps105 rfl ?_
  simp only [envOf]
  refine At.seq ?_
  refine At.region ?_
  refine At.box rfl rfl rfl (fun b1 => ?_)
  refine At.val (Val.assign rfl) rfl rfl rfl ?_
  refine At.nil ?_
  refine At.thenN ?_
  refine At.seq ?_
  refine At.seq ?_
  refine At.region ?_
  refine At.weaken [(0, _), (1, _), (2, _)] (Sub.cons rfl (Sub.cons rfl (Sub.cons rfl Sub.nil))) ?_
  refine At.boolMeet 9 14 (decide (t.toNat = 0 ∨ 249 < L.length)) ?_ ?_
  · skip
    simp only [List.take_succ_cons, List.take_zero]
    refine At.val (Val.field 0 rfl fo_74_0 rfl) rfl rfl rfl ?_
    refine At.val (Val.load (i := 0) Tryd.isAgg48 rfl rfl rfl) rfl rfl rfl ?_
    refine At.val (Val.bin rfl rfl rfl) rfl rfl rfl ?_
    refine At.val (Val.move rfl) rfl rfl rfl ?_
    refine At.split (t := 9) rfl (fun h2 => ?_) (fun h2 => ?_)
    · skip
      try simp only [vN_T, vN_F, nmE_T, nmE_F, wI_T, wI_F, data_T, data_F, ino_T, ino_F, notT, notF, bneT, bneF, beqT, beqF, decT, decF] at h2
      refine At.no rfl rfl rfl rfl ?_
      refine At.no rfl rfl rfl rfl ?_
      refine At.no rfl rfl rfl rfl ?_
      refine At.no rfl rfl rfl rfl ?_
      refine At.val (Val.pickT rfl rfl) rfl rfl rfl ?_
      refine At.nil ?_
      exact At.boolEnd rfl (by first | rfl | exact (decide_eq_true (by omega)).symm | exact (decide_eq_false (by omega)).symm | (apply Bool.eq_iff_iff.2; simp only [decide_eq_true_eq, beq_iff_eq, bne_iff_ne, ne_eq, wI_T, data_T, ino_T, vN_T, nmE_T, Bool.not_eq_true', wI_F, data_F, ino_F, vN_F, nmE_F, decide_eq_false_iff_not]; omega)) (by repeat (first | exact Sub.nil | refine Sub.cons rfl ?_))
    · skip
      try simp only [vN_T, vN_F, nmE_T, nmE_F, wI_T, wI_F, data_T, data_F, ino_T, ino_F, notT, notF, bneT, bneF, beqT, beqF, decT, decF] at h2
      refine At.yes rfl rfl ?_
      refine At.val (Val.field 1 rfl fo_74_1 rfl) rfl rfl rfl ?_
      refine At.yes rfl rfl ?_
      refine At.val (Val.load (i := 0) Tryd.isAgg72 rfl rfl rfl) rfl rfl rfl ?_
      refine At.yes rfl rfl ?_
      refine At.val (Val.lenRd hv Tryd.underlying72 rfl) rfl rfl rfl ?_
      refine At.yes rfl rfl ?_
      refine At.val (Val.bin rfl rfl rfl) rfl rfl rfl ?_
      refine At.val (Val.pickF rfl rfl) rfl rfl rfl ?_
      refine At.nil ?_
      exact At.boolEnd rfl (by first | rfl | exact (decide_eq_true (by omega)).symm | exact (decide_eq_false (by omega)).symm | (apply Bool.eq_iff_iff.2; simp only [decide_eq_true_eq, beq_iff_eq, bne_iff_ne, ne_eq, wI_T, data_T, ino_T, vN_T, nmE_T, Bool.not_eq_true', wI_F, data_F, ino_F, vN_F, nmE_F, decide_eq_false_iff_not]; omega)) (by repeat (first | exact Sub.nil | refine Sub.cons rfl ?_))
  · skip
    simp only [List.drop_succ_cons, List.drop_zero]
    refine At.nil ?_
    refine At.thenN ?_
    refine At.cond rfl (fun h3 => ?_) (fun h3 => ?_)
    · skip
      try simp only [vN_T, vN_F, nmE_T, nmE_F, wI_T, wI_F, data_T, data_F, ino_T, ino_F, notT, notF, bneT, bneF, beqT, beqF, decT, decF] at h3
      refine At.seq ?_
      refine At.region ?_
      refine At.val (Val.assign rfl) rfl rfl rfl ?_
      refine At.nil ?_
      refine At.thenN ?_
      refine At.retC ?_
      refine At.thenR ?_
      refine At.ret1 (.inl rfl) rfl rfl rfl (fun w hw => ?_)
      exact ⟨retB (decide_eq_false (fun g => by have h1 := g.1; have h2 := g.2.1; omega)).symm, hw.mod⟩
    · skip
      try simp only [vN_T, vN_F, nmE_T, nmE_F, wI_T, wI_F, data_T, data_F, ino_T, ino_F, notT, notF, bneT, bneF, beqT, beqF, decT, decF] at h3
      refine At.skipC ?_
      refine At.thenN ?_
      refine At.seq ?_
      refine At.region ?_
      refine At.val (Val.assign rfl) rfl rfl rfl ?_
      refine At.nil ?_
      refine At.thenN ?_
      refine At.seq ?_
      refine At.seq ?_
      refine At.region ?_
      refine At.val (Val.assign rfl) rfl rfl rfl ?_
      refine At.nil ?_
      refine At.thenN ?_
      refine At.block ?_
      skip
      refine At.loop (σ := Nat) (fun k => k ≤ L.length ∧ SpK L k) (fun k => [(1, .pointer (some ⟨b1, 0, none⟩)), (3, .int .i64 (nxR L k)), (4, .int .i64 (k : Int))]) (fun k => [blk b1 74 ([b32 t, v])]) (fun k => L.length - k) 0 ⟨Nat.zero_le _, spK_0 L⟩ (Sub.cons rfl (Sub.cons (congrArg (fun z => some (Value.int IntKind.i64 z)) (by rw [nxR_0])) (Sub.cons rfl Sub.nil))) (List.Perm.refl _) ?_
      intro k hs
      refine At.seq ?_
      refine At.seq ?_
      refine At.region ?_
      refine At.val (Val.move rfl) rfl rfl rfl ?_
      refine At.val (Val.field 1 rfl fo_74_1 rfl) rfl rfl rfl ?_
      refine At.val (Val.load (i := 0) Tryd.isAgg72 rfl rfl rfl) rfl rfl rfl ?_
      refine At.val (Val.lenRd hv Tryd.underlying72 rfl) rfl rfl rfl ?_
      refine At.val (Val.bin rfl rfl rfl) rfl rfl rfl ?_
      refine At.nil ?_
      refine At.thenN ?_
      refine At.cond rfl (fun h4 => ?_) (fun h4 => ?_)
      · skip
        try simp only [vN_T, vN_F, nmE_T, nmE_F, wI_T, wI_F, data_T, data_F, ino_T, ino_F, notT, notF, bneT, bneF, beqT, beqF, decT, decF] at h4
        have hk : k < L.length := by omega
        have hlo := lo_bd hs.2 hs.1
        have hnx := nxR_is L k
        refine At.skipC ?_
        refine At.thenN ?_
        refine At.seq ?_
        refine At.block ?_
        refine At.seq ?_
        refine At.region ?_
        refine At.val (Val.field 1 rfl fo_74_1 rfl) rfl rfl rfl ?_
        refine At.val (Val.load (i := 0) Tryd.isAgg72 rfl rfl rfl) rfl rfl rfl ?_
        refine At.val (Val.move rfl) rfl rfl rfl ?_
        refine At.idxS hv Tryd.underlying72 Tryd.sizeOf88 rfl rfl (by omega) (by omega) rfl rfl (fun b5 o6 q7 hq8 hc9 hd10 => ?_)
        refine At.val (Val.loadSpan Tryd.isAgg88 Tryd.sizeOf88 rfl hc9 hd10 (fun h => h)) rfl rfl rfl ?_
        refine At.alloc Tryd.zeroValue88 rfl rfl (fun b11 => ?_)
        refine At.storeAll (i := 0) Tryd.sizeOf88 rfl rfl rfl (by simp [Value.oneCell']) rfl rfl ?_
        simp only [List.set_cons_zero, List.set_cons_succ]
        refine At.nil ?_
        have hqk := hq8
        rw [Int.toNat_natCast] at hqk
        refine At.thenN ?_
        refine At.seq ?_
        refine At.seq ?_
        refine At.region ?_
        refine At.weaken [(1, _), (3, _), (4, _), (15, _), (16, _), (17, _), (18, _), (19, _), (22, _), (23, _), (24, _), (25, _), (26, _), (5, _)] (Sub.cons rfl (Sub.cons rfl (Sub.cons rfl (Sub.cons rfl (Sub.cons rfl (Sub.cons rfl (Sub.cons rfl (Sub.cons rfl (Sub.cons rfl (Sub.cons rfl (Sub.cons rfl (Sub.cons rfl (Sub.cons rfl (Sub.cons rfl Sub.nil)))))))))))))) ?_
        refine At.boolMeet 30 56 (decide (¬ OkSp (loAt L k) q7)) ?_ ?_
        · skip
          simp only [List.take_succ_cons, List.take_zero]
          refine At.val (Val.field 0 rfl fo_88_0 rfl) rfl rfl rfl ?_
          refine At.val (Val.load (i := 0) Tryd.isAgg3 rfl rfl rfl) rfl rfl rfl ?_
          refine At.val (Val.move rfl) rfl rfl rfl ?_
          refine At.val (Val.bin rfl rfl rfl) rfl rfl rfl ?_
          refine At.val (Val.move rfl) rfl rfl rfl ?_
          refine At.split (t := 31) rfl (fun h12 => ?_) (fun h12 => ?_)
          · skip
            try simp only [vN_T, vN_F, nmE_T, nmE_F, wI_T, wI_F, data_T, data_F, ino_T, ino_F, notT, notF, bneT, bneF, beqT, beqF, decT, decF] at h12
            refine At.no rfl rfl rfl rfl ?_
            refine At.no rfl rfl rfl rfl ?_
            refine At.no rfl rfl rfl rfl ?_
            refine At.no rfl rfl rfl rfl ?_
            refine At.val (Val.pickT rfl rfl) rfl rfl rfl ?_
            refine At.val (Val.move rfl) rfl rfl rfl ?_
            refine At.no rfl rfl rfl rfl ?_
            refine At.no rfl rfl rfl rfl ?_
            refine At.no rfl rfl rfl rfl ?_
            refine At.val (Val.pickT rfl rfl) rfl rfl rfl ?_
            refine At.val (Val.move rfl) rfl rfl rfl ?_
            refine At.no rfl rfl rfl rfl ?_
            refine At.no rfl rfl rfl rfl ?_
            refine At.no rfl rfl rfl rfl ?_
            refine At.val (Val.pickT rfl rfl) rfl rfl rfl ?_
            refine At.val (Val.move rfl) rfl rfl rfl ?_
            refine At.no rfl rfl rfl rfl ?_
            refine At.no rfl rfl rfl rfl ?_
            refine At.no rfl rfl rfl rfl ?_
            refine At.no rfl rfl rfl rfl ?_
            refine At.no rfl rfl rfl rfl ?_
            refine At.no rfl rfl rfl rfl ?_
            refine At.no rfl rfl rfl rfl ?_
            refine At.no rfl rfl rfl rfl ?_
            refine At.val (Val.pickT rfl rfl) rfl rfl rfl ?_
            refine At.nil ?_
            exact At.boolEnd rfl (by first | exact (decide_eq_true (show ¬ OkSp (loAt L k) q7 by unfold OkSp; omega)).symm | exact (decide_eq_false (show ¬ ¬ OkSp (loAt L k) q7 by unfold OkSp; omega)).symm | (apply Bool.eq_iff_iff.2; simp only [decide_eq_true_eq, Bool.not_eq_true', decide_eq_false_iff_not, data_F, data_T]; unfold OkSp; omega)) (by repeat (first | exact Sub.nil | refine Sub.cons rfl ?_))
          · skip
            try simp only [vN_T, vN_F, nmE_T, nmE_F, wI_T, wI_F, data_T, data_F, ino_T, ino_F, notT, notF, bneT, bneF, beqT, beqF, decT, decF] at h12
            refine At.yes rfl rfl ?_
            refine At.val (Val.field 0 rfl fo_88_0 rfl) rfl rfl rfl ?_
            refine At.yes rfl rfl ?_
            refine At.val (Val.load (i := 0) Tryd.isAgg3 rfl rfl rfl) rfl rfl rfl ?_
            refine At.yes rfl rfl ?_
            refine At.callP (fun w hw => dataR_p _ w) Tryd.call92 rfl rfl ?_
            refine At.yes rfl rfl ?_
            refine At.val (Val.not rfl) rfl rfl rfl ?_
            refine At.val (Val.pickF rfl rfl) rfl rfl rfl ?_
            refine At.val (Val.move rfl) rfl rfl rfl ?_
            refine At.split (t := 37) rfl (fun h13 => ?_) (fun h13 => ?_)
            · skip
              try simp only [vN_T, vN_F, nmE_T, nmE_F, wI_T, wI_F, data_T, data_F, ino_T, ino_F, notT, notF, bneT, bneF, beqT, beqF, decT, decF] at h13
              refine At.no rfl rfl rfl rfl ?_
              refine At.no rfl rfl rfl rfl ?_
              refine At.no rfl rfl rfl rfl ?_
              refine At.val (Val.pickT rfl rfl) rfl rfl rfl ?_
              refine At.val (Val.move rfl) rfl rfl rfl ?_
              refine At.no rfl rfl rfl rfl ?_
              refine At.no rfl rfl rfl rfl ?_
              refine At.no rfl rfl rfl rfl ?_
              refine At.val (Val.pickT rfl rfl) rfl rfl rfl ?_
              refine At.val (Val.move rfl) rfl rfl rfl ?_
              refine At.no rfl rfl rfl rfl ?_
              refine At.no rfl rfl rfl rfl ?_
              refine At.no rfl rfl rfl rfl ?_
              refine At.no rfl rfl rfl rfl ?_
              refine At.no rfl rfl rfl rfl ?_
              refine At.no rfl rfl rfl rfl ?_
              refine At.no rfl rfl rfl rfl ?_
              refine At.no rfl rfl rfl rfl ?_
              refine At.val (Val.pickT rfl rfl) rfl rfl rfl ?_
              refine At.nil ?_
              exact At.boolEnd rfl (by first | exact (decide_eq_true (show ¬ OkSp (loAt L k) q7 by unfold OkSp; omega)).symm | exact (decide_eq_false (show ¬ ¬ OkSp (loAt L k) q7 by unfold OkSp; omega)).symm | (apply Bool.eq_iff_iff.2; simp only [decide_eq_true_eq, Bool.not_eq_true', decide_eq_false_iff_not, data_F, data_T]; unfold OkSp; omega)) (by repeat (first | exact Sub.nil | refine Sub.cons rfl ?_))
            · skip
              try simp only [vN_T, vN_F, nmE_T, nmE_F, wI_T, wI_F, data_T, data_F, ino_T, ino_F, notT, notF, bneT, bneF, beqT, beqF, decT, decF] at h13
              refine At.yes rfl rfl ?_
              refine At.val (Val.field 1 rfl fo_88_1 rfl) rfl rfl rfl ?_
              refine At.yes rfl rfl ?_
              refine At.val (Val.load (i := 0) Tryd.isAgg3 rfl rfl rfl) rfl rfl rfl ?_
              refine At.yes rfl rfl ?_
              refine At.val (Val.bin rfl rfl rfl) rfl rfl rfl ?_
              refine At.val (Val.pickF rfl rfl) rfl rfl rfl ?_
              refine At.val (Val.move rfl) rfl rfl rfl ?_
              refine At.split (t := 42) rfl (fun h14 => ?_) (fun h14 => ?_)
              · skip
                try simp only [vN_T, vN_F, nmE_T, nmE_F, wI_T, wI_F, data_T, data_F, ino_T, ino_F, notT, notF, bneT, bneF, beqT, beqF, decT, decF] at h14
                refine At.no rfl rfl rfl rfl ?_
                refine At.no rfl rfl rfl rfl ?_
                refine At.no rfl rfl rfl rfl ?_
                refine At.val (Val.pickT rfl rfl) rfl rfl rfl ?_
                refine At.val (Val.move rfl) rfl rfl rfl ?_
                refine At.no rfl rfl rfl rfl ?_
                refine At.no rfl rfl rfl rfl ?_
                refine At.no rfl rfl rfl rfl ?_
                refine At.no rfl rfl rfl rfl ?_
                refine At.no rfl rfl rfl rfl ?_
                refine At.no rfl rfl rfl rfl ?_
                refine At.no rfl rfl rfl rfl ?_
                refine At.no rfl rfl rfl rfl ?_
                refine At.val (Val.pickT rfl rfl) rfl rfl rfl ?_
                refine At.nil ?_
                exact At.boolEnd rfl (by first | exact (decide_eq_true (show ¬ OkSp (loAt L k) q7 by unfold OkSp; omega)).symm | exact (decide_eq_false (show ¬ ¬ OkSp (loAt L k) q7 by unfold OkSp; omega)).symm | (apply Bool.eq_iff_iff.2; simp only [decide_eq_true_eq, Bool.not_eq_true', decide_eq_false_iff_not, data_F, data_T]; unfold OkSp; omega)) (by repeat (first | exact Sub.nil | refine Sub.cons rfl ?_))
              · skip
                try simp only [vN_T, vN_F, nmE_T, nmE_F, wI_T, wI_F, data_T, data_F, ino_T, ino_F, notT, notF, bneT, bneF, beqT, beqF, decT, decF] at h14
                refine At.yes rfl rfl ?_
                refine At.val (Val.field 1 rfl fo_88_1 rfl) rfl rfl rfl ?_
                refine At.yes rfl rfl ?_
                refine At.val (Val.load (i := 0) Tryd.isAgg3 rfl rfl rfl) rfl rfl rfl ?_
                refine At.yes rfl rfl ?_
                refine At.val (Val.bin rfl rfl rfl) rfl rfl rfl ?_
                refine At.val (Val.pickF rfl rfl) rfl rfl rfl ?_
                refine At.val (Val.move rfl) rfl rfl rfl ?_
                refine At.split (t := 47) rfl (fun h15 => ?_) (fun h15 => ?_)
                · skip
                  try simp only [vN_T, vN_F, nmE_T, nmE_F, wI_T, wI_F, data_T, data_F, ino_T, ino_F, notT, notF, bneT, bneF, beqT, beqF, decT, decF] at h15
                  refine At.no rfl rfl rfl rfl ?_
                  refine At.no rfl rfl rfl rfl ?_
                  refine At.no rfl rfl rfl rfl ?_
                  refine At.no rfl rfl rfl rfl ?_
                  refine At.no rfl rfl rfl rfl ?_
                  refine At.no rfl rfl rfl rfl ?_
                  refine At.no rfl rfl rfl rfl ?_
                  refine At.no rfl rfl rfl rfl ?_
                  refine At.val (Val.pickT rfl rfl) rfl rfl rfl ?_
                  refine At.nil ?_
                  exact At.boolEnd rfl (by first | exact (decide_eq_true (show ¬ OkSp (loAt L k) q7 by unfold OkSp; omega)).symm | exact (decide_eq_false (show ¬ ¬ OkSp (loAt L k) q7 by unfold OkSp; omega)).symm | (apply Bool.eq_iff_iff.2; simp only [decide_eq_true_eq, Bool.not_eq_true', decide_eq_false_iff_not, data_F, data_T]; unfold OkSp; omega)) (by repeat (first | exact Sub.nil | refine Sub.cons rfl ?_))
                · skip
                  try simp only [vN_T, vN_F, nmE_T, nmE_F, wI_T, wI_F, data_T, data_F, ino_T, ino_F, notT, notF, bneT, bneF, beqT, beqF, decT, decF] at h15
                  refine At.yes rfl rfl ?_
                  refine At.val (Val.field 0 rfl fo_88_0 rfl) rfl rfl rfl ?_
                  refine At.yes rfl rfl ?_
                  refine At.val (Val.load (i := 0) Tryd.isAgg3 rfl rfl rfl) rfl rfl rfl ?_
                  refine At.yes rfl rfl ?_
                  refine At.val (Val.field 1 rfl fo_88_1 rfl) rfl rfl rfl ?_
                  refine At.yes rfl rfl ?_
                  refine At.val (Val.load (i := 0) Tryd.isAgg3 rfl rfl rfl) rfl rfl rfl ?_
                  refine At.yes rfl rfl ?_
                  first | refine At.val (Val.addI rfl rfl (by omega) (by omega)) rfl rfl rfl ?_ | refine At.val (Val.bin rfl rfl rfl) rfl rfl rfl ?_
                  refine At.yes rfl rfl ?_
                  first | refine At.val (Val.subI rfl rfl (by omega) (by omega)) rfl rfl rfl ?_ | refine At.val (Val.bin rfl rfl rfl) rfl rfl rfl ?_
                  refine At.yes rfl rfl ?_
                  refine At.callP (fun w hw => dataR_p _ w) Tryd.call92 rfl rfl ?_
                  refine At.yes rfl rfl ?_
                  refine At.val (Val.not rfl) rfl rfl rfl ?_
                  refine At.val (Val.pickF rfl rfl) rfl rfl rfl ?_
                  refine At.nil ?_
                  exact At.boolEnd rfl (by first | exact (decide_eq_true (show ¬ OkSp (loAt L k) q7 by unfold OkSp; omega)).symm | exact (decide_eq_false (show ¬ ¬ OkSp (loAt L k) q7 by unfold OkSp; omega)).symm | (apply Bool.eq_iff_iff.2; simp only [decide_eq_true_eq, Bool.not_eq_true', decide_eq_false_iff_not, data_F, data_T]; unfold OkSp; omega)) (by repeat (first | exact Sub.nil | refine Sub.cons rfl ?_))
        · skip
          simp only [List.drop_succ_cons, List.drop_zero]
          refine At.nil ?_
          refine At.thenN ?_
          refine At.cond rfl (fun h16 => ?_) (fun h16 => ?_)
          · skip
            try simp only [vN_T, vN_F, nmE_T, nmE_F, wI_T, wI_F, data_T, data_F, ino_T, ino_F, notT, notF, bneT, bneF, beqT, beqF, decT, decF] at h16
            have hno : ¬ OkSp _ _ := h16
            refine At.seq ?_
            refine At.region ?_
            refine At.val (Val.assign rfl) rfl rfl rfl ?_
            refine At.nil ?_
            refine At.thenN ?_
            refine At.retC ?_
            refine At.thenR ?_
            refine At.blkR ?_
            refine At.thenR ?_
            refine At.thenR ?_
            refine At.blkR ?_
            refine At.thenR ?_
            refine At.ret1 (.inl rfl) rfl rfl rfl (fun w hw => ?_)
            exact ⟨retB (decide_eq_false (spK_no hqk hno)).symm, hw.mod⟩
          · skip
            try simp only [vN_T, vN_F, nmE_T, nmE_F, wI_T, wI_F, data_T, data_F, ino_T, ino_F, notT, notF, bneT, bneF, beqT, beqF, decT, decF] at h16
            have hyes : OkSp _ _ := Classical.not_not.1 h16
            have hyes2 := hyes
            unfold OkSp at hyes2
            refine At.skipC ?_
            refine At.thenN ?_
            refine At.region ?_
            refine At.val (Val.field 0 rfl fo_88_0 rfl) rfl rfl rfl ?_
            refine At.val (Val.load (i := 0) Tryd.isAgg3 rfl rfl rfl) rfl rfl rfl ?_
            refine At.val (Val.field 1 rfl fo_88_1 rfl) rfl rfl rfl ?_
            refine At.val (Val.load (i := 0) Tryd.isAgg3 rfl rfl rfl) rfl rfl rfl ?_
            first | refine At.val (Val.addI rfl rfl (by omega) (by omega)) rfl rfl rfl ?_ | refine At.val (Val.bin rfl rfl rfl) rfl rfl rfl ?_
            first | refine At.val (Val.addI rfl rfl (by omega) (by omega)) rfl rfl rfl ?_ | refine At.val (Val.bin rfl rfl rfl) rfl rfl rfl ?_
            refine At.val (Val.assign rfl) rfl rfl rfl ?_
            refine At.nil ?_
            refine At.blkN ?_
            refine At.thenN ?_
            refine At.region ?_
            refine At.val (Val.move rfl) rfl rfl rfl ?_
            first | refine At.val (Val.addI rfl rfl (by omega) (by omega)) rfl rfl rfl ?_ | refine At.val (Val.bin rfl rfl rfl) rfl rfl rfl ?_
            refine At.val (Val.assign rfl) rfl rfl rfl ?_
            refine At.nil ?_
            refine At.thenN ?_
            refine At.drop 0 ?_
            simp only [List.eraseIdx_cons_zero, List.eraseIdx_cons_succ]
            exact At.again (k + 1) ⟨by omega, spK_succ hs.2 hqk hyes⟩ (by omega) (Sub.cons rfl (Sub.cons (congrArg (fun z => some (Value.int IntKind.i64 z)) (by rw [nxR_succ hqk])) (Sub.cons (congrArg (fun z => some (Value.int IntKind.i64 z)) (by omega)) Sub.nil))) (List.Perm.refl _)
      · skip
        try simp only [vN_T, vN_F, nmE_T, nmE_F, wI_T, wI_F, data_T, data_F, ino_T, ino_F, notT, notF, bneT, bneF, beqT, beqF, decT, decF] at h4
        obtain rfl : k = L.length := by omega
        refine At.exitC ?_
        refine At.thenX ?_
        refine At.thenX ?_
        refine At.blkX ?_
        refine At.thenN ?_
        refine At.seq ?_
        refine At.region ?_
        refine At.val (Val.assign rfl) rfl rfl rfl ?_
        refine At.nil ?_
        refine At.thenN ?_
        refine At.retC ?_
        refine At.ret1 (.inl rfl) rfl rfl rfl (fun w hw => ?_)
        exact ⟨retB (decide_eq_true ⟨by omega, by omega, hs.2⟩).symm, hw.mod⟩

theorem copySv_n (t : BitVec 32) (v : Value) (L : List (Int × Int)) (w : World) (hv : RdS w v L) (hlen : L.length ≤ 8796093022144) :
    NewRowT Tryd.prog 44 [.agg #[b32 t, v]] (fun v => .agg #[b32 t, v]) 88 2 L.length (prS L) w := by
  refine enter0 Tryd.func44 rfl Tryd.ntmps44 rfl ?_
  simp only [envOf]
  refine At.seq ?_
  refine At.region ?_
  refine At.box rfl rfl rfl (fun b1 => ?_)
  refine At.alloc Tryd.zeroValue74 rfl rfl (fun b2 => ?_)
  refine At.nil ?_
  refine At.thenN ?_
  refine At.seq ?_
  refine At.region ?_
  refine At.val (Val.assign rfl) rfl rfl rfl ?_
  refine At.nil ?_
  refine At.thenN ?_
  refine At.seq ?_
  refine At.region ?_
  refine At.val (Val.move rfl) rfl rfl rfl ?_
  refine At.val (Val.field 1 rfl fo_74_1 rfl) rfl rfl rfl ?_
  refine At.val (Val.load (i := 1) Tryd.isAgg72 rfl rfl rfl) rfl rfl rfl ?_
  refine At.rowNilS 88 ?_
  refine At.appendRdS (i := 0) (by_ := 16) Tryd.underlying72 info_88 rfl rfl rfl rfl rfl rfl rfl hv (Off.none _ _) (by simp only [List.length_nil]; omega) (by simp only [List.length_nil]; omega) rfl (fun v3 => ?_)
  simp only [List.set_cons_zero, List.set_cons_succ]
  refine At.val (Val.assign rfl) rfl rfl rfl ?_
  refine At.nil ?_
  refine At.rowIs (i := 0) rfl (fun A4 c5 hv => ?_)
  subst hv
  refine At.thenN ?_
  refine At.seq ?_
  refine At.region ?_
  refine At.val (Val.field 0 rfl fo_74_0 rfl) rfl rfl rfl ?_
  refine At.val (Val.load (i := 2) Tryd.isAgg48 rfl rfl rfl) rfl rfl rfl ?_
  refine At.val (Val.move rfl) rfl rfl rfl ?_
  refine At.val (Val.build (fun a ha => by simp only [List.map_toArray, List.map_cons, List.map_nil, ha.eval (x := (.tmp 9)) rfl, ha.eval (x := (.tmp 10)) rfl] <;> rfl) (bld_74_0_1 _ _ _ _ )) rfl rfl rfl ?_
  refine At.storeAll (i := 1) Tryd.sizeOf74 rfl rfl rfl (by simp [Value.oneCell']) rfl rfl ?_
  simp only [List.set_cons_zero, List.set_cons_succ]
  refine At.nil ?_
  refine At.thenN ?_
  refine At.retC ?_
  refine At.ret1 (.inl rfl) rfl rfl (ResOf.all (i := 1) Tryd.isAgg74 Tryd.sizeOf74 rfl rfl rfl) (fun w hw => ?_)
  exact ⟨_, rfl, (hw.drop (List.singleton_sublist.2 (List.mem_of_getElem? (i := 0) rfl))).f0⟩

theorem sameSv_p (t : BitVec 32) (v u : Value) (L : List (Int × Int)) (w : World) (hv : RdS w v L) (hu : RdS w u L) (hlen : L.length ≤ 8796093022144) :
    PureC Tryd.prog 47 [.agg #[b32 t, v], .agg #[b32 t, u]] (.bool true) w := by
  refine enter0 Tryd.func47 rfl Tryd.ntmps47 rfl ?_
  simp only [envOf]
  refine At.seq ?_
  refine At.region ?_
  refine At.box rfl rfl rfl (fun b1 => ?_)
  refine At.box rfl rfl rfl (fun b2 => ?_)
  refine At.val (Val.assign rfl) rfl rfl rfl ?_
  refine At.nil ?_
  refine At.thenN ?_
  refine At.seq ?_
  refine At.seq ?_
  refine At.region ?_
  refine At.weaken [(0, _), (1, _), (2, _), (3, _), (4, _)] (Sub.cons rfl (Sub.cons rfl (Sub.cons rfl (Sub.cons rfl (Sub.cons rfl Sub.nil))))) ?_
  refine At.boolMeet 14 19 (false) ?_ ?_
  · skip
    simp only [List.take_succ_cons, List.take_zero]
    refine At.val (Val.field 0 rfl fo_74_0 rfl) rfl rfl rfl ?_
    refine At.val (Val.load (i := 1) Tryd.isAgg48 rfl rfl rfl) rfl rfl rfl ?_
    refine At.val (Val.field 0 rfl fo_74_0 rfl) rfl rfl rfl ?_
    refine At.val (Val.load (i := 0) Tryd.isAgg48 rfl rfl rfl) rfl rfl rfl ?_
    refine At.val (Val.bin rfl rfl rfl) rfl rfl rfl ?_
    refine At.val (Val.move rfl) rfl rfl rfl ?_
    refine At.split (t := 11) rfl (fun h3 => ?_) (fun h3 => ?_)
    · skip
      try simp only [vN_T, vN_F, nmE_T, nmE_F, wI_T, wI_F, data_T, data_F, ino_T, ino_F, notT, notF, bneT, bneF, beqT, beqF, decT, decF] at h3
      refine At.no rfl rfl rfl rfl ?_
      refine At.no rfl rfl rfl rfl ?_
      refine At.no rfl rfl rfl rfl ?_
      refine At.no rfl rfl rfl rfl ?_
      refine At.no rfl rfl rfl rfl ?_
      refine At.no rfl rfl rfl rfl ?_
      refine At.no rfl rfl rfl rfl ?_
      refine At.val (Val.pickT rfl rfl) rfl rfl rfl ?_
      refine At.nil ?_
      exact At.boolEnd rfl (by first | rfl | (exfalso; omega) | (simp; done)) (by repeat (first | exact Sub.nil | refine Sub.cons rfl ?_))
    · skip
      try simp only [vN_T, vN_F, nmE_T, nmE_F, wI_T, wI_F, data_T, data_F, ino_T, ino_F, notT, notF, bneT, bneF, beqT, beqF, decT, decF] at h3
      refine At.yes rfl rfl ?_
      refine At.val (Val.field 1 rfl fo_74_1 rfl) rfl rfl rfl ?_
      refine At.yes rfl rfl ?_
      refine At.val (Val.load (i := 1) Tryd.isAgg72 rfl rfl rfl) rfl rfl rfl ?_
      refine At.yes rfl rfl ?_
      refine At.val (Val.lenRd hv Tryd.underlying72 rfl) rfl rfl rfl ?_
      refine At.yes rfl rfl ?_
      refine At.val (Val.field 1 rfl fo_74_1 rfl) rfl rfl rfl ?_
      refine At.yes rfl rfl ?_
      refine At.val (Val.load (i := 0) Tryd.isAgg72 rfl rfl rfl) rfl rfl rfl ?_
      refine At.yes rfl rfl ?_
      refine At.val (Val.lenRd hu Tryd.underlying72 rfl) rfl rfl rfl ?_
      refine At.yes rfl rfl ?_
      refine At.val (Val.bin rfl rfl rfl) rfl rfl rfl ?_
      refine At.val (Val.pickF rfl rfl) rfl rfl rfl ?_
      refine At.nil ?_
      exact At.boolEnd rfl (by first | rfl | (exfalso; omega) | (simp; done)) (by repeat (first | exact Sub.nil | refine Sub.cons rfl ?_))
  · skip
    simp only [List.drop_succ_cons, List.drop_zero]
    refine At.nil ?_
    refine At.thenN ?_
    refine At.cond rfl (fun h4 => ?_) (fun h4 => ?_)
    · skip
      try simp only [vN_T, vN_F, nmE_T, nmE_F, wI_T, wI_F, data_T, data_F, ino_T, ino_F, notT, notF, bneT, bneF, beqT, beqF, decT, decF] at h4
      exact absurd h4 (by decide)
    · skip
      try simp only [vN_T, vN_F, nmE_T, nmE_F, wI_T, wI_F, data_T, data_F, ino_T, ino_F, notT, notF, bneT, bneF, beqT, beqF, decT, decF] at h4
      refine At.skipC ?_
      refine At.thenN ?_
      refine At.seq ?_
      refine At.seq ?_
      refine At.region ?_
      refine At.val (Val.assign rfl) rfl rfl rfl ?_
      refine At.nil ?_
      refine At.thenN ?_
      refine At.block ?_
      skip
      refine At.loop (σ := Nat) (fun k => k ≤ L.length) (fun k => [(2, .pointer (some ⟨b1, 0, none⟩)), (3, .pointer (some ⟨b2, 0, none⟩)), (5, .int .i64 (k : Int))]) (fun k => [blk b2 74 ([b32 t, u]), blk b1 74 ([b32 t, v])]) (fun k => L.length - k) 0 (Nat.zero_le _) (Sub.cons rfl (Sub.cons rfl (Sub.cons rfl Sub.nil))) (List.Perm.refl _) ?_
      intro k hs
      refine At.seq ?_
      refine At.seq ?_
      refine At.region ?_
      refine At.val (Val.move rfl) rfl rfl rfl ?_
      refine At.val (Val.field 1 rfl fo_74_1 rfl) rfl rfl rfl ?_
      refine At.val (Val.load (i := 1) Tryd.isAgg72 rfl rfl rfl) rfl rfl rfl ?_
      refine At.val (Val.lenRd hv Tryd.underlying72 rfl) rfl rfl rfl ?_
      refine At.val (Val.bin rfl rfl rfl) rfl rfl rfl ?_
      refine At.nil ?_
      refine At.thenN ?_
      refine At.cond rfl (fun h5 => ?_) (fun h5 => ?_)
      · skip
        try simp only [vN_T, vN_F, nmE_T, nmE_F, wI_T, wI_F, data_T, data_F, ino_T, ino_F, notT, notF, bneT, bneF, beqT, beqF, decT, decF] at h5
        have hk : k < L.length := by omega
        refine At.skipC ?_
        refine At.thenN ?_
        refine At.seq ?_
        refine At.block ?_
        refine At.seq ?_
        refine At.quiet rfl (by decide +kernel) ?_
        refine QAt.val (Val.field 1 rfl fo_74_1 rfl) rfl rfl rfl ?_
        refine QAt.val (Val.load (i := 1) Tryd.isAgg72 rfl rfl rfl) rfl rfl rfl ?_
        refine QAt.val (Val.move rfl) rfl rfl rfl ?_
        refine QAt.idxS hv Tryd.underlying72 Tryd.sizeOf88 rfl rfl (by omega) (by omega) rfl rfl (fun b6 o7 q8 hq9 hc10 hd11 => ?_)
        refine QAt.val (Val.loadSpan Tryd.isAgg88 Tryd.sizeOf88 rfl hc10 hd11 (fun h => h)) rfl rfl rfl ?_
        refine QAt.val (Val.field 1 rfl fo_74_1 rfl) rfl rfl rfl ?_
        refine QAt.val (Val.load (i := 0) Tryd.isAgg72 rfl rfl rfl) rfl rfl rfl ?_
        refine QAt.val (Val.move rfl) rfl rfl rfl ?_
        refine QAt.idxS hu Tryd.underlying72 Tryd.sizeOf88 rfl rfl (by omega) (by omega) rfl rfl (fun b12 o13 q14 hq15 hc16 hd17 => ?_)
        refine QAt.val (Val.loadSpan Tryd.isAgg88 Tryd.sizeOf88 rfl hc16 hd17 (fun h => h)) rfl rfl rfl ?_
        refine QAt.val (Val.neAgg Tryd.eqGuardType88 (fun w => eq_88 _ _ _ _ w) rfl rfl) rfl rfl rfl ?_
        rw [show q14 = q8 from by have h1 := hq9; have h2 := hq15; rw [h1] at h2; exact (Option.some.inj h2).symm]
        simp only [beq_self_eq_true, Bool.and_true, Bool.not_true]
        refine QAt.fin ?_
        refine At.thenN ?_
        refine At.condF rfl ?_
        refine At.skipC ?_
        refine At.blkN ?_
        refine At.thenN ?_
        refine At.region ?_
        refine At.val (Val.move rfl) rfl rfl rfl ?_
        first | refine At.val (Val.addI rfl rfl (by omega) (by omega)) rfl rfl rfl ?_ | refine At.val (Val.bin rfl rfl rfl) rfl rfl rfl ?_
        refine At.val (Val.assign rfl) rfl rfl rfl ?_
        refine At.nil ?_
        refine At.thenN ?_
        exact At.again (k + 1) (by omega) (by omega) (Sub.cons rfl (Sub.cons rfl (Sub.cons (congrArg (fun z => some (Value.int IntKind.i64 z)) (by omega)) Sub.nil))) (List.Perm.refl _)
      · skip
        try simp only [vN_T, vN_F, nmE_T, nmE_F, wI_T, wI_F, data_T, data_F, ino_T, ino_F, notT, notF, bneT, bneF, beqT, beqF, decT, decF] at h5
        refine At.exitC ?_
        refine At.thenX ?_
        refine At.thenX ?_
        refine At.blkX ?_
        refine At.thenN ?_
        refine At.seq ?_
        refine At.region ?_
        refine At.val (Val.assign rfl) rfl rfl rfl ?_
        refine At.nil ?_
        refine At.thenN ?_
        refine At.retC ?_
        refine At.ret1 (.inl rfl) rfl rfl rfl (fun w hw => ?_)
        exact ⟨rfl, hw.mod⟩

end Go.Proofs.YtoiebgnmknbkjaaDoor
