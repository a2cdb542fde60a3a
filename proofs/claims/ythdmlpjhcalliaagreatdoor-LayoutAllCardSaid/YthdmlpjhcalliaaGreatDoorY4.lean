/- Parts of the proof, joined: see the law's text. -/
import Derived.Test.YthdmlpjhcalliaaGreatDoorY2
import Derived.Test.YthdmlpjhcalliaaGreatDoorY3
set_option linter.unusedVariables false
set_option linter.unusedSimpArgs false
namespace Go.Proofs.YthdmlpjhcalliaaGreatDoor
open Go Go.Wk
def loOf : Option (Int × Int) → Int
  | none => 5
  | some c => c.1 + c.2 + 1
def loAt (L : List (Int × Int)) (k : Nat) : Int := loOf (L.take k).getLast?
theorem loAt_0 (L : List (Int × Int)) : loAt L 0 = 5 := rfl
theorem loAt_succ {L : List (Int × Int)} {k : Nat} {c : Int × Int} (h : L[k]? = some c) : loAt L (k + 1) = c.1 + c.2 + 1 := by
  unfold loAt; rw [List.take_succ_of_get h]; simp [loOf]
def OkSp (lo : Int) (c : Int × Int) : Prop := lo ≤ c.1 ∧ c.1 ≤ 1023 ∧ 1 ≤ c.2 ∧ c.1 + c.2 ≤ 1024
instance (lo : Int) (c : Int × Int) : Decidable (OkSp lo c) := by unfold OkSp; infer_instance
def SpK (L : List (Int × Int)) (k : Nat) : Prop := ∀ j c, j < k → L[j]? = some c → OkSp (loAt L j) c
theorem spK_0 (L : List (Int × Int)) : SpK L 0 := fun j c h => absurd h (Nat.not_lt_zero _)
theorem spK_succ {L : List (Int × Int)} {k : Nat} {c : Int × Int} (h : SpK L k) (hc : L[k]? = some c) (ho : OkSp (loAt L k) c) : SpK L (k + 1) := fun j d hj hd => by
  rcases Nat.lt_or_ge j k with h1 | h1
  · exact h j d h1 hd
  · obtain rfl : k = j := by omega
    rw [hc] at hd; obtain rfl := Option.some.inj hd; exact ho
theorem lo_bd {L : List (Int × Int)} : ∀ {k : Nat}, SpK L k → k ≤ L.length → 5 ≤ loAt L k ∧ loAt L k ≤ 1025
  | 0, _, _ => by rw [loAt_0]; omega
  | k + 1, h, hk => by
    have ih := lo_bd (k := k) (fun j c hj hc => h j c (by omega) hc) (by omega)
    have hg : L[k]? = some (L[k]'(by omega)) := List.getElem?_eq_getElem (by omega)
    have ho := h k _ (by omega) hg
    rw [loAt_succ hg]
    unfold OkSp at ho; omega
def GoodSv (t : BitVec 32) (L : List (Int × Int)) : Prop := t.toNat ≠ 0 ∧ L.length ≤ 249 ∧ SpK L L.length
noncomputable instance (t : BitVec 32) (L : List (Int × Int)) : Decidable (GoodSv t L) := Classical.propDecidable _
theorem spK_no {L : List (Int × Int)} {t : BitVec 32} {k : Nat} {c : Int × Int} (hc : L[k]? = some c) (ho : ¬ OkSp (loAt L k) c) : ¬ GoodSv t L := fun g => ho (g.2.2 k c (List.getElem?_eq_some_iff.1 hc).1 hc)
def nxR (L : List (Int × Int)) (k : Nat) : Int := if k = 0 then 0 else loAt L k
theorem nxR_0 (L : List (Int × Int)) : nxR L 0 = 0 := rfl
theorem nxR_is (L : List (Int × Int)) (k : Nat) : (k = 0 ∧ nxR L k = 0 ∧ loAt L k = 5) ∨ (¬ k = 0 ∧ nxR L k = loAt L k) := by
  by_cases h : k = 0
  · subst h; exact .inl ⟨rfl, rfl, rfl⟩
  · exact .inr ⟨h, if_neg h⟩
theorem nxR_succ {L : List (Int × Int)} {k : Nat} {c : Int × Int} (h : L[k]? = some c) : nxR L (k + 1) = c.1 + c.2 + 1 := by unfold nxR; rw [if_neg (by omega), loAt_succ h]
theorem sp_eq {L : List (Int × Int)} {k : Nat} {a b : Int × Int} (h1 : L[(k : Int).toNat]? = some a) (h2 : L[k]? = some b) : a = b := by
  rw [Int.toNat_natCast, h2] at h1; exact (Option.some.inj h1).symm
theorem goodSv_p (t : BitVec 32) (v : Value) (L : List (Int × Int)) (w : World) (hv : RdS w v L) (hlen : L.length ≤ 8796093022144) :
    PureC Tryz.prog 90 [.agg #[b32 t, v]] (.bool (decide (GoodSv t L))) w := by
 refine enter0 Tryz.func90 rfl Tryz.ntmps90 rfl ?_
 simp only [envOf]
 refine tR (At.box rfl rfl rfl (fun b1 => (tA rfl rfl (tE (At.seq (tR (At.weaken [(0, _), (1, _), (2, _)] (Sub.cons rfl (Sub.cons rfl (Sub.cons rfl Sub.nil))) ?_)))))))
 refine At.boolMeet 9 14 (decide (t.toNat = 0 ∨ 249 < L.length)) ?_ ?_
 ·simp only [List.take_succ_cons, List.take_zero]
  refine tV (Val.field 0 rfl fo_44_0 rfl) rfl (tV (Val.load (i := 0) Tryz.isAgg41 rfl rfl rfl) rfl (tV (Val.bin rfl rfl rfl) rfl (tM rfl rfl ?_)))
  refine At.split (t := 9) rfl (fun h2 => ?_) (fun h2 => ?_)
  ·try simp only [vN_T, vN_F, nmE_T, nmE_F, wI_T, wI_F, data_T, data_F, ino_T, ino_F, notT, notF, bneT, bneF, beqT, beqF, decT, decF] at h2
   refine At.no rfl rfl rfl rfl (At.no rfl rfl rfl rfl (At.no rfl rfl rfl rfl (At.no rfl rfl rfl rfl (tV (Val.pickT rfl rfl) rfl (At.nil ?_)))))
   exact At.boolEnd rfl (by first | rfl | exact (decide_eq_true (by omega)).symm | exact (decide_eq_false (by omega)).symm | (apply Bool.eq_iff_iff.2; simp only [decide_eq_true_eq, beq_iff_eq, bne_iff_ne, ne_eq, wI_T, data_T, ino_T, vN_T, nmE_T, Bool.not_eq_true', wI_F, data_F, ino_F, vN_F, nmE_F, decide_eq_false_iff_not]; omega)) (by repeat (first | exact Sub.nil | refine Sub.cons rfl ?_))
  ·try simp only [vN_T, vN_F, nmE_T, nmE_F, wI_T, wI_F, data_T, data_F, ino_T, ino_F, notT, notF, bneT, bneF, beqT, beqF, decT, decF] at h2
   refine At.yes rfl rfl (tV (Val.field 1 rfl fo_44_1 rfl) rfl (At.yes rfl rfl (tV (Val.load (i := 0) Tryz.isAgg42 rfl rfl rfl) rfl (At.yes rfl rfl (tV (Val.lenRd hv Tryz.underlying42 rfl) rfl (At.yes rfl rfl (tV (Val.bin rfl rfl rfl) rfl (tV (Val.pickF rfl rfl) rfl (At.nil ?_)))))))))
   exact At.boolEnd rfl (by first | rfl | exact (decide_eq_true (by omega)).symm | exact (decide_eq_false (by omega)).symm | (apply Bool.eq_iff_iff.2; simp only [decide_eq_true_eq, beq_iff_eq, bne_iff_ne, ne_eq, wI_T, data_T, ino_T, vN_T, nmE_T, Bool.not_eq_true', wI_F, data_F, ino_F, vN_F, nmE_F, decide_eq_false_iff_not]; omega)) (by repeat (first | exact Sub.nil | refine Sub.cons rfl ?_))
 ·simp only [List.drop_succ_cons, List.drop_zero]
  refine tE ?_
  refine At.cond rfl (fun h3 => ?_) (fun h3 => ?_)
  ·try simp only [vN_T, vN_F, nmE_T, nmE_F, wI_T, wI_F, data_T, data_F, ino_T, ino_F, notT, notF, bneT, bneF, beqT, beqF, decT, decF] at h3
   refine tR (tA rfl rfl (tE (At.retC (At.thenR (At.ret1 (.inl rfl) rfl rfl rfl (fun w hw => ?_))))))
   exact ⟨retB (decide_eq_false (fun g => by have h1 := g.1; have h2 := g.2.1; omega)).symm, hw.mod⟩
  ·try simp only [vN_T, vN_F, nmE_T, nmE_F, wI_T, wI_F, data_T, data_F, ino_T, ino_F, notT, notF, bneT, bneF, beqT, beqF, decT, decF] at h3
   refine At.skipC (At.thenN (tR (tA rfl rfl (tE (At.seq (tR (tV (Val.field 1 rfl fo_44_1 rfl) rfl (tV (Val.load (i := 0) Tryz.isAgg42 rfl rfl rfl) rfl (tV (Val.lenRd hv Tryz.underlying42 rfl) rfl (tM rfl rfl (tE (At.block ?_))))))))))))
   skip
   refine At.drop 0 ?_
   simp only [ec0, ecS]
   refine At.loop (σ := Nat) (fun k => k ≤ L.length ∧ SpK L k) (fun k => [(16, v), (17, .int .i64 (L.length : Int)), (18, .int .i64 (k : Int)), (3, .int .i64 (loAt L k - 2))]) (fun k => []) (fun k => L.length - k) 0 ⟨Nat.zero_le _, spK_0 L⟩ (Sub.cons rfl (Sub.cons rfl (Sub.cons rfl (Sub.cons (congrArg (fun z => some (Value.int IntKind.i64 z)) (by rw [loAt_0]; rfl)) Sub.nil)))) (List.Perm.refl _) ?_
   intro k hs
   refine tR (tV (Val.bin rfl rfl rfl) rfl (tE (At.seq ?_)))
   refine At.cond rfl (fun h4 => ?_) (fun h4 => ?_)
   ·try simp only [vN_T, vN_F, nmE_T, nmE_F, wI_T, wI_F, data_T, data_F, ino_T, ino_F, notT, notF, bneT, bneF, beqT, beqF, decT, decF] at h4
    have hk : k < L.length := by omega
    have hlo := lo_bd hs.2 hs.1
    refine At.skipC (At.thenN (At.seq (At.block (tR (At.idxS hv Tryz.underlying42 Tryz.sizeOf64 rfl rfl (by omega) (by omega) rfl rfl (fun b5 o6 q7 hq8 hc9 hd10 => (tV (Val.loadSpan Tryz.isAgg64 Tryz.sizeOf64 rfl hc9 hd10 (fun h => h)) rfl (At.alloc Tryz.zeroValue64 rfl rfl (fun b11 => (At.storeAll (i := 0) Tryz.sizeOf64 rfl rfl rfl (by simp [Value.oneCell']) rfl rfl ?_))))))))))
    simp only [sc0, scS]
    refine At.nil ?_
    have hqk := hq8
    rw [Int.toNat_natCast] at hqk
    refine At.thenN (At.seq (tR (At.weaken [(16, _), (17, _), (18, _), (3, _), (19, _), (20, _), (21, _), (5, _)] (Sub.cons rfl (Sub.cons rfl (Sub.cons rfl (Sub.cons rfl (Sub.cons rfl (Sub.cons rfl (Sub.cons rfl (Sub.cons rfl Sub.nil)))))))) ?_)))
    refine At.boolMeet 23 44 (decide (¬ OkSp (loAt L k) q7)) ?_ ?_
    ·simp only [List.take_succ_cons, List.take_zero]
     refine tV (Val.field 1 rfl fo_64_1 rfl) rfl (tV (Val.load (i := 0) Tryz.isAgg3 rfl rfl rfl) rfl (tV (Val.bin rfl rfl rfl) rfl (tM rfl rfl ?_)))
     refine At.split (t := 25) rfl (fun h12 => ?_) (fun h12 => ?_)
     ·try simp only [vN_T, vN_F, nmE_T, nmE_F, wI_T, wI_F, data_T, data_F, ino_T, ino_F, notT, notF, bneT, bneF, beqT, beqF, decT, decF] at h12
      refine At.no rfl rfl rfl rfl (At.no rfl rfl rfl rfl (At.no rfl rfl rfl rfl (At.no rfl rfl rfl rfl (At.no rfl rfl rfl rfl (tV (Val.pickT rfl rfl) rfl (tM rfl rfl (At.no rfl rfl rfl rfl (At.no rfl rfl rfl rfl (At.no rfl rfl rfl rfl (tV (Val.pickT rfl rfl) rfl (tM rfl rfl (At.no rfl rfl rfl rfl (At.no rfl rfl rfl rfl (At.no rfl rfl rfl rfl (At.no rfl rfl rfl rfl (At.no rfl rfl rfl rfl (At.no rfl rfl rfl rfl (tV (Val.pickT rfl rfl) rfl (At.nil ?_)))))))))))))))))))
      exact At.boolEnd rfl (by first | exact (decide_eq_true (show ¬ OkSp (loAt L k) q7 by unfold OkSp; omega)).symm | exact (decide_eq_false (show ¬ ¬ OkSp (loAt L k) q7 by unfold OkSp; omega)).symm | (apply Bool.eq_iff_iff.2; simp only [decide_eq_true_eq, Bool.not_eq_true', decide_eq_false_iff_not, data_F, data_T]; unfold OkSp; omega)) (by repeat (first | exact Sub.nil | refine Sub.cons rfl ?_))
     ·try simp only [vN_T, vN_F, nmE_T, nmE_F, wI_T, wI_F, data_T, data_F, ino_T, ino_F, notT, notF, bneT, bneF, beqT, beqF, decT, decF] at h12
      refine At.yes rfl rfl (tV (Val.field 0 rfl fo_64_0 rfl) rfl (At.yes rfl rfl (tV (Val.load (i := 0) Tryz.isAgg3 rfl rfl rfl) rfl (At.yes rfl rfl (tM rfl rfl (At.yes rfl rfl ?_))))))
      first | refine tV (Val.addI rfl rfl (by omega) (by omega)) rfl ?_ | refine tV (Val.bin rfl rfl rfl) rfl ?_
      refine At.yes rfl rfl (tV (Val.bin rfl rfl rfl) rfl (tV (Val.pickF rfl rfl) rfl (tM rfl rfl ?_)))
      refine At.split (t := 32) rfl (fun h13 => ?_) (fun h13 => ?_)
      ·try simp only [vN_T, vN_F, nmE_T, nmE_F, wI_T, wI_F, data_T, data_F, ino_T, ino_F, notT, notF, bneT, bneF, beqT, beqF, decT, decF] at h13
       refine At.no rfl rfl rfl rfl (At.no rfl rfl rfl rfl (At.no rfl rfl rfl rfl (tV (Val.pickT rfl rfl) rfl (tM rfl rfl (At.no rfl rfl rfl rfl (At.no rfl rfl rfl rfl (At.no rfl rfl rfl rfl (At.no rfl rfl rfl rfl (At.no rfl rfl rfl rfl (At.no rfl rfl rfl rfl (tV (Val.pickT rfl rfl) rfl (At.nil ?_))))))))))))
       exact At.boolEnd rfl (by first | exact (decide_eq_true (show ¬ OkSp (loAt L k) q7 by unfold OkSp; omega)).symm | exact (decide_eq_false (show ¬ ¬ OkSp (loAt L k) q7 by unfold OkSp; omega)).symm | (apply Bool.eq_iff_iff.2; simp only [decide_eq_true_eq, Bool.not_eq_true', decide_eq_false_iff_not, data_F, data_T]; unfold OkSp; omega)) (by repeat (first | exact Sub.nil | refine Sub.cons rfl ?_))
      ·try simp only [vN_T, vN_F, nmE_T, nmE_F, wI_T, wI_F, data_T, data_F, ino_T, ino_F, notT, notF, bneT, bneF, beqT, beqF, decT, decF] at h13
       refine At.yes rfl rfl (tV (Val.field 0 rfl fo_64_0 rfl) rfl (At.yes rfl rfl (tV (Val.load (i := 0) Tryz.isAgg3 rfl rfl rfl) rfl (At.yes rfl rfl (tV (Val.bin rfl rfl rfl) rfl (tV (Val.pickF rfl rfl) rfl (tM rfl rfl ?_)))))))
       refine At.split (t := 37) rfl (fun h14 => ?_) (fun h14 => ?_)
       ·try simp only [vN_T, vN_F, nmE_T, nmE_F, wI_T, wI_F, data_T, data_F, ino_T, ino_F, notT, notF, bneT, bneF, beqT, beqF, decT, decF] at h14
        refine At.no rfl rfl rfl rfl (At.no rfl rfl rfl rfl (At.no rfl rfl rfl rfl (At.no rfl rfl rfl rfl (At.no rfl rfl rfl rfl (At.no rfl rfl rfl rfl (tV (Val.pickT rfl rfl) rfl (At.nil ?_)))))))
        exact At.boolEnd rfl (by first | exact (decide_eq_true (show ¬ OkSp (loAt L k) q7 by unfold OkSp; omega)).symm | exact (decide_eq_false (show ¬ ¬ OkSp (loAt L k) q7 by unfold OkSp; omega)).symm | (apply Bool.eq_iff_iff.2; simp only [decide_eq_true_eq, Bool.not_eq_true', decide_eq_false_iff_not, data_F, data_T]; unfold OkSp; omega)) (by repeat (first | exact Sub.nil | refine Sub.cons rfl ?_))
       ·try simp only [vN_T, vN_F, nmE_T, nmE_F, wI_T, wI_F, data_T, data_F, ino_T, ino_F, notT, notF, bneT, bneF, beqT, beqF, decT, decF] at h14
        refine At.yes rfl rfl (tV (Val.field 1 rfl fo_64_1 rfl) rfl (At.yes rfl rfl (tV (Val.load (i := 0) Tryz.isAgg3 rfl rfl rfl) rfl (At.yes rfl rfl (tV (Val.field 0 rfl fo_64_0 rfl) rfl (At.yes rfl rfl (tV (Val.load (i := 0) Tryz.isAgg3 rfl rfl rfl) rfl (At.yes rfl rfl ?_))))))))
        first | refine tV (Val.subI rfl rfl (by omega) (by omega)) rfl ?_ | refine tV (Val.bin rfl rfl rfl) rfl ?_
        refine At.yes rfl rfl (tV (Val.bin rfl rfl rfl) rfl (tV (Val.pickF rfl rfl) rfl (At.nil ?_)))
        exact At.boolEnd rfl (by first | exact (decide_eq_true (show ¬ OkSp (loAt L k) q7 by unfold OkSp; omega)).symm | exact (decide_eq_false (show ¬ ¬ OkSp (loAt L k) q7 by unfold OkSp; omega)).symm | (apply Bool.eq_iff_iff.2; simp only [decide_eq_true_eq, Bool.not_eq_true', decide_eq_false_iff_not, data_F, data_T]; unfold OkSp; omega)) (by repeat (first | exact Sub.nil | refine Sub.cons rfl ?_))
    ·simp only [List.drop_succ_cons, List.drop_zero]
     refine tE ?_
     refine At.cond rfl (fun h15 => ?_) (fun h15 => ?_)
     ·try simp only [vN_T, vN_F, nmE_T, nmE_F, wI_T, wI_F, data_T, data_F, ino_T, ino_F, notT, notF, bneT, bneF, beqT, beqF, decT, decF] at h15
      have hno : ¬ OkSp _ _ := h15
      refine tR (tA rfl rfl (tE (At.retC (At.thenR (At.blkR (At.thenR (At.thenR (At.blkR (At.thenR (At.ret1 (.inl rfl) rfl rfl rfl (fun w hw => ?_)))))))))))
      exact ⟨retB (decide_eq_false (spK_no hqk hno)).symm, hw.mod⟩
     ·try simp only [vN_T, vN_F, nmE_T, nmE_F, wI_T, wI_F, data_T, data_F, ino_T, ino_F, notT, notF, bneT, bneF, beqT, beqF, decT, decF] at h15
      have hyes : OkSp _ _ := Classical.not_not.1 h15
      have hyes2 := hyes
      unfold OkSp at hyes2
      refine At.skipC (At.thenN (At.region (tV (Val.field 0 rfl fo_64_0 rfl) rfl (tV (Val.load (i := 0) Tryz.isAgg3 rfl rfl rfl) rfl (tV (Val.field 1 rfl fo_64_1 rfl) rfl (tV (Val.load (i := 0) Tryz.isAgg3 rfl rfl rfl) rfl ?_))))))
      first | refine tV (Val.addI rfl rfl (by omega) (by omega)) rfl ?_ | refine tV (Val.bin rfl rfl rfl) rfl ?_
      first | refine tV (Val.subI rfl rfl (by omega) (by omega)) rfl ?_ | refine tV (Val.bin rfl rfl rfl) rfl ?_
      refine tA rfl rfl (At.nil (At.blkN (At.thenN (At.region ?_))))
      first | refine tV (Val.addI rfl rfl (by omega) (by omega)) rfl ?_ | refine tV (Val.bin rfl rfl rfl) rfl ?_
      refine tM rfl rfl (tE (At.drop 0 ?_))
      simp only [ec0, ecS]
      exact At.again (k + 1) ⟨by omega, spK_succ hs.2 hqk hyes⟩ (by omega) (Sub.cons rfl (Sub.cons rfl (Sub.cons (congrArg (fun z => some (Value.int IntKind.i64 z)) (by omega)) (Sub.cons (congrArg (fun z => some (Value.int IntKind.i64 z)) (by rw [loAt_succ hqk]; omega)) Sub.nil)))) (List.Perm.refl _)
   ·try simp only [vN_T, vN_F, nmE_T, nmE_F, wI_T, wI_F, data_T, data_F, ino_T, ino_F, notT, notF, bneT, bneF, beqT, beqF, decT, decF] at h4
    obtain rfl : k = L.length := by omega
    refine At.exitC (At.thenX (At.thenX (At.blkX (At.thenN (tR (tA rfl rfl (tE (At.retC (At.ret1 (.inl rfl) rfl rfl rfl (fun w hw => ?_))))))))))
    exact ⟨retB (decide_eq_true ⟨by omega, by omega, hs.2⟩).symm, hw.mod⟩
theorem goodSvR_p (t : BitVec 32) (v : Value) (L : List (Int × Int)) (w : World) (hv : RdS w v L) (hlen : L.length ≤ 8796093022144) :
    PureC Tryz.prog 92 [.agg #[b32 t, v]] (.bool (decide (GoodSv t L))) w := by
 refine enter0 Tryz.func92 rfl Tryz.ntmps92 rfl ?_
 simp only [envOf]
 refine tR (At.box rfl rfl rfl (fun b1 => (tA rfl rfl (tE (At.seq (tR (At.weaken [(0, _), (1, _), (2, _)] (Sub.cons rfl (Sub.cons rfl (Sub.cons rfl Sub.nil))) ?_)))))))
 refine At.boolMeet 9 14 (decide (t.toNat = 0 ∨ 249 < L.length)) ?_ ?_
 ·simp only [List.take_succ_cons, List.take_zero]
  refine tV (Val.field 0 rfl fo_44_0 rfl) rfl (tV (Val.load (i := 0) Tryz.isAgg41 rfl rfl rfl) rfl (tV (Val.bin rfl rfl rfl) rfl (tM rfl rfl ?_)))
  refine At.split (t := 9) rfl (fun h2 => ?_) (fun h2 => ?_)
  ·try simp only [vN_T, vN_F, nmE_T, nmE_F, wI_T, wI_F, data_T, data_F, ino_T, ino_F, notT, notF, bneT, bneF, beqT, beqF, decT, decF] at h2
   refine At.no rfl rfl rfl rfl (At.no rfl rfl rfl rfl (At.no rfl rfl rfl rfl (At.no rfl rfl rfl rfl (tV (Val.pickT rfl rfl) rfl (At.nil ?_)))))
   exact At.boolEnd rfl (by first | rfl | exact (decide_eq_true (by omega)).symm | exact (decide_eq_false (by omega)).symm | (apply Bool.eq_iff_iff.2; simp only [decide_eq_true_eq, beq_iff_eq, bne_iff_ne, ne_eq, wI_T, data_T, ino_T, vN_T, nmE_T, Bool.not_eq_true', wI_F, data_F, ino_F, vN_F, nmE_F, decide_eq_false_iff_not]; omega)) (by repeat (first | exact Sub.nil | refine Sub.cons rfl ?_))
  ·try simp only [vN_T, vN_F, nmE_T, nmE_F, wI_T, wI_F, data_T, data_F, ino_T, ino_F, notT, notF, bneT, bneF, beqT, beqF, decT, decF] at h2
   refine At.yes rfl rfl (tV (Val.field 1 rfl fo_44_1 rfl) rfl (At.yes rfl rfl (tV (Val.load (i := 0) Tryz.isAgg42 rfl rfl rfl) rfl (At.yes rfl rfl (tV (Val.lenRd hv Tryz.underlying42 rfl) rfl (At.yes rfl rfl (tV (Val.bin rfl rfl rfl) rfl (tV (Val.pickF rfl rfl) rfl (At.nil ?_)))))))))
   exact At.boolEnd rfl (by first | rfl | exact (decide_eq_true (by omega)).symm | exact (decide_eq_false (by omega)).symm | (apply Bool.eq_iff_iff.2; simp only [decide_eq_true_eq, beq_iff_eq, bne_iff_ne, ne_eq, wI_T, data_T, ino_T, vN_T, nmE_T, Bool.not_eq_true', wI_F, data_F, ino_F, vN_F, nmE_F, decide_eq_false_iff_not]; omega)) (by repeat (first | exact Sub.nil | refine Sub.cons rfl ?_))
 ·simp only [List.drop_succ_cons, List.drop_zero]
  refine tE ?_
  refine At.cond rfl (fun h3 => ?_) (fun h3 => ?_)
  ·try simp only [vN_T, vN_F, nmE_T, nmE_F, wI_T, wI_F, data_T, data_F, ino_T, ino_F, notT, notF, bneT, bneF, beqT, beqF, decT, decF] at h3
   refine tR (tA rfl rfl (tE (At.retC (At.thenR (At.ret1 (.inl rfl) rfl rfl rfl (fun w hw => ?_))))))
   exact ⟨retB (decide_eq_false (fun g => by have h1 := g.1; have h2 := g.2.1; omega)).symm, hw.mod⟩
  ·try simp only [vN_T, vN_F, nmE_T, nmE_F, wI_T, wI_F, data_T, data_F, ino_T, ino_F, notT, notF, bneT, bneF, beqT, beqF, decT, decF] at h3
   refine At.skipC (At.thenN (tR (tA rfl rfl (tE (At.seq (tR (tA rfl rfl (tE (At.block ?_)))))))))
   skip
   refine At.loop (σ := Nat) (fun k => k ≤ L.length ∧ SpK L k) (fun k => [(1, .pointer (some ⟨b1, 0, none⟩)), (3, .int .i64 (nxR L k)), (4, .int .i64 (k : Int))]) (fun k => [blk b1 44 ([b32 t, v])]) (fun k => L.length - k) 0 ⟨Nat.zero_le _, spK_0 L⟩ (Sub.cons rfl (Sub.cons (congrArg (fun z => some (Value.int IntKind.i64 z)) (by rw [nxR_0])) (Sub.cons rfl Sub.nil))) (List.Perm.refl _) ?_
   intro k hs
   refine At.seq (tR (tM rfl rfl (tV (Val.field 1 rfl fo_44_1 rfl) rfl (tV (Val.load (i := 0) Tryz.isAgg42 rfl rfl rfl) rfl (tV (Val.lenRd hv Tryz.underlying42 rfl) rfl (tV (Val.bin rfl rfl rfl) rfl (tE ?_)))))))
   refine At.cond rfl (fun h4 => ?_) (fun h4 => ?_)
   ·try simp only [vN_T, vN_F, nmE_T, nmE_F, wI_T, wI_F, data_T, data_F, ino_T, ino_F, notT, notF, bneT, bneF, beqT, beqF, decT, decF] at h4
    have hk : k < L.length := by omega
    have hlo := lo_bd hs.2 hs.1
    have hnx := nxR_is L k
    refine At.skipC (At.thenN (At.seq (At.block (tR (tV (Val.field 1 rfl fo_44_1 rfl) rfl (tV (Val.load (i := 0) Tryz.isAgg42 rfl rfl rfl) rfl (tM rfl rfl (At.idxS hv Tryz.underlying42 Tryz.sizeOf64 rfl rfl (by omega) (by omega) rfl rfl (fun b5 o6 q7 hq8 hc9 hd10 => (tV (Val.loadSpan Tryz.isAgg64 Tryz.sizeOf64 rfl hc9 hd10 (fun h => h)) rfl (At.alloc Tryz.zeroValue64 rfl rfl (fun b11 => (At.storeAll (i := 0) Tryz.sizeOf64 rfl rfl rfl (by simp [Value.oneCell']) rfl rfl ?_)))))))))))))
    simp only [sc0, scS]
    refine At.nil ?_
    have hqk := hq8
    rw [Int.toNat_natCast] at hqk
    refine At.thenN (At.seq (tR (At.weaken [(1, _), (3, _), (4, _), (15, _), (16, _), (17, _), (18, _), (19, _), (22, _), (23, _), (24, _), (25, _), (26, _), (5, _)] (Sub.cons rfl (Sub.cons rfl (Sub.cons rfl (Sub.cons rfl (Sub.cons rfl (Sub.cons rfl (Sub.cons rfl (Sub.cons rfl (Sub.cons rfl (Sub.cons rfl (Sub.cons rfl (Sub.cons rfl (Sub.cons rfl (Sub.cons rfl Sub.nil)))))))))))))) ?_)))
    refine At.boolMeet 30 56 (decide (¬ OkSp (loAt L k) q7)) ?_ ?_
    ·simp only [List.take_succ_cons, List.take_zero]
     refine tV (Val.field 0 rfl fo_64_0 rfl) rfl (tV (Val.load (i := 0) Tryz.isAgg3 rfl rfl rfl) rfl (tM rfl rfl (tV (Val.bin rfl rfl rfl) rfl (tM rfl rfl ?_))))
     refine At.split (t := 31) rfl (fun h12 => ?_) (fun h12 => ?_)
     ·try simp only [vN_T, vN_F, nmE_T, nmE_F, wI_T, wI_F, data_T, data_F, ino_T, ino_F, notT, notF, bneT, bneF, beqT, beqF, decT, decF] at h12
      refine At.no rfl rfl rfl rfl (At.no rfl rfl rfl rfl (At.no rfl rfl rfl rfl (At.no rfl rfl rfl rfl (tV (Val.pickT rfl rfl) rfl (tM rfl rfl (At.no rfl rfl rfl rfl (At.no rfl rfl rfl rfl (At.no rfl rfl rfl rfl (tV (Val.pickT rfl rfl) rfl (tM rfl rfl (At.no rfl rfl rfl rfl (At.no rfl rfl rfl rfl (At.no rfl rfl rfl rfl (tV (Val.pickT rfl rfl) rfl (tM rfl rfl (At.no rfl rfl rfl rfl (At.no rfl rfl rfl rfl (At.no rfl rfl rfl rfl (At.no rfl rfl rfl rfl (At.no rfl rfl rfl rfl (At.no rfl rfl rfl rfl (At.no rfl rfl rfl rfl (At.no rfl rfl rfl rfl (tV (Val.pickT rfl rfl) rfl (At.nil ?_)))))))))))))))))))))))))
      exact At.boolEnd rfl (by first | exact (decide_eq_true (show ¬ OkSp (loAt L k) q7 by unfold OkSp; omega)).symm | exact (decide_eq_false (show ¬ ¬ OkSp (loAt L k) q7 by unfold OkSp; omega)).symm | (apply Bool.eq_iff_iff.2; simp only [decide_eq_true_eq, Bool.not_eq_true', decide_eq_false_iff_not, data_F, data_T]; unfold OkSp; omega)) (by repeat (first | exact Sub.nil | refine Sub.cons rfl ?_))
     ·try simp only [vN_T, vN_F, nmE_T, nmE_F, wI_T, wI_F, data_T, data_F, ino_T, ino_F, notT, notF, bneT, bneF, beqT, beqF, decT, decF] at h12
      refine At.yes rfl rfl (tV (Val.field 0 rfl fo_64_0 rfl) rfl (At.yes rfl rfl (tV (Val.load (i := 0) Tryz.isAgg3 rfl rfl rfl) rfl (At.yes rfl rfl (At.callP (fun w hw => dataR_p _ w) Tryz.call80 rfl rfl (At.yes rfl rfl (tV (Val.not rfl) rfl (tV (Val.pickF rfl rfl) rfl (tM rfl rfl ?_)))))))))
      refine At.split (t := 37) rfl (fun h13 => ?_) (fun h13 => ?_)
      ·try simp only [vN_T, vN_F, nmE_T, nmE_F, wI_T, wI_F, data_T, data_F, ino_T, ino_F, notT, notF, bneT, bneF, beqT, beqF, decT, decF] at h13
       refine At.no rfl rfl rfl rfl (At.no rfl rfl rfl rfl (At.no rfl rfl rfl rfl (tV (Val.pickT rfl rfl) rfl (tM rfl rfl (At.no rfl rfl rfl rfl (At.no rfl rfl rfl rfl (At.no rfl rfl rfl rfl (tV (Val.pickT rfl rfl) rfl (tM rfl rfl (At.no rfl rfl rfl rfl (At.no rfl rfl rfl rfl (At.no rfl rfl rfl rfl (At.no rfl rfl rfl rfl (At.no rfl rfl rfl rfl (At.no rfl rfl rfl rfl (At.no rfl rfl rfl rfl (At.no rfl rfl rfl rfl (tV (Val.pickT rfl rfl) rfl (At.nil ?_)))))))))))))))))))
       exact At.boolEnd rfl (by first | exact (decide_eq_true (show ¬ OkSp (loAt L k) q7 by unfold OkSp; omega)).symm | exact (decide_eq_false (show ¬ ¬ OkSp (loAt L k) q7 by unfold OkSp; omega)).symm | (apply Bool.eq_iff_iff.2; simp only [decide_eq_true_eq, Bool.not_eq_true', decide_eq_false_iff_not, data_F, data_T]; unfold OkSp; omega)) (by repeat (first | exact Sub.nil | refine Sub.cons rfl ?_))
      ·try simp only [vN_T, vN_F, nmE_T, nmE_F, wI_T, wI_F, data_T, data_F, ino_T, ino_F, notT, notF, bneT, bneF, beqT, beqF, decT, decF] at h13
       refine At.yes rfl rfl (tV (Val.field 1 rfl fo_64_1 rfl) rfl (At.yes rfl rfl (tV (Val.load (i := 0) Tryz.isAgg3 rfl rfl rfl) rfl (At.yes rfl rfl (tV (Val.bin rfl rfl rfl) rfl (tV (Val.pickF rfl rfl) rfl (tM rfl rfl ?_)))))))
       refine At.split (t := 42) rfl (fun h14 => ?_) (fun h14 => ?_)
       ·try simp only [vN_T, vN_F, nmE_T, nmE_F, wI_T, wI_F, data_T, data_F, ino_T, ino_F, notT, notF, bneT, bneF, beqT, beqF, decT, decF] at h14
        refine At.no rfl rfl rfl rfl (At.no rfl rfl rfl rfl (At.no rfl rfl rfl rfl (tV (Val.pickT rfl rfl) rfl (tM rfl rfl (At.no rfl rfl rfl rfl (At.no rfl rfl rfl rfl (At.no rfl rfl rfl rfl (At.no rfl rfl rfl rfl (At.no rfl rfl rfl rfl (At.no rfl rfl rfl rfl (At.no rfl rfl rfl rfl (At.no rfl rfl rfl rfl (tV (Val.pickT rfl rfl) rfl (At.nil ?_))))))))))))))
        exact At.boolEnd rfl (by first | exact (decide_eq_true (show ¬ OkSp (loAt L k) q7 by unfold OkSp; omega)).symm | exact (decide_eq_false (show ¬ ¬ OkSp (loAt L k) q7 by unfold OkSp; omega)).symm | (apply Bool.eq_iff_iff.2; simp only [decide_eq_true_eq, Bool.not_eq_true', decide_eq_false_iff_not, data_F, data_T]; unfold OkSp; omega)) (by repeat (first | exact Sub.nil | refine Sub.cons rfl ?_))
       ·try simp only [vN_T, vN_F, nmE_T, nmE_F, wI_T, wI_F, data_T, data_F, ino_T, ino_F, notT, notF, bneT, bneF, beqT, beqF, decT, decF] at h14
        refine At.yes rfl rfl (tV (Val.field 1 rfl fo_64_1 rfl) rfl (At.yes rfl rfl (tV (Val.load (i := 0) Tryz.isAgg3 rfl rfl rfl) rfl (At.yes rfl rfl (tV (Val.bin rfl rfl rfl) rfl (tV (Val.pickF rfl rfl) rfl (tM rfl rfl ?_)))))))
        refine At.split (t := 47) rfl (fun h15 => ?_) (fun h15 => ?_)
        ·try simp only [vN_T, vN_F, nmE_T, nmE_F, wI_T, wI_F, data_T, data_F, ino_T, ino_F, notT, notF, bneT, bneF, beqT, beqF, decT, decF] at h15
         refine At.no rfl rfl rfl rfl (At.no rfl rfl rfl rfl (At.no rfl rfl rfl rfl (At.no rfl rfl rfl rfl (At.no rfl rfl rfl rfl (At.no rfl rfl rfl rfl (At.no rfl rfl rfl rfl (At.no rfl rfl rfl rfl (tV (Val.pickT rfl rfl) rfl (At.nil ?_)))))))))
         exact At.boolEnd rfl (by first | exact (decide_eq_true (show ¬ OkSp (loAt L k) q7 by unfold OkSp; omega)).symm | exact (decide_eq_false (show ¬ ¬ OkSp (loAt L k) q7 by unfold OkSp; omega)).symm | (apply Bool.eq_iff_iff.2; simp only [decide_eq_true_eq, Bool.not_eq_true', decide_eq_false_iff_not, data_F, data_T]; unfold OkSp; omega)) (by repeat (first | exact Sub.nil | refine Sub.cons rfl ?_))
        ·try simp only [vN_T, vN_F, nmE_T, nmE_F, wI_T, wI_F, data_T, data_F, ino_T, ino_F, notT, notF, bneT, bneF, beqT, beqF, decT, decF] at h15
         refine At.yes rfl rfl (tV (Val.field 0 rfl fo_64_0 rfl) rfl (At.yes rfl rfl (tV (Val.load (i := 0) Tryz.isAgg3 rfl rfl rfl) rfl (At.yes rfl rfl (tV (Val.field 1 rfl fo_64_1 rfl) rfl (At.yes rfl rfl (tV (Val.load (i := 0) Tryz.isAgg3 rfl rfl rfl) rfl (At.yes rfl rfl ?_))))))))
         first | refine tV (Val.addI rfl rfl (by omega) (by omega)) rfl ?_ | refine tV (Val.bin rfl rfl rfl) rfl ?_
         refine At.yes rfl rfl ?_
         first | refine tV (Val.subI rfl rfl (by omega) (by omega)) rfl ?_ | refine tV (Val.bin rfl rfl rfl) rfl ?_
         refine At.yes rfl rfl (At.callP (fun w hw => dataR_p _ w) Tryz.call80 rfl rfl (At.yes rfl rfl (tV (Val.not rfl) rfl (tV (Val.pickF rfl rfl) rfl (At.nil ?_)))))
         exact At.boolEnd rfl (by first | exact (decide_eq_true (show ¬ OkSp (loAt L k) q7 by unfold OkSp; omega)).symm | exact (decide_eq_false (show ¬ ¬ OkSp (loAt L k) q7 by unfold OkSp; omega)).symm | (apply Bool.eq_iff_iff.2; simp only [decide_eq_true_eq, Bool.not_eq_true', decide_eq_false_iff_not, data_F, data_T]; unfold OkSp; omega)) (by repeat (first | exact Sub.nil | refine Sub.cons rfl ?_))
    ·simp only [List.drop_succ_cons, List.drop_zero]
     refine tE ?_
     refine At.cond rfl (fun h16 => ?_) (fun h16 => ?_)
     ·try simp only [vN_T, vN_F, nmE_T, nmE_F, wI_T, wI_F, data_T, data_F, ino_T, ino_F, notT, notF, bneT, bneF, beqT, beqF, decT, decF] at h16
      have hno : ¬ OkSp _ _ := h16
      refine tR (tA rfl rfl (tE (At.retC (At.thenR (At.blkR (At.thenR (At.thenR (At.blkR (At.thenR (At.ret1 (.inl rfl) rfl rfl rfl (fun w hw => ?_)))))))))))
      exact ⟨retB (decide_eq_false (spK_no hqk hno)).symm, hw.mod⟩
     ·try simp only [vN_T, vN_F, nmE_T, nmE_F, wI_T, wI_F, data_T, data_F, ino_T, ino_F, notT, notF, bneT, bneF, beqT, beqF, decT, decF] at h16
      have hyes : OkSp _ _ := Classical.not_not.1 h16
      have hyes2 := hyes
      unfold OkSp at hyes2
      refine At.skipC (At.thenN (At.region (tV (Val.field 0 rfl fo_64_0 rfl) rfl (tV (Val.load (i := 0) Tryz.isAgg3 rfl rfl rfl) rfl (tV (Val.field 1 rfl fo_64_1 rfl) rfl (tV (Val.load (i := 0) Tryz.isAgg3 rfl rfl rfl) rfl ?_))))))
      first | refine tV (Val.addI rfl rfl (by omega) (by omega)) rfl ?_ | refine tV (Val.bin rfl rfl rfl) rfl ?_
      first | refine tV (Val.addI rfl rfl (by omega) (by omega)) rfl ?_ | refine tV (Val.bin rfl rfl rfl) rfl ?_
      refine tA rfl rfl (At.nil (At.blkN (At.thenN (At.region (tM rfl rfl ?_)))))
      first | refine tV (Val.addI rfl rfl (by omega) (by omega)) rfl ?_ | refine tV (Val.bin rfl rfl rfl) rfl ?_
      refine tA rfl rfl (tE (At.drop 0 ?_))
      simp only [ec0, ecS]
      exact At.again (k + 1) ⟨by omega, spK_succ hs.2 hqk hyes⟩ (by omega) (Sub.cons rfl (Sub.cons (congrArg (fun z => some (Value.int IntKind.i64 z)) (by rw [nxR_succ hqk])) (Sub.cons (congrArg (fun z => some (Value.int IntKind.i64 z)) (by omega)) Sub.nil))) (List.Perm.refl _)
   ·try simp only [vN_T, vN_F, nmE_T, nmE_F, wI_T, wI_F, data_T, data_F, ino_T, ino_F, notT, notF, bneT, bneF, beqT, beqF, decT, decF] at h4
    obtain rfl : k = L.length := by omega
    refine At.exitC (At.thenX (At.thenX (At.blkX (At.thenN (tR (tA rfl rfl (tE (At.retC (At.ret1 (.inl rfl) rfl rfl rfl (fun w hw => ?_))))))))))
    exact ⟨retB (decide_eq_true ⟨by omega, by omega, hs.2⟩).symm, hw.mod⟩
theorem copySv_n (t : BitVec 32) (v : Value) (L : List (Int × Int)) (w : World) (hv : RdS w v L) (hlen : L.length ≤ 8796093022144) :
    NewRowT Tryz.prog 46 [.agg #[b32 t, v]] (fun v => .agg #[b32 t, v]) 64 2 L.length (prS L) w := by
 refine enter0 Tryz.func46 rfl Tryz.ntmps46 rfl ?_
 simp only [envOf]
 refine tR (At.box rfl rfl rfl (fun b1 => (At.alloc Tryz.zeroValue44 rfl rfl (fun b2 => (tE (tR (tA rfl rfl (tE (tR (tM rfl rfl (tV (Val.field 1 rfl fo_44_1 rfl) rfl (tV (Val.load (i := 1) Tryz.isAgg42 rfl rfl rfl) rfl (At.rowNilS 64 ?_)))))))))))))
 refine At.appendRdS (i := 0) (by_ := 16) Tryz.underlying42 info_64 rfl rfl rfl rfl rfl rfl rfl hv (Off.none _ _) (by simp only [List.length_nil]; omega) (by simp only [List.length_nil]; omega) rfl (fun v3 => ?_)
 simp only [sc0, scS]
 refine tA rfl rfl (At.nil (At.rowIs (i := 0) rfl (fun A4 c5 hv => ?_)))
 subst hv
 refine At.thenN (tR (tV (Val.field 0 rfl fo_44_0 rfl) rfl (tV (Val.load (i := 2) Tryz.isAgg41 rfl rfl rfl) rfl (tM rfl rfl ?_))))
 refine tV (Val.build (fun a ha => by simp only [List.map_toArray, List.map_cons, List.map_nil, ha.eval (x := (.tmp 9)) rfl, ha.eval (x := (.tmp 10)) rfl] <;> rfl) (bld_44_0_1 _ _ _ _ )) rfl (At.rowOne (i := 0) rfl (fun ho6 => ?_))
 refine At.storeAll (i := 1) Tryz.sizeOf44 rfl rfl rfl (by intro u hu; simp only [List.mem_cons, List.not_mem_nil, or_false] at hu; rcases hu with rfl | rfl <;> first | rfl | assumption) rfl rfl ?_
 simp only [sc0, scS]
 refine tE (At.retC (At.ret1 (.inl rfl) rfl rfl (ResOf.all (i := 1) Tryz.isAgg44 Tryz.sizeOf44 rfl rfl rfl) (fun w hw => ?_)))
 exact ⟨_, rfl, (hw.drop (List.singleton_sublist.2 (List.mem_of_getElem? (i := 0) rfl))).f0⟩
theorem sameSv_p (t : BitVec 32) (v u : Value) (L : List (Int × Int)) (w : World) (hv : RdS w v L) (hu : RdS w u L) (hlen : L.length ≤ 8796093022144) :
    PureC Tryz.prog 49 [.agg #[b32 t, v], .agg #[b32 t, u]] (.bool true) w := by
 refine enter0 Tryz.func49 rfl Tryz.ntmps49 rfl ?_
 simp only [envOf]
 refine tR (At.box rfl rfl rfl (fun b1 => (At.box rfl rfl rfl (fun b2 => (tA rfl rfl (tE (At.seq (tR (At.weaken [(0, _), (1, _), (2, _), (3, _), (4, _)] (Sub.cons rfl (Sub.cons rfl (Sub.cons rfl (Sub.cons rfl (Sub.cons rfl Sub.nil))))) ?_)))))))))
 refine At.boolMeet 14 19 (false) ?_ ?_
 ·simp only [List.take_succ_cons, List.take_zero]
  refine tV (Val.field 0 rfl fo_44_0 rfl) rfl (tV (Val.load (i := 1) Tryz.isAgg41 rfl rfl rfl) rfl (tV (Val.field 0 rfl fo_44_0 rfl) rfl (tV (Val.load (i := 0) Tryz.isAgg41 rfl rfl rfl) rfl (tV (Val.bin rfl rfl rfl) rfl (tM rfl rfl ?_)))))
  refine At.split (t := 11) rfl (fun h3 => ?_) (fun h3 => ?_)
  ·try simp only [vN_T, vN_F, nmE_T, nmE_F, wI_T, wI_F, data_T, data_F, ino_T, ino_F, notT, notF, bneT, bneF, beqT, beqF, decT, decF] at h3
   refine At.no rfl rfl rfl rfl (At.no rfl rfl rfl rfl (At.no rfl rfl rfl rfl (At.no rfl rfl rfl rfl (At.no rfl rfl rfl rfl (At.no rfl rfl rfl rfl (At.no rfl rfl rfl rfl (tV (Val.pickT rfl rfl) rfl (At.nil ?_))))))))
   exact At.boolEnd rfl (by first | rfl | (exfalso; omega) | (simp; done)) (by repeat (first | exact Sub.nil | refine Sub.cons rfl ?_))
  ·try simp only [vN_T, vN_F, nmE_T, nmE_F, wI_T, wI_F, data_T, data_F, ino_T, ino_F, notT, notF, bneT, bneF, beqT, beqF, decT, decF] at h3
   refine At.yes rfl rfl (tV (Val.field 1 rfl fo_44_1 rfl) rfl (At.yes rfl rfl (tV (Val.load (i := 1) Tryz.isAgg42 rfl rfl rfl) rfl (At.yes rfl rfl (tV (Val.lenRd hv Tryz.underlying42 rfl) rfl (At.yes rfl rfl (tV (Val.field 1 rfl fo_44_1 rfl) rfl (At.yes rfl rfl (tV (Val.load (i := 0) Tryz.isAgg42 rfl rfl rfl) rfl (At.yes rfl rfl (tV (Val.lenRd hu Tryz.underlying42 rfl) rfl (At.yes rfl rfl (tV (Val.bin rfl rfl rfl) rfl (tV (Val.pickF rfl rfl) rfl (At.nil ?_)))))))))))))))
   exact At.boolEnd rfl (by first | rfl | (exfalso; omega) | (simp; done)) (by repeat (first | exact Sub.nil | refine Sub.cons rfl ?_))
 ·simp only [List.drop_succ_cons, List.drop_zero]
  refine tE ?_
  refine At.cond rfl (fun h4 => ?_) (fun h4 => ?_)
  ·try simp only [vN_T, vN_F, nmE_T, nmE_F, wI_T, wI_F, data_T, data_F, ino_T, ino_F, notT, notF, bneT, bneF, beqT, beqF, decT, decF] at h4
   exact absurd h4 (by decide)
  ·try simp only [vN_T, vN_F, nmE_T, nmE_F, wI_T, wI_F, data_T, data_F, ino_T, ino_F, notT, notF, bneT, bneF, beqT, beqF, decT, decF] at h4
   refine At.skipC (At.thenN (At.seq (tR (tA rfl rfl (tE (At.block ?_))))))
   skip
   refine At.loop (σ := Nat) (fun k => k ≤ L.length) (fun k => [(2, .pointer (some ⟨b1, 0, none⟩)), (3, .pointer (some ⟨b2, 0, none⟩)), (5, .int .i64 (k : Int))]) (fun k => [blk b2 44 ([b32 t, u]), blk b1 44 ([b32 t, v])]) (fun k => L.length - k) 0 (Nat.zero_le _) (Sub.cons rfl (Sub.cons rfl (Sub.cons rfl Sub.nil))) (List.Perm.refl _) ?_
   intro k hs
   refine At.seq (tR (tM rfl rfl (tV (Val.field 1 rfl fo_44_1 rfl) rfl (tV (Val.load (i := 1) Tryz.isAgg42 rfl rfl rfl) rfl (tV (Val.lenRd hv Tryz.underlying42 rfl) rfl (tV (Val.bin rfl rfl rfl) rfl (tE ?_)))))))
   refine At.cond rfl (fun h5 => ?_) (fun h5 => ?_)
   ·try simp only [vN_T, vN_F, nmE_T, nmE_F, wI_T, wI_F, data_T, data_F, ino_T, ino_F, notT, notF, bneT, bneF, beqT, beqF, decT, decF] at h5
    have hk : k < L.length := by omega
    refine At.skipC (At.thenN (At.seq (At.block (At.seq (At.quiet rfl (by decide +kernel) (qV (Val.field 1 rfl fo_44_1 rfl) rfl (qV (Val.load (i := 1) Tryz.isAgg42 rfl rfl rfl) rfl (qM rfl rfl (QAt.idxS hv Tryz.underlying42 Tryz.sizeOf64 rfl rfl (by omega) (by omega) rfl rfl (fun b6 o7 q8 hq9 hc10 hd11 => (qV (Val.loadSpan Tryz.isAgg64 Tryz.sizeOf64 rfl hc10 hd11 (fun h => h)) rfl (qV (Val.field 1 rfl fo_44_1 rfl) rfl (qV (Val.load (i := 0) Tryz.isAgg42 rfl rfl rfl) rfl (qM rfl rfl (QAt.idxS hu Tryz.underlying42 Tryz.sizeOf64 rfl rfl (by omega) (by omega) rfl rfl (fun b12 o13 q14 hq15 hc16 hd17 => (qV (Val.loadSpan Tryz.isAgg64 Tryz.sizeOf64 rfl hc16 hd17 (fun h => h)) rfl (qV (Val.neAgg Tryz.eqGuardType64 (fun w => eq_64 _ _ _ _ w) rfl rfl) rfl ?_))))))))))))))))))
    rw [show q14 = q8 from by have h1 := hq9; have h2 := hq15; rw [h1] at h2; exact (Option.some.inj h2).symm]
    simp only [beq_self_eq_true, Bool.and_true, Bool.not_true]
    refine QAt.fin (At.thenN (At.condF rfl (At.skipC (At.blkN (At.thenN (At.region (tM rfl rfl ?_)))))))
    first | refine tV (Val.addI rfl rfl (by omega) (by omega)) rfl ?_ | refine tV (Val.bin rfl rfl rfl) rfl ?_
    refine tA rfl rfl (tE ?_)
    exact At.again (k + 1) (by omega) (by omega) (Sub.cons rfl (Sub.cons rfl (Sub.cons (congrArg (fun z => some (Value.int IntKind.i64 z)) (by omega)) Sub.nil))) (List.Perm.refl _)
   ·try simp only [vN_T, vN_F, nmE_T, nmE_F, wI_T, wI_F, data_T, data_F, ino_T, ino_F, notT, notF, bneT, bneF, beqT, beqF, decT, decF] at h5
    refine At.exitC (At.thenX (At.thenX (At.blkX (At.thenN (tR (tA rfl rfl (tE (At.retC (At.ret1 (.inl rfl) rfl rfl rfl (fun w hw => ?_))))))))))
    exact ⟨rfl, hw.mod⟩
end Go.Proofs.YthdmlpjhcalliaaGreatDoor
namespace Go.Wk
open Go
section
variable {P : Program} {Γ : Ctx} {E E' : Env} {H : List Res} {ops : Array Oper} {Q : Exit → Act → World → Prop} {rest : List Oper}
  {d : Nat} {ty : TypeId} {pos : String} {after : Array Edge} {x y : Operand} {v u : Value}
theorem At.copyStrRow {i dT sT e e' N C m c o b : Nat} {s : ByteArray} {l : List UInt8} (ht : P.underlying dT = some (.slice e)) (hz : ∀ w, (sizeOf e).run P w = .ok 1 w)
    (hx : ev E x = some (.slice (some ⟨b, o, none⟩) m c)) (hy : ev E y = some (.string s)) (hi : H[i]? = some (rowR (.slice (some ⟨b, 0, none⟩) N C) e' 1 N (l.map bv))) (hm : s.size ≤ m) (ho : o + s.size ≤ l.length) (hn : Nat.blt d Γ.n = true)
    (k : At Γ ((d, .int .i64 s.size) :: E) (H.set i (rowR (.slice (some ⟨b, 0, none⟩) N C) e' 1 N ((l.take o ++ s.data.toList ++ l.drop (o + s.data.toList.length)).map bv))) (wpList P ops Q rest)) :
    At Γ E H (wpList P ops Q ({ dst := some d, op := .call { callee := .builtin .copy, args := #[x, y], argTypes := #[dT, sT] }, type := ty, pos, after, guard := none } :: rest)) :=
  At.run rfl rfl hn fun a w ha hw => by
    have hl : (s.data.toList.map bv).length = s.size := by rw [List.length_map]; exact Array.length_toList
    obtain ⟨w', hr, hw'⟩ := storeCells_row (P := P) (s.data.toList.map bv) o 0 (l.map bv) H w hw hi (by rw [hl, List.length_map]; omega) (bv_one _)
    rw [Nat.add_zero, putAt_map] at hw'
    refine ⟨.int .i64 s.size, w', _, ?_, hw', k⟩
    have hmin : Nat.min s.size m = s.size := Nat.min_eq_left hm
    have hr' : (storeCells ⟨b, o, none⟩ (s.data.toList.map bv) 0).run P w = .ok () w' := hr
    have h0 : (Builtin.copy_ #[dT, sT] ty #[.slice (some ⟨b, o, none⟩) m c, .string s]).run P w = .ok (goInt s.size) w' := by
      simp [Builtin.copy_, run_underlying ht, Builtin.lenOf, Builtin.firstCells, hz, hmin]
      rw [List.take_of_length_le (by rw [List.length_map]; exact Nat.le_of_eq Array.length_toList)]
      rw [show (s.data.toList.map fun b : UInt8 => Value.int IntKind.u8 (b.toNat : Int)) = s.data.toList.map bv from rfl, hr']
      rfl
    simp [execOp, resolve, invoke, builtin, ha.eval hx, ha.eval hy, Sem.run_bind, h0, goInt]
theorem At.rowCap {i e sz n c : Nat} {A : Option Addr} {xs : List Value} {φ : Act → World → Prop} (hi : H[i]? = some (rowR (.slice A n c) e sz n xs)) (k : n ≤ c → At Γ E H φ) : At Γ E H φ := fun a w ha hw => by
  rcases (hw.row hi).2 with ⟨_, h⟩ | ⟨b, cap, cur, h, h1⟩
  · exact k (by omega) a w ha hw
  · simp only [Value.slice.injEq] at h
    obtain ⟨_, _, rfl⟩ := h
    exact k (by have := h1; omega) a w ha hw
theorem At.copyCutRow {i j dT sT e e' N C c o b m : Nat} {l s : List UInt8} (ht : P.underlying dT = some (.slice e)) (hz : ∀ w, (sizeOf e).run P w = .ok 1 w)
    (hx : ev E x = some (.slice (some ⟨b, o, none⟩) m c)) (hy : ev E y = some u) (hi : H[i]? = some (rowR (.slice (some ⟨b, 0, none⟩) N C) e' 1 N (l.map bv))) (hj : H[j]? = some (rowR u e' 1 s.length (s.map bv))) (hm : m ≤ s.length) (hm0 : 0 < m) (ho : o + m ≤ l.length) (hn : Nat.blt d Γ.n = true)
    (k : At Γ ((d, .int .i64 m) :: E) (H.set i (rowR (.slice (some ⟨b, 0, none⟩) N C) e' 1 N ((l.take o ++ s.take m ++ l.drop (o + m)).map bv))) (wpList P ops Q rest)) :
    At Γ E H (wpList P ops Q ({ dst := some d, op := .call { callee := .builtin .copy, args := #[x, y], argTypes := #[dT, sT] }, type := ty, pos, after, guard := none } :: rest)) :=
  At.run rfl rfl hn fun a w ha hw => by
    have hsrc := hw.row hj
    have hl : ((s.take m).map bv).length = m := by rw [List.length_map, List.length_take]; omega
    obtain ⟨w', hr, hw'⟩ := storeCells_row (P := P) ((s.take m).map bv) o 0 (l.map bv) H w hw hi (by rw [hl, List.length_map]; omega) (bv_one _)
    rw [Nat.add_zero, putAt_map, List.length_take, Nat.min_eq_left hm] at hw'
    rcases hsrc.2 with ⟨_, h⟩ | ⟨b', cap', cur', rfl, _⟩
    · omega
    have hld := run_loadCells_list (P := P) w ⟨b', 0, none⟩ ((s.take m).map bv) (fun j u hu => by
      rw [Addr.add_off, Nat.zero_add]
      refine row_cell hsrc (q := j) ?_
      rw [List.getElem?_map] at hu ⊢
      rw [List.getElem?_take] at hu
      split at hu
      · exact hu
      · cases hu)
    refine ⟨.int .i64 m, w', _, ?_, hw', k⟩
    rw [hl] at hld
    have hr' : (storeCells ⟨b, o, none⟩ ((s.take m).map bv) 0).run P w = .ok () w' := hr
    have h0 : (Builtin.copy_ #[dT, sT] ty #[.slice (some ⟨b, o, none⟩) m c, .slice (some ⟨b', 0, none⟩) s.length cap']).run P w = .ok (goInt m) w' := by
      have hmin : Nat.min s.length m = m := Nat.min_eq_right hm
      have hmin' : min s.length m = m := Nat.min_eq_right hm
      have hmin2 : min m s.length = m := Nat.min_eq_left hm
      simp [Builtin.copy_, run_underlying ht, Builtin.lenOf, Builtin.firstCells, hz, hmin, hmin', hmin2, hld, hr']
      rw [← List.map_take, hr']
      rfl
    simp [execOp, resolve, invoke, builtin, ha.eval hx, ha.eval hy, Sem.run_bind, h0, goInt]
end
end Go.Wk
namespace Go.Proofs.YthdmlpjhcalliaaGreatDoor
open Go Go.Wk
theorem nat_b64 {n : Nat} (h : n < 18446744073709551616) : Value.int .u64 ((n : Nat) : Int) = b64 (BitVec.ofNat 64 n) := by
  unfold b64; rw [BitVec.toNat_ofNat, Nat.mod_eq_of_lt (by simpa using h)]
theorem u64_or {a b : Nat} (ha : a < 18446744073709551616) (hb : b < 18446744073709551616) : ib .or .u64 (a : Int) (b : Int) = ((a ||| b : Nat) : Int) := by
  show IntKind.u64.wrap ((BitVec.ofInt 64 (a : Int) ||| BitVec.ofInt 64 (b : Int)).toNat : Int) = _
  have e1 : (BitVec.ofInt 64 (a : Int)).toNat = a := by simp [BitVec.toNat_ofInt]; omega
  have e2 : (BitVec.ofInt 64 (b : Int)).toNat = b := by simp [BitVec.toNat_ofInt]; omega
  rw [BitVec.toNat_or, e1, e2]
  have : a ||| b < 2 ^ 64 := Nat.or_lt_two_pow (by simpa using ha) (by simpa using hb)
  have h2 : a ||| b < 18446744073709551616 := by simpa using this
  generalize a ||| b = z at *
  exact wrap_u64 (by omega) (by omega)
theorem or_shift {k a b : Nat} (ha : a < 2 ^ k) : a ||| (2 ^ k * b) = a + 2 ^ k * b := by
  rw [Nat.or_comm, ← Nat.two_pow_add_eq_or_of_lt ha]; omega
def magic : List UInt8 := [70, 85, 82, 82, 79, 87, 83, 86]
def spB (L : List (Int × Int)) : List UInt8 := L.flatMap fun c => le 2 c.1.toNat ++ le 2 c.2.toNat
theorem spB_snoc (L : List (Int × Int)) (c : Int × Int) : spB (L ++ [c]) = spB L ++ le 2 c.1.toNat ++ le 2 c.2.toNat := by simp [spB]
theorem spB_length (L : List (Int × Int)) : (spB L).length = 4 * L.length := by
  induction L with
  | nil => rfl
  | cons c L ih => unfold spB at *; simp only [List.flatMap_cons, List.length_append, List.length_cons, le_length, ih]; omega
def pad (n : Nat) : List UInt8 := if n % 2 = 1 then zs 4 else []
theorem pad_1 {n : Nat} (h : n % 2 = 1) : pad n = zs 4 := if_pos h
theorem pad_0 {n : Nat} (h : ¬ n % 2 = 1) : pad n = [] := if_neg h
theorem pad_length (n : Nat) : (pad n).length = 4 * (n % 2) := by
  by_cases h : n % 2 = 1
  · rw [pad_1 h, zs_length, h]
  · rw [pad_0 h]; simp; omega
def hd20 (t : BitVec 32) (n : Nat) : List UInt8 := magic ++ le 4 t.toNat ++ zs 4 ++ le 4 n
theorem hd20_length (t : BitVec 32) (n : Nat) : (hd20 t n).length = 20 := by unfold hd20; simp [le_length, zs_length, magic]
def svSum (t : BitVec 32) (L : List (Int × Int)) : BitVec 32 := sumOn 0 (hd20 t L.length ++ spB L)
def svB (t : BitVec 32) (L : List (Int × Int)) : List UInt8 := hd20 t L.length ++ le 4 (svSum t L).toNat ++ spB L ++ pad L.length
theorem svB_length (t : BitVec 32) (L : List (Int × Int)) : (svB t L).length = 24 + 4 * L.length + 4 * (L.length % 2) := by
  unfold svB; simp only [List.length_append, hd20_length, le_length, spB_length, pad_length]
noncomputable def svP (t : BitVec 32) (L : List (Int × Int)) : List UInt8 := if GoodSv t L then svB t L else []
noncomputable def svE (t : BitVec 32) (L : List (Int × Int)) : Int := if GoodSv t L then 0 else 36
theorem svP_T {t : BitVec 32} {L : List (Int × Int)} (h : GoodSv t L) : svP t L = svB t L := if_pos h
theorem svP_F {t : BitVec 32} {L : List (Int × Int)} (h : ¬ GoodSv t L) : svP t L = [] := if_neg h
theorem svE_T {t : BitVec 32} {L : List (Int × Int)} (h : GoodSv t L) : svE t L = 0 := if_pos h
theorem svE_F {t : BitVec 32} {L : List (Int × Int)} (h : ¬ GoodSv t L) : svE t L = 36 := if_neg h
theorem sumV_p (v : Value) (l : List UInt8) (w : World) (hv : RdB w v l) (ht : Tab w) (hlen : l.length ≤ 140737488355328) : PureC Tryz.prog 86 [v] (b32 (sumOn 0 l)) w := by
  obtain ⟨A, c, rfl, hb, _⟩ := hv.bytes; exact sum_p A l c w hb ht hlen
theorem sumOnV_p (s : BitVec 32) (v : Value) (l : List UInt8) (w : World) (hv : RdB w v l) (ht : Tab w) (hlen : l.length ≤ 140737488355328) : PureC Tryz.prog 107 [b32 s, v] (b32 (sumOn s l)) w := by
  obtain ⟨A, c, rfl, hb, _⟩ := hv.bytes; exact sumOn_p s A l c w hb ht hlen
def spW (c : Int × Int) : Nat := c.1.toNat + 65536 * c.2.toNat
def hdW (t : BitVec 32) (n : Nat) : List UInt8 := zs 8 ++ le 4 t.toNat ++ zs 4 ++ le 4 n ++ zs 4
def WI (t : BitVec 32) (L : List (Int × Int)) (k : Nat) (W : List (BitVec 64)) : Prop := W.length = 3 + (k + 1) / 2 ∧ bytesW W = hdW t L.length ++ spB (L.take k) ++ pad k ∧ (k % 2 = 1 → ∃ W' y, W = W' ++ [y] ∧ y.toNat < 4294967296)
theorem le8_lo {n : Nat} (h : n < 256 ^ 4) : le 8 n = le 4 n ++ zs 4 := by
  have := le_append 4 4 n 0 h
  rw [Nat.mul_zero, Nat.add_zero] at this
  exact this.symm
theorem le4_sp {a b : Nat} (ha : a < 65536) : le 4 (a + 65536 * b) = le 2 a ++ le 2 b := (le_append 2 2 a b ha).symm
theorem ofNat_toNat {n : Nat} (h : n < 18446744073709551616) : (BitVec.ofNat 64 n).toNat = n := by rw [BitVec.toNat_ofNat, Nat.mod_eq_of_lt (by simpa using h)]
theorem wi_0 {t : BitVec 32} {L : List (Int × Int)} (hL : L.length ≤ 249) : WI t L 0 [0, BitVec.ofNat 64 t.toNat, BitVec.ofNat 64 L.length] := by
  refine ⟨rfl, ?_, fun h => by simp at h⟩
  have ht := t.isLt
  rw [show bytesW [0, BitVec.ofNat 64 t.toNat, BitVec.ofNat 64 L.length] = le 8 (0 : BitVec 64).toNat ++ (le 8 (BitVec.ofNat 64 t.toNat).toNat ++ (le 8 (BitVec.ofNat 64 L.length).toNat ++ [])) from rfl, ofNat_toNat (by omega), ofNat_toNat (by omega), le8_lo (n := t.toNat) (by omega), le8_lo (n := L.length) (by omega)]
  unfold hdW
  rw [List.take_zero, show spB [] = [] from rfl, show pad 0 = [] from rfl, show le 8 (0 : BitVec 64).toNat = zs 8 from rfl]
  simp only [List.append_assoc, List.append_nil]
theorem spW_lt {lo : Int} {c : Int × Int} (h5 : 5 ≤ lo) (h : OkSp lo c) : spW c < 4294967296 ∧ c.1.toNat < 65536 := by unfold OkSp at h; unfold spW; omega
theorem wi_even {t : BitVec 32} {L : List (Int × Int)} {k : Nat} {W : List (BitVec 64)} {c : Int × Int} (h : WI t L k W) (hk : k % 2 = 0) (hc : L[k]? = some c) (hw : spW c < 4294967296 ∧ c.1.toNat < 65536) : WI t L (k + 1) (W ++ [BitVec.ofNat 64 (spW c)]) := by
  obtain ⟨h1, h2, _⟩ := h
  refine ⟨by rw [List.length_append, h1]; simp; omega, ?_, fun _ => ⟨W, _, rfl, by rw [ofNat_toNat (by omega)]; exact hw.1⟩⟩
  rw [bytesW_snoc, ofNat_toNat (by omega), h2, pad_0 (by omega), pad_1 (by omega), List.take_succ_of_get hc, spB_snoc, le8_lo (by omega)]
  unfold spW
  rw [le4_sp hw.2]
  simp only [List.append_assoc, List.append_nil, List.nil_append]
theorem wi_odd {t : BitVec 32} {L : List (Int × Int)} {k : Nat} {W' : List (BitVec 64)} {y : BitVec 64} {c : Int × Int} (h : WI t L k (W' ++ [y])) (hk : k % 2 = 1) (hy : y.toNat < 4294967296) (hc : L[k]? = some c) (hw : spW c < 4294967296 ∧ c.1.toNat < 65536) : WI t L (k + 1) (W' ++ [BitVec.ofNat 64 (y.toNat + 4294967296 * spW c)]) := by
  obtain ⟨h1, h2, _⟩ := h
  rw [List.length_append] at h1
  refine ⟨by rw [List.length_append]; simp at h1 ⊢; omega, ?_, fun h => by omega⟩
  rw [bytesW_snoc, pad_1 hk, le8_lo (by omega), ← List.append_assoc] at h2
  have h3 := List.append_cancel_right h2
  rw [bytesW_snoc, ofNat_toNat (by omega), pad_0 (by omega), List.take_succ_of_get hc, spB_snoc]
  have e : le 8 (y.toNat + 4294967296 * spW c) = le 4 y.toNat ++ le 4 (spW c) := (le_append 4 4 y.toNat (spW c) (by omega)).symm
  rw [e, ← List.append_assoc, h3]
  unfold spW
  rw [le4_sp hw.2]
  simp only [List.append_assoc, List.append_nil]
theorem set_last (W' : List (BitVec 64)) (y z : BitVec 64) : ((W' ++ [y]).map b64).set W'.length (b64 z) = (W' ++ [z]).map b64 := by
  rw [← List.map_set, List.set_append_right _ _ (Nat.le_refl _), Nat.sub_self]; rfl
def svZ (t : BitVec 32) (L : List (Int × Int)) : List UInt8 := hdW t L.length ++ spB L ++ pad L.length
def svM (t : BitVec 32) (L : List (Int × Int)) : List UInt8 := hd20 t L.length ++ zs 4 ++ spB L ++ pad L.length
theorem svZ_length (t : BitVec 32) (L : List (Int × Int)) : (svZ t L).length = 24 + 4 * L.length + 4 * (L.length % 2) := by
  unfold svZ hdW; simp only [List.length_append, zs_length, le_length, spB_length, pad_length]
theorem svM_length (t : BitVec 32) (L : List (Int × Int)) : (svM t L).length = 24 + 4 * L.length + 4 * (L.length % 2) := by
  unfold svM; simp only [List.length_append, hd20_length, zs_length, spB_length, pad_length]
theorem svM_of (t : BitVec 32) (L : List (Int × Int)) (m : List UInt8) (hm : m = magic) : (svZ t L).take 0 ++ m ++ (svZ t L).drop (0 + m.length) = svM t L := by
  subst hm
  rw [List.take_zero, List.nil_append]
  unfold svZ svM hd20 hdW
  rw [show 0 + magic.length = (zs 8).length from rfl]
  simp only [List.append_assoc]
  rw [List.drop_left]
theorem svM_sum (t : BitVec 32) (L : List (Int × Int)) : (svM t L).take 20 ++ ((svM t L).drop 24).take (4 * L.length) = hd20 t L.length ++ spB L := by
  have e : svM t L = hd20 t L.length ++ (zs 4 ++ (spB L ++ pad L.length)) := by unfold svM; simp only [List.append_assoc]
  rw [e, List.take_left' (hd20_length ..)]
  congr 1
  rw [show (24 : Nat) = 20 + 4 from rfl, ← List.drop_drop, List.drop_left' (hd20_length ..), List.drop_left' (zs_length 4), List.take_left' (spB_length L)]
theorem svB_of (t : BitVec 32) (L : List (Int × Int)) : (svM t L).take 20 ++ (le 8 (svSum t L).toNat).take 4 ++ (svM t L).drop (20 + 4) = svB t L := by
  have e : svM t L = hd20 t L.length ++ (zs 4 ++ (spB L ++ pad L.length)) := by unfold svM; simp only [List.append_assoc]
  rw [e, List.take_left' (hd20_length ..), ← List.drop_drop, List.drop_left' (hd20_length ..), List.drop_left' (zs_length 4), le_take (by decide)]
  unfold svB; simp only [List.append_assoc]
theorem svSum_p (v : Value) (l : List UInt8) (n : Nat) (w : World) (ht : Tab w) (hv : RdB w v l) (hn : 24 + 4 * n ≤ l.length) (hlen : l.length ≤ 140737488355328) :
    PureC Tryz.prog 91 [v, .int .i64 (n : Int)] (b32 (sumOn 0 (l.take 20 ++ (l.drop 24).take (4 * n)))) w := by
 obtain ⟨A, c, rfl, hcl, hl1, hc1, hn1, hs1⟩ := id hv
 refine enter0 Tryz.func91 rfl Tryz.ntmps91 rfl ?_
 simp only [envOf]
 refine tR (tA rfl rfl (tE (At.seq (At.quiet rfl (by decide +kernel) (qM rfl rfl (qV (Val.cutRd (l := 0) (h := 20) hv Tryz.underlying45 Tryz.sizeOf5 rfl rfl ⟨_, _, rfl, by omega, by omega⟩ (by omega) (by omega)) rfl ?_))))))
 refine QAt.callP (fun w hw => sumV_p _ _ w ((RdB.cut (l := 0) (h := 20) hv (by omega) (by omega)).mod hw.mod) (ht.mod hw.mod) (by simp only [List.length_take, List.length_drop]; omega)) Tryz.call86 rfl rfl (qM rfl rfl (qM rfl rfl ?_))
 first | refine qV (Val.mulI rfl rfl (by omega) (by omega)) rfl ?_ | refine qV (Val.bin rfl rfl rfl) rfl ?_
 first | refine qV (Val.addI rfl rfl (by omega) (by omega)) rfl ?_ | refine qV (Val.bin rfl rfl rfl) rfl ?_
 refine qV (Val.cutRd (l := 24) (h := 24 + 4 * n) hv Tryz.underlying45 Tryz.sizeOf5 rfl ⟨_, _, rfl, by omega, by omega⟩ ⟨_, _, rfl, by omega, by omega⟩ (by omega) (by omega)) rfl ?_
 refine QAt.callP (fun w hw => sumOnV_p _ _ _ w ((RdB.cut (l := 24) (h := 24 + 4 * n) hv (by omega) (by omega)).mod hw.mod) (ht.mod hw.mod) (by simp only [List.length_take, List.length_drop]; omega)) Tryz.call107 rfl rfl (qV (Val.assign rfl) rfl (QAt.fin (At.thenN (At.retC (At.ret1 (.inl rfl) rfl rfl rfl (fun w hw => ?_))))))
 exact ⟨by rw [sumOn_append, List.drop_zero, show 20 - 0 = 20 from rfl, show 24 + 4 * n - 24 = 4 * n from by omega], hw.mod⟩
theorem packSv_n (t : BitVec 32) (v : Value) (L : List (Int × Int)) (w : World) (hv : RdS w v L) (hlen : L.length ≤ 8796093022144) (ht : Tab w) :
    NewRowT Tryz.prog 47 [.agg #[b32 t, v]] (fun v => .tuple #[v, .int .i64 (svE t L)]) 5 1 (svP t L).length ((svP t L).map bv) w := by
 refine enter0 Tryz.func47 rfl Tryz.ntmps47 rfl ?_
 simp only [envOf]
 refine tR (At.box rfl rfl rfl (fun b1 => (tA rfl rfl (tA rfl rfl (tE (At.seq (tR (tV (Val.loadAll (i := 0) Tryz.isAgg44 Tryz.sizeOf44 rfl rfl rfl) rfl (At.callP (fun w hw => goodSv_p t v L w (hv.mod hw.mod) hlen) Tryz.call90 rfl rfl (tV (Val.not rfl) rfl (tE ?_)))))))))))
 refine At.cond rfl (fun h2 => ?_) (fun h2 => ?_)
 ·try simp only [vN_T, vN_F, nmE_T, nmE_F, wI_T, wI_F, data_T, data_F, ino_T, ino_F, notT, notF, bneT, bneF, beqT, beqF, decT, decF] at h2
  have hg : ¬ GoodSv t L := by simpa using h2
  refine tR (tA rfl rfl (tA rfl rfl (At.nil (At.rowNilB 5 (At.thenN (At.retC (At.thenR (At.ret2 (.inl rfl) rfl rfl rfl rfl (fun w hw => ?_)))))))))
  exact ⟨_, by rw [svE_F hg], by rw [svP_F hg]; exact (hw.drop (List.singleton_sublist.2 (List.mem_of_getElem? (i := 0) rfl))).f0⟩
 ·try simp only [vN_T, vN_F, nmE_T, nmE_F, wI_T, wI_F, data_T, data_F, ino_T, ino_F, notT, notF, bneT, bneF, beqT, beqF, decT, decF] at h2
  have hg : GoodSv t L := by simpa using h2
  have hL : L.length ≤ 249 := hg.2.1
  have hti := t.isLt
  refine At.skipC (At.thenN (tR (tV (Val.field 1 rfl fo_44_1 rfl) rfl (tV (Val.load (i := 0) Tryz.isAgg42 rfl rfl rfl) rfl (tV (Val.lenRd hv Tryz.underlying42 rfl) rfl (tA rfl rfl (tE (tR (tV (Val.field 0 rfl fo_44_0 rfl) rfl (tV (Val.load (i := 0) Tryz.isAgg41 rfl rfl rfl) rfl (tV (Val.toU Tryz.underlying41 Tryz.underlying34 rfl (by omega) (by omega)) rfl ?_)))))))))))
  rw [nat_b64 (n := t.toNat) (by omega)]
  refine tM rfl rfl (tV (Val.toU Tryz.underlying3 Tryz.underlying34 rfl (by omega) (by omega)) rfl ?_)
  rw [nat_b64 (n := L.length) (by omega)]
  refine At.buildRow (fun a ha => by simp only [List.map_toArray, List.map_cons, List.map_nil, ha.eval (x := (.const (.int .u64 (0)))) rfl, ha.eval (x := (.tmp 19)) rfl, ha.eval (x := (.tmp 21)) rfl]; try rfl) (bs_136_3 _ _ _ ) 1 rfl (by decide) rfl (fun v3 => ?_)
  change At _ _ (wrow 34 v3 ([0, BitVec.ofNat 64 t.toNat, BitVec.ofNat 64 L.length]) :: _) _
  refine tA rfl rfl (tE (At.seq (tR (tV (Val.field 1 rfl fo_44_1 rfl) rfl (tV (Val.load (i := 1) Tryz.isAgg42 rfl rfl rfl) rfl (tV (Val.lenRd hv Tryz.underlying42 rfl) rfl (tM rfl rfl (tE (At.block ?_)))))))))
  skip
  refine At.drop 1 ?_
  simp only [ec0, ecS]
  refine At.loop (σ := Nat × List (BitVec 64) × Value) (fun s => s.1 ≤ L.length ∧ WI t L s.1 s.2.1) (fun s => [(4, .int .i64 (L.length : Int)), (5, s.2.2), (24, v), (25, .int .i64 (L.length : Int)), (26, .int .i64 (s.1 : Int))]) (fun s => [wrow 34 s.2.2 s.2.1]) (fun s => L.length - s.1) (0, [0, BitVec.ofNat 64 t.toNat, BitVec.ofNat 64 L.length], v3) ⟨Nat.zero_le _, wi_0 hL⟩ (Sub.cons rfl (Sub.cons rfl (Sub.cons rfl (Sub.cons rfl (Sub.cons rfl Sub.nil))))) (List.Perm.refl _) ?_
  intro s hs
  obtain ⟨k, W, vk⟩ := s
  dsimp only at hs ⊢
  refine tR (tV (Val.bin rfl rfl rfl) rfl (tE (At.seq ?_)))
  refine At.cond rfl (fun h4 => ?_) (fun h4 => ?_)
  ·try simp only [vN_T, vN_F, nmE_T, nmE_F, wI_T, wI_F, data_T, data_F, ino_T, ino_F, notT, notF, bneT, bneF, beqT, beqF, decT, decF] at h4
   have hk : k < L.length := by omega
   refine At.skipC (At.thenN (At.seq (At.block (tR (tM rfl rfl (At.idxS hv Tryz.underlying42 Tryz.sizeOf64 rfl rfl (by omega) (by omega) rfl rfl (fun b5 o6 q7 hq8 hc9 hd10 => (tV (Val.loadSpan Tryz.isAgg64 Tryz.sizeOf64 rfl hc9 hd10 (fun h => h)) rfl (At.alloc Tryz.zeroValue64 rfl rfl (fun b11 => (tA rfl rfl (At.storeAll (i := 0) Tryz.sizeOf64 rfl rfl rfl (by simp [Value.oneCell']) rfl rfl ?_))))))))))))
   simp only [sc0, scS]
   refine At.nil ?_
   have hqk := hq8
   rw [Int.toNat_natCast] at hqk
   have hc := hg.2.2 k _ hk hqk
   have hlo := lo_bd (k := k) (fun j c hj hc => hg.2.2 j c (by omega) hc) (by omega)
   have hw2 := spW_lt hlo.1 hc
   have hc2 := hc
   unfold OkSp at hc2
   refine At.thenN (tR (tV (Val.field 0 rfl fo_64_0 rfl) rfl (tV (Val.load (i := 0) Tryz.isAgg3 rfl rfl rfl) rfl ?_)))
   first | refine tV (Val.toU Tryz.underlying3 Tryz.underlying34 rfl (by omega) (by omega)) rfl ?_ | refine tV (Val.conv Tryz.underlying3 Tryz.underlying34 rfl) rfl ?_
   refine tV (Val.field 1 rfl fo_64_1 rfl) rfl (tV (Val.load (i := 0) Tryz.isAgg3 rfl rfl rfl) rfl ?_)
   first | refine tV (Val.toU Tryz.underlying3 Tryz.underlying34 rfl (by omega) (by omega)) rfl ?_ | refine tV (Val.conv Tryz.underlying3 Tryz.underlying34 rfl) rfl ?_
   refine tV (Val.shl rfl rfl (by decide)) rfl ?_
   rw [show IntKind.u64.wrap (q7.2 * 2 ^ min (16 : Int).toNat IntKind.u64.bits) = ((65536 * q7.2.toNat : Nat) : Int) from by rw [show (2 : Int) ^ min (16 : Int).toNat IntKind.u64.bits = 65536 from rfl, wrap_u64 (by omega) (by omega)]; omega]
   refine tV (Val.bin rfl rfl rfl) rfl ?_
   rw [show ib .or .u64 q7.1 ((65536 * q7.2.toNat : Nat) : Int) = ((spW q7 : Nat) : Int) from by rw [show q7.1 = ((q7.1.toNat : Nat) : Int) from by omega, u64_or (by omega) (by omega), show (65536 : Nat) = 2 ^ 16 from rfl, or_shift (by omega)]; unfold spW; omega, nat_b64 (n := spW q7) (by omega)]
   refine tA rfl rfl (tE (tR (tM rfl rfl ?_)))
   first | refine tV (Val.remI rfl rfl (by omega) (by decide)) rfl ?_ | refine tV (Val.rem rfl rfl (by decide)) rfl ?_
   refine tV (Val.bin rfl rfl rfl) rfl (tE ?_)
   refine At.cond rfl (fun h12 => ?_) (fun h12 => ?_)
   ·try simp only [vN_T, vN_F, nmE_T, nmE_F, wI_T, wI_F, data_T, data_F, ino_T, ino_F, notT, notF, bneT, bneF, beqT, beqF, decT, decF] at h12
    have hev : k % 2 = 0 := by omega
    refine At.region (tM rfl rfl (tM rfl rfl (At.buildSl (fun a ha => by simp only [List.map_toArray, List.map_cons, List.map_nil, ha.eval (x := (.tmp 43)) rfl]; try rfl) (bs_136_1 _ ) rfl (fun b13 => ?_))))
    refine At.appendWs (i := 2) (j := 0) (ms := [BitVec.ofNat 64 (spW q7)]) (by_ := 8) Tryz.underlying136 info_34 rfl rfl rfl rfl rfl rfl rfl rfl rfl (by rw [hs.2.1]; omega) (by rw [hs.2.1]; omega) rfl (fun v14 => ?_)
    simp only [sc0, scS]
    refine At.drop 0 ?_
    simp only [ec0, ecS]
    refine tA rfl rfl (At.nil (At.blkN (At.thenN (At.region ?_))))
    first | refine tV (Val.addI rfl rfl (by omega) (by omega)) rfl ?_ | refine tV (Val.bin rfl rfl rfl) rfl ?_
    refine tM rfl rfl (tE (At.drop 0 ?_))
    simp only [ec0, ecS]
    exact At.again (k + 1, (W ++ [BitVec.ofNat 64 (spW q7)]), v14) ⟨(show k + 1 ≤ _ by omega), wi_even hs.2 hev hqk hw2⟩ (by dsimp only; omega) (Sub.cons rfl (Sub.cons rfl (Sub.cons rfl (Sub.cons rfl (Sub.cons (congrArg (fun z => some (Value.int IntKind.i64 z)) (by omega)) Sub.nil))))) (List.Perm.refl _)
   ·try simp only [vN_T, vN_F, nmE_T, nmE_F, wI_T, wI_F, data_T, data_F, ino_T, ino_F, notT, notF, bneT, bneF, beqT, beqF, decT, decF] at h12
    have hod : k % 2 = 1 := by omega
    obtain ⟨W', y, rfl, hy⟩ := hs.2.2.2 hod
    refine At.region (tM rfl rfl (tM rfl rfl (tV (Val.lenRow (i := 1) Tryz.underlying136 rfl rfl) rfl (tV (Val.bin rfl rfl rfl) rfl ?_))))
    rw [show IntKind.i64.wrap (((W' ++ [y]).length : Int) - 1) = ((W'.length : Nat) : Int) from by rw [List.length_append, List.length_singleton]; rw [wrap_i64 (by omega) (by have := hs.2.1; simp at this; omega)]; omega]
    refine tV (Val.indexRow (i := 1) W'.length (by simp) Tryz.underlying136 Tryz.sizeOf34 rfl rfl rfl (by simp) (by simp; try omega)) rfl (tV (Val.loadRow (i := 1) (u := b64 y) Tryz.isAgg34 rfl rfl (by simp)) rfl (tM rfl rfl (tV (Val.shl rfl rfl (by decide)) rfl ?_)))
    rw [ofNat_toNat (n := spW q7) (by omega), show IntKind.u64.wrap (((spW q7 : Nat) : Int) * 2 ^ min (32 : Int).toNat IntKind.u64.bits) = ((4294967296 * spW q7 : Nat) : Int) from by rw [show (2 : Int) ^ min (32 : Int).toNat IntKind.u64.bits = 4294967296 from rfl, wrap_u64 (by omega) (by omega)]; omega]
    refine tV (Val.bin rfl rfl rfl) rfl ?_
    rw [u64_or (a := y.toNat) (b := 4294967296 * spW q7) (by omega) (by omega), show (4294967296 : Nat) = 2 ^ 32 from rfl, or_shift (by simpa using hy), show (2 : Nat) ^ 32 = 4294967296 from rfl, nat_b64 (n := y.toNat + 4294967296 * spW q7) (by omega)]
    refine tV (Val.indexRow (i := 1) W'.length (by simp) Tryz.underlying136 Tryz.sizeOf34 rfl rfl rfl (by simp) (by simp; try omega)) rfl (At.storeRow (i := 1) Tryz.sizeOf34 rfl rfl rfl rfl (by simp) ?_)
    simp only [sc0, scS]
    rw [set_last, show (W' ++ [y]).length = (W' ++ [BitVec.ofNat 64 (y.toNat + 4294967296 * spW q7)]).length from by simp]
    refine At.nil (At.blkN (At.thenN (At.region ?_)))
    first | refine tV (Val.addI rfl rfl (by omega) (by omega)) rfl ?_ | refine tV (Val.bin rfl rfl rfl) rfl ?_
    refine tM rfl rfl (tE (At.drop 0 ?_))
    simp only [ec0, ecS]
    exact At.again (k + 1, (W' ++ [BitVec.ofNat 64 (y.toNat + 4294967296 * spW q7)]), vk) ⟨(show k + 1 ≤ _ by omega), wi_odd hs.2 hod hy hqk hw2⟩ (by dsimp only; omega) (Sub.cons rfl (Sub.cons rfl (Sub.cons rfl (Sub.cons rfl (Sub.cons (congrArg (fun z => some (Value.int IntKind.i64 z)) (by omega)) Sub.nil))))) (List.Perm.refl _)
  ·try simp only [vN_T, vN_F, nmE_T, nmE_F, wI_T, wI_F, data_T, data_F, ino_T, ino_F, notT, notF, bneT, bneF, beqT, beqF, decT, decF] at h4
   obtain rfl : k = L.length := by omega
   have hWb := hs.2.2.1
   rw [List.take_length] at hWb
   have hZ := svZ_length t L
   have hM := svM_length t L
   refine At.exitC (At.thenX (At.thenX (At.blkX (At.thenN (tR (tM rfl rfl (At.callN (fun w hw => (show NewRow Tryz.prog 85 _ 5 1 (svZ t L).length ((svZ t L).map bv) w from by have := bytes_n _ W w (row_rd (hw.row (i := 0) rfl) (by decide)) (by rw [hs.2.1]; omega); rwa [hWb] at this)) Tryz.call85 rfl rfl (fun v15 => (tA rfl rfl (tE (tR (tM rfl rfl (At.rowSome (i := 0) rfl (by omega) (fun bz cz hv' => ?_))))))))))))))
   subst hv'
   refine At.copyStrRow (i := 0) (o := 0) Tryz.underlying45 Tryz.sizeOf5 rfl rfl rfl (by rw [hZ]; show 8 ≤ _; omega) (by rw [hZ]; show 0 + 8 ≤ _; omega) rfl ?_
   simp only [sc0, scS]
   rw [svM_of t L [70, 85, 82, 82, 79, 87, 83, 86] rfl]
   rw [show (svZ t L).length = (svM t L).length from by rw [hZ, hM]]
   refine tE (tR (tM rfl rfl (tM rfl rfl ?_)))
   refine At.callP (fun w hw => (by have := svSum_p _ (svM t L) L.length w (ht.mod hw.mod) (row_rd (hw.row (i := 0) rfl) (by decide)) (by omega) (by omega); rwa [svM_sum] at this)) Tryz.call91 rfl rfl (tA rfl rfl (At.nil (At.rowCap (i := 0) rfl (fun hcz => (At.thenN (At.seq ?_))))))
   apply At.any (t := 7)
   · rfl
   refine KAt.pin (fun w hw => hw.drop (List.Sublist.cons _ (List.Sublist.cons _ (List.Sublist.refl _)))) (KAt.take 0 (Val.move rfl) rfl rfl rfl rfl (fun w hw => hw.drop (List.Sublist.cons _ (List.Sublist.cons _ (List.Sublist.refl _)))) (by decide +kernel) (KAt.take 1 (Val.cutSl (b := bz) (o := 0) (lo := some (.const (.int .i64 20))) (hi := some (.const (.int .i64 24))) 20 24 20 4 (cz - 20) Tryz.underlying45 Tryz.sizeOf5 rfl ⟨_, _, rfl, by omega, by omega⟩ ⟨_, _, rfl, by omega, by omega⟩ (by omega) (by omega) (by rw [if_neg (by omega)]) rfl rfl) rfl rfl rfl rfl (fun w hw => hw.drop (List.Sublist.cons _ (List.Sublist.cons _ (List.Sublist.refl _)))) (by decide +kernel) (KAt.take 2 (Val.move rfl) rfl rfl rfl rfl (fun w hw => hw.drop (List.Sublist.cons _ (List.Sublist.cons _ (List.Sublist.refl _)))) (by decide +kernel) ?_)))
   refine KAt.take 3 (Val.toU Tryz.underlying41 Tryz.underlying34 rfl (by omega) (by have := (svSum t L).isLt; show ((svSum t L).toNat : Int) < _; omega)) rfl rfl rfl rfl (fun w hw => hw.drop (List.Sublist.cons _ (List.Sublist.cons _ (List.Sublist.refl _)))) (by decide +kernel) ?_
   rw [show Value.int .u64 ((sumOn 0 (hd20 t L.length ++ spB L)).toNat : Int) = b64 (BitVec.ofNat 64 (svSum t L).toNat) from nat_b64 (n := (svSum t L).toNat) (by have := (svSum t L).isLt; omega)]
   refine KAt.only 4 rfl (by decide +kernel) (At.buildSl (fun a ha => by simp only [List.map_toArray, List.map_cons, List.map_nil, ha.eval (x := (.tmp 67)) rfl]; try rfl) (bs_136_1 _ ) rfl (fun b16 => (At.nil (KAt.go (fun w hw => hw.drop (List.Sublist.cons _ (List.Sublist.cons _ (List.Sublist.cons _ (List.Sublist.refl _))))) (KAt.only 5 rfl (by decide +kernel) (At.callN (fun w hw => (show NewRow Tryz.prog 85 _ 5 1 (le 8 (svSum t L).toNat).length ((le 8 (svSum t L).toNat).map bv) w from by have := bytes_n _ [BitVec.ofNat 64 (svSum t L).toNat] w ((hw.blk (i := 0) rfl).words rfl) (by simp); rwa [show bytesW [BitVec.ofNat 64 (svSum t L).toNat] = le 8 (svSum t L).toNat from by rw [show bytesW [BitVec.ofNat 64 (svSum t L).toNat] = le 8 (BitVec.ofNat 64 (svSum t L).toNat).toNat ++ [] from rfl, List.append_nil, ofNat_toNat (by have := (svSum t L).isLt; omega)]] at this)) Tryz.call85 rfl rfl (fun v17 => (At.nil (KAt.go (fun w hw => hw.drop (List.Sublist.cons _ (List.Sublist.cons _ (List.Sublist.cons _ (List.Sublist.cons _ (List.Sublist.refl _)))))) (KAt.only 6 rfl (by decide +kernel) ?_))))))))))
   refine At.copyCutRow (i := 2) (j := 0) (o := 20) (m := 4) (s := le 8 (svSum t L).toNat) Tryz.underlying45 Tryz.sizeOf5 rfl rfl rfl rfl (by rw [le_length]; decide) (by decide) (by omega) rfl ?_
   simp only [sc0, scS]
   rw [svB_of, show (svM t L).length = (svB t L).length from by rw [hM, svB_length]]
   refine At.nil (KAt.go (fun w hw => hw.drop (List.Sublist.cons _ (List.Sublist.cons _ (List.Sublist.cons _ (List.Sublist.cons _ (List.Sublist.refl _)))))) (KAt.done (by decide +kernel) (At.thenN (tR (tM rfl rfl (tA rfl rfl (tA rfl rfl (tE (At.retC (At.ret2 (.inl rfl) rfl rfl rfl rfl (fun w hw => ?_)))))))))))
   exact ⟨_, by rw [svE_T hg], by rw [svP_T hg]; exact (hw.drop (List.singleton_sublist.2 (List.mem_of_getElem? (i := 2) rfl))).f0⟩
end Go.Proofs.YthdmlpjhcalliaaGreatDoor
namespace Go.Proofs.YthdmlpjhcalliaaGreatDoor
open Go Go.Wk
theorem take_twoV {l : List UInt8} (a n m : Nat) : (l.drop a).take (n + m) = (l.drop a).take n ++ (l.drop (a + n)).take m := by rw [List.take_add, List.drop_drop]
theorem num_appV {a b m : List UInt8} {n x p : Nat} (e : m = a ++ (le n x ++ b)) (ha : a.length = p) (hx : x < 256 ^ n) : num m p n = x := by
  subst e; unfold num; rw [← ha, List.drop_left, List.take_left' (le_length n x), fromLe_le n x hx]
theorem num_extV {l m : List UInt8} {a n : Nat} (h : ∀ i, a ≤ i → i < a + n → l[i]? = m[i]?) : num l a n = num m a n := by
  unfold num
  congr 1
  apply List.ext_getElem?
  intro i
  rw [List.getElem?_take, List.getElem?_take]
  split
  · rw [List.getElem?_drop, List.getElem?_drop]; exact h _ (by omega) (by omega)
  · rfl
theorem num4_two {l : List UInt8} {a : Nat} (h : a + 4 ≤ l.length) : num l a 4 = num l a 2 + 65536 * num l (a + 2) 2 := by
  unfold num
  rw [show (4 : Nat) = 2 + 2 from rfl, take_twoV a 2 2, fromLe_append, List.length_take, List.length_drop, Nat.min_eq_left (by omega)]
theorem num4_div {l : List UInt8} {a : Nat} (h : a + 4 ≤ l.length) : num l a 4 % 65536 = num l a 2 ∧ num l a 4 / 65536 = num l (a + 2) 2 := by
  have h1 := num_lt (l := l) a 2
  rw [num4_two h]; omega
def svN (l : List UInt8) : Nat := num l 16 4
def svT (l : List UInt8) : BitVec 32 := BitVec.ofNat 32 (num l 8 4)
theorem svT_nat (l : List UInt8) : (svT l).toNat = num l 8 4 := by
  unfold svT; rw [BitVec.toNat_ofNat, Nat.mod_eq_of_lt (by have := num_lt (l := l) 8 4; simpa using this)]
theorem num_svT (l : List UInt8) : Value.int .u32 ((num l 8 4 : Nat) : Int) = b32 (svT l) := by
  show _ = Value.int .u32 ((svT l).toNat : Int); rw [svT_nat]
def spRec (l : List UInt8) (n : Nat) : List (Int × Int) := (List.range n).map fun j => (((num l (24 + 4 * j) 2 : Nat) : Int), ((num l (24 + 4 * j + 2) 2 : Nat) : Int))
theorem spRec_succ (l : List UInt8) (n : Nat) : spRec l (n + 1) = spRec l n ++ [(((num l (24 + 4 * n) 2 : Nat) : Int), ((num l (24 + 4 * n + 2) 2 : Nat) : Int))] := by
  unfold spRec; rw [List.range_succ, List.map_append]; rfl
theorem spRec_length (l : List UInt8) (n : Nat) : (spRec l n).length = n := by unfold spRec; simp
def segV (l : List UInt8) (n : Nat) : List UInt8 := (l.drop 24).take (4 * n)
theorem spB_rec {l : List UInt8} {n : Nat} (h : 24 + 4 * n ≤ l.length) : spB (spRec l n) = segV l n := by
  induction n with
  | zero => simp [spRec, spB, segV]
  | succ n ih =>
    rw [spRec_succ, spB_snoc, ih (by omega)]
    show segV l n ++ le 2 ((num l (24 + 4 * n) 2 : Nat) : Int).toNat ++ le 2 ((num l (24 + 4 * n + 2) 2 : Nat) : Int).toNat = _
    rw [Int.toNat_natCast, Int.toNat_natCast, le_num (by omega), le_num (by omega)]
    unfold segV
    rw [show 4 * (n + 1) = 4 * n + (2 + 2) by omega, take_twoV 24 (4 * n) (2 + 2), take_twoV (24 + 4 * n) 2 2, List.append_assoc]
def sumOf (l : List UInt8) : BitVec 32 := sumOn 0 (l.take 20 ++ segV l (svN l))
def OkSv (l : List UInt8) : Prop := 24 ≤ l.length ∧ (l.drop 0).take 8 = magic ∧ allZero ((l.drop 12).take 4) ∧ svN l ≤ 249 ∧ 24 + 4 * svN l ≤ l.length ∧ num l 20 4 = (sumOf l).toNat ∧ GoodSv (svT l) (spRec l (svN l))
noncomputable instance (l : List UInt8) : Decidable (OkSv l) := Classical.propDecidable _
noncomputable def oT (l : List UInt8) : BitVec 32 := if OkSv l then svT l else 0
noncomputable def oL (l : List UInt8) : List (Int × Int) := if OkSv l then spRec l (svN l) else []
noncomputable def oE (l : List UInt8) : Int := if OkSv l then 0 else 36
theorem oT_yes {l : List UInt8} (h : OkSv l) : oT l = svT l := if_pos h
theorem oL_yes {l : List UInt8} (h : OkSv l) : oL l = spRec l (svN l) := if_pos h
theorem oE_yes {l : List UInt8} (h : OkSv l) : oE l = 0 := if_pos h
theorem oT_no {l : List UInt8} (h : ¬ OkSv l) : oT l = 0 := if_neg h
theorem oL_no {l : List UInt8} (h : ¬ OkSv l) : oL l = [] := if_neg h
theorem oE_no {l : List UInt8} (h : ¬ OkSv l) : oE l = 36 := if_neg h
theorem hd20_take {l : List UInt8} (h24 : 24 ≤ l.length) (hm : (l.drop 0).take 8 = magic) (hz : allZero ((l.drop 12).take 4)) : hd20 (svT l) (svN l) = l.take 20 := by
  have e : l.take 20 = (l.drop 0).take 8 ++ (l.drop 8).take 4 ++ (l.drop 12).take 4 ++ (l.drop 16).take 4 := by
    have h1 := take_twoV (l := l) 0 8 12
    have h2 := take_twoV (l := l) 8 4 8
    have h3 := take_twoV (l := l) 12 4 4
    rw [List.drop_zero] at h1
    rw [show (20 : Nat) = 8 + 12 from rfl, h1, show (12 : Nat) = 4 + 8 from rfl, h2, show (8 : Nat) = 4 + 4 from rfl, h3]
    simp only [List.append_assoc, List.drop_zero]
  have hz4 : (l.drop 12).take 4 = zs 4 := by
    have := allZero_eq hz
    rwa [show ((l.drop 12).take 4).length = 4 from by rw [List.length_take, List.length_drop]; omega] at this
  unfold hd20
  rw [e, hm, svT_nat, le_num (by omega), hz4, show le 4 (svN l) = (l.drop 16).take 4 from le_num (by omega)]
theorem svB_take {l : List UInt8} (h : OkSv l) : svB (svT l) (spRec l (svN l)) = l.take (24 + 4 * svN l) ++ pad (svN l) := by
  obtain ⟨h24, hm, hz, hn, hl, hs, hg⟩ := h
  unfold svB svSum
  rw [spRec_length, spB_rec hl, hd20_take h24 hm hz, show sumOn 0 (l.take 20 ++ segV l (svN l)) = sumOf l from rfl, ← hs, le_num (by omega)]
  congr 1
  have h1 := take_twoV (l := l) 0 20 (4 + 4 * svN l)
  have h2 := take_twoV (l := l) 20 4 (4 * svN l)
  rw [List.drop_zero] at h1
  rw [show 24 + 4 * svN l = 20 + (4 + 4 * svN l) by omega, h1, h2, List.append_assoc]
  rfl
theorem sv_same {l : List UInt8} (h : OkSv l) {i : Nat} (hi : i < 24 + 4 * svN l) : (svP (svT l) (spRec l (svN l)))[i]? = l[i]? := by
  rw [svP_T h.2.2.2.2.2.2, svB_take h, List.getElem?_append_left (by rw [List.length_take]; have := h.2.2.2.2.1; omega), List.getElem?_take, if_pos hi]
theorem sv_back {l : List UInt8} (h24 : 24 ≤ l.length) (hn : svN l ≤ 249) (hl : 24 + 4 * svN l ≤ l.length) (hg : GoodSv (svT l) (spRec l (svN l))) (h : ∀ i, i < 24 + 4 * svN l → (svP (svT l) (spRec l (svN l)))[i]? = l[i]?) : OkSv l := by
  rw [svP_T hg] at h
  have cut : ∀ a m, a + m ≤ 24 + 4 * svN l → (l.drop a).take m = ((svB (svT l) (spRec l (svN l))).drop a).take m := fun a m ham => by
    apply List.ext_getElem?
    intro i
    rw [List.getElem?_take, List.getElem?_take]
    split
    · rw [List.getElem?_drop, List.getElem?_drop]; exact (h _ (by omega)).symm
    · rfl
  have eB : svB (svT l) (spRec l (svN l)) = magic ++ (le 4 (svT l).toNat ++ (zs 4 ++ (le 4 (svN l) ++ (le 4 (svSum (svT l) (spRec l (svN l))).toNat ++ (spB (spRec l (svN l)) ++ pad (svN l)))))) := by
    unfold svB hd20; rw [spRec_length]; simp only [List.append_assoc]
  have hm : (l.drop 0).take 8 = magic := by rw [cut 0 8 (by omega), eB, List.drop_zero]; exact List.take_left' rfl
  have hz : allZero ((l.drop 12).take 4) := by
    rw [cut 12 4 (by omega), eB, show (12 : Nat) = 8 + 4 from rfl, ← List.drop_drop, show (8 : Nat) = magic.length from rfl, List.drop_left, List.drop_left' (le_length ..), List.take_left' (zs_length 4)]
    intro c hc; exact List.eq_of_mem_replicate hc
  refine ⟨h24, hm, hz, hn, hl, ?_, hg⟩
  have hs : num l 20 4 = (svSum (svT l) (spRec l (svN l))).toNat := by
    rw [num_extV (m := svB (svT l) (spRec l (svN l))) (fun i _ hi => (h i (by omega)).symm)]
    refine num_appV (a := hd20 (svT l) (svN l)) (b := spB (spRec l (svN l)) ++ pad (svN l)) ?_ (hd20_length ..) (by have := (svSum (svT l) (spRec l (svN l))).isLt; simpa using this)
    unfold svB; rw [spRec_length]; simp only [List.append_assoc]
  rw [hs]
  unfold svSum sumOf
  rw [spRec_length, spB_rec hl, hd20_take h24 hm hz]
theorem cmpV_eq {p l : List UInt8} {k : Nat} {q r : UInt8} (h1 : p[(k : Int).toNat]? = some q) (h2 : l[(k : Int).toNat]? = some r) (e : (q.toNat : Int) = r.toNat) : p[k]? = l[k]? := by
  rw [Int.toNat_natCast] at h1 h2; rw [h1, h2, UInt8.toNat_inj.1 (show q.toNat = r.toNat by omega)]
theorem cmpV_ne {p l : List UInt8} {k : Nat} {q r : UInt8} (h1 : p[(k : Int).toNat]? = some q) (h2 : l[(k : Int).toNat]? = some r) (e : ¬ (q.toNat : Int) = r.toNat) : ¬ p[k]? = l[k]? := fun h => by
  rw [Int.toNat_natCast] at h1 h2; rw [h1, h2] at h; obtain rfl := Option.some.inj h; exact e rfl
theorem openSv_n (v : Value) (l : List UInt8) (w : World) (ht : Tab w) (hv : RdB w v l) (hlen : l.length ≤ 140737488355328) :
    NewRowT Tryz.prog 96 [v] (fun v => .tuple #[.agg #[b32 (oT l), v], .int .i64 (oE l)]) 64 2 (oL l).length (prS (oL l)) w := by
 refine enterD0 Tryz.func96 rfl Tryz.ntmps96 rfl ?_
 have hn8 := num_lt (l := l) 8 4
 have hn16 := num_lt (l := l) 16 4
 have hn20 := num_lt (l := l) 20 4
 simp only [envOf]
 refine tR (At.alloc Tryz.zeroValue44 rfl rfl (fun b1 => (At.alloc Tryz.zeroValue67 rfl rfl (fun b2 => (tE (tR (At.defer rfl (tE (tR (tM rfl rfl (tV (Val.lenRd hv Tryz.underlying45 rfl) rfl (tV (Val.bin rfl rfl rfl) rfl ?_))))))))))))
 refine At.split (t := 8) rfl (fun h3 => ?_) (fun h3 => ?_)
 ·try simp only [vN_T, vN_F, nmE_T, nmE_F, wI_T, wI_F, data_T, data_F, ino_T, ino_F, notT, notF, bneT, bneF, beqT, beqF, decT, decF] at h3
  have h24 : 24 ≤ l.length := by omega
  obtain ⟨L, o, c, rfl, hb, hlc, hL⟩ := RdB.some hv (by omega)
  refine At.callP (fun w hw => must_T _ w) Tryz.call62 rfl rfl (tE (tR (tM rfl rfl ?_)))
  refine tV (Val.build (fun a ha => by simp only [List.map_toArray, List.map_cons, List.map_nil, ha.eval (x := (.tmp 10)) rfl] <;> rfl) (bld_113_0 _ _ _ )) rfl (At.alloc Tryz.zeroValue113 rfl rfl (fun b4 => (At.storeAll (i := 0) Tryz.sizeOf113 rfl rfl rfl (by simp [Value.oneCell']) rfl rfl ?_)))
  simp only [sc0, scS]
  refine At.nil ?_
  rw [show ([Value.slice (some ⟨L, o, none⟩) l.length c, Value.int IntKind.i64 0] : List Value) = eyeC L o l.length c 0 from rfl]
  refine At.thenN (tR ?_)
  by_cases hmark : (l.drop 0).take 8 = magic
  ·refine At.call1 0 rfl (fun w hw hr => eyeText_T _ L o c 0 l ⟨#[70, 85, 82, 82, 79, 87, 83, 86]⟩ 36 w hr (hb.mod hw.mod) (hw.newBlk (i := 0) rfl hL) hlc (by omega) (by show 0 + 8 ≤ _; omega) hmark) Tryz.call64 rfl rfl ?_
   simp only [sc0, scS]
   refine tE (At.seq ?_)
   rw [show 0 + (⟨#[70, 85, 82, 82, 79, 87, 83, 86]⟩ : ByteArray).data.toList.length = 8 from rfl]
   refine At.region (At.call1 0 rfl (fun w hw hr => eyeNumber_p _ L o c 8 4 l w hr (hb.mod hw.mod) (hw.newBlk (i := 0) rfl hL) hlc (by omega) (by omega) (by decide)) Tryz.call78 rfl rfl ?_)
   simp only [sc0, scS]
   refine tV (Val.toW Tryz.underlying34 Tryz.underlying41 rfl (by omega) (by omega)) rfl ?_
   rw [num_svT l]
   refine tV (Val.field 0 rfl fo_44_0 rfl) rfl (At.store (i := 2) Tryz.sizeOf41 rfl rfl rfl rfl (by first | decide | simp) ?_)
   simp only [sc0, scS]
   refine At.nil ?_
   rw [show (8 : Nat) + 4 = 12 from rfl]
   refine At.thenN (tR ?_)
   by_cases hzero : allZero ((l.drop 12).take 4)
   ·refine At.call1 0 rfl (fun w hw hr => eyeZeros_T _ L o c 12 4 l 36 w hr (hb.mod hw.mod) (hw.newBlk (i := 0) rfl hL) hlc (by omega) (by omega) hzero) Tryz.call66 rfl rfl ?_
    simp only [sc0, scS]
    refine tE (tR (At.call1 0 rfl (fun w hw hr => eyeHalf_p _ L o c (12 + 4) l w hr (hb.mod hw.mod) (hw.newBlk (i := 0) rfl hL) hlc (by omega) (by omega)) Tryz.call65 rfl rfl ?_))
    simp only [sc0, scS]
    refine tA rfl rfl (At.nil ?_)
    rw [show (12 : Nat) + 4 = 16 from rfl, show num l 16 4 = svN l from rfl]
    refine At.thenN (tR (tM rfl rfl (tV (Val.bin rfl rfl rfl) rfl (tM rfl rfl ?_))))
    refine At.split (t := 20) rfl (fun h5 => ?_) (fun h5 => ?_)
    ·try simp only [vN_T, vN_F, nmE_T, nmE_F, wI_T, wI_F, data_T, data_F, ino_T, ino_F, notT, notF, bneT, bneF, beqT, beqF, decT, decF] at h5
     refine At.yes rfl rfl (tM rfl rfl (At.yes rfl rfl (tV (Val.lenRd hv Tryz.underlying45 rfl) rfl (At.yes rfl rfl (tM rfl rfl (At.yes rfl rfl ?_))))))
     first | refine tV (Val.mulI rfl rfl (by omega) (by omega)) rfl ?_ | refine tV (Val.bin rfl rfl rfl) rfl ?_
     refine At.yes rfl rfl ?_
     first | refine tV (Val.addI rfl rfl (by omega) (by omega)) rfl ?_ | refine tV (Val.bin rfl rfl rfl) rfl ?_
     refine At.yes rfl rfl (tV (Val.bin rfl rfl rfl) rfl (tV (Val.pickT rfl rfl) rfl ?_))
     refine At.split (t := 27) rfl (fun h6 => ?_) (fun h6 => ?_)
     ·try simp only [vN_T, vN_F, nmE_T, nmE_F, wI_T, wI_F, data_T, data_F, ino_T, ino_F, notT, notF, bneT, bneF, beqT, beqF, decT, decF] at h6
      have hn249 : svN l ≤ 249 := by omega
      have hl4 : 24 + 4 * svN l ≤ l.length := by omega
      refine At.callP (fun w hw => must_T _ w) Tryz.call62 rfl rfl (tE (tR (At.call1 0 rfl (fun w hw hr => eyeNumber_p _ L o c (16 + 4) 4 l w hr (hb.mod hw.mod) (hw.newBlk (i := 0) rfl hL) hlc (by omega) (by omega) (by decide)) Tryz.call78 rfl rfl ?_)))
      simp only [sc0, scS]
      skip
      ·rw [show (16 : Nat) + 4 = 20 from rfl]
       first | refine tV (Val.toW Tryz.underlying34 Tryz.underlying41 rfl (by omega) (by omega)) rfl ?_ | refine tV (Val.conv Tryz.underlying34 Tryz.underlying41 rfl) rfl ?_
       refine tM rfl rfl (tM rfl rfl (At.callP (fun w hw => (show PureC _ _ _ (b32 (sumOf l)) w from svSum_p _ l (svN l) w (ht.mod hw.mod) (hv.mod hw.mod) hl4 (by omega))) Tryz.call91 rfl rfl (tV (Val.bin rfl rfl rfl) rfl ?_)))
       refine At.split (t := 34) rfl (fun h7 => ?_) (fun h7 => ?_)
       ·try simp only [vN_T, vN_F, nmE_T, nmE_F, wI_T, wI_F, data_T, data_F, ino_T, ino_F, notT, notF, bneT, bneF, beqT, beqF, decT, decF] at h7
        have hsum : num l 20 4 = (sumOf l).toNat := Int.ofNat.inj h7
        refine At.callP (fun w hw => must_T _ w) Tryz.call62 rfl rfl (At.nil ?_)
        rw [show (20 : Nat) + 4 = 24 from rfl]
        refine At.thenN (At.seq (tR (tM rfl rfl (tM rfl rfl (At.nil (At.rowNilS 64 (At.thenN (At.block ?_))))))))
        skip
        refine At.loop (σ := Nat × Value) (fun s => s.1 ≤ svN l) (fun s => [(2, .pointer (some ⟨b1, 0, none⟩)), (3, .pointer (some ⟨b2, 0, none⟩)), (4, .pointer (some ⟨b4, 0, none⟩)), (36, .int .i64 (svN l : Int)), (37, .int .i64 (s.1 : Int))]) (fun s => [srow 64 s.2 (spRec l s.1), blk b4 113 (eyeC L o l.length c (24 + 4 * s.1)), blk b2 67 [.int .i64 0], blk b1 44 [b32 (svT l), s.2]]) (fun s => svN l - s.1) (0, .slice none 0 0) (Nat.zero_le _) (Sub.cons rfl (Sub.cons rfl (Sub.cons rfl (Sub.cons rfl (Sub.cons rfl Sub.nil))))) (List.Perm.refl _) ?_
        intro s hs
        obtain ⟨k, vk⟩ := s
        dsimp only at hs ⊢
        have hn2 := num_lt (l := l) (24 + 4 * k) 2
        have hn3 := num_lt (l := l) (24 + 4 * k + 2) 2
        refine tR (tV (Val.bin rfl rfl rfl) rfl (tE (At.seq ?_)))
        refine At.cond rfl (fun h8 => ?_) (fun h8 => ?_)
        ·try simp only [vN_T, vN_F, nmE_T, nmE_F, wI_T, wI_F, data_T, data_F, ino_T, ino_F, notT, notF, bneT, bneF, beqT, beqF, decT, decF] at h8
         have hk : k < svN l := by omega
         refine At.skipC (At.thenN (At.seq (At.block ?_)))
         apply At.any (t := 10)
         · rfl
         refine KAt.pin (fun w hw => hw.drop (List.Sublist.cons _ (List.Sublist.cons _ (List.Sublist.cons _ (List.Sublist.cons_cons _ (List.Sublist.refl _)))))) (KAt.take 0 (Val.field 1 rfl fo_44_1 rfl) rfl rfl rfl rfl (fun w hw => hw.drop (List.Sublist.cons _ (List.Sublist.cons _ (List.Sublist.cons _ (List.Sublist.cons_cons _ (List.Sublist.refl _)))))) (by decide +kernel) (KAt.take 1 (Val.load (i := 0) Tryz.isAgg42 rfl rfl rfl) rfl rfl rfl rfl (fun w hw => hw.drop (List.Sublist.cons _ (List.Sublist.cons _ (List.Sublist.cons _ (List.Sublist.cons_cons _ (List.Sublist.refl _)))))) (by decide +kernel) (KAt.only 2 rfl (by decide +kernel) (At.call1 1 rfl (fun w hw hr => eyeNumber_p _ L o c (24 + 4 * k) 2 l w hr (hb.mod hw.mod) (hw.newBlk (i := 1) rfl hL) hlc (by omega) (by omega) (by decide)) Tryz.call78 rfl rfl ?_))))
         simp only [sc0, scS]
         refine At.nil (KAt.go (fun w hw => hw.drop (List.Sublist.cons _ (List.Sublist.cons _ (List.Sublist.cons _ (List.Sublist.cons_cons _ (List.Sublist.refl _)))))) ?_)
         first | refine KAt.take 3 (Val.toI Tryz.underlying34 Tryz.underlying3 rfl (by omega) (by omega)) rfl rfl rfl rfl (fun w hw => hw.drop (List.Sublist.cons _ (List.Sublist.cons _ (List.Sublist.cons _ (List.Sublist.cons_cons _ (List.Sublist.refl _)))))) (by decide +kernel) ?_ | refine KAt.take 3 (Val.conv Tryz.underlying34 Tryz.underlying3 rfl) rfl rfl rfl rfl (fun w hw => hw.drop (List.Sublist.cons _ (List.Sublist.cons _ (List.Sublist.cons _ (List.Sublist.cons_cons _ (List.Sublist.refl _)))))) (by decide +kernel) ?_
         refine KAt.only 4 rfl (by decide +kernel) (At.call1 1 rfl (fun w hw hr => eyeNumber_p _ L o c (24 + 4 * k + 2) 2 l w hr (hb.mod hw.mod) (hw.newBlk (i := 1) rfl hL) hlc (by omega) (by omega) (by decide)) Tryz.call78 rfl rfl ?_)
         simp only [sc0, scS]
         refine At.nil (KAt.go (fun w hw => hw.drop (List.Sublist.cons _ (List.Sublist.cons _ (List.Sublist.cons _ (List.Sublist.cons_cons _ (List.Sublist.refl _)))))) ?_)
         first | refine KAt.take 5 (Val.toI Tryz.underlying34 Tryz.underlying3 rfl (by omega) (by omega)) rfl rfl rfl rfl (fun w hw => hw.drop (List.Sublist.cons _ (List.Sublist.cons _ (List.Sublist.cons _ (List.Sublist.cons_cons _ (List.Sublist.refl _)))))) (by decide +kernel) ?_ | refine KAt.take 5 (Val.conv Tryz.underlying34 Tryz.underlying3 rfl) rfl rfl rfl rfl (fun w hw => hw.drop (List.Sublist.cons _ (List.Sublist.cons _ (List.Sublist.cons _ (List.Sublist.cons_cons _ (List.Sublist.refl _)))))) (by decide +kernel) ?_
         refine KAt.take 6 (Val.build (fun a ha => by simp only [List.map_toArray, List.map_cons, List.map_nil, ha.eval (x := (.tmp 42)) rfl, ha.eval (x := (.tmp 44)) rfl] <;> rfl) (bld_64_0_1 _ _ )) rfl rfl rfl rfl (fun w hw => hw.drop (List.Sublist.cons _ (List.Sublist.cons _ (List.Sublist.cons _ (List.Sublist.cons_cons _ (List.Sublist.refl _)))))) (by decide +kernel) (KAt.only 7 rfl (by decide +kernel) (At.buildSl (fun a ha => by simp only [List.map_toArray, List.map_cons, List.map_nil, ha.eval (x := (.tmp 45)) rfl]; try rfl) (bs_42_1 _ _ ) rfl (fun b9 => (At.nil (KAt.go (fun w hw => hw.drop (List.Sublist.cons _ (List.Sublist.cons _ (List.Sublist.cons _ (List.Sublist.cons _ (List.Sublist.cons_cons _ (List.Sublist.refl _))))))) (KAt.only 8 rfl (by decide +kernel) ?_))))))
         refine At.appendS1 (i := 1) (j := 0) (by_ := 16) Tryz.underlying42 info_64 rfl rfl rfl rfl rfl rfl rfl rfl (by rw [spRec_length]; omega) (by rw [spRec_length]; omega) rfl (fun v10 => ?_)
         simp only [sc0, scS]
         refine At.drop 0 ?_
         simp only [ec0, ecS]
         refine At.nil (KAt.go (fun w hw => hw.drop (List.Sublist.cons _ (List.Sublist.cons _ (List.Sublist.cons _ (List.Sublist.cons_cons _ (List.Sublist.refl _)))))) (KAt.take 9 (Val.field 1 rfl fo_44_1 rfl) rfl rfl rfl rfl (fun w hw => hw.drop (List.Sublist.cons _ (List.Sublist.cons _ (List.Sublist.cons _ (List.Sublist.cons_cons _ (List.Sublist.refl _)))))) (by decide +kernel) (KAt.only 10 rfl (by decide +kernel) (At.rowOne (i := 0) rfl (fun ho11 => (At.store (i := 3) Tryz.sizeOf42 rfl rfl ho11 rfl (by first | decide | simp) ?_))))))
         simp only [sc0, scS]
         refine At.nil (KAt.goT rfl (KAt.done (by decide +kernel) (At.blkN (At.thenN (At.region ?_)))))
         first | refine tV (Val.addI rfl rfl (by omega) (by omega)) rfl ?_ | refine tV (Val.bin rfl rfl rfl) rfl ?_
         refine tM rfl rfl (tE ?_)
         exact At.again (k + 1, v10) (show k + 1 ≤ _ by omega) (by dsimp only; omega) (Sub.cons rfl (Sub.cons rfl (Sub.cons rfl (Sub.cons rfl (Sub.cons (congrArg (fun z => some (Value.int IntKind.i64 z)) (by omega)) Sub.nil))))) (by rw [spRec_succ, show 24 + 4 * (k + 1) = 24 + 4 * k + 2 + 2 from by omega])
        ·try simp only [vN_T, vN_F, nmE_T, nmE_F, wI_T, wI_F, data_T, data_F, ino_T, ino_F, notT, notF, bneT, bneF, beqT, beqF, decT, decF] at h8
         obtain rfl : k = svN l := by omega
         refine At.exitC (At.thenX (At.thenX (At.blkX (At.thenN (tR (tV (Val.loadAll (i := 3) Tryz.isAgg44 Tryz.sizeOf44 rfl rfl rfl) rfl ?_))))))
         refine At.callP (fun w hw => goodSv_p (svT l) _ (spRec l (svN l)) w (row_rd (hw.row (i := 0) rfl) (by decide)) (by rw [spRec_length]; omega)) Tryz.call90 rfl rfl ?_
         refine At.split (t := 51) rfl (fun h12 => ?_) (fun h12 => ?_)
         ·try simp only [vN_T, vN_F, nmE_T, nmE_F, wI_T, wI_F, data_T, data_F, ino_T, ino_F, notT, notF, bneT, bneF, beqT, beqF, decT, decF] at h12
          have hgd : GoodSv (svT l) (spRec l (svN l)) := by simpa using h12
          have hok : OkSv l := ⟨h24, hmark, hzero, hn249, hl4, hsum, hgd⟩
          refine At.callP (fun w hw => must_T _ w) Tryz.call62 rfl rfl (At.nil (At.rowIs (i := 0) rfl (fun A13 c14 hv => ?_)))
          subst hv
          refine At.thenN (tR (tV (Val.loadAll (i := 3) Tryz.isAgg44 Tryz.sizeOf44 rfl rfl rfl) rfl (At.storeAll (i := 3) Tryz.sizeOf44 rfl rfl rfl (by simp [Value.oneCell']) rfl rfl ?_)))
          simp only [sc0, scS]
          refine At.store (i := 2) Tryz.sizeOf67 rfl rfl rfl rfl (by first | decide | simp) ?_
          simp only [sc0, scS]
          refine tE (At.retC (At.leaveN (.inl rfl) rfl Tryz.call112 (fun w hw => caughtSaved_idle _ _ w) rfl (ResOf.all (i := 3) Tryz.isAgg44 Tryz.sizeOf44 rfl rfl rfl) (ResOf.one (i := 2) Tryz.isAgg67 rfl rfl rfl) (fun w hw => ?_)))
          exact ⟨(.slice A13 ((spRec l (svN l)).length) c14), by rw [oE_yes hok, oT_yes hok]; try rfl, by rw [oL_yes hok]; exact (hw.drop (List.singleton_sublist.2 (List.mem_of_getElem? (i := 0) rfl))).f0⟩
         ·try simp only [vN_T, vN_F, nmE_T, nmE_F, wI_T, wI_F, data_T, data_F, ino_T, ino_F, notT, notF, bneT, bneF, beqT, beqF, decT, decF] at h12
          have hno : ¬ OkSv l := fun h => absurd h.2.2.2.2.2.2 (by simpa using h12)
          refine At.callT0 (fun w hw => must_F _ w) Tryz.call62 rfl (At.thenE (At.leaveP rfl Tryz.call112 ((erase_perm _ 3 _ rfl).trans (List.Perm.cons _ (erase_perm _ 2 _ rfl))) (fun w hw => caughtSaved_pan _ _ _ _ _ w (hw.blk (i := 0) rfl) rfl (hw.blk (i := 1) rfl) hw.ne01) rfl (ResOf.all (i := 0) Tryz.isAgg44 Tryz.sizeOf44 rfl rfl rfl) (ResOf.one (i := 1) Tryz.isAgg67 rfl rfl rfl) (fun w hw => ?_)))
          exact ⟨.slice none 0 0, by rw [oE_no hno, oT_no hno]; try rfl, by rw [oL_no hno]; exact ((hw.drop (List.nil_sublist _)).f0).nilRow _ _⟩
       ·try simp only [vN_T, vN_F, nmE_T, nmE_F, wI_T, wI_F, data_T, data_F, ino_T, ino_F, notT, notF, bneT, bneF, beqT, beqF, decT, decF] at h7
        have hno : ¬ OkSv l := fun h => h7 (congrArg Int.ofNat h.2.2.2.2.2.1)
        refine At.callT0 (fun w hw => must_F _ w) Tryz.call62 rfl (At.thenE (At.leaveP rfl Tryz.call112 ((erase_perm _ 2 _ rfl).trans (List.Perm.cons _ (erase_perm _ 1 _ rfl))) (fun w hw => caughtSaved_pan _ _ _ _ _ w (hw.blk (i := 0) rfl) rfl (hw.blk (i := 1) rfl) hw.ne01) rfl (ResOf.all (i := 0) Tryz.isAgg44 Tryz.sizeOf44 rfl rfl rfl) (ResOf.one (i := 1) Tryz.isAgg67 rfl rfl rfl) (fun w hw => ?_)))
        exact ⟨.slice none 0 0, by rw [oE_no hno, oT_no hno]; try rfl, by rw [oL_no hno]; exact ((hw.drop (List.nil_sublist _)).f0).nilRow _ _⟩
     ·try simp only [vN_T, vN_F, nmE_T, nmE_F, wI_T, wI_F, data_T, data_F, ino_T, ino_F, notT, notF, bneT, bneF, beqT, beqF, decT, decF] at h6
      have hno : ¬ OkSv l := fun h => by have := h.2.2.2.2.1; omega
      refine At.callT0 (fun w hw => must_F _ w) Tryz.call62 rfl (At.thenE (At.leaveP rfl Tryz.call112 ((erase_perm _ 2 _ rfl).trans (List.Perm.cons _ (erase_perm _ 1 _ rfl))) (fun w hw => caughtSaved_pan _ _ _ _ _ w (hw.blk (i := 0) rfl) rfl (hw.blk (i := 1) rfl) hw.ne01) rfl (ResOf.all (i := 0) Tryz.isAgg44 Tryz.sizeOf44 rfl rfl rfl) (ResOf.one (i := 1) Tryz.isAgg67 rfl rfl rfl) (fun w hw => ?_)))
      exact ⟨.slice none 0 0, by rw [oE_no hno, oT_no hno]; try rfl, by rw [oL_no hno]; exact ((hw.drop (List.nil_sublist _)).f0).nilRow _ _⟩
    ·try simp only [vN_T, vN_F, nmE_T, nmE_F, wI_T, wI_F, data_T, data_F, ino_T, ino_F, notT, notF, bneT, bneF, beqT, beqF, decT, decF] at h5
     have hno : ¬ OkSv l := fun h => by have := h.2.2.2.1; omega
     refine At.no rfl rfl rfl rfl (At.no rfl rfl rfl rfl (At.no rfl rfl rfl rfl (At.no rfl rfl rfl rfl (At.no rfl rfl rfl rfl (At.no rfl rfl rfl rfl (tV (Val.pickF rfl rfl) rfl (At.callT0 (fun w hw => must_F _ w) Tryz.call62 rfl (At.thenE (At.leaveP rfl Tryz.call112 ((erase_perm _ 2 _ rfl).trans (List.Perm.cons _ (erase_perm _ 1 _ rfl))) (fun w hw => caughtSaved_pan _ _ _ _ _ w (hw.blk (i := 0) rfl) rfl (hw.blk (i := 1) rfl) hw.ne01) rfl (ResOf.all (i := 0) Tryz.isAgg44 Tryz.sizeOf44 rfl rfl rfl) (ResOf.one (i := 1) Tryz.isAgg67 rfl rfl rfl) (fun w hw => ?_))))))))))
     exact ⟨.slice none 0 0, by rw [oE_no hno, oT_no hno]; try rfl, by rw [oL_no hno]; exact ((hw.drop (List.nil_sublist _)).f0).nilRow _ _⟩
   ·have hno : ¬ OkSv l := fun h => hzero h.2.2.1
    refine At.callT1 0 rfl (fun w hw hr => eyeZeros_F _ L o c 12 4 l 36 w hr (hb.mod hw.mod) (hw.newBlk (i := 0) rfl hL) hlc (by omega) (by omega) hzero) Tryz.call66 rfl ?_
    simp only [ec0, ecS]
    refine At.thenE (At.leaveP rfl Tryz.call112 ((erase_perm _ 1 _ rfl).trans (List.Perm.cons _ (erase_perm _ 0 _ rfl))) (fun w hw => caughtSaved_pan _ _ _ _ _ w (hw.blk (i := 0) rfl) rfl (hw.blk (i := 1) rfl) hw.ne01) rfl (ResOf.all (i := 0) Tryz.isAgg44 Tryz.sizeOf44 rfl rfl rfl) (ResOf.one (i := 1) Tryz.isAgg67 rfl rfl rfl) (fun w hw => ?_))
    exact ⟨.slice none 0 0, by rw [oE_no hno, oT_no hno]; try rfl, by rw [oL_no hno]; exact ((hw.drop (List.nil_sublist _)).f0).nilRow _ _⟩
  ·have hno : ¬ OkSv l := fun h => hmark h.2.1
   refine At.callT1 0 rfl (fun w hw hr => eyeText_F _ L o c 0 l ⟨#[70, 85, 82, 82, 79, 87, 83, 86]⟩ 36 w hr (hb.mod hw.mod) (hw.newBlk (i := 0) rfl hL) hlc (by omega) (by show 0 + 8 ≤ _; omega) hmark) Tryz.call64 rfl ?_
   simp only [ec0, ecS]
   refine At.thenE (At.leaveP rfl Tryz.call112 ((erase_perm _ 1 _ rfl).trans (List.Perm.cons _ (erase_perm _ 0 _ rfl))) (fun w hw => caughtSaved_pan _ _ _ _ _ w (hw.blk (i := 0) rfl) rfl (hw.blk (i := 1) rfl) hw.ne01) rfl (ResOf.all (i := 0) Tryz.isAgg44 Tryz.sizeOf44 rfl rfl rfl) (ResOf.one (i := 1) Tryz.isAgg67 rfl rfl rfl) (fun w hw => ?_))
   exact ⟨.slice none 0 0, by rw [oE_no hno, oT_no hno]; try rfl, by rw [oL_no hno]; exact ((hw.drop (List.nil_sublist _)).f0).nilRow _ _⟩
 ·try simp only [vN_T, vN_F, nmE_T, nmE_F, wI_T, wI_F, data_T, data_F, ino_T, ino_F, notT, notF, bneT, bneF, beqT, beqF, decT, decF] at h3
  have hno : ¬ OkSv l := fun h => by have := h.1; omega
  refine At.callT0 (fun w hw => must_F _ w) Tryz.call62 rfl (At.thenE (At.leaveP rfl Tryz.call112 ((erase_perm _ 1 _ rfl).trans (List.Perm.cons _ (erase_perm _ 0 _ rfl))) (fun w hw => caughtSaved_pan _ _ _ _ _ w (hw.blk (i := 0) rfl) rfl (hw.blk (i := 1) rfl) hw.ne01) rfl (ResOf.all (i := 0) Tryz.isAgg44 Tryz.sizeOf44 rfl rfl rfl) (ResOf.one (i := 1) Tryz.isAgg67 rfl rfl rfl) (fun w hw => ?_)))
  exact ⟨.slice none 0 0, by rw [oE_no hno, oT_no hno]; try rfl, by rw [oL_no hno]; exact ((hw.drop (List.nil_sublist _)).f0).nilRow _ _⟩
end Go.Proofs.YthdmlpjhcalliaaGreatDoor
namespace Go.Proofs.YthdmlpjhcalliaaGreatDoor
open Go Go.Wk
theorem rsumV_p (v : Value) (l : List UInt8) (w : World) (hv : RdB w v l) (hlen : l.length ≤ 140737488355328) : PureC Tryz.prog 88 [v] (b32 (sumOn 0 l)) w := by
  obtain ⟨A, c, rfl, hb, _⟩ := hv.bytes; exact rsum_p A l c w hb hlen
theorem packSvR_n (t : BitVec 32) (v : Value) (L : List (Int × Int)) (w : World) (hv : RdS w v L) (hlen : L.length ≤ 8796093022144) :
    NewRowT Tryz.prog 48 [.agg #[b32 t, v]] (fun v => .tuple #[v, .int .i64 (svE t L)]) 5 1 (svP t L).length ((svP t L).map bv) w := by
 refine enter0 Tryz.func48 rfl Tryz.ntmps48 rfl ?_
 simp only [envOf]
 refine tR (At.box rfl rfl rfl (fun b1 => (tA rfl rfl (tA rfl rfl (tE (tR (tV (Val.loadAll (i := 0) Tryz.isAgg44 Tryz.sizeOf44 rfl rfl rfl) rfl (At.callP (fun w hw => goodSvR_p t v L w (hv.mod hw.mod) hlen) Tryz.call92 rfl rfl (tA rfl rfl (tE (At.seq (tR (tM rfl rfl (tV (Val.not rfl) rfl (tE ?_)))))))))))))))
 refine At.cond rfl (fun h2 => ?_) (fun h2 => ?_)
 ·try simp only [vN_T, vN_F, nmE_T, nmE_F, wI_T, wI_F, data_T, data_F, ino_T, ino_F, notT, notF, bneT, bneF, beqT, beqF, decT, decF] at h2
  have hg : ¬ GoodSv t L := by simpa using h2
  refine tR (tA rfl rfl (tA rfl rfl (At.nil (At.rowNilB 5 (At.thenN (At.retC (At.thenR (At.ret2 (.inl rfl) rfl rfl rfl rfl (fun w hw => ?_)))))))))
  exact ⟨_, by rw [svE_F hg], by rw [svP_F hg]; exact (hw.drop (List.singleton_sublist.2 (List.mem_of_getElem? (i := 0) rfl))).f0⟩
 ·try simp only [vN_T, vN_F, nmE_T, nmE_F, wI_T, wI_F, data_T, data_F, ino_T, ino_F, notT, notF, bneT, bneF, beqT, beqF, decT, decF] at h2
  have hg : GoodSv t L := by simpa using h2
  have hL : L.length ≤ 249 := hg.2.1
  have hti := t.isLt
  have hhl := hd20_length t L.length
  have hsl := spB_length L
  refine At.skipC (At.thenN (tR (tA rfl rfl (At.nil (At.rowNilB 5 (At.thenN (tR (tM rfl rfl (At.callR 0 rfl (fun w hw hr => letters_p _ ([] : List UInt8) ⟨#[70, 85, 82, 82, 79, 87, 83, 86]⟩ w hr (by decide)) Tryz.call56 rfl rfl (fun v3 => ?_))))))))))
  simp only [sc0, scS]
  refine tA rfl rfl (At.nil ?_)
  rw [show (([] : List UInt8) ++ (⟨#[70, 85, 82, 82, 79, 87, 83, 86]⟩ : ByteArray).data.toList) = magic from rfl]
  refine At.thenN (tR (tM rfl rfl (tV (Val.field 0 rfl fo_44_0 rfl) rfl (tV (Val.load (i := 1) Tryz.isAgg41 rfl rfl rfl) rfl ?_))))
  first | refine tV (Val.toU Tryz.underlying41 Tryz.underlying34 rfl (by omega) (by omega)) rfl ?_ | refine tV (Val.conv Tryz.underlying41 Tryz.underlying34 rfl) rfl ?_
  refine At.callR 0 rfl (fun w hw hr => rlay_p _ magic (t.toNat) 4 w hr (by omega) (by decide) (by decide)) Tryz.call57 rfl rfl (fun v4 => ?_)
  simp only [sc0, scS]
  refine tA rfl rfl (tE (tR (tM rfl rfl ?_)))
  refine At.callR 0 rfl (fun w hw hr => rlay_p _ (magic ++ le 4 (t.toNat)) (0) 4 w hr (by decide) (by decide) (by rw [List.length_append, le_length]; decide)) Tryz.call57 rfl rfl (fun v5 => ?_)
  simp only [sc0, scS]
  refine tA rfl rfl (tE (tR (tM rfl rfl (tV (Val.field 1 rfl fo_44_1 rfl) rfl (tV (Val.load (i := 1) Tryz.isAgg42 rfl rfl rfl) rfl (tV (Val.lenRd hv Tryz.underlying42 rfl) rfl ?_))))))
  first | refine tV (Val.toU Tryz.underlying3 Tryz.underlying34 rfl (by omega) (by omega)) rfl ?_ | refine tV (Val.conv Tryz.underlying3 Tryz.underlying34 rfl) rfl ?_
  refine At.callR 0 rfl (fun w hw hr => rlay_p _ ((magic ++ le 4 (t.toNat)) ++ le 4 (0)) (L.length) 4 w hr (by omega) (by decide) (by rw [List.length_append, List.length_append, le_length, le_length]; decide)) Tryz.call57 rfl rfl (fun v6 => ?_)
  simp only [sc0, scS]
  refine tA rfl rfl (At.nil ?_)
  rw [show (magic ++ le 4 t.toNat ++ le 4 0 ++ le 4 L.length) = (hd20 t L.length) from rfl]
  refine At.thenN (tR (tA rfl rfl (At.nil (At.rowNilB 5 (At.thenN (At.seq (tR (tA rfl rfl (tE (At.block ?_))))))))))
  skip
  refine At.loop (σ := Nat × Value) (fun s => s.1 ≤ L.length) (fun s => [(1, .pointer (some ⟨b1, 0, none⟩)), (5, v6), (6, s.2), (7, .int .i64 (s.1 : Int))]) (fun s => [brow 5 s.2 (spB (L.take s.1)), brow 5 v6 (hd20 t L.length), blk b1 44 [b32 t, v]]) (fun s => L.length - s.1) (0, (.slice none 0 0)) (Nat.zero_le _) (Sub.cons rfl (Sub.cons rfl (Sub.cons rfl (Sub.cons rfl Sub.nil)))) (List.Perm.refl _) ?_
  intro s hs
  obtain ⟨k, vk⟩ := s
  dsimp only at hs ⊢
  refine At.seq (tR (tM rfl rfl (tV (Val.field 1 rfl fo_44_1 rfl) rfl (tV (Val.load (i := 2) Tryz.isAgg42 rfl rfl rfl) rfl (tV (Val.lenRd hv Tryz.underlying42 rfl) rfl (tV (Val.bin rfl rfl rfl) rfl (tE ?_)))))))
  refine At.cond rfl (fun h7 => ?_) (fun h7 => ?_)
  ·try simp only [vN_T, vN_F, nmE_T, nmE_F, wI_T, wI_F, data_T, data_F, ino_T, ino_F, notT, notF, bneT, bneF, beqT, beqF, decT, decF] at h7
   have hk : k < L.length := by omega
   refine At.skipC (At.thenN (At.seq (At.block (tR (tM rfl rfl (tV (Val.field 1 rfl fo_44_1 rfl) rfl (tV (Val.load (i := 2) Tryz.isAgg42 rfl rfl rfl) rfl (tM rfl rfl (At.idxS hv Tryz.underlying42 Tryz.sizeOf64 rfl rfl (by omega) (by omega) rfl rfl (fun b8 o9 q10 hq11 hc12 hd13 => (tV (Val.field o9 rfl fo_64_0 rfl) rfl (tV (Val.loadOld Tryz.isAgg3 rfl hc12 (fun h => h)) rfl ?_))))))))))))
   have hqk := hq11
   rw [Int.toNat_natCast] at hqk
   have hc := hg.2.2 k _ hk hqk
   have hlo := lo_bd (k := k) (fun j c hj hc => hg.2.2 j c (by omega) hc) (by omega)
   have hc2 := hc
   unfold OkSp at hc2
   refine tV (Val.toU Tryz.underlying3 Tryz.underlying34 rfl (by omega) (by omega)) rfl ?_
   rw [show Value.int .u64 q10.1 = Value.int .u64 ((q10.1.toNat : Nat) : Int) from by congr 1; omega]
   refine At.callR 0 rfl (fun w hw hr => rlay_p _ (spB (L.take k)) (q10.1.toNat) 2 w hr (by omega) (by decide) (by rw [spB_length, List.length_take]; omega)) Tryz.call57 rfl rfl (fun v14 => ?_)
   simp only [sc0, scS]
   refine tA rfl rfl (tE (At.region (tM rfl rfl (tV (Val.field 1 rfl fo_44_1 rfl) rfl (tV (Val.load (i := 2) Tryz.isAgg42 rfl rfl rfl) rfl (tM rfl rfl (At.idxS hv Tryz.underlying42 Tryz.sizeOf64 rfl rfl (by omega) (by omega) rfl rfl (fun b15 o16 q17 hq18 hc19 hd20 => (tV (Val.field (o16 + 1) rfl fo_64_1 rfl) rfl (tV (Val.loadOld Tryz.isAgg3 rfl hd20 (fun h => h)) rfl ?_))))))))))
   rw [sp_eq hq18 hqk]
   refine tV (Val.toU Tryz.underlying3 Tryz.underlying34 rfl (by omega) (by omega)) rfl ?_
   rw [show Value.int .u64 q10.2 = Value.int .u64 ((q10.2.toNat : Nat) : Int) from by congr 1; omega]
   refine At.callR 0 rfl (fun w hw hr => rlay_p _ ((spB (L.take k)) ++ le 2 (q10.1.toNat)) (q10.2.toNat) 2 w hr (by omega) (by decide) (by rw [List.length_append, le_length, spB_length, List.length_take]; omega)) Tryz.call57 rfl rfl (fun v21 => ?_)
   simp only [sc0, scS]
   refine tA rfl rfl (At.nil (At.blkN (At.thenN (At.region (tM rfl rfl ?_)))))
   first | refine tV (Val.addI rfl rfl (by omega) (by omega)) rfl ?_ | refine tV (Val.bin rfl rfl rfl) rfl ?_
   refine tA rfl rfl (tE ?_)
   exact At.again (k + 1, v21) (show k + 1 ≤ _ by omega) (by dsimp only; omega) (Sub.cons rfl (Sub.cons rfl (Sub.cons rfl (Sub.cons (congrArg (fun z => some (Value.int IntKind.i64 z)) (by omega)) Sub.nil)))) (by rw [List.take_succ_of_get hqk, spB_snoc])
  ·try simp only [vN_T, vN_F, nmE_T, nmE_F, wI_T, wI_F, data_T, data_F, ino_T, ino_F, notT, notF, bneT, bneF, beqT, beqF, decT, decF] at h7
   obtain rfl : k = L.length := by omega
   rw [List.take_length]
   refine At.exitC (At.thenX (At.thenX (At.blkX (At.thenN (tR (tA rfl rfl (At.nil (At.rowNilB 5 (At.thenN (At.seq (tR (tA rfl rfl (tE (At.block ?_))))))))))))))
   skip
   refine At.loop (σ := Nat × Value) (fun s => s.1 ≤ ((hd20 t L.length)).length) (fun s => [(1, .pointer (some ⟨b1, 0, none⟩)), (5, v6), (6, vk), (8, s.2), (9, .int .i64 (s.1 : Int))]) (fun s => [brow 5 s.2 (((hd20 t L.length)).take s.1), brow 5 vk (spB L), brow 5 v6 (hd20 t L.length), blk b1 44 [b32 t, v]]) (fun s => ((hd20 t L.length)).length - s.1) (0, (.slice none 0 0)) (Nat.zero_le _) (Sub.cons rfl (Sub.cons rfl (Sub.cons rfl (Sub.cons rfl (Sub.cons rfl Sub.nil))))) (by rw [List.take_zero]) ?_
   intro s hs
   obtain ⟨k, vm⟩ := s
   dsimp only at hs ⊢
   refine At.seq (tR (tM rfl rfl (tM rfl rfl (tV (Val.lenRow (i := 2) Tryz.underlying45 rfl rfl) rfl (tV (Val.bin rfl rfl rfl) rfl (tE ?_))))))
   refine At.cond rfl (fun h22 => ?_) (fun h22 => ?_)
   ·try simp only [vN_T, vN_F, nmE_T, nmE_F, wI_T, wI_F, data_T, data_F, ino_T, ino_F, notT, notF, bneT, bneF, beqT, beqF, decT, decF] at h22
    have hk : k < (hd20 t L.length).length := by omega
    refine At.skipC (At.thenN (At.seq (At.block (At.region (tM rfl rfl (tM rfl rfl (tM rfl rfl (At.idxRowB (i := 2) rfl Tryz.underlying45 Tryz.sizeOf5 rfl rfl (by omega) (by omega) rfl rfl (fun q23 hq24 hl25 => (tV (Val.loadRowB (i := 2) Tryz.isAgg5 rfl rfl hq24) rfl (At.buildSl (fun a ha => by simp only [List.map_toArray, List.map_cons, List.map_nil, ha.eval (x := (.tmp 67)) rfl]; try rfl) (bs_45_1 _ ) rfl (fun b26 => ?_))))))))))))
    refine At.appendB1 (i := 1) (j := 0) (by_ := 1) Tryz.underlying45 info_5 rfl rfl rfl rfl rfl rfl rfl rfl (by rw [List.length_take]; omega) (by rw [List.length_take]; omega) rfl (fun v27 => ?_)
    simp only [sc0, scS]
    refine At.drop 0 ?_
    simp only [ec0, ecS]
    refine tA rfl rfl (At.nil (At.blkN (At.thenN (At.region (tM rfl rfl ?_)))))
    first | refine tV (Val.addI rfl rfl (by omega) (by omega)) rfl ?_ | refine tV (Val.bin rfl rfl rfl) rfl ?_
    refine tA rfl rfl (tE ?_)
    exact At.again (k + 1, v27) (show k + 1 ≤ _ by omega) (by dsimp only; omega) (Sub.cons rfl (Sub.cons rfl (Sub.cons rfl (Sub.cons rfl (Sub.cons (congrArg (fun z => some (Value.int IntKind.i64 z)) (by omega)) Sub.nil))))) (by rw [List.take_succ_of_get (by have := hq24; rwa [Int.toNat_natCast] at this)])
   ·try simp only [vN_T, vN_F, nmE_T, nmE_F, wI_T, wI_F, data_T, data_F, ino_T, ino_F, notT, notF, bneT, bneF, beqT, beqF, decT, decF] at h22
    obtain rfl : k = (hd20 t L.length).length := by omega
    rw [List.take_length]
    refine At.exitC (At.thenX (At.thenX (At.blkX (At.thenN (At.seq (tR (tA rfl rfl (tE (At.block ?_)))))))))
    skip
    refine At.loop (σ := Nat × Value) (fun s => s.1 ≤ (spB L).length) (fun s => [(1, .pointer (some ⟨b1, 0, none⟩)), (5, v6), (6, vk), (8, s.2), (10, .int .i64 (s.1 : Int))]) (fun s => [brow 5 s.2 ((hd20 t L.length) ++ (spB L).take s.1), brow 5 vk (spB L), brow 5 v6 (hd20 t L.length), blk b1 44 [b32 t, v]]) (fun s => (spB L).length - s.1) (0, vm) (Nat.zero_le _) (Sub.cons rfl (Sub.cons rfl (Sub.cons rfl (Sub.cons rfl (Sub.cons rfl Sub.nil))))) (by rw [List.take_zero, List.append_nil]) ?_
    intro s hs
    obtain ⟨k, vn⟩ := s
    dsimp only at hs ⊢
    refine At.seq (tR (tM rfl rfl (tM rfl rfl (tV (Val.lenRow (i := 1) Tryz.underlying45 rfl rfl) rfl (tV (Val.bin rfl rfl rfl) rfl (tE ?_))))))
    refine At.cond rfl (fun h28 => ?_) (fun h28 => ?_)
    ·try simp only [vN_T, vN_F, nmE_T, nmE_F, wI_T, wI_F, data_T, data_F, ino_T, ino_F, notT, notF, bneT, bneF, beqT, beqF, decT, decF] at h28
     have hk : k < (spB L).length := by omega
     refine At.skipC (At.thenN (At.seq (At.block (At.region (tM rfl rfl (tM rfl rfl (tM rfl rfl (At.idxRowB (i := 1) rfl Tryz.underlying45 Tryz.sizeOf5 rfl rfl (by omega) (by omega) rfl rfl (fun q29 hq30 hl31 => (tV (Val.loadRowB (i := 1) Tryz.isAgg5 rfl rfl hq30) rfl (At.buildSl (fun a ha => by simp only [List.map_toArray, List.map_cons, List.map_nil, ha.eval (x := (.tmp 80)) rfl]; try rfl) (bs_45_1 _ ) rfl (fun b32 => ?_))))))))))))
     refine At.appendB1 (i := 1) (j := 0) (by_ := 1) Tryz.underlying45 info_5 rfl rfl rfl rfl rfl rfl rfl rfl (by rw [List.length_append, List.length_take]; omega) (by rw [List.length_append, List.length_take]; omega) rfl (fun v33 => ?_)
     simp only [sc0, scS]
     refine At.drop 0 ?_
     simp only [ec0, ecS]
     refine tA rfl rfl (At.nil (At.blkN (At.thenN (At.region (tM rfl rfl ?_)))))
     first | refine tV (Val.addI rfl rfl (by omega) (by omega)) rfl ?_ | refine tV (Val.bin rfl rfl rfl) rfl ?_
     refine tA rfl rfl (tE ?_)
     exact At.again (k + 1, v33) (show k + 1 ≤ _ by omega) (by dsimp only; omega) (Sub.cons rfl (Sub.cons rfl (Sub.cons rfl (Sub.cons rfl (Sub.cons (congrArg (fun z => some (Value.int IntKind.i64 z)) (by omega)) Sub.nil))))) (by rw [List.take_succ_of_get (by have := hq30; rwa [Int.toNat_natCast] at this), ← List.append_assoc])
    ·try simp only [vN_T, vN_F, nmE_T, nmE_F, wI_T, wI_F, data_T, data_F, ino_T, ino_F, notT, notF, bneT, bneF, beqT, beqF, decT, decF] at h28
     obtain rfl : k = (spB L).length := by omega
     rw [List.take_length]
     refine At.exitC (At.thenX (At.thenX (At.blkX (At.thenN (tR (tM rfl rfl ?_))))))
     refine At.callP (fun w hw => (show PureC _ _ _ (b32 (svSum t L)) w from rsumV_p _ ((hd20 t L.length) ++ spB L) w (row_rd (hw.row (i := 0) rfl) (by decide)) (by rw [List.length_append]; omega))) Tryz.call88 rfl rfl (tA rfl rfl (tE (At.seq ?_)))
     have hsum := (svSum t L).isLt
     refine At.region (tM rfl rfl (tM rfl rfl ?_))
     refine tV (Val.toU Tryz.underlying41 Tryz.underlying34 rfl (by show (0 : Int) ≤ ((svSum t L).toNat : Int); omega) (by show ((svSum t L).toNat : Int) < _; omega)) rfl (At.callR 2 rfl (fun w hw hr => rlay_p _ (hd20 t L.length) ((svSum t L).toNat) 4 w hr (by omega) (by decide) (by omega)) Tryz.call57 rfl rfl (fun v34 => ?_))
     simp only [sc0, scS]
     refine tA rfl rfl (tE (At.seq (tR (tA rfl rfl (tE (At.block ?_))))))
     skip
     refine At.loop (σ := Nat × Value) (fun s => s.1 ≤ (spB L).length) (fun s => [(1, .pointer (some ⟨b1, 0, none⟩)), (6, vk), (5, s.2), (12, .int .i64 (s.1 : Int))]) (fun s => [brow 5 vn ((hd20 t L.length) ++ spB L), brow 5 vk (spB L), brow 5 s.2 ((hd20 t L.length) ++ le 4 (svSum t L).toNat ++ (spB L).take s.1), blk b1 44 [b32 t, v]]) (fun s => (spB L).length - s.1) (0, v34) (Nat.zero_le _) (Sub.cons rfl (Sub.cons rfl (Sub.cons rfl (Sub.cons rfl Sub.nil)))) (by rw [List.take_zero, List.append_nil]) ?_
     intro s hs
     obtain ⟨k, vo⟩ := s
     dsimp only at hs ⊢
     refine At.seq (tR (tM rfl rfl (tM rfl rfl (tV (Val.lenRow (i := 1) Tryz.underlying45 rfl rfl) rfl (tV (Val.bin rfl rfl rfl) rfl (tE ?_))))))
     refine At.cond rfl (fun h35 => ?_) (fun h35 => ?_)
     ·try simp only [vN_T, vN_F, nmE_T, nmE_F, wI_T, wI_F, data_T, data_F, ino_T, ino_F, notT, notF, bneT, bneF, beqT, beqF, decT, decF] at h35
      have hk : k < (spB L).length := by omega
      refine At.skipC (At.thenN (At.seq (At.block (At.region (tM rfl rfl (tM rfl rfl (tM rfl rfl (At.idxRowB (i := 1) rfl Tryz.underlying45 Tryz.sizeOf5 rfl rfl (by omega) (by omega) rfl rfl (fun q36 hq37 hl38 => (tV (Val.loadRowB (i := 1) Tryz.isAgg5 rfl rfl hq37) rfl (At.buildSl (fun a ha => by simp only [List.map_toArray, List.map_cons, List.map_nil, ha.eval (x := (.tmp 99)) rfl]; try rfl) (bs_45_1 _ ) rfl (fun b39 => ?_))))))))))))
      refine At.appendB1 (i := 3) (j := 0) (by_ := 1) Tryz.underlying45 info_5 rfl rfl rfl rfl rfl rfl rfl rfl (by rw [List.length_append, List.length_append, le_length, List.length_take]; omega) (by rw [List.length_append, List.length_append, le_length, List.length_take]; omega) rfl (fun v40 => ?_)
      simp only [sc0, scS]
      refine At.drop 0 ?_
      simp only [ec0, ecS]
      refine tA rfl rfl (At.nil (At.blkN (At.thenN (At.region (tM rfl rfl ?_)))))
      first | refine tV (Val.addI rfl rfl (by omega) (by omega)) rfl ?_ | refine tV (Val.bin rfl rfl rfl) rfl ?_
      refine tA rfl rfl (tE ?_)
      exact At.again (k + 1, v40) (show k + 1 ≤ _ by omega) (by dsimp only; omega) (Sub.cons rfl (Sub.cons rfl (Sub.cons rfl (Sub.cons (congrArg (fun z => some (Value.int IntKind.i64 z)) (by omega)) Sub.nil)))) (by rw [List.take_succ_of_get (by have := hq37; rwa [Int.toNat_natCast] at this), ← List.append_assoc])
     ·try simp only [vN_T, vN_F, nmE_T, nmE_F, wI_T, wI_F, data_T, data_F, ino_T, ino_F, notT, notF, bneT, bneF, beqT, beqF, decT, decF] at h35
      obtain rfl : k = (spB L).length := by omega
      rw [List.take_length]
      refine At.exitC (At.thenX (At.thenX (At.blkX (At.thenN (At.seq (tR (tV (Val.field 1 rfl fo_44_1 rfl) rfl (tV (Val.load (i := 3) Tryz.isAgg42 rfl rfl rfl) rfl (tV (Val.lenRd hv Tryz.underlying42 rfl) rfl ?_)))))))))
      first | refine tV (Val.remI rfl rfl (by omega) (by decide)) rfl ?_ | refine tV (Val.rem rfl rfl (by decide)) rfl ?_
      refine tV (Val.bin rfl rfl rfl) rfl (tE ?_)
      refine At.cond rfl (fun h41 => ?_) (fun h41 => ?_)
      ·try simp only [vN_T, vN_F, nmE_T, nmE_F, wI_T, wI_F, data_T, data_F, ino_T, ino_F, notT, notF, bneT, bneF, beqT, beqF, decT, decF] at h41
       have hod : L.length % 2 = 1 := by omega
       refine At.region (tM rfl rfl ?_)
       refine At.callR 2 rfl (fun w hw hr => rlay_p _ ((hd20 t L.length) ++ le 4 (svSum t L).toNat ++ spB L) (0) 4 w hr (by decide) (by decide) (by rw [List.length_append, List.length_append, le_length]; omega)) Tryz.call57 rfl rfl (fun v42 => ?_)
       simp only [sc0, scS]
       refine tA rfl rfl (tE (tR (tM rfl rfl (tA rfl rfl (tA rfl rfl (tE (At.retC (At.ret2 (.inl rfl) rfl rfl rfl rfl (fun w hw => ?_)))))))))
       exact ⟨_, by rw [svE_T hg], by rw [svP_T hg, svB, pad_1 hod]; exact (hw.drop (List.singleton_sublist.2 (List.mem_of_getElem? (i := 2) rfl))).f0⟩
      ·try simp only [vN_T, vN_F, nmE_T, nmE_F, wI_T, wI_F, data_T, data_F, ino_T, ino_F, notT, notF, bneT, bneF, beqT, beqF, decT, decF] at h41
       have hev : ¬ L.length % 2 = 1 := by omega
       refine At.skipC (At.thenN (tR (tM rfl rfl (tA rfl rfl (tA rfl rfl (tE (At.retC (At.ret2 (.inl rfl) rfl rfl rfl rfl (fun w hw => ?_)))))))))
       exact ⟨_, by rw [svE_T hg], by rw [svP_T hg, svB, pad_0 hev, List.append_nil]; exact (hw.drop (List.singleton_sublist.2 (List.mem_of_getElem? (i := 2) rfl))).f0⟩
theorem halfS_p (v : Value) (l : List UInt8) (a : Nat) (w : World) (hv : RdB w v l) (hlen : l.length ≤ 140737488355328) (hn : a + 4 ≤ l.length) :
    PureC Tryz.prog 113 [v, .int .i64 (a : Int)] (.tuple #[.int .u32 (num l a 4 : Nat), .int .i64 0]) w := by
 have hnl := num_lt (l := l) a 4
 refine enter0 Tryz.func113 rfl Tryz.ntmps113 rfl ?_
 simp only [envOf]
 refine tR (tA rfl rfl (tA rfl rfl (tE (At.seq (tR (tM rfl rfl (tM rfl rfl (At.callP (fun w hw => fits_p v l a 4 w (hv.mod hw.mod) hlen (by omega)) Tryz.call115 rfl rfl (tV (Val.not rfl) rfl (tE ?_))))))))))
 refine At.cond rfl (fun h1 => ?_) (fun h1 => ?_)
 ·try simp only [vN_T, vN_F, nmE_T, nmE_F, wI_T, wI_F, data_T, data_F, ino_T, ino_F, notT, notF, bneT, bneF, beqT, beqF, decT, decF] at h1
  exact absurd h1 (by simp; omega)
 ·try simp only [vN_T, vN_F, nmE_T, nmE_F, wI_T, wI_F, data_T, data_F, ino_T, ino_F, notT, notF, bneT, bneF, beqT, beqF, decT, decF] at h1
  refine At.skipC (At.thenN (tR (tM rfl rfl (tM rfl rfl (At.callP (fun w hw => numS_p v l a 4 w (hv.mod hw.mod) hlen hn (by decide)) Tryz.call116 rfl rfl ?_)))))
  first | refine tV (Val.toW Tryz.underlying34 Tryz.underlying41 rfl (by omega) (by omega)) rfl ?_ | refine tV (Val.conv Tryz.underlying34 Tryz.underlying41 rfl) rfl ?_
  refine tA rfl rfl (tA rfl rfl (tE (At.retC (At.ret2 (.inl rfl) rfl rfl rfl rfl (fun w hw => ?_)))))
  exact ⟨rfl, hw.mod⟩
end Go.Proofs.YthdmlpjhcalliaaGreatDoor
namespace Go.Proofs.YthdmlpjhcalliaaGreatDoor
open Go Go.Wk
theorem openSvR_n (v : Value) (l : List UInt8) (w : World) (hv : RdB w v l) (hlen : l.length ≤ 140737488355328) :
    NewRowT Tryz.prog 97 [v] (fun v => .tuple #[.agg #[b32 (oT l), v], .int .i64 (oE l)]) 64 2 (oL l).length (prS (oL l)) w := by
 refine enter0 Tryz.func97 rfl Tryz.ntmps97 rfl ?_
 have hn16 : svN l < 4294967296 := by have := num_lt (l := l) 16 4; unfold svN; omega
 simp only [envOf]
 refine tR (At.alloc Tryz.zeroValue44 rfl rfl (fun b1 => (tA rfl rfl (tE (At.seq (tR (tM rfl rfl (tV (Val.lenRd hv Tryz.underlying45 rfl) rfl (tV (Val.bin rfl rfl rfl) rfl (tE ?_))))))))))
 refine At.cond rfl (fun h2 => ?_) (fun h2 => ?_)
 ·try simp only [vN_T, vN_F, nmE_T, nmE_F, wI_T, wI_F, data_T, data_F, ino_T, ino_F, notT, notF, bneT, bneF, beqT, beqF, decT, decF] at h2
  have hno : ¬ OkSv l := fun h => by have := h.1; omega
  refine tR ?_
  refine tV (Val.build (fun a ha => by simp only [List.map_toArray, List.map_cons, List.map_nil] <;> rfl) (bld_44_)) rfl (At.storeAll (i := 0) Tryz.sizeOf44 rfl rfl rfl (by simp [Value.oneCell']) rfl rfl ?_)
  simp only [sc0, scS]
  refine tA rfl rfl (tE (At.retC (At.thenR (At.ret2 (.inl rfl) rfl rfl (ResOf.all (i := 0) Tryz.isAgg44 Tryz.sizeOf44 rfl rfl rfl) rfl (fun w hw => ?_)))))
  exact ⟨.slice none 0 0, by rw [oE_no hno, oT_no hno]; try rfl, by rw [oL_no hno]; exact ((hw.drop (List.nil_sublist _)).f0).nilRow _ _⟩
 ·try simp only [vN_T, vN_F, nmE_T, nmE_F, wI_T, wI_F, data_T, data_F, ino_T, ino_F, notT, notF, bneT, bneF, beqT, beqF, decT, decF] at h2
  have h24 : 24 ≤ l.length := by omega
  refine At.skipC (At.thenN (tR (tM rfl rfl (At.callP (fun w hw => halfS_p v l (8) w (hv.mod hw.mod) hlen (by omega)) Tryz.call113 rfl rfl ?_))))
  skip
  ·rw [num_svT l]
   refine tM rfl rfl (tV (Val.extract rfl rfl) rfl (tV (Val.extract rfl rfl) rfl (tA rfl rfl (tA rfl rfl (tE (tR (tM rfl rfl (At.callP (fun w hw => halfS_p v l (16) w (hv.mod hw.mod) hlen (by omega)) Tryz.call113 rfl rfl (tM rfl rfl (tV (Val.extract rfl rfl) rfl (tV (Val.extract rfl rfl) rfl (tA rfl rfl (tA rfl rfl (At.nil ?_))))))))))))))
   rw [show num l 16 4 = svN l from rfl]
   refine At.thenN (At.seq (tR (tM rfl rfl (tV (Val.bin rfl rfl rfl) rfl (tM rfl rfl ?_)))))
   refine At.split (t := 31) rfl (fun h3 => ?_) (fun h3 => ?_)
   ·try simp only [vN_T, vN_F, nmE_T, nmE_F, wI_T, wI_F, data_T, data_F, ino_T, ino_F, notT, notF, bneT, bneF, beqT, beqF, decT, decF] at h3
    have hno : ¬ OkSv l := fun h => by have := h.2.2.2.1; omega
    refine At.no rfl rfl rfl rfl (At.no rfl rfl rfl rfl (At.no rfl rfl rfl rfl (At.no rfl rfl rfl rfl (At.no rfl rfl rfl rfl (At.no rfl rfl rfl rfl (At.no rfl rfl rfl rfl (tV (Val.pickT rfl rfl) rfl (tE (At.condT rfl (tR ?_))))))))))
    refine tV (Val.build (fun a ha => by simp only [List.map_toArray, List.map_cons, List.map_nil] <;> rfl) (bld_44_)) rfl (At.storeAll (i := 0) Tryz.sizeOf44 rfl rfl rfl (by simp [Value.oneCell']) rfl rfl ?_)
    simp only [sc0, scS]
    refine tA rfl rfl (tE (At.retC (At.thenR (At.ret2 (.inl rfl) rfl rfl (ResOf.all (i := 0) Tryz.isAgg44 Tryz.sizeOf44 rfl rfl rfl) rfl (fun w hw => ?_)))))
    exact ⟨.slice none 0 0, by rw [oE_no hno, oT_no hno]; try rfl, by rw [oL_no hno]; exact ((hw.drop (List.nil_sublist _)).f0).nilRow _ _⟩
   ·try simp only [vN_T, vN_F, nmE_T, nmE_F, wI_T, wI_F, data_T, data_F, ino_T, ino_F, notT, notF, bneT, bneF, beqT, beqF, decT, decF] at h3
    refine At.yes rfl rfl (tM rfl rfl (At.yes rfl rfl (tV (Val.lenRd hv Tryz.underlying45 rfl) rfl (At.yes rfl rfl (tM rfl rfl (At.yes rfl rfl ?_))))))
    first | refine tV (Val.toI Tryz.underlying41 Tryz.underlying3 rfl (by omega) (by omega)) rfl ?_ | refine tV (Val.conv Tryz.underlying41 Tryz.underlying3 rfl) rfl ?_
    refine At.yes rfl rfl ?_
    first | refine tV (Val.mulI rfl rfl (by omega) (by omega)) rfl ?_ | refine tV (Val.bin rfl rfl rfl) rfl ?_
    refine At.yes rfl rfl ?_
    first | refine tV (Val.addI rfl rfl (by omega) (by omega)) rfl ?_ | refine tV (Val.bin rfl rfl rfl) rfl ?_
    refine At.yes rfl rfl (tV (Val.bin rfl rfl rfl) rfl (tV (Val.pickF rfl rfl) rfl (tE ?_)))
    refine At.cond rfl (fun h4 => ?_) (fun h4 => ?_)
    ·try simp only [vN_T, vN_F, nmE_T, nmE_F, wI_T, wI_F, data_T, data_F, ino_T, ino_F, notT, notF, bneT, bneF, beqT, beqF, decT, decF] at h4
     have hno : ¬ OkSv l := fun h => by have := h.2.2.2.2.1; omega
     refine tR ?_
     refine tV (Val.build (fun a ha => by simp only [List.map_toArray, List.map_cons, List.map_nil] <;> rfl) (bld_44_)) rfl (At.storeAll (i := 0) Tryz.sizeOf44 rfl rfl rfl (by simp [Value.oneCell']) rfl rfl ?_)
     simp only [sc0, scS]
     refine tA rfl rfl (tE (At.retC (At.thenR (At.ret2 (.inl rfl) rfl rfl (ResOf.all (i := 0) Tryz.isAgg44 Tryz.sizeOf44 rfl rfl rfl) rfl (fun w hw => ?_)))))
     exact ⟨.slice none 0 0, by rw [oE_no hno, oT_no hno]; try rfl, by rw [oL_no hno]; exact ((hw.drop (List.nil_sublist _)).f0).nilRow _ _⟩
    ·try simp only [vN_T, vN_F, nmE_T, nmE_F, wI_T, wI_F, data_T, data_F, ino_T, ino_F, notT, notF, bneT, bneF, beqT, beqF, decT, decF] at h4
     have hn249 : svN l ≤ 249 := by omega
     have hl4 : 24 + 4 * svN l ≤ l.length := by omega
     refine At.skipC (At.thenN (tR (tM rfl rfl ?_)))
     refine tV (Val.build (fun a ha => by simp only [List.map_toArray, List.map_cons, List.map_nil, ha.eval (x := (.tmp 41)) rfl] <;> rfl) (bld_44_0 _ )) rfl (At.alloc Tryz.zeroValue44 rfl rfl (fun b5 => (At.storeAll (i := 0) Tryz.sizeOf44 rfl rfl rfl (by simp [Value.oneCell']) rfl rfl ?_)))
     simp only [sc0, scS]
     refine tE (At.seq (tR (tA rfl rfl (At.nil (At.rowNilS 64 (At.thenN (At.block ?_)))))))
     skip
     refine At.loop (σ := Nat × Value) (fun s => s.1 ≤ svN l) (fun s => [(0, v), (2, .pointer (some ⟨b1, 0, none⟩)), (6, .int .u32 (svN l : Int)), (8, .pointer (some ⟨b5, 0, none⟩)), (9, .int .i64 (s.1 : Int))]) (fun s => [srow 64 s.2 (spRec l s.1), blk b5 44 [b32 (svT l), s.2], blk b1 44 [.int .u32 0, .slice none 0 0]]) (fun s => svN l - s.1) (0, .slice none 0 0) (Nat.zero_le _) (Sub.cons rfl (Sub.cons rfl (Sub.cons rfl (Sub.cons rfl (Sub.cons rfl Sub.nil))))) (List.Perm.refl _) ?_
     intro s hs
     obtain ⟨k, vk⟩ := s
     dsimp only at hs ⊢
     have hn2 := num_lt (l := l) (24 + 4 * k) 2
     have hn3 := num_lt (l := l) (24 + 4 * k + 2) 2
     refine At.seq (tR (tM rfl rfl (tM rfl rfl ?_)))
     first | refine tV (Val.toI Tryz.underlying41 Tryz.underlying3 rfl (by omega) (by omega)) rfl ?_ | refine tV (Val.conv Tryz.underlying41 Tryz.underlying3 rfl) rfl ?_
     refine tV (Val.bin rfl rfl rfl) rfl (tE ?_)
     refine At.cond rfl (fun h6 => ?_) (fun h6 => ?_)
     ·try simp only [vN_T, vN_F, nmE_T, nmE_F, wI_T, wI_F, data_T, data_F, ino_T, ino_F, notT, notF, bneT, bneF, beqT, beqF, decT, decF] at h6
      have hk : k < svN l := by omega
      refine At.skipC (At.thenN (At.seq (At.block (tR (tM rfl rfl (tM rfl rfl ?_))))))
      first | refine tV (Val.mulI rfl rfl (by omega) (by omega)) rfl ?_ | refine tV (Val.bin rfl rfl rfl) rfl ?_
      refine tV (Val.addI rfl rfl (by omega) (by omega)) rfl ?_
      rw [show (24 : Int) + 4 * (k : Int) = ((24 + 4 * k : Nat) : Int) from by omega]
      refine At.callP (fun w hw => halfS_p v l (24 + 4 * k) w (hv.mod hw.mod) hlen (by omega)) Tryz.call113 rfl rfl (tM rfl rfl (tV (Val.extract rfl rfl) rfl (tV (Val.extract rfl rfl) rfl (tA rfl rfl (tA rfl rfl (tE (At.region (tV (Val.field 1 rfl fo_44_1 rfl) rfl (tV (Val.load (i := 1) Tryz.isAgg42 rfl rfl rfl) rfl (tM rfl rfl ?_))))))))))
      first | refine tV (Val.remI rfl rfl (by omega) (by decide)) rfl ?_ | refine tV (Val.rem rfl rfl (by decide)) rfl ?_
      refine tV (Val.toI Tryz.underlying41 Tryz.underlying3 rfl (by omega) (by omega)) rfl ?_
      rw [show ((num l (24 + 4 * k) 4 : Nat) : Int) % 65536 = ((num l (24 + 4 * k) 2 : Nat) : Int) from by have := (num4_div (l := l) (a := 24 + 4 * k) (by omega)).1; omega]
      refine tM rfl rfl (tV (Val.quo rfl rfl (by decide)) rfl ?_)
      rw [show IntKind.u32.wrap (((num l (24 + 4 * k) 4 : Nat) : Int).tdiv 65536) = ((num l (24 + 4 * k + 2) 2 : Nat) : Int) from by rw [Int.tdiv_eq_ediv_of_nonneg (by omega)]; have h9 := (num4_div (l := l) (a := 24 + 4 * k) (by omega)).2; rw [wrap_u32 (by omega) (by omega)]; omega]
      first | refine tV (Val.toI Tryz.underlying41 Tryz.underlying3 rfl (by omega) (by omega)) rfl ?_ | refine tV (Val.conv Tryz.underlying41 Tryz.underlying3 rfl) rfl ?_
      refine tV (Val.build (fun a ha => by simp only [List.map_toArray, List.map_cons, List.map_nil, ha.eval (x := (.tmp 61)) rfl, ha.eval (x := (.tmp 64)) rfl] <;> rfl) (bld_64_0_1 _ _ )) rfl (At.buildSl (fun a ha => by simp only [List.map_toArray, List.map_cons, List.map_nil, ha.eval (x := (.tmp 65)) rfl]; try rfl) (bs_42_1 _ _ ) rfl (fun b7 => ?_))
      refine At.appendS1 (i := 1) (j := 0) (by_ := 16) Tryz.underlying42 info_64 rfl rfl rfl rfl rfl rfl rfl rfl (by rw [spRec_length]; omega) (by rw [spRec_length]; omega) rfl (fun v8 => ?_)
      simp only [sc0, scS]
      refine At.drop 0 ?_
      simp only [ec0, ecS]
      refine tV (Val.field 1 rfl fo_44_1 rfl) rfl (At.rowOne (i := 0) rfl (fun ho9 => (At.store (i := 1) Tryz.sizeOf42 rfl rfl ho9 rfl (by first | decide | simp) ?_)))
      simp only [sc0, scS]
      refine At.nil (At.blkN (At.thenN (At.region (tM rfl rfl ?_))))
      first | refine tV (Val.addI rfl rfl (by omega) (by omega)) rfl ?_ | refine tV (Val.bin rfl rfl rfl) rfl ?_
      refine tA rfl rfl (tE ?_)
      exact At.again (k + 1, v8) (show k + 1 ≤ _ by omega) (by dsimp only; omega) (Sub.cons rfl (Sub.cons rfl (Sub.cons rfl (Sub.cons rfl (Sub.cons (congrArg (fun z => some (Value.int IntKind.i64 z)) (by omega)) Sub.nil))))) (by rw [spRec_succ])
     ·try simp only [vN_T, vN_F, nmE_T, nmE_F, wI_T, wI_F, data_T, data_F, ino_T, ino_F, notT, notF, bneT, bneF, beqT, beqF, decT, decF] at h6
      obtain rfl : k = svN l := by omega
      refine At.exitC (At.thenX (At.thenX (At.blkX (At.thenN (tR (tV (Val.loadAll (i := 1) Tryz.isAgg44 Tryz.sizeOf44 rfl rfl rfl) rfl ?_))))))
      refine At.callNT (g := (fun v => .tuple #[v, .int .i64 (svE (svT l) (spRec l (svN l)))])) (fun w hw => packSvR_n (svT l) _ (spRec l (svN l)) w (row_rd (hw.row (i := 0) rfl) (by decide)) (by rw [spRec_length]; omega)) Tryz.call48 rfl rfl (fun v10 => ?_)
      by_cases hg : GoodSv (svT l) (spRec l (svN l))
      ·rw [svE_T hg]
       have hpl : (svP (svT l) (spRec l (svN l))).length = 24 + 4 * svN l + 4 * (svN l % 2) := by rw [svP_T hg, svB_length, spRec_length]
       refine tM rfl rfl (tV (Val.extract rfl rfl) rfl (tV (Val.extract rfl rfl) rfl (tA rfl rfl (tA rfl rfl (tE (At.seq (tR (tM rfl rfl (tV (Val.bin rfl rfl rfl) rfl (tE (At.condF rfl (At.skipC (At.thenN (At.seq (tR (tA rfl rfl (tE (At.block ?_))))))))))))))))))
       skip
       refine At.loop (σ := Nat) (fun k => k ≤ 24 + 4 * svN l ∧ ∀ i, i < k → (svP (svT l) (spRec l (svN l)))[i]? = l[i]?) (fun k => [(0, v), (2, .pointer (some ⟨b1, 0, none⟩)), (6, .int .u32 (svN l : Int)), (8, .pointer (some ⟨b5, 0, none⟩)), (12, v10), (14, .int .i64 (k : Int))]) (fun k => [rowR v10 5 1 ((svP (svT l) (spRec l (svN l))).length) ((svP (svT l) (spRec l (svN l))).map bv), rowR vk 64 2 (((spRec l (svN l))).length) (prS ((spRec l (svN l)))), blk b5 44 ([b32 (svT l), vk]), blk b1 44 ([.int .u32 0, .slice none 0 0])]) (fun k => 24 + 4 * svN l - k) 0 ⟨Nat.zero_le _, fun i h => absurd h (Nat.not_lt_zero _)⟩ (Sub.cons rfl (Sub.cons rfl (Sub.cons rfl (Sub.cons rfl (Sub.cons rfl (Sub.cons rfl Sub.nil)))))) (List.Perm.refl _) ?_
       intro k hs
       refine At.seq (tR (tM rfl rfl (tM rfl rfl ?_)))
       first | refine tV (Val.toI Tryz.underlying41 Tryz.underlying3 rfl (by omega) (by omega)) rfl ?_ | refine tV (Val.conv Tryz.underlying41 Tryz.underlying3 rfl) rfl ?_
       first | refine tV (Val.mulI rfl rfl (by omega) (by omega)) rfl ?_ | refine tV (Val.bin rfl rfl rfl) rfl ?_
       first | refine tV (Val.addI rfl rfl (by omega) (by omega)) rfl ?_ | refine tV (Val.bin rfl rfl rfl) rfl ?_
       refine tV (Val.bin rfl rfl rfl) rfl (tE ?_)
       refine At.cond rfl (fun h11 => ?_) (fun h11 => ?_)
       ·try simp only [vN_T, vN_F, nmE_T, nmE_F, wI_T, wI_F, data_T, data_F, ino_T, ino_F, notT, notF, bneT, bneF, beqT, beqF, decT, decF] at h11
        have hk : k < 24 + 4 * svN l := by omega
        refine At.skipC (At.thenN (At.seq (At.block (At.seq (At.quiet rfl (by decide +kernel) (qM rfl rfl (qM rfl rfl (QAt.idxRowB (i := 0) rfl Tryz.underlying45 Tryz.sizeOf5 rfl rfl (by omega) (by omega) rfl rfl (fun q12 hq13 hl14 => (qV (Val.loadRowB (i := 0) Tryz.isAgg5 rfl rfl hq13) rfl (qM rfl rfl (qM rfl rfl (QAt.idxB hv Tryz.underlying45 Tryz.sizeOf5 rfl rfl (by omega) (by omega) rfl rfl (fun b15 o16 q17 hq18 hl19 hc20 => (qV (Val.loadOld Tryz.isAgg5 rfl hc20 (fun h => h)) rfl (qV (Val.bin rfl rfl rfl) rfl (QAt.fin (At.thenN ?_))))))))))))))))))
        refine At.cond rfl (fun h21 => ?_) (fun h21 => ?_)
        ·try simp only [vN_T, vN_F, nmE_T, nmE_F, wI_T, wI_F, data_T, data_F, ino_T, ino_F, notT, notF, bneT, bneF, beqT, beqF, decT, decF] at h21
         refine tR ?_
         refine tV (Val.build (fun a ha => by simp only [List.map_toArray, List.map_cons, List.map_nil] <;> rfl) (bld_44_)) rfl (At.storeAll (i := 3) Tryz.sizeOf44 rfl rfl rfl (by simp [Value.oneCell']) rfl rfl ?_)
         simp only [sc0, scS]
         refine tA rfl rfl (tE (At.retC (At.blkR (At.thenR (At.thenR (At.blkR (At.thenR (At.ret2 (.inl rfl) rfl rfl (ResOf.all (i := 3) Tryz.isAgg44 Tryz.sizeOf44 rfl rfl rfl) rfl (fun w hw => ?_)))))))))
         have hno : ¬ OkSv l := fun h => cmpV_ne hq13 hq18 (by assumption) (sv_same h (by omega))
         exact ⟨.slice none 0 0, by rw [oE_no hno, oT_no hno]; try rfl, by rw [oL_no hno]; exact ((hw.drop (List.nil_sublist _)).f0).nilRow _ _⟩
        ·try simp only [vN_T, vN_F, nmE_T, nmE_F, wI_T, wI_F, data_T, data_F, ino_T, ino_F, notT, notF, bneT, bneF, beqT, beqF, decT, decF] at h21
         refine At.skipC (At.blkN (At.thenN (At.region (tM rfl rfl ?_))))
         first | refine tV (Val.addI rfl rfl (by omega) (by omega)) rfl ?_ | refine tV (Val.bin rfl rfl rfl) rfl ?_
         refine tA rfl rfl (tE ?_)
         exact At.again (k + 1) ⟨by omega, fun i hi => by rcases Nat.lt_or_ge i k with h' | h'; exact hs.2 i h'; obtain rfl : k = i := (by omega); exact cmpV_eq hq13 hq18 (by omega)⟩ (by omega) (Sub.cons rfl (Sub.cons rfl (Sub.cons rfl (Sub.cons rfl (Sub.cons rfl (Sub.cons (congrArg (fun z => some (Value.int IntKind.i64 z)) (by omega)) Sub.nil)))))) (List.Perm.refl _)
       ·try simp only [vN_T, vN_F, nmE_T, nmE_F, wI_T, wI_F, data_T, data_F, ino_T, ino_F, notT, notF, bneT, bneF, beqT, beqF, decT, decF] at h11
        obtain rfl : k = 24 + 4 * svN l := by omega
        refine At.exitC (At.thenX (At.thenX (At.blkX (At.thenN (At.seq (At.rowOne (i := 1) rfl (fun ho => (At.region (tV (Val.loadAll (i := 2) Tryz.isAgg44 Tryz.sizeOf44 rfl rfl rfl) rfl ?_)))))))))
        refine At.storeAll (i := 3) Tryz.sizeOf44 rfl rfl rfl (by intro u hu; rcases List.mem_cons.1 hu with rfl | hu; rfl; obtain rfl := List.mem_singleton.1 hu; exact ho) rfl rfl ?_
        simp only [sc0, scS]
        refine tA rfl rfl (tE (At.retC (At.ret2 (.inl rfl) rfl rfl (ResOf.all (i := 3) Tryz.isAgg44 Tryz.sizeOf44 rfl rfl rfl) rfl (fun w hw => ?_))))
        have hok : OkSv l := sv_back h24 hn249 hl4 hg hs.2
        exact ⟨vk, by rw [oE_yes hok, oT_yes hok]; try rfl, by rw [oL_yes hok]; exact (hw.drop (List.singleton_sublist.2 (List.mem_of_getElem? (i := 1) rfl))).f0⟩
      ·rw [svE_F hg]
       have hno : ¬ OkSv l := fun h => hg h.2.2.2.2.2.2
       refine tM rfl rfl (tV (Val.extract rfl rfl) rfl (tV (Val.extract rfl rfl) rfl (tA rfl rfl (tA rfl rfl (tE (At.seq (tR (tM rfl rfl (tV (Val.bin rfl rfl rfl) rfl (tE (At.condT rfl (tR ?_))))))))))))
       refine tV (Val.build (fun a ha => by simp only [List.map_toArray, List.map_cons, List.map_nil] <;> rfl) (bld_44_)) rfl (At.storeAll (i := 3) Tryz.sizeOf44 rfl rfl rfl (by simp [Value.oneCell']) rfl rfl ?_)
       simp only [sc0, scS]
       refine tA rfl rfl (tE (At.retC (At.thenR (At.ret2 (.inl rfl) rfl rfl (ResOf.all (i := 3) Tryz.isAgg44 Tryz.sizeOf44 rfl rfl rfl) rfl (fun w hw => ?_)))))
       exact ⟨.slice none 0 0, by rw [oE_no hno, oT_no hno]; try rfl, by rw [oL_no hno]; exact ((hw.drop (List.nil_sublist _)).f0).nilRow _ _⟩
end Go.Proofs.YthdmlpjhcalliaaGreatDoor
namespace Go.Proofs.YthdmlpjhcalliaaGreatDoor
open Go Go.Wk
theorem packB_le (L : List (Int × BitVec 64)) : (packB L).length ≤ 192 := by
  by_cases h : GoodUn L
  · rw [packB_T h, undoB_length]; have := h.2.1; omega
  · rw [packB_F h]; decide
theorem openUnL_le (l : List UInt8) : (openUnL l).length ≤ 8 := by
  by_cases h : OkUn l
  · rw [openUnL_yes h, recs_length]; by_cases h0 : unN l = 0; omega; exact (h.two h0).1
  · rw [openUnL_no h]; decide
theorem svP_le (t : BitVec 32) (L : List (Int × Int)) : (svP t L).length ≤ 2000 := by
  by_cases h : GoodSv t L
  · rw [svP_T h, svB_length]; have := h.2.1; omega
  · rw [svP_F h]; decide
theorem oL_le (l : List UInt8) : (oL l).length ≤ 249 := by
  by_cases h : OkSv l
  · rw [oL_yes h, spRec_length]; exact h.2.2.2.1
  · rw [oL_no h]; decide
theorem sameV_eq (v u : Value) (l m : List UInt8) (w : World) (hv : RdB w v l) (hu : RdB w u m) (hl : l.length ≤ 140737488355328) (e : l = m) : PureC Tryz.prog 26 [v, u] (.bool true) w := by
  subst e
  have := sameBytes_p v u l l w hv hu hl hl; rwa [decide_eq_true rfl] at this
theorem tab_modS {w w' : World} {S : Nat → Prop} (h : Tab w) (hm : Mod S w w') (h0 : ¬ S 0) : Tab w' := fun i hi => by
  have hc := h i hi
  have := hm.old 0 (block_lt_of_cell hc) h0
  unfold World.cell? at *
  rw [this]; exact hc
theorem RdP.cut0 {w : World} {A : Option Addr} {c n : Nat} {L M : List (Int × BitVec 64)} (hr : Rd w (.slice A n c) 2 n (prC (L ++ M))) (h2 : L.length ≤ n) : RdP w (.slice (cutA A c 0 2) (L.length - 0) (c - 0)) L := by
  have := Rd.cut hr (Nat.zero_le L.length) h2
  simp only [Nat.zero_mul, List.drop_zero, Nat.sub_zero] at this ⊢
  rw [prC_append, List.take_left' (by rw [prC_length])] at this
  exact this
theorem RdS.cut0 {w : World} {A : Option Addr} {c n : Nat} {L M : List (Int × Int)} (hr : Rd w (.slice A n c) 2 n (prS (L ++ M))) (h2 : L.length ≤ n) : RdS w (.slice (cutA A c 0 2) (L.length - 0) (c - 0)) L := by
  have := Rd.cut hr (Nat.zero_le L.length) h2
  simp only [Nat.zero_mul, List.drop_zero, Nat.sub_zero] at this ⊢
  rw [prS_append, List.take_left' (by rw [prS_length])] at this
  exact this
theorem RdB.cut0 {w : World} {A : Option Addr} {c n : Nat} {L M : List UInt8} (hr : Rd w (.slice A n c) 1 n ((L ++ M).map bv)) (h2 : L.length ≤ n) : RdB w (.slice (cutA A c 0 1) (L.length - 0) (c - 0)) L := by
  have := Rd.cut hr (Nat.zero_le L.length) h2
  simp only [Nat.zero_mul, List.drop_zero, Nat.sub_zero, Nat.mul_one, List.map_append] at this ⊢
  rw [List.take_left' (by rw [List.length_map])] at this
  exact this
structure OpL where
  kd : Int
  ino : Int
  sp : Int
  si : Int
  sc : Int
  sk : Int
  sl : Int
  sh : Int
  st : Int
  w0 : BitVec 64
  w1 : BitVec 64
  w2 : BitVec 64
  ek : Int
  eq : BitVec 64
  eo : Int
  ec : Int
  ep : Int
  ez : Int
  ei : Int
  es : ByteArray
  L : { l : List UInt8 // l.length = 64 }
  vU : Value
  LU : List (Int × BitVec 64)
  rt : BitVec 32
  vS : Value
  LS : List (Int × Int)
  vB : Value
  lB : List UInt8
  hn : Int
  ho : Int
  nm : ByteArray
def opA (o : OpL) : List Value := [.int .i64 o.kd, .int .i64 o.ino, .int .i64 o.sp, .int .i64 o.si, .int .i64 o.sc, .int .i64 o.sk, .int .i64 o.sl, .int .i64 o.sh, .int .i64 o.st, b64 o.w0, b64 o.w1, b64 o.w2, .int .i64 o.ek, b64 o.eq, .int .i64 o.eo, .int .i64 o.ec, .int .i64 o.ep, .int .i64 o.ez, .int .i64 o.ei, .string o.es]
def opZ (o : OpL) : List Value := [o.vU, b32 o.rt, o.vS, o.vB, .int .i64 o.hn, .int .i64 o.ho, .string o.nm]
def opL (o : OpL) : List Value := opA o ++ (o.L.1.map bv ++ opZ o)
structure OpOk (w : World) (o : OpL) : Prop where
  l64 : o.L.1.length = 64
  u : RdP w o.vU o.LU
  s : RdS w o.vS o.LS
  b : RdB w o.vB o.lB
  ul : o.LU.length ≤ 8796093022144
  sl : o.LS.length ≤ 8796093022144
  bl : o.lB.length ≤ 140737488351232
  ub : ∀ c ∈ o.LU, -9223372036854775808 ≤ c.1 ∧ c.1 ≤ 9223372036854775807
  sp : -9223372036854775808 ≤ o.sp ∧ o.sp ≤ 9223372036854775807
  st : -9223372036854775808 ≤ o.st ∧ o.st ≤ 9223372036854775807
  ep : -9223372036854775808 ≤ o.ep ∧ o.ep ≤ 9223372036854775807
  es : o.es.size ≤ 9223372036854775807
  nm : o.nm.size ≤ 9223372036854775807
structure OpOff (o : OpL) (T : Nat → Prop) : Prop where
  u : Off o.vU (prC o.LU) T
  s : Off o.vS (prS o.LS) T
  b : Off o.vB (o.lB.map bv) T
theorem OpOk.keep {w0 w : World} {o : OpL} {T : Nat → Prop} {H : List Res} (h : OpOk w0 o) (hw : Rep w0 T H w) (ho : OpOff o T) : OpOk w o := ⟨h.l64, h.u.keep hw ho.u, h.s.keep hw ho.s, h.b.keep hw ho.b, h.ul, h.sl, h.bl, h.ub, h.sp, h.st, h.ep, h.es, h.nm⟩
theorem opL_len {o : OpL} (h : o.L.1.length = 64) : (opL o).length = 91 := by unfold opL; rw [List.length_append, List.length_append, List.length_map, h]; rfl
theorem opL_lo {o : OpL} {j : Nat} {u : Value} (h : (opA o)[j]? = some u) : (opL o)[j]? = some u := by unfold opL; rw [List.getElem?_append_left (List.getElem?_eq_some_iff.1 h).1]; exact h
theorem opL_hi {o : OpL} (hl : o.L.1.length = 64) {j q : Nat} {u : Value} (h : (opZ o)[j]? = some u) (hq : q = 84 + j := by rfl) : (opL o)[q]? = some u := by
  subst hq
  have ha : (opA o).length = 20 := rfl
  unfold opL
  rw [List.getElem?_append_right (by omega), ha, List.getElem?_append_right (by rw [List.length_map, hl]; omega), List.length_map, hl, show 84 + j - 20 - 64 = j by omega]; exact h
theorem opL_R {o : OpL} (hl : o.L.1.length = 64) : ((opL o).drop 85).take 2 = [b32 o.rt, o.vS] := by
  apply List.ext_getElem?
  intro j
  rw [List.getElem?_take]
  split
  · rename_i hj
    rw [List.getElem?_drop]
    match j, hj with
    | 0, _ => exact opL_hi hl (j := 1) rfl
    | 1, _ => exact opL_hi hl (j := 2) rfl
  · rename_i hj; rw [List.getElem?_eq_none (by simpa using hj)]
theorem opens_g (k : Nat) (S : Bk) (o : OpL) (w : World) (htab : Tab w) (h0 : ¬ feet [bookR k S] 0) (hop : OpOk w o) (hoff : OpOff o (feet [bookR k S])) (hc : S.cnt < 200) (hd : (bookR k S).holds w) :
    GU Tryz.prog 50 [.pointer (some ⟨k, 0, none⟩), .agg (opL o).toArray] (bookR k S) (fun _ => .bool true) (fun y => bookR k y) (fun y => S.cnt ≤ y.cnt ∧ y.cnt ≤ S.cnt + 1) w := by
 refine enter (feet [bookR k S]) [bookR k S] Tryz.func50 rfl Tryz.ntmps50 rfl (Rep.one hd) ?_
 have hbl := hop.bl
 have hul := hop.ul
 have hsl := hop.sl
 simp only [envOf]
 refine tR (At.box (vs := opL o) rfl rfl rfl (fun b1 => (tA rfl rfl (tE (tR (tV (Val.field 87 rfl fo_49_9 rfl) rfl (tV (Val.load (i := 0) Tryz.isAgg45 rfl rfl (opL_hi hop.l64 (j := 3) rfl)) rfl (tV (Val.lenRd hop.b Tryz.underlying45 rfl) rfl (tA rfl rfl (tE (tR (tV (Val.field 87 rfl fo_49_9 rfl) rfl (tV (Val.load (i := 0) Tryz.isAgg45 rfl rfl (opL_hi hop.l64 (j := 3) rfl)) rfl (At.callN (fun w hw => copyBytes_n _ o.lB w (hop.b.keep hw hoff.b) (by omega)) Tryz.call23 rfl rfl (fun v2 => (At.buildSl (fun a ha => by simp only [List.map_toArray, List.map_cons, List.map_nil, ha.eval (x := (.const (.int .u8 (5)))) rfl, ha.eval (x := (.const (.int .u8 (6)))) rfl]; try rfl) (bs_45_2 _ _ ) rfl (fun b3 => (At.append (i := 1) (sz := 1) (by_ := 1) (ys := [bv 5, bv 6]) Tryz.underlying45 info_5 rfl rfl rfl rfl rfl rfl rfl rfl rfl (fun w hw j u hj => by rw [Nat.zero_add]; exact ((hw.blk (i := 0) rfl).cell j).trans hj) (by simp [Value.oneCell', bv, prC, prS, b64]) (by omega) (by omega) rfl (fun v4 => ?_)))))))))))))))))))
 simp only [sc0, scS]
 refine At.drop 0 ?_
 simp only [ec0, ecS]
 refine At.rowAs 0 (n' := o.lB.length + 2) (xs' := (o.lB ++ [5, 6]).map bv) rfl rfl (by first | rw [prC_append] | rw [prS_append] | rw [List.map_append]; rfl) ?_
 simp only [sc0, scS]
 refine At.rowIs (i := 0) rfl (fun Ap cp hv => ?_)
 subst hv
 refine tA rfl rfl (tE (At.seq (tR (tV (Val.field 0 rfl fo_49_0 rfl) rfl (tV (Val.load (i := 1) Tryz.isAgg3 rfl rfl (opL_lo (j := 0) rfl)) rfl (tV (Val.bin rfl rfl rfl) rfl (tE ?_)))))))
 refine At.cond rfl (fun h5 => ?_) (fun h5 => ?_)
 ·try simp only [sB] at h5
  refine tR (tM rfl rfl (tM rfl rfl (tV (Val.cutRow (i := 0) (l := 0) (h := o.lB.length) rfl (by decide) Tryz.underlying45 Tryz.sizeOf5 rfl (by exact rfl) (by exact ⟨_, _, rfl, by omega, by omega⟩) (by omega) (by omega)) rfl (At.callNT (g := (fun v => .tuple #[v, .int .i64 (openUnE o.lB)])) (fun w hw => openUn_n _ o.lB w (tab_modS htab hw.mod h0) (RdB.cut0 (row_rd (hw.row (i := 0) rfl) (by decide)) (by omega)) (by omega)) Tryz.call93 rfl rfl (fun v6 => (tM rfl rfl (tV (Val.extract rfl rfl) rfl (tV (Val.extract rfl rfl) rfl (tA rfl rfl (tA rfl rfl (tE (tR (tV (Val.field 87 rfl fo_49_9 rfl) rfl (tV (Val.load (i := 2) Tryz.isAgg45 rfl rfl (opL_hi hop.l64 (j := 3) rfl)) rfl (At.callNT (g := (fun v => .tuple #[v, .int .i64 (openUnE o.lB)])) (fun w hw => openUnR_n _ o.lB w (hop.b.keep hw hoff.b) (by omega)) Tryz.call94 rfl rfl (fun v7 => (tM rfl rfl (tV (Val.extract rfl rfl) rfl (tV (Val.extract rfl rfl) rfl (tA rfl rfl (tA rfl rfl (tE (At.seq (tR (tM rfl rfl (tM rfl rfl (tV (Val.bin rfl rfl rfl) rfl ?_)))))))))))))))))))))))))))
  rw [show (openUnE o.lB != openUnE o.lB) = false from bne_self_eq_false _]
  refine tM rfl rfl (At.yes rfl rfl (tM rfl rfl (At.yes rfl rfl (tM rfl rfl (At.yes rfl rfl ?_)))))
  refine At.callP (fun w hw => sameUn_p _ _ (openUnL o.lB) w (row_rd (hw.row (i := 1) rfl) (by decide)) (row_rd (hw.row (i := 0) rfl) (by decide)) (by have := openUnL_le o.lB; omega)) Tryz.call44 rfl rfl (At.yes rfl rfl (tV (Val.not rfl) rfl (tV (Val.pickF rfl rfl) rfl (tE (At.condF rfl (At.skipC (At.thenN (At.region (tM rfl rfl (tM rfl rfl (At.shutTwo 4 1 rfl rfl ?_)))))))))))
  simp only [ec0, ecS]
  refine At.callG 0 rfl (fun w hw hr => keepU_g k S _ (openUnL o.lB) w (by have := openUnL_le o.lB; omega) hc hr) Tryz.call95 rfl rfl (fun y9 hy9 => ?_)
  simp only [sc0, scS]
  refine tE (At.seq (At.quiet rfl (by decide +kernel) (qM rfl rfl (qM rfl rfl (qV (Val.cutRow (i := 2) (l := 0) (h := o.lB.length) rfl (by decide) Tryz.underlying45 Tryz.sizeOf5 rfl (by exact rfl) (by exact ⟨_, _, rfl, by omega, by omega⟩) (by omega) (by omega)) rfl (qV (Val.field 87 rfl fo_49_9 rfl) rfl (qV (Val.load (i := 3) Tryz.isAgg45 rfl rfl (opL_hi hop.l64 (j := 3) rfl)) rfl (QAt.callP (fun w hw => sameV_eq _ _ o.lB o.lB w (RdB.cut0 (row_rd (hw.row (i := 2) rfl) (by decide)) (by omega)) (hop.b.keep hw hoff.b) (by omega) rfl) Tryz.call26 rfl rfl (qM rfl rfl (QAt.yes rfl rfl (qM rfl rfl (QAt.yes rfl rfl (qM rfl rfl (QAt.yes rfl rfl (qV (Val.indexRow (i := 2) (o.lB.length) (by omega) Tryz.underlying45 Tryz.sizeOf5 rfl rfl rfl (by omega) (by omega)) rfl (QAt.yes rfl rfl ?_))))))))))))))))
  refine qV (Val.loadRow (i := 2) (u := bv 5) Tryz.isAgg5 rfl rfl (by rw [List.getElem?_map, List.getElem?_append_right (by omega), show o.lB.length - o.lB.length = 0 from by omega]; rfl)) rfl ?_
  refine QAt.yes rfl rfl (qV (Val.bin rfl rfl rfl) rfl ?_)
  rw [show (((5 : UInt8).toNat : Int) == 5) = true from rfl]
  refine qV (Val.pickT rfl rfl) rfl (qM rfl rfl (QAt.yes rfl rfl (qM rfl rfl (QAt.yes rfl rfl (qM rfl rfl (QAt.yes rfl rfl ?_))))))
  first | refine qV (Val.addI rfl rfl (by omega) (by omega)) rfl ?_ | refine qV (Val.bin rfl rfl rfl) rfl ?_
  refine QAt.yes rfl rfl (qV (Val.indexRow (i := 2) (o.lB.length + 1) (by omega) Tryz.underlying45 Tryz.sizeOf5 rfl rfl rfl (by omega) (by omega)) rfl (QAt.yes rfl rfl ?_))
  refine qV (Val.loadRow (i := 2) (u := bv 6) Tryz.isAgg5 rfl rfl (by rw [List.getElem?_map, List.getElem?_append_right (by omega), show o.lB.length + 1 - o.lB.length = 1 from by omega]; rfl)) rfl ?_
  refine QAt.yes rfl rfl (qV (Val.bin rfl rfl rfl) rfl ?_)
  rw [show (((6 : UInt8).toNat : Int) == 6) = true from rfl]
  refine qV (Val.pickT rfl rfl) rfl (qV (Val.assign rfl) rfl (QAt.fin (At.thenN (At.retC (At.ret1 (.inl rfl) rfl rfl rfl (fun w hw => ?_))))))
  exact ⟨y9, rfl, by omega, (hw.drop (List.singleton_sublist.2 (List.mem_of_getElem? (i := 0) rfl)))⟩
 ·try simp only [sB] at h5
  refine tR (tM rfl rfl (tM rfl rfl (tV (Val.cutRow (i := 0) (l := 0) (h := o.lB.length) rfl (by decide) Tryz.underlying45 Tryz.sizeOf5 rfl (by exact rfl) (by exact ⟨_, _, rfl, by omega, by omega⟩) (by omega) (by omega)) rfl (At.callNT (g := (fun v => .tuple #[.agg #[b32 (oT o.lB), v], .int .i64 (oE o.lB)])) (fun w hw => openSv_n _ o.lB w (tab_modS htab hw.mod h0) (RdB.cut0 (row_rd (hw.row (i := 0) rfl) (by decide)) (by omega)) (by omega)) Tryz.call96 rfl rfl (fun v8 => (tM rfl rfl (tV (Val.extract rfl rfl) rfl (tV (Val.extract rfl rfl) rfl (At.alloc Tryz.zeroValue44 rfl rfl (fun b9 => (At.rowOne (i := 1) rfl (fun ho10 => ?_))))))))))))
  refine At.storeAll (i := 0) Tryz.sizeOf44 rfl rfl rfl (by intro u hu; simp only [List.mem_cons, List.not_mem_nil, or_false] at hu; rcases hu with rfl | rfl <;> first | rfl | assumption) rfl rfl ?_
  simp only [sc0, scS]
  refine tA rfl rfl (tE (tR (tV (Val.field 87 rfl fo_49_9 rfl) rfl (tV (Val.load (i := 3) Tryz.isAgg45 rfl rfl (opL_hi hop.l64 (j := 3) rfl)) rfl (At.callNT (g := (fun v => .tuple #[.agg #[b32 (oT o.lB), v], .int .i64 (oE o.lB)])) (fun w hw => openSvR_n _ o.lB w (hop.b.keep hw hoff.b) (by omega)) Tryz.call97 rfl rfl (fun v11 => (tM rfl rfl (tV (Val.extract rfl rfl) rfl (tV (Val.extract rfl rfl) rfl (At.alloc Tryz.zeroValue44 rfl rfl (fun b12 => (At.rowOne (i := 1) rfl (fun ho13 => ?_)))))))))))))
  refine At.storeAll (i := 0) Tryz.sizeOf44 rfl rfl rfl (by intro u hu; simp only [List.mem_cons, List.not_mem_nil, or_false] at hu; rcases hu with rfl | rfl <;> first | rfl | assumption) rfl rfl ?_
  simp only [sc0, scS]
  refine tA rfl rfl (tE (At.seq (tR (tM rfl rfl (tM rfl rfl (tV (Val.bin rfl rfl rfl) rfl ?_))))))
  rw [show (oE o.lB != oE o.lB) = false from bne_self_eq_false _]
  refine tM rfl rfl (At.yes rfl rfl (tV (Val.loadAll (i := 2) Tryz.isAgg44 Tryz.sizeOf44 rfl rfl rfl) rfl (At.yes rfl rfl (tV (Val.loadAll (i := 0) Tryz.isAgg44 Tryz.sizeOf44 rfl rfl rfl) rfl (At.yes rfl rfl ?_)))))
  refine At.callP (fun w hw => sameSv_p (oT o.lB) _ _ (oL o.lB) w (row_rd (hw.row (i := 3) rfl) (by decide)) (row_rd (hw.row (i := 1) rfl) (by decide)) (by have := oL_le o.lB; omega)) Tryz.call49 rfl rfl (At.yes rfl rfl (tV (Val.not rfl) rfl (tV (Val.pickF rfl rfl) rfl (tE (At.condF rfl (At.skipC (At.thenN (At.region (tM rfl rfl (tV (Val.field 1 rfl fo_44_1 rfl) rfl (tV (Val.load (i := 2) Tryz.isAgg42 rfl rfl rfl) rfl (At.shutTwo 6 3 rfl rfl ?_))))))))))))
  simp only [ec0, ecS]
  refine At.callG 0 rfl (fun w hw hr => keepP_g k S _ (oL o.lB) w (by have := oL_le o.lB; omega) hc hr) Tryz.call98 rfl rfl (fun y9 hy9 => ?_)
  simp only [sc0, scS]
  refine tE (At.seq (At.quiet rfl (by decide +kernel) (qM rfl rfl (qM rfl rfl (qV (Val.cutRow (i := 4) (l := 0) (h := o.lB.length) rfl (by decide) Tryz.underlying45 Tryz.sizeOf5 rfl (by exact rfl) (by exact ⟨_, _, rfl, by omega, by omega⟩) (by omega) (by omega)) rfl (qV (Val.field 87 rfl fo_49_9 rfl) rfl (qV (Val.load (i := 5) Tryz.isAgg45 rfl rfl (opL_hi hop.l64 (j := 3) rfl)) rfl (QAt.callP (fun w hw => sameV_eq _ _ o.lB o.lB w (RdB.cut0 (row_rd (hw.row (i := 4) rfl) (by decide)) (by omega)) (hop.b.keep hw hoff.b) (by omega) rfl) Tryz.call26 rfl rfl (qM rfl rfl (QAt.yes rfl rfl (qM rfl rfl (QAt.yes rfl rfl (qM rfl rfl (QAt.yes rfl rfl (qV (Val.indexRow (i := 4) (o.lB.length) (by omega) Tryz.underlying45 Tryz.sizeOf5 rfl rfl rfl (by omega) (by omega)) rfl (QAt.yes rfl rfl ?_))))))))))))))))
  refine qV (Val.loadRow (i := 4) (u := bv 5) Tryz.isAgg5 rfl rfl (by rw [List.getElem?_map, List.getElem?_append_right (by omega), show o.lB.length - o.lB.length = 0 from by omega]; rfl)) rfl ?_
  refine QAt.yes rfl rfl (qV (Val.bin rfl rfl rfl) rfl ?_)
  rw [show (((5 : UInt8).toNat : Int) == 5) = true from rfl]
  refine qV (Val.pickT rfl rfl) rfl (qM rfl rfl (QAt.yes rfl rfl (qM rfl rfl (QAt.yes rfl rfl (qM rfl rfl (QAt.yes rfl rfl ?_))))))
  first | refine qV (Val.addI rfl rfl (by omega) (by omega)) rfl ?_ | refine qV (Val.bin rfl rfl rfl) rfl ?_
  refine QAt.yes rfl rfl (qV (Val.indexRow (i := 4) (o.lB.length + 1) (by omega) Tryz.underlying45 Tryz.sizeOf5 rfl rfl rfl (by omega) (by omega)) rfl (QAt.yes rfl rfl ?_))
  refine qV (Val.loadRow (i := 4) (u := bv 6) Tryz.isAgg5 rfl rfl (by rw [List.getElem?_map, List.getElem?_append_right (by omega), show o.lB.length + 1 - o.lB.length = 1 from by omega]; rfl)) rfl ?_
  refine QAt.yes rfl rfl (qV (Val.bin rfl rfl rfl) rfl ?_)
  rw [show (((6 : UInt8).toNat : Int) == 6) = true from rfl]
  refine qV (Val.pickT rfl rfl) rfl (qV (Val.assign rfl) rfl (QAt.fin (At.thenN (At.retC (At.ret1 (.inl rfl) rfl rfl rfl (fun w hw => ?_))))))
  exact ⟨y9, rfl, by omega, (hw.drop (List.singleton_sublist.2 (List.mem_of_getElem? (i := 0) rfl)))⟩
theorem lists_g (k : Nat) (S : Bk) (o : OpL) (w : World) (htab : Tab w) (h0 : ¬ feet [bookR k S] 0) (hop : OpOk w o) (hoff : OpOff o (feet [bookR k S])) (hc : S.cnt < 200) (hd : (bookR k S).holds w) :
    GU Tryz.prog 13 [.pointer (some ⟨k, 0, none⟩), .agg (opL o).toArray] (bookR k S) (fun _ => .bool true) (fun y => bookR k y) (fun y => S.cnt ≤ y.cnt ∧ y.cnt ≤ S.cnt + 1) w := by
 refine enter (feet [bookR k S]) [bookR k S] Tryz.func13 rfl Tryz.ntmps13 rfl (Rep.one hd) ?_
 have hbl := hop.bl
 have hul := hop.ul
 have hsl := hop.sl
 simp only [envOf]
 refine tR (At.box (vs := opL o) rfl rfl rfl (fun b1 => (tA rfl rfl (tE (At.seq (tR (tV (Val.field 0 rfl fo_49_0 rfl) rfl (tV (Val.load (i := 0) Tryz.isAgg3 rfl rfl (opL_lo (j := 0) rfl)) rfl (tE (At.block (tR (tV (Val.bin rfl rfl rfl) rfl (tA rfl rfl (tE ?_))))))))))))))
 refine At.cond rfl (fun h2 => ?_) (fun h2 => ?_)
 ·try simp only [sB] at h2
  refine tR (tV (Val.field 84 rfl fo_49_7 rfl) rfl (tV (Val.load (i := 0) Tryz.isAgg40 rfl rfl (opL_hi hop.l64 (j := 0) rfl)) rfl (tV (Val.lenRd hop.u Tryz.underlying40 rfl) rfl (tA rfl rfl (tE (tR (tV (Val.field 84 rfl fo_49_7 rfl) rfl (tV (Val.load (i := 0) Tryz.isAgg40 rfl rfl (opL_hi hop.l64 (j := 0) rfl)) rfl (At.callN (fun w hw => copyUn_n _ o.LU w (hop.u.keep hw hoff.u) hul) Tryz.call41 rfl rfl (fun v3 => ?_))))))))))
  refine tV (Val.build (fun a ha => by simp only [List.map_toArray, List.map_cons, List.map_nil, ha.eval (x := (.const (.int .i64 (5)))) rfl] <;> rfl) (bld_62_0 _ )) rfl ?_
  refine tV (Val.build (fun a ha => by simp only [List.map_toArray, List.map_cons, List.map_nil, ha.eval (x := (.const (.int .i64 (6)))) rfl] <;> rfl) (bld_62_0 _ )) rfl (At.buildSl (fun a ha => by simp only [List.map_toArray, List.map_cons, List.map_nil, ha.eval (x := (.tmp 28)) rfl, ha.eval (x := (.tmp 29)) rfl]; try rfl) (bs_40_2 _ _ _ _ ) rfl (fun b4 => (At.append (i := 1) (sz := 2) (by_ := 16) (ys := prC [(5, 0), (6, 0)]) Tryz.underlying40 info_62 rfl rfl rfl rfl rfl rfl rfl rfl rfl (fun w hw j u hj => by rw [Nat.zero_add]; exact ((hw.blk (i := 0) rfl).cell j).trans hj) (by simp [Value.oneCell', bv, prC, prS, b64]) (by omega) (by omega) rfl (fun v5 => ?_))))
  simp only [sc0, scS]
  refine At.drop 0 ?_
  simp only [ec0, ecS]
  refine At.rowAs 0 (n' := o.LU.length + 2) (xs' := prC (o.LU ++ [(5, 0), (6, 0)])) rfl rfl (by first | rw [prC_append] | rw [prS_append] | rw [List.map_append]; rfl) ?_
  simp only [sc0, scS]
  refine At.rowIs (i := 0) rfl (fun Ap cp hv => ?_)
  subst hv
  refine tA rfl rfl (tE (tR (tM rfl rfl (tM rfl rfl (tV (Val.cutRow (i := 0) (l := 0) (h := o.LU.length) rfl (by decide) Tryz.underlying40 Tryz.sizeOf62 rfl (by exact rfl) (by exact ⟨_, _, rfl, by omega, by omega⟩) (by omega) (by omega)) rfl (At.callNT (g := (fun v => .tuple #[v, .int .i64 (packE o.LU)])) (fun w hw => packUn_n _ o.LU w (tab_modS htab hw.mod h0) (RdP.cut0 (row_rd (hw.row (i := 0) rfl) (by decide)) (by omega)) (by omega) hop.ub) Tryz.call42 rfl rfl (fun v6 => (tM rfl rfl (tV (Val.extract rfl rfl) rfl (tV (Val.extract rfl rfl) rfl (tA rfl rfl (tA rfl rfl (tE (tR (tV (Val.field 84 rfl fo_49_7 rfl) rfl (tV (Val.load (i := 2) Tryz.isAgg40 rfl rfl (opL_hi hop.l64 (j := 0) rfl)) rfl (At.callNT (g := (fun v => .tuple #[v, .int .i64 (packE o.LU)])) (fun w hw => packUnR_n _ o.LU w (hop.u.keep hw hoff.u) (by omega)) Tryz.call43 rfl rfl (fun v7 => (tM rfl rfl (tV (Val.extract rfl rfl) rfl (tV (Val.extract rfl rfl) rfl (tA rfl rfl (tA rfl rfl (tE (At.seq (At.seq (At.quiet rfl (by decide +kernel) (qM rfl rfl (qM rfl rfl (qV (Val.bin rfl rfl rfl) rfl ?_))))))))))))))))))))))))))))))
  rw [show (packE o.LU != packE o.LU) = false from bne_self_eq_false _]
  refine qM rfl rfl (QAt.yes rfl rfl (qM rfl rfl (QAt.yes rfl rfl (qM rfl rfl (QAt.yes rfl rfl ?_)))))
  refine QAt.callP (fun w hw => sameV_eq _ _ (packB o.LU) (packB o.LU) w (row_rd (hw.row (i := 1) rfl) (by decide)) (row_rd (hw.row (i := 0) rfl) (by decide)) (by have := packB_le o.LU; omega) rfl) Tryz.call26 rfl rfl (QAt.yes rfl rfl (qV (Val.not rfl) rfl (qV (Val.pickF rfl rfl) rfl (qM rfl rfl (QAt.yes rfl rfl (qM rfl rfl (QAt.yes rfl rfl (qM rfl rfl (QAt.yes rfl rfl (qV (Val.cutRow (i := 2) (l := 0) (h := o.LU.length) rfl (by decide) Tryz.underlying40 Tryz.sizeOf62 rfl (by exact rfl) (by exact ⟨_, _, rfl, by omega, by omega⟩) (by omega) (by omega)) rfl (QAt.yes rfl rfl (qV (Val.field 84 rfl fo_49_7 rfl) rfl (QAt.yes rfl rfl (qV (Val.load (i := 3) Tryz.isAgg40 rfl rfl (opL_hi hop.l64 (j := 0) rfl)) rfl (QAt.yes rfl rfl (QAt.callP (fun w hw => sameUn_p _ _ o.LU w (RdP.cut0 (row_rd (hw.row (i := 2) rfl) (by decide)) (by omega)) (hop.u.keep hw hoff.u) hul) Tryz.call44 rfl rfl (QAt.yes rfl rfl (qV (Val.not rfl) rfl (qV (Val.pickF rfl rfl) rfl (qM rfl rfl (QAt.yes rfl rfl (qM rfl rfl (QAt.yes rfl rfl (qM rfl rfl (QAt.yes rfl rfl (qV (Val.indexRow (i := 2) ((o.LU.length) * 2) (by omega) Tryz.underlying40 Tryz.sizeOf62 rfl rfl rfl (by omega) (by omega)) rfl (QAt.yes rfl rfl (qV (Val.field (((o.LU.length) * 2 + 0)) rfl fo_62_0 rfl) rfl (QAt.yes rfl rfl ?_)))))))))))))))))))))))))))))
  refine qV (Val.loadRow (i := 2) (q := (o.LU.length + 0) * 2) (u := .int .i64 5) Tryz.isAgg3 rfl rfl (prC_at (L := o.LU ++ [(5, 0), (6, 0)]) (j := o.LU.length + 0) (c := (5, 0)) (by rw [List.getElem?_append_right (by omega), show o.LU.length + 0 - o.LU.length = 0 from by omega]; rfl)).1) rfl ?_
  refine QAt.yes rfl rfl (qV (Val.bin rfl rfl rfl) rfl (qV (Val.pickF rfl rfl) rfl (qM rfl rfl (QAt.yes rfl rfl (qM rfl rfl (QAt.yes rfl rfl (qM rfl rfl (QAt.yes rfl rfl ?_))))))))
  first | refine qV (Val.addI rfl rfl (by omega) (by omega)) rfl ?_ | refine qV (Val.bin rfl rfl rfl) rfl ?_
  refine QAt.yes rfl rfl (qV (Val.indexRow (i := 2) ((o.LU.length + 1) * 2) (by omega) Tryz.underlying40 Tryz.sizeOf62 rfl rfl rfl (by omega) (by omega)) rfl (QAt.yes rfl rfl (qV (Val.field (((o.LU.length + 1) * 2 + 0)) rfl fo_62_0 rfl) rfl (QAt.yes rfl rfl ?_))))
  refine qV (Val.loadRow (i := 2) (q := (o.LU.length + 1) * 2) (u := .int .i64 6) Tryz.isAgg3 rfl rfl (prC_at (L := o.LU ++ [(5, 0), (6, 0)]) (j := o.LU.length + 1) (c := (6, 0)) (by rw [List.getElem?_append_right (by omega), show o.LU.length + 1 - o.LU.length = 1 from by omega]; rfl)).1) rfl ?_
  refine QAt.yes rfl rfl (qV (Val.bin rfl rfl rfl) rfl (qV (Val.pickF rfl rfl) rfl (QAt.fin (At.thenN (At.condF rfl (At.skipC (At.thenN (At.region (tM rfl rfl (tM rfl rfl (At.shutTwo 4 1 rfl rfl ?_)))))))))))
  simp only [ec0, ecS]
  refine At.callG 0 rfl (fun w hw hr => keepB_g k S _ (packB o.LU) w (by have := packB_le o.LU; omega) hc hr) Tryz.call45 rfl rfl (fun y9 hy9 => ?_)
  simp only [sc0, scS]
  refine At.nil (At.blkN (At.thenN (tR (tA rfl rfl (tE (At.retC (At.ret1 (.inl rfl) rfl rfl rfl (fun w hw => ?_))))))))
  exact ⟨y9, rfl, by omega, (hw.drop (List.singleton_sublist.2 (List.mem_of_getElem? (i := 0) rfl)))⟩
 ·try simp only [sB] at h2
  refine tR (tV (Val.bin rfl rfl rfl) rfl (tA rfl rfl (tE ?_)))
  refine At.cond rfl (fun h8 => ?_) (fun h8 => ?_)
  ·try simp only [sB] at h8
   refine tR (tV (Val.field 85 rfl fo_49_8 rfl) rfl (tV (Val.field 86 rfl fo_44_1 rfl) rfl (tV (Val.load (i := 0) Tryz.isAgg42 rfl rfl (opL_hi hop.l64 (j := 2) rfl)) rfl (tV (Val.lenRd hop.s Tryz.underlying42 rfl) rfl (tA rfl rfl (tE (tR (tV (Val.field 85 rfl fo_49_8 rfl) rfl (tV (Val.loadPart (i := 0) Tryz.isAgg44 Tryz.sizeOf44 rfl rfl (opL_R hop.l64) rfl) rfl (At.callNT (g := (fun v => .agg #[b32 o.rt, v])) (fun w hw => copySv_n o.rt _ o.LS w (hop.s.keep hw hoff.s) hsl) Tryz.call46 rfl rfl (fun v9 => (At.alloc Tryz.zeroValue44 rfl rfl (fun b10 => (At.rowOne (i := 1) rfl (fun ho11 => ?_)))))))))))))))
   refine At.storeAll (i := 0) Tryz.sizeOf44 rfl rfl rfl (by intro u hu; simp only [List.mem_cons, List.not_mem_nil, or_false] at hu; rcases hu with rfl | rfl <;> first | rfl | assumption) rfl rfl ?_
   simp only [sc0, scS]
   refine tE (tR (tV (Val.field 1 rfl fo_44_1 rfl) rfl (tV (Val.load (i := 0) Tryz.isAgg42 rfl rfl rfl) rfl ?_)))
   refine tV (Val.build (fun a ha => by simp only [List.map_toArray, List.map_cons, List.map_nil, ha.eval (x := (.const (.int .i64 (5)))) rfl] <;> rfl) (bld_64_0 _ )) rfl ?_
   refine tV (Val.build (fun a ha => by simp only [List.map_toArray, List.map_cons, List.map_nil, ha.eval (x := (.const (.int .i64 (6)))) rfl] <;> rfl) (bld_64_0 _ )) rfl (At.buildSl (fun a ha => by simp only [List.map_toArray, List.map_cons, List.map_nil, ha.eval (x := (.tmp 94)) rfl, ha.eval (x := (.tmp 95)) rfl]; try rfl) (bs_42_2 _ _ _ _ ) rfl (fun b12 => (At.append (i := 2) (sz := 2) (by_ := 16) (ys := prS [(5, 0), (6, 0)]) Tryz.underlying42 info_64 rfl rfl rfl rfl rfl rfl rfl rfl rfl (fun w hw j u hj => by rw [Nat.zero_add]; exact ((hw.blk (i := 0) rfl).cell j).trans hj) (by simp [Value.oneCell', bv, prC, prS, b64]) (by omega) (by omega) rfl (fun v13 => ?_))))
   simp only [sc0, scS]
   refine At.drop 0 ?_
   simp only [ec0, ecS]
   refine At.rowAs 1 (n' := o.LS.length + 2) (xs' := prS (o.LS ++ [(5, 0), (6, 0)])) rfl rfl (by first | rw [prC_append] | rw [prS_append] | rw [List.map_append]; rfl) ?_
   simp only [sc0, scS]
   refine At.rowIs (i := 1) rfl (fun Ap cp hv => ?_)
   subst hv
   refine tA rfl rfl (tE (tR (tM rfl rfl (tM rfl rfl (tV (Val.cutRow (i := 1) (l := 0) (h := o.LS.length) rfl (by decide) Tryz.underlying42 Tryz.sizeOf64 rfl (by exact rfl) (by exact ⟨_, _, rfl, by omega, by omega⟩) (by omega) (by omega)) rfl (tV (Val.field 1 rfl fo_44_1 rfl) rfl (At.store (i := 0) Tryz.sizeOf42 rfl rfl rfl rfl (by first | decide | simp) ?_)))))))
   simp only [sc0, scS]
   refine tE (tR (tV (Val.loadAll (i := 0) Tryz.isAgg44 Tryz.sizeOf44 rfl rfl rfl) rfl (At.callNT (g := (fun v => .tuple #[v, .int .i64 (svE o.rt o.LS)])) (fun w hw => packSv_n o.rt _ o.LS w (RdS.cut0 (row_rd (hw.row (i := 1) rfl) (by decide)) (by omega)) hsl (tab_modS htab hw.mod h0)) Tryz.call47 rfl rfl (fun v14 => (tM rfl rfl (tV (Val.extract rfl rfl) rfl (tV (Val.extract rfl rfl) rfl (tA rfl rfl (tA rfl rfl (tE (tR (tV (Val.field 85 rfl fo_49_8 rfl) rfl (tV (Val.loadPart (i := 3) Tryz.isAgg44 Tryz.sizeOf44 rfl rfl (opL_R hop.l64) rfl) rfl (At.callNT (g := (fun v => .tuple #[v, .int .i64 (svE o.rt o.LS)])) (fun w hw => packSvR_n o.rt _ o.LS w (hop.s.keep hw hoff.s) hsl) Tryz.call48 rfl rfl (fun v15 => (tM rfl rfl (tV (Val.extract rfl rfl) rfl (tV (Val.extract rfl rfl) rfl (tA rfl rfl (tA rfl rfl (tE (At.seq (tR (tM rfl rfl (tM rfl rfl (tV (Val.bin rfl rfl rfl) rfl ?_))))))))))))))))))))))))))
   rw [show (svE o.rt o.LS != svE o.rt o.LS) = false from bne_self_eq_false _]
   refine tM rfl rfl (At.yes rfl rfl (tM rfl rfl (At.yes rfl rfl (tM rfl rfl (At.yes rfl rfl ?_)))))
   refine At.callP (fun w hw => sameV_eq _ _ (svP o.rt o.LS) (svP o.rt o.LS) w (row_rd (hw.row (i := 1) rfl) (by decide)) (row_rd (hw.row (i := 0) rfl) (by decide)) (by have := svP_le o.rt o.LS; omega) rfl) Tryz.call26 rfl rfl (At.yes rfl rfl (tV (Val.not rfl) rfl (tV (Val.pickF rfl rfl) rfl (tM rfl rfl (At.yes rfl rfl (tV (Val.loadAll (i := 2) Tryz.isAgg44 Tryz.sizeOf44 rfl rfl rfl) rfl (At.yes rfl rfl (tV (Val.field 85 rfl fo_49_8 rfl) rfl (At.yes rfl rfl (tV (Val.loadPart (i := 4) Tryz.isAgg44 Tryz.sizeOf44 rfl rfl (opL_R hop.l64) rfl) rfl (At.yes rfl rfl (At.callP (fun w hw => sameSv_p o.rt _ _ o.LS w (RdS.cut0 (row_rd (hw.row (i := 3) rfl) (by decide)) (by omega)) (hop.s.keep hw hoff.s) hsl) Tryz.call49 rfl rfl (At.yes rfl rfl (tV (Val.not rfl) rfl (tV (Val.pickF rfl rfl) rfl (tM rfl rfl (At.yes rfl rfl (tM rfl rfl (At.yes rfl rfl (tM rfl rfl (At.yes rfl rfl (tV (Val.indexRow (i := 3) ((o.LS.length) * 2) (by omega) Tryz.underlying42 Tryz.sizeOf64 rfl rfl rfl (by omega) (by omega)) rfl (At.yes rfl rfl (tV (Val.field (((o.LS.length) * 2 + 0)) rfl fo_64_0 rfl) rfl (At.yes rfl rfl ?_)))))))))))))))))))))))))
   refine tV (Val.loadRow (i := 3) (q := (o.LS.length + 0) * 2) (u := .int .i64 5) Tryz.isAgg3 rfl rfl (prS_at (L := o.LS ++ [(5, 0), (6, 0)]) (j := o.LS.length + 0) (c := (5, 0)) (by rw [List.getElem?_append_right (by omega), show o.LS.length + 0 - o.LS.length = 0 from by omega]; rfl)).1) rfl ?_
   refine At.yes rfl rfl (tV (Val.bin rfl rfl rfl) rfl (tV (Val.pickF rfl rfl) rfl (tM rfl rfl (At.yes rfl rfl (tM rfl rfl (At.yes rfl rfl (tM rfl rfl (At.yes rfl rfl ?_))))))))
   first | refine tV (Val.addI rfl rfl (by omega) (by omega)) rfl ?_ | refine tV (Val.bin rfl rfl rfl) rfl ?_
   refine At.yes rfl rfl (tV (Val.indexRow (i := 3) ((o.LS.length + 1) * 2) (by omega) Tryz.underlying42 Tryz.sizeOf64 rfl rfl rfl (by omega) (by omega)) rfl (At.yes rfl rfl (tV (Val.field (((o.LS.length + 1) * 2 + 0)) rfl fo_64_0 rfl) rfl (At.yes rfl rfl ?_))))
   refine tV (Val.loadRow (i := 3) (q := (o.LS.length + 1) * 2) (u := .int .i64 6) Tryz.isAgg3 rfl rfl (prS_at (L := o.LS ++ [(5, 0), (6, 0)]) (j := o.LS.length + 1) (c := (6, 0)) (by rw [List.getElem?_append_right (by omega), show o.LS.length + 1 - o.LS.length = 1 from by omega]; rfl)).1) rfl ?_
   refine At.yes rfl rfl (tV (Val.bin rfl rfl rfl) rfl (tV (Val.pickF rfl rfl) rfl (tE (At.condF rfl (At.skipC (At.thenN (At.region (tM rfl rfl (tM rfl rfl (At.shutTwo 5 1 rfl rfl ?_))))))))))
   simp only [ec0, ecS]
   refine At.callG 0 rfl (fun w hw hr => keepB_g k S _ (svP o.rt o.LS) w (by have := svP_le o.rt o.LS; omega) hc hr) Tryz.call45 rfl rfl (fun y9 hy9 => ?_)
   simp only [sc0, scS]
   refine At.nil (At.blkN (At.thenN (tR (tA rfl rfl (tE (At.retC (At.ret1 (.inl rfl) rfl rfl rfl (fun w hw => ?_))))))))
   exact ⟨y9, rfl, by omega, (hw.drop (List.singleton_sublist.2 (List.mem_of_getElem? (i := 0) rfl)))⟩
  ·try simp only [sB] at h8
   refine At.seq (tR (tV (Val.bin rfl rfl rfl) rfl (tA rfl rfl (tE ?_))))
   refine At.cond rfl (fun h16 => ?_) (fun h16 => ?_)
   ·try simp only [sB] at h16
    refine At.skipC (At.thenN ?_)
    refine At.cond rfl (fun h17 => ?_) (fun h17 => ?_)
    ·try simp only [sB] at h17
     refine tR (tM rfl rfl (tV (Val.loadAll (i := 0) Tryz.isAgg49 Tryz.sizeOf49 rfl rfl (opL_len hop.l64)) rfl (At.callG 1 rfl (fun w hw hr => opens_g k S o w (tab_modS htab hw.mod h0) h0 (hop.keep hw hoff) hoff hc hr) Tryz.call50 rfl rfl (fun y9 hy9 => ?_))))
     simp only [sc0, scS]
     refine tA rfl rfl (tE (At.retC (At.blkR (At.thenR (At.ret1 (.inl rfl) rfl rfl rfl (fun w hw => ?_))))))
     exact ⟨y9, rfl, by omega, (hw.drop (List.singleton_sublist.2 (List.mem_of_getElem? (i := 1) rfl)))⟩
    ·try simp only [sB] at h17
     refine At.skipC (At.blkN (At.thenN (tR (tA rfl rfl (tE (At.retC (At.ret1 (.inl rfl) rfl rfl rfl (fun w hw => ?_))))))))
     exact ⟨S, rfl, by omega, (hw.drop (List.singleton_sublist.2 (List.mem_of_getElem? (i := 1) rfl)))⟩
   ·try simp only [sB] at h16
    refine At.region (tV (Val.bin rfl rfl rfl) rfl (tA rfl rfl (tE ?_)))
    refine At.cond rfl (fun h18 => ?_) (fun h18 => ?_)
    ·try simp only [sB] at h18
     refine tR (tM rfl rfl (tV (Val.loadAll (i := 0) Tryz.isAgg49 Tryz.sizeOf49 rfl rfl (opL_len hop.l64)) rfl (At.callG 1 rfl (fun w hw hr => opens_g k S o w (tab_modS htab hw.mod h0) h0 (hop.keep hw hoff) hoff hc hr) Tryz.call50 rfl rfl (fun y9 hy9 => ?_))))
     simp only [sc0, scS]
     refine tA rfl rfl (tE (At.retC (At.blkR (At.thenR (At.ret1 (.inl rfl) rfl rfl rfl (fun w hw => ?_))))))
     exact ⟨y9, rfl, by omega, (hw.drop (List.singleton_sublist.2 (List.mem_of_getElem? (i := 1) rfl)))⟩
    ·try simp only [sB] at h18
     refine At.skipC (At.blkN (At.thenN (tR (tA rfl rfl (tE (At.retC (At.ret1 (.inl rfl) rfl rfl rfl (fun w hw => ?_))))))))
     exact ⟨S, rfl, by omega, (hw.drop (List.singleton_sublist.2 (List.mem_of_getElem? (i := 1) rfl)))⟩
end Go.Proofs.YthdmlpjhcalliaaGreatDoor
namespace Go.Proofs.YthdmlpjhcalliaaGreatDoor
open Go Go.Wk
def packSupV (p i c : Int) : Value := if GoodSup p i c then .tuple #[lineV (superB p.toNat i.toNat c.toNat), .int .i64 0] else .tuple #[zline, .int .i64 30]
theorem packSup_yes {p i c : Int} (h : GoodSup p i c) : packSupV p i c = .tuple #[lineV (superB p.toNat i.toNat c.toNat), .int .i64 0] := if_pos h
theorem packSup_no {p i c : Int} (h : ¬ GoodSup p i c) : packSupV p i c = .tuple #[zline, .int .i64 30] := if_neg h
theorem lineV_length {b : List UInt8} (h : b.length ≤ 60) : ((lineL b).map bv).length = 64 := by rw [List.length_map]; exact lineL_length h
theorem packSup_p (p i c : Int) (w : World) (ht : Tab w) :
    PureC Tryz.prog 17 [.agg #[.int .i64 p, .int .i64 i, .int .i64 c]] (packSupV p i c) w := by
 refine enter0 Tryz.func17 rfl Tryz.ntmps17 rfl ?_
 simp only [envOf]
 refine tR (At.box rfl rfl rfl (fun b1 => (At.alloc zero_39 zc_39 rfl (fun b2 => (tA rfl rfl (tE (At.seq (tR (tV (Val.loadAll (i := 1) Tryz.isAgg31 Tryz.sizeOf31 rfl rfl rfl) rfl (At.callP (fun w hw => fit_p _ _ _ w) Tryz.call15 rfl rfl ?_))))))))))
 by_cases hg : GoodSup p i c
 ·rw [fit_yes hg]
  have hg' := hg
  unfold GoodSup at hg'
  refine tM rfl rfl (tV (Val.extract rfl rfl) rfl (tV (Val.extract rfl rfl) rfl (At.alloc Tryz.zeroValue66 rfl rfl (fun b3 => (At.storeAll (i := 0) Tryz.sizeOf66 rfl rfl rfl (by simp [Value.oneCell']) rfl rfl ?_)))))
  simp only [sc0, scS]
  refine tA rfl rfl (tE (tR (tM rfl rfl (tV (Val.bin rfl rfl rfl) rfl (tE (At.condF rfl (At.skipC (At.thenN (tR ?_)))))))))
  refine tV (Val.build (fun a ha => by simp only [List.map_toArray, List.map_cons, List.map_nil] <;> rfl) (bld_100_)) rfl (At.alloc zero_100 zc_100 rfl (fun b4 => (At.storeAll (i := 0) Tryz.sizeOf100 rfl rfl rfl (by simp [Value.oneCell']) rfl (by simp) ?_)))
  simp only [sc0, scS]
  refine At.nil ?_
  rw [← penC_nil]
  refine At.thenN (tR (At.call1 0 rfl (fun w hw hr => penText_p _ [] ⟨#[70, 85, 82, 82, 79, 87, 48, 49]⟩ w hr (by decide)) Tryz.call53 rfl rfl ?_))
  simp only [sc0, scS]
  refine tE (tR (tV (Val.field 0 rfl fo_31_0 rfl) rfl (tV (Val.load (i := 3) Tryz.isAgg3 rfl rfl rfl) rfl (tV (Val.conv Tryz.underlying3 Tryz.underlying34 rfl) rfl ?_))))
  rw [toU64 (n := p) (by omega) (by omega)]
  refine At.call1 0 rfl (fun w hw hr => penNumber_p _ ([] ++ [70, 85, 82, 82, 79, 87, 48, 49]) p.toNat 4 w hr (by decide) (by omega) (by decide)) Tryz.call54 rfl rfl ?_
  simp only [sc0, scS]
  refine tE (tR (tV (Val.field 1 rfl fo_31_1 rfl) rfl (tV (Val.load (i := 3) Tryz.isAgg3 rfl rfl rfl) rfl (tV (Val.conv Tryz.underlying3 Tryz.underlying34 rfl) rfl ?_))))
  rw [toU64 (n := i) (by omega) (by omega)]
  refine At.call1 0 rfl (fun w hw hr => penNumber_p _ ([] ++ [70, 85, 82, 82, 79, 87, 48, 49] ++ le 4 p.toNat) i.toNat 4 w hr (by simp [le_length]) (by omega) (by decide)) Tryz.call54 rfl rfl ?_
  simp only [sc0, scS]
  refine tE (tR (tV (Val.field 2 rfl fo_31_2 rfl) rfl (tV (Val.load (i := 3) Tryz.isAgg3 rfl rfl rfl) rfl (tV (Val.conv Tryz.underlying3 Tryz.underlying34 rfl) rfl ?_))))
  rw [toU64 (n := c) (by omega) (by omega)]
  refine At.call1 0 rfl (fun w hw hr => penNumber_p _ ([] ++ [70, 85, 82, 82, 79, 87, 48, 49] ++ le 4 p.toNat ++ le 4 i.toNat) c.toNat 4 w hr (by simp [le_length]) (by omega) (by decide)) Tryz.call54 rfl rfl ?_
  simp only [sc0, scS]
  refine At.nil ?_
  rw [show ([] : List UInt8) ++ [70, 85, 82, 82, 79, 87, 48, 49] ++ le 4 p.toNat ++ le 4 i.toNat ++ le 4 c.toNat = superB p.toNat i.toNat c.toNat from rfl]
  refine At.thenN (tR (tV (Val.field 0 rfl fo_100_0 rfl) rfl ?_))
  refine tV (Val.loadPart (i := 0) Tryz.isAgg39 Tryz.sizeOf39 rfl rfl (penC_line (by rw [superB_length]; decide)) (by rw [List.length_map, List.length_append, zs_length, superB_length])) rfl (At.callP (fun w hw => close_p _ w (by rw [List.length_append, zs_length, superB_length]) (ht.mod hw.mod)) Tryz.call55 rfl rfl ?_)
  refine At.storeAll (i := 2) Tryz.sizeOf39 rfl rfl (lineV_length (by rw [superB_length]; decide)) (by simp [Value.oneCell']) rfl (by simp) ?_
  simp only [sc0, scS]
  refine tA rfl rfl (tE (At.retC ?_))
  refine At.ret2 (.inl rfl) rfl rfl (ResOf.all (i := 2) Tryz.isAgg39 Tryz.sizeOf39 rfl rfl (lineV_length (by rw [superB_length]; decide))) rfl (fun w hw => ?_)
  exact ⟨by rw [packSup_yes hg]; rfl, hw.mod⟩
 ·rw [fit_no hg]
  refine tM rfl rfl (tV (Val.extract rfl rfl) rfl (tV (Val.extract rfl rfl) rfl (At.alloc Tryz.zeroValue66 rfl rfl (fun b5 => (At.storeAll (i := 0) Tryz.sizeOf66 rfl rfl rfl (by simp [Value.oneCell']) rfl rfl ?_)))))
  simp only [sc0, scS]
  refine tA rfl rfl (tE (tR (tM rfl rfl (tV (Val.bin rfl rfl rfl) rfl (tE (At.condT rfl (tR ?_)))))))
  refine tV (Val.build (fun a ha => by simp only [List.map_toArray, List.map_cons, List.map_nil] <;> rfl) (bld_39_)) rfl (tM rfl rfl (At.storeAll (i := 1) Tryz.sizeOf39 rfl rfl rfl (by simp [Value.oneCell']) rfl (by simp) ?_))
  simp only [sc0, scS]
  refine tA rfl rfl (tE (At.retC (At.thenR (At.ret2 (.inl rfl) rfl rfl (ResOf.all (i := 1) Tryz.isAgg39 Tryz.sizeOf39 rfl rfl (by simp)) rfl (fun w hw => ?_)))))
  exact ⟨by rw [packSup_no hg]; rfl, hw.mod⟩
theorem packSupR_p (p i c : Int) (w : World) (hp : -9223372036854775808 ≤ p ∧ p ≤ 9223372036854775807) :
    PureC Tryz.prog 18 [.agg #[.int .i64 p, .int .i64 i, .int .i64 c]] (packSupV p i c) w := by
 refine enter0 Tryz.func18 rfl Tryz.ntmps18 rfl ?_
 simp only [envOf]
 refine tR (At.box rfl rfl rfl (fun b1 => (At.alloc zero_39 zc_39 rfl (fun b2 => (tA rfl rfl (tE (At.seq (tR (tV (Val.loadAll (i := 1) Tryz.isAgg31 Tryz.sizeOf31 rfl rfl rfl) rfl (At.callP (fun w hw => goodSup_p _ _ _ w hp) Tryz.call52 rfl rfl (tV (Val.not rfl) rfl (tE ?_))))))))))))
 refine At.cond rfl (fun h3 => ?_) (fun h3 => ?_)
 ·have hg : ¬ GoodSup p i c := by simpa using h3
  refine tR ?_
  refine tV (Val.build (fun a ha => by simp only [List.map_toArray, List.map_cons, List.map_nil] <;> rfl) (bld_39_)) rfl (At.storeAll (i := 0) Tryz.sizeOf39 rfl rfl rfl (by simp [Value.oneCell']) rfl (by simp) ?_)
  simp only [sc0, scS]
  refine tA rfl rfl (tE (At.retC (At.thenR (At.ret2 (.inl rfl) rfl rfl (ResOf.all (i := 0) Tryz.isAgg39 Tryz.sizeOf39 rfl rfl (by simp)) rfl (fun w hw => ?_)))))
  exact ⟨by rw [packSup_no hg]; rfl, hw.mod⟩
 ·have hg : GoodSup p i c := by simpa using h3
  have hg' := hg
  unfold GoodSup at hg'
  refine At.skipC (At.thenN (tR (tA rfl rfl (tE (tR (tM rfl rfl (At.rowNil 5 1 (At.callR 0 rfl (fun w hw hr => letters_p _ [] ⟨#[70, 85, 82, 82, 79, 87, 48, 49]⟩ w hr (by decide)) Tryz.call56 rfl rfl (fun v4 => ?_)))))))))
  simp only [sc0, scS]
  refine tA rfl rfl (tE (tR (tM rfl rfl (tV (Val.field 0 rfl fo_31_0 rfl) rfl (tV (Val.load (i := 2) Tryz.isAgg3 rfl rfl rfl) rfl (tV (Val.conv Tryz.underlying3 Tryz.underlying34 rfl) rfl ?_))))))
  rw [toU64 (n := p) (by omega) (by omega)]
  refine At.callR 0 rfl (fun w hw hr => rlay_p _ ([] ++ [70, 85, 82, 82, 79, 87, 48, 49]) p.toNat 4 w hr (by omega) (by decide) (by simp [le_length])) Tryz.call57 rfl rfl (fun v5 => ?_)
  simp only [sc0, scS]
  refine tA rfl rfl (tE (tR (tM rfl rfl (tV (Val.field 1 rfl fo_31_1 rfl) rfl (tV (Val.load (i := 2) Tryz.isAgg3 rfl rfl rfl) rfl (tV (Val.conv Tryz.underlying3 Tryz.underlying34 rfl) rfl ?_))))))
  rw [toU64 (n := i) (by omega) (by omega)]
  refine At.callR 0 rfl (fun w hw hr => rlay_p _ ([] ++ [70, 85, 82, 82, 79, 87, 48, 49] ++ le 4 p.toNat) i.toNat 4 w hr (by omega) (by decide) (by simp [le_length])) Tryz.call57 rfl rfl (fun v6 => ?_)
  simp only [sc0, scS]
  refine tA rfl rfl (tE (tR (tM rfl rfl (tV (Val.field 2 rfl fo_31_2 rfl) rfl (tV (Val.load (i := 2) Tryz.isAgg3 rfl rfl rfl) rfl (tV (Val.conv Tryz.underlying3 Tryz.underlying34 rfl) rfl ?_))))))
  rw [toU64 (n := c) (by omega) (by omega)]
  refine At.callR 0 rfl (fun w hw hr => rlay_p _ ([] ++ [70, 85, 82, 82, 79, 87, 48, 49] ++ le 4 p.toNat ++ le 4 i.toNat) c.toNat 4 w hr (by omega) (by decide) (by simp [le_length])) Tryz.call57 rfl rfl (fun v7 => ?_)
  simp only [sc0, scS]
  refine tA rfl rfl (tE (tR (tM rfl rfl ?_)))
  refine At.callU 0 rfl (fun w hw hr => line_p _ (superB p.toNat i.toNat c.toNat) w hr (by rw [superB_length]; decide)) Tryz.call58 rfl rfl ?_
  simp only [ec0, ecS]
  refine At.alloc zero_39 zc_39 rfl (fun b8 => ?_)
  refine At.storeAll (i := 0) Tryz.sizeOf39 rfl rfl (lineV_length (by rw [superB_length]; decide)) (by simp [Value.oneCell']) rfl (by simp) ?_
  simp only [sc0, scS]
  refine tE (tR ?_)
  refine tV (Val.loadAll (i := 0) Tryz.isAgg39 Tryz.sizeOf39 rfl rfl (lineV_length (by rw [superB_length]; decide))) rfl ?_
  refine At.storeAll (i := 1) Tryz.sizeOf39 rfl rfl (lineV_length (by rw [superB_length]; decide)) (by simp [Value.oneCell']) rfl (by simp) ?_
  simp only [sc0, scS]
  refine tA rfl rfl (tE (At.retC ?_))
  refine At.ret2 (.inl rfl) rfl rfl (ResOf.all (i := 1) Tryz.isAgg39 Tryz.sizeOf39 rfl rfl (lineV_length (by rw [superB_length]; decide))) rfl (fun w hw => ?_)
  exact ⟨by rw [packSup_yes hg]; rfl, hw.mod⟩
end Go.Proofs.YthdmlpjhcalliaaGreatDoor
namespace Go.Proofs.YthdmlpjhcalliaaGreatDoor
open Go Go.Wk
theorem lawFits_T (p i c n : Int) (w : World) (ht : Tab w) (hp : -9223372036854775808 ≤ p ∧ p ≤ 9223372036854775807) (hg : GoodSup p i c) :
    PureC Tryz.prog 6 [.agg #[.int .i64 p, .int .i64 i, .int .i64 c], .int .i64 n] (.bool true) w := by
 refine enter0 Tryz.func6 rfl Tryz.ntmps6 rfl ?_
 simp only [envOf]
 refine tR (At.box rfl rfl rfl (fun b1 => (tA rfl rfl (tE (tR (tV (Val.loadAll (i := 0) Tryz.isAgg31 Tryz.sizeOf31 rfl rfl rfl) rfl ?_))))))
 refine At.callP (fun w hw => (by have := fit_p p i c w; rwa [fit_yes hg] at this)) Tryz.call15 rfl rfl (tM rfl rfl (tV (Val.extract rfl rfl) rfl (tV (Val.extract rfl rfl) rfl (At.alloc Tryz.zeroValue66 rfl rfl (fun b2 => (At.storeAll (i := 0) Tryz.sizeOf66 rfl rfl rfl (by simp [Value.oneCell']) rfl rfl ?_))))))
 simp only [sc0, scS]
 refine tA rfl rfl (tE (tR (tV (Val.loadAll (i := 1) Tryz.isAgg31 Tryz.sizeOf31 rfl rfl rfl) rfl ?_)))
 refine At.callP (fun w hw => (by have := fitR_p p i c w hp; rwa [fit_yes hg] at this)) Tryz.call16 rfl rfl (tM rfl rfl (tV (Val.extract rfl rfl) rfl (tV (Val.extract rfl rfl) rfl (At.alloc Tryz.zeroValue66 rfl rfl (fun b3 => (At.storeAll (i := 0) Tryz.sizeOf66 rfl rfl rfl (by simp [Value.oneCell']) rfl rfl ?_))))))
 simp only [sc0, scS]
 refine tA rfl rfl (tE (At.seq (tR (tV (Val.loadAll (i := 1) Tryz.isAgg66 Tryz.sizeOf66 rfl rfl rfl) rfl (tV (Val.loadAll (i := 0) Tryz.isAgg66 Tryz.sizeOf66 rfl rfl rfl) rfl (tV (Val.neAgg (b := true) Tryz.eqGuardType66 (fun w => by simpa using eq_66 p i c (4 + i / 8) p i c (4 + i / 8) w) rfl rfl) rfl (tM rfl rfl (At.yes rfl rfl (tM rfl rfl (At.yes rfl rfl (tM rfl rfl (At.yes rfl rfl (tV (Val.bin rfl rfl rfl) rfl (tV (Val.pickF rfl rfl) rfl (tE (At.condF rfl (At.skipC (At.thenN (tR (tV (Val.loadAll (i := 2) Tryz.isAgg31 Tryz.sizeOf31 rfl rfl rfl) rfl ?_))))))))))))))))))))
 refine At.callP (fun w hw => (by have := packSup_p p i c w (ht.mod hw.mod); rwa [packSup_yes hg] at this)) Tryz.call17 rfl rfl (tM rfl rfl (tV (Val.extract rfl rfl) rfl (tV (Val.extract rfl rfl) rfl (At.alloc zero_39 zc_39 rfl (fun b4 => ?_)))))
 refine At.storeAll (i := 0) Tryz.sizeOf39 rfl rfl (by rw [List.length_map]; exact lineL_length (by rw [superB_length]; decide)) (by simp [Value.oneCell']) rfl (by simp) ?_
 simp only [sc0, scS]
 refine tA rfl rfl (tE (tR (tV (Val.loadAll (i := 3) Tryz.isAgg31 Tryz.sizeOf31 rfl rfl rfl) rfl ?_)))
 refine At.callP (fun w hw => (by have := packSupR_p p i c w hp; rwa [packSup_yes hg] at this)) Tryz.call18 rfl rfl (tM rfl rfl (tV (Val.extract rfl rfl) rfl (tV (Val.extract rfl rfl) rfl (At.alloc zero_39 zc_39 rfl (fun b5 => ?_)))))
 refine At.storeAll (i := 0) Tryz.sizeOf39 rfl rfl (by rw [List.length_map]; exact lineL_length (by rw [superB_length]; decide)) (by simp [Value.oneCell']) rfl (by simp) ?_
 simp only [sc0, scS]
 refine tA rfl rfl (tE (At.seq (tR ?_)))
 refine tV (Val.loadAll (i := 1) Tryz.isAgg39 Tryz.sizeOf39 rfl rfl (by rw [List.length_map]; exact lineL_length (by rw [superB_length]; decide))) rfl ?_
 refine tV (Val.loadAll (i := 0) Tryz.isAgg39 Tryz.sizeOf39 rfl rfl (by rw [List.length_map]; exact lineL_length (by rw [superB_length]; decide))) rfl (tV (Val.neAgg (b := true) Tryz.eqGuardType39 (fun w => by simpa using run_equal_bytes Tryz.underlying39 Tryz.underlying5 Tryz.isAgg5 Tryz.sizeOf5 (lineL (superB p.toNat i.toNat c.toNat)) (lineL (superB p.toNat i.toNat c.toNat)) (lineL_length (by rw [superB_length]; decide)) (lineL_length (by rw [superB_length]; decide)) w) rfl rfl) rfl (tM rfl rfl (At.yes rfl rfl (tM rfl rfl (At.yes rfl rfl (tM rfl rfl (At.yes rfl rfl (tV (Val.bin rfl rfl rfl) rfl (tV (Val.pickF rfl rfl) rfl (tE (At.condF rfl (At.skipC (At.thenN (tR (tM rfl rfl (At.callP (fun w hw => slotAt_p _ w) Tryz.call19 rfl rfl (tA rfl rfl (tE (tR (tM rfl rfl (tM rfl rfl (At.callP (fun w hw => slotAtR_p _ w) Tryz.call20 rfl rfl (tV (Val.bin rfl rfl rfl) rfl (tA rfl rfl (tE (At.retC (At.ret1 (.inl rfl) rfl rfl rfl (fun w hw => ?_))))))))))))))))))))))))))))
 exact ⟨by simp, hw.mod⟩
theorem lawFits_F (p i c n : Int) (w : World) (ht : Tab w) (hp : -9223372036854775808 ≤ p ∧ p ≤ 9223372036854775807) (hg : ¬ GoodSup p i c) :
    PureC Tryz.prog 6 [.agg #[.int .i64 p, .int .i64 i, .int .i64 c], .int .i64 n] (.bool true) w := by
 refine enter0 Tryz.func6 rfl Tryz.ntmps6 rfl ?_
 simp only [envOf]
 refine tR (At.box rfl rfl rfl (fun b1 => (tA rfl rfl (tE (tR (tV (Val.loadAll (i := 0) Tryz.isAgg31 Tryz.sizeOf31 rfl rfl rfl) rfl ?_))))))
 refine At.callP (fun w hw => (by have := fit_p p i c w; rwa [fit_no hg] at this)) Tryz.call15 rfl rfl (tM rfl rfl (tV (Val.extract rfl rfl) rfl (tV (Val.extract rfl rfl) rfl (At.alloc Tryz.zeroValue66 rfl rfl (fun b2 => (At.storeAll (i := 0) Tryz.sizeOf66 rfl rfl rfl (by simp [Value.oneCell']) rfl rfl ?_))))))
 simp only [sc0, scS]
 refine tA rfl rfl (tE (tR (tV (Val.loadAll (i := 1) Tryz.isAgg31 Tryz.sizeOf31 rfl rfl rfl) rfl ?_)))
 refine At.callP (fun w hw => (by have := fitR_p p i c w hp; rwa [fit_no hg] at this)) Tryz.call16 rfl rfl (tM rfl rfl (tV (Val.extract rfl rfl) rfl (tV (Val.extract rfl rfl) rfl (At.alloc Tryz.zeroValue66 rfl rfl (fun b3 => (At.storeAll (i := 0) Tryz.sizeOf66 rfl rfl rfl (by simp [Value.oneCell']) rfl rfl ?_))))))
 simp only [sc0, scS]
 refine tA rfl rfl (tE (At.seq (tR (tV (Val.loadAll (i := 1) Tryz.isAgg66 Tryz.sizeOf66 rfl rfl rfl) rfl (tV (Val.loadAll (i := 0) Tryz.isAgg66 Tryz.sizeOf66 rfl rfl rfl) rfl (tV (Val.neAgg (b := true) Tryz.eqGuardType66 (fun w => by simpa using eq_66 0 0 0 0 0 0 0 0 w) rfl rfl) rfl (tM rfl rfl (At.yes rfl rfl (tM rfl rfl (At.yes rfl rfl (tM rfl rfl (At.yes rfl rfl (tV (Val.bin rfl rfl rfl) rfl (tV (Val.pickF rfl rfl) rfl (tE (At.condF rfl (At.skipC (At.thenN (tR (tV (Val.loadAll (i := 2) Tryz.isAgg31 Tryz.sizeOf31 rfl rfl rfl) rfl ?_))))))))))))))))))))
 refine At.callP (fun w hw => (by have := packSup_p p i c w (ht.mod hw.mod); rwa [packSup_no hg] at this)) Tryz.call17 rfl rfl (tM rfl rfl (tV (Val.extract rfl rfl) rfl (tV (Val.extract rfl rfl) rfl (At.alloc zero_39 zc_39 rfl (fun b4 => (At.storeAll (i := 0) Tryz.sizeOf39 rfl rfl (by simp [zs]) (by simp [Value.oneCell']) rfl (by simp) ?_))))))
 simp only [sc0, scS]
 refine tA rfl rfl (tE (tR (tV (Val.loadAll (i := 3) Tryz.isAgg31 Tryz.sizeOf31 rfl rfl rfl) rfl ?_)))
 refine At.callP (fun w hw => (by have := packSupR_p p i c w hp; rwa [packSup_no hg] at this)) Tryz.call18 rfl rfl (tM rfl rfl (tV (Val.extract rfl rfl) rfl (tV (Val.extract rfl rfl) rfl (At.alloc zero_39 zc_39 rfl (fun b5 => (At.storeAll (i := 0) Tryz.sizeOf39 rfl rfl (by simp [zs]) (by simp [Value.oneCell']) rfl (by simp) ?_))))))
 simp only [sc0, scS]
 refine tA rfl rfl (tE (At.seq (tR (tV (Val.loadAll (i := 1) Tryz.isAgg39 Tryz.sizeOf39 rfl rfl (by simp [zs])) rfl (tV (Val.loadAll (i := 0) Tryz.isAgg39 Tryz.sizeOf39 rfl rfl (by simp [zs])) rfl (tV (Val.neAgg (b := true) Tryz.eqGuardType39 (fun w => by simpa using run_equal_bytes Tryz.underlying39 Tryz.underlying5 Tryz.isAgg5 Tryz.sizeOf5 (zs 64) (zs 64) (zs_length 64) (zs_length 64) w) rfl rfl) rfl (tM rfl rfl (At.yes rfl rfl (tM rfl rfl (At.yes rfl rfl (tM rfl rfl (At.yes rfl rfl (tV (Val.bin rfl rfl rfl) rfl (tV (Val.pickF rfl rfl) rfl (tE (At.condF rfl (At.skipC (At.thenN (tR (tM rfl rfl (At.callP (fun w hw => slotAt_p _ w) Tryz.call19 rfl rfl (tA rfl rfl (tE (tR (tM rfl rfl (tM rfl rfl (At.callP (fun w hw => slotAtR_p _ w) Tryz.call20 rfl rfl (tV (Val.bin rfl rfl rfl) rfl (tA rfl rfl (tE (At.retC (At.ret1 (.inl rfl) rfl rfl rfl (fun w hw => ?_)))))))))))))))))))))))))))))))))
 exact ⟨by simp, hw.mod⟩
theorem lawFits_p (p i c n : Int) (w : World) (ht : Tab w) (hp : -9223372036854775808 ≤ p ∧ p ≤ 9223372036854775807) : PureC Tryz.prog 6 [.agg #[.int .i64 p, .int .i64 i, .int .i64 c], .int .i64 n] (.bool true) w := by
  by_cases hg : GoodSup p i c
  · exact lawFits_T p i c n w ht hp hg
  · exact lawFits_F p i c n w ht hp hg
end Go.Proofs.YthdmlpjhcalliaaGreatDoor
namespace Go.Proofs.YthdmlpjhcalliaaGreatDoor
open Go Go.Wk
def OkSup (l : List UInt8) : Prop := GoodSup (num l 8 4 : Nat) (num l 12 4 : Nat) (num l 16 4 : Nat) ∧ SupLine l
instance (l : List UInt8) : Decidable (OkSup l) := by unfold OkSup; infer_instance
def openSupV (l : List UInt8) : Value := if OkSup l then .tuple #[.agg #[.int .i64 (num l 8 4 : Nat), .int .i64 (num l 12 4 : Nat), .int .i64 (num l 16 4 : Nat)], .int .i64 0] else .tuple #[.agg #[.int .i64 0, .int .i64 0, .int .i64 0], .int .i64 31]
theorem openSup_yes {l : List UInt8} (h : OkSup l) : openSupV l = .tuple #[.agg #[.int .i64 (num l 8 4 : Nat), .int .i64 (num l 12 4 : Nat), .int .i64 (num l 16 4 : Nat)], .int .i64 0] := if_pos h
theorem openSup_no {l : List UInt8} (h : ¬ OkSup l) : openSupV l = .tuple #[.agg #[.int .i64 0, .int .i64 0, .int .i64 0], .int .i64 31] := if_neg h
theorem num4_i64 (l : List UInt8) (a : Nat) : IntKind.i64.wrap ((num l a 4 : Nat) : Int) = ((num l a 4 : Nat) : Int) := wrap_i64 (by omega) (by have := num_lt (l := l) a 4; omega)
theorem numR_p (l : List UInt8) (a n : Nat) (w : World) (hl : l.length = 64) (hn : a + n ≤ 64) (h8 : n ≤ 8) :
    PureC Tryz.prog 67 [.agg (l.map bv).toArray, .int .i64 (a : Int), .int .i64 (n : Int)] (.int .u64 (num l a n : Nat)) w := by
 refine enter0 Tryz.func67 rfl Tryz.ntmps67 rfl ?_
 simp only [envOf]
 refine tR (At.box rfl rfl rfl (fun b1 => (tA rfl rfl (tE (tR (tA rfl rfl (tE (At.seq (tR (tM rfl rfl (tV (Val.bin rfl rfl rfl) rfl (tA rfl rfl (tE (At.block ?_))))))))))))))
 skip
 refine At.loop (σ := Nat) (fun j' => j' ≤ n) (fun j' => [(3, .pointer (some ⟨b1, 0, none⟩)), (1, .int .i64 (a : Int)), (7, .int .u64 (num l (a + j') (n - j') : Nat)), (8, .int .i64 ((j' : Int) - 1))]) (fun j' => [blk b1 39 (l.map bv)]) (fun j' => j') n (Nat.le_refl _) (Sub.cons rfl (Sub.cons rfl (Sub.cons (congrArg (fun z => some (Value.int IntKind.u64 z)) (by rw [Nat.sub_self, num_zero]; rfl)) (Sub.cons (congrArg (fun z => some (Value.int IntKind.i64 z)) (wrap_i64 (by omega) (by omega))) Sub.nil)))) (List.Perm.refl _) ?_
 intro j' hs
 refine At.seq (tR (tM rfl rfl (tV (Val.bin rfl rfl rfl) rfl (tE ?_))))
 refine At.cond rfl (fun h2 => ?_) (fun h2 => ?_)
 ·obtain ⟨j, rfl⟩ : ∃ j, j' = j + 1 := ⟨j' - 1, by have := h2; simp at this; omega⟩
  obtain ⟨u, hu⟩ : ∃ u, l[a + j]? = some u := ⟨_, List.getElem?_eq_getElem (by omega)⟩
  have hnum : num l (a + (j + 1)) (n - (j + 1)) * 256 + u.toNat = num l (a + j) (n - j) := by rw [show n - j = (n - (j + 1)) + 1 by omega, num_cons hu]; rfl
  have hlt : num l (a + j) (n - j) < 18446744073709551616 := Nat.lt_of_lt_of_le (num_lt (l := l) (a + j) (n - j)) (by rw [show (18446744073709551616 : Nat) = 256 ^ 8 from rfl]; exact Nat.pow_le_pow_right (by decide) (by omega))
  refine At.skipC (At.thenN (At.seq (At.block (At.region (tM rfl rfl (tV (Val.bin rfl rfl rfl) rfl ?_))))))
  rw [wrap_u64 (n := ((num l (a + (j + 1)) (n - (j + 1)) : Nat) : Int) * 256) (by omega) (by omega)]
  refine tM rfl rfl (tM rfl rfl (tV (Val.bin rfl rfl rfl) rfl ?_))
  rw [wrap_i64 (n := (a : Int) + (((j + 1 : Nat) : Int) - 1)) (by omega) (by omega)]
  refine tV (Val.indexArr (a + j) (by omega) Tryz.underlying39 Tryz.sizeOf5 rfl rfl (by omega) (by omega)) rfl ?_
  refine tV (Val.load (i := 0) (v := bv u) Tryz.isAgg5 rfl rfl (by rw [List.getElem?_map, hu]; rfl)) rfl ?_
  refine tV (Val.conv Tryz.underlying5 Tryz.underlying34 rfl) rfl ?_
  rw [wrap_u64 (n := (u.toNat : Int)) (by omega) (by have := u.toNat_lt; omega)]
  refine tV (Val.bin rfl rfl rfl) rfl ?_
  rw [show IntKind.u64.wrap (((num l (a + (j + 1)) (n - (j + 1)) : Nat) : Int) * 256 + (u.toNat : Int)) = ((num l (a + j) (n - j) : Nat) : Int) from by rw [wrap_u64 (by omega) (by omega)]; omega]
  refine tA rfl rfl (At.nil (At.blkN (At.thenN (At.region (tM rfl rfl (tV (Val.bin rfl rfl rfl) rfl (tA rfl rfl (tE ?_))))))))
  exact At.again j (by omega) (by omega) (Sub.cons rfl (Sub.cons rfl (Sub.cons rfl (Sub.cons (congrArg (fun z => some (Value.int IntKind.i64 z)) (by rw [wrap_i64 (by omega) (by omega)]; omega)) Sub.nil)))) (List.Perm.refl _)
 ·have hj0 : j' = 0 := by have := h2; simp at this; omega
  subst hj0
  refine At.exitC (At.thenX (At.thenX (At.blkX (At.thenN (tR (tM rfl rfl (tA rfl rfl (tE (At.retC (At.ret1 (.inl rfl) rfl rfl rfl (fun w hw => ?_)))))))))))
  exact ⟨rfl, hw.mod⟩
theorem openSup_p (l : List UInt8) (w : World) (ht : Tab w) (hl : l.length = 64) :
    PureC Tryz.prog 21 [.agg (l.map bv).toArray] (openSupV l) w := by
 refine enterD0 Tryz.func21 rfl Tryz.ntmps21 rfl ?_
 have hline := supLine_iff hl
 simp only [envOf]
 refine tR (At.box rfl rfl rfl (fun b1 => (At.alloc Tryz.zeroValue31 rfl rfl (fun b2 => (At.alloc Tryz.zeroValue67 rfl rfl (fun b3 => (tE (tR (At.defer rfl (tE (tR ?_)))))))))))
 refine tV (Val.loadAll (i := 2) Tryz.isAgg39 Tryz.sizeOf39 rfl rfl (by rw [List.length_map]; exact hl)) rfl (At.callP (fun w hw => whole_p _ w hl (ht.mod hw.mod)) Tryz.call63 rfl rfl ?_)
 refine At.split (t := 8) rfl (fun h4 => ?_) (fun h4 => ?_)
 ·have hwhole := h4
  refine At.callP (fun w hw => must_T _ w) Tryz.call62 rfl rfl (tE (tR (tV (Val.cutArr 0 64 0 l.length 64 Tryz.underlying39 Tryz.sizeOf5 rfl rfl rfl (by decide) (by decide) rfl (by omega) rfl) rfl ?_)))
  refine tV (Val.build (fun a ha => by simp only [List.map_toArray, List.map_cons, List.map_nil, ha.eval (x := (.tmp 10)) rfl] <;> rfl) (bld_113_0 _ _ _ )) rfl (At.alloc Tryz.zeroValue113 rfl rfl (fun b5 => (At.storeAll (i := 0) Tryz.sizeOf113 rfl rfl rfl (by simp [Value.oneCell']) rfl rfl ?_)))
  simp only [sc0, scS]
  refine At.nil ?_
  rw [show ([Value.slice (some ⟨b1, 0, none⟩) l.length 64, Value.int IntKind.i64 0] : List Value) = eyeC b1 0 l.length 64 0 from rfl]
  refine At.thenN (tR ?_)
  by_cases hq : (l.drop 0).take 8 = mark1
  ·have hmark := hq
   refine At.call1 0 rfl (fun w hw hr => eyeText_T _ b1 0 64 0 l ⟨#[70, 85, 82, 82, 79, 87, 48, 49]⟩ 31 w hr (hw.blk (i := 3) rfl).bytes' (hw.apart 3 0 rfl rfl (by decide)) (by omega) (by omega) (by rw [hl]; decide) hq) Tryz.call64 rfl rfl ?_
   simp only [sc0, scS]
   refine At.nil ?_
   skip
   refine At.thenN (tR (At.call1 0 rfl (fun w hw hr => eyeHalf_p _ b1 0 64 8 l w hr (hw.blk (i := 3) rfl).bytes' (hw.apart 3 0 rfl rfl (by decide)) (by omega) (by omega) (by omega)) Tryz.call65 rfl rfl ?_))
   simp only [sc0, scS]
   refine At.call1 0 rfl (fun w hw hr => eyeHalf_p _ b1 0 64 12 l w hr (hw.blk (i := 3) rfl).bytes' (hw.apart 3 0 rfl rfl (by decide)) (by omega) (by omega) (by omega)) Tryz.call65 rfl rfl ?_
   simp only [sc0, scS]
   refine At.call1 0 rfl (fun w hw hr => eyeHalf_p _ b1 0 64 16 l w hr (hw.blk (i := 3) rfl).bytes' (hw.apart 3 0 rfl rfl (by decide)) (by omega) (by omega) (by omega)) Tryz.call65 rfl rfl ?_
   simp only [sc0, scS]
   refine tV (Val.build (fun a ha => by simp only [List.map_toArray, List.map_cons, List.map_nil, ha.eval (x := (.tmp 13)) rfl, ha.eval (x := (.tmp 14)) rfl, ha.eval (x := (.tmp 15)) rfl] <;> rfl) (bld_31_0_1_2 _ _ _ )) rfl (At.storeAll (i := 2) Tryz.sizeOf31 rfl rfl rfl (by simp [Value.oneCell']) rfl rfl ?_)
   simp only [sc0, scS]
   refine tE (tR ?_)
   by_cases hq : allZero ((l.drop 20).take 40)
   ·have hzero := hq
    refine At.call1 0 rfl (fun w hw hr => eyeZeros_T _ b1 0 64 20 40 l 31 w hr (hw.blk (i := 3) rfl).bytes' (hw.apart 3 0 rfl rfl (by decide)) (by omega) (by omega) (by rw [hl]; decide) hq) Tryz.call66 rfl rfl ?_
    simp only [sc0, scS]
    refine tE (tR (tV (Val.loadAll (i := 2) Tryz.isAgg31 Tryz.sizeOf31 rfl rfl rfl) rfl (At.callP (fun w hw => fit_p _ _ _ w) Tryz.call15 rfl rfl ?_)))
    by_cases hg : GoodSup (num l 8 4 : Nat) (num l 12 4 : Nat) (num l 16 4 : Nat)
    ·rw [fit_yes hg]
     refine tM rfl rfl (tV (Val.extract rfl rfl) rfl (tV (Val.extract rfl rfl) rfl (At.alloc Tryz.zeroValue66 rfl rfl (fun b6 => (At.storeAll (i := 0) Tryz.sizeOf66 rfl rfl rfl (by simp [Value.oneCell']) rfl rfl ?_)))))
     simp only [sc0, scS]
     refine tA rfl rfl (tE (tR (tM rfl rfl (tV (Val.bin rfl rfl rfl) rfl (At.callP (fun w hw => must_T _ w) Tryz.call62 rfl rfl (tE (tR (tV (Val.loadAll (i := 3) Tryz.isAgg31 Tryz.sizeOf31 rfl rfl rfl) rfl (At.storeAll (i := 3) Tryz.sizeOf31 rfl rfl rfl (by simp [Value.oneCell']) rfl rfl ?_)))))))))
     simp only [sc0, scS]
     refine At.store (i := 2) Tryz.sizeOf67 rfl rfl rfl rfl (by first | decide | simp) ?_
     simp only [sc0, scS]
     refine tE (At.retC (At.leaveN (.inl rfl) rfl Tryz.call61 (fun w hw => caughtSuper_idle _ _ w) rfl (ResOf.all (i := 3) Tryz.isAgg31 Tryz.sizeOf31 rfl rfl rfl) (ResOf.one (i := 2) Tryz.isAgg67 rfl rfl rfl) (fun w hw => ?_)))
     exact ⟨by rw [openSup_yes ⟨hg, hline.2 ⟨hwhole, hmark, hzero⟩⟩], hw.mod⟩
    ·rw [fit_no hg]
     have hno : ¬ OkSup l := fun h => hg h.1
     refine tM rfl rfl (tV (Val.extract rfl rfl) rfl (tV (Val.extract rfl rfl) rfl (At.alloc Tryz.zeroValue66 rfl rfl (fun b7 => (At.storeAll (i := 0) Tryz.sizeOf66 rfl rfl rfl (by simp [Value.oneCell']) rfl rfl ?_)))))
     simp only [sc0, scS]
     refine tA rfl rfl (tE (tR (tM rfl rfl (tV (Val.bin rfl rfl rfl) rfl (At.callT0 (fun w hw => must_F _ w) Tryz.call62 rfl (At.thenE (At.leaveP rfl Tryz.call61 ((erase_perm _ 3 _ rfl).trans (List.Perm.cons _ (erase_perm _ 2 _ rfl))) (fun w hw => caughtSuper_pan _ _ _ _ _ w (hw.blk (i := 0) rfl) rfl (hw.blk (i := 1) rfl) hw.ne01) rfl (ResOf.all (i := 0) Tryz.isAgg31 Tryz.sizeOf31 rfl rfl rfl) (ResOf.one (i := 1) Tryz.isAgg67 rfl rfl rfl) (fun w hw => ?_))))))))
     exact ⟨by rw [openSup_no hno], hw.mod⟩
   ·have hno : ¬ OkSup l := fun h => hq (hline.1 h.2).2.2
    refine At.callT1 0 rfl (fun w hw hr => eyeZeros_F _ b1 0 64 20 40 l 31 w hr (hw.blk (i := 3) rfl).bytes' (hw.apart 3 0 rfl rfl (by decide)) (by omega) (by omega) (by rw [hl]; decide) hq) Tryz.call66 rfl ?_
    simp only [ec0, ecS]
    refine At.thenE (At.leaveP rfl Tryz.call61 ((erase_perm _ 1 _ rfl).trans (List.Perm.cons _ (erase_perm _ 0 _ rfl))) (fun w hw => caughtSuper_pan _ _ _ _ _ w (hw.blk (i := 0) rfl) rfl (hw.blk (i := 1) rfl) hw.ne01) rfl (ResOf.all (i := 0) Tryz.isAgg31 Tryz.sizeOf31 rfl rfl rfl) (ResOf.one (i := 1) Tryz.isAgg67 rfl rfl rfl) (fun w hw => ?_))
    exact ⟨by rw [openSup_no hno], hw.mod⟩
  ·have hno : ¬ OkSup l := fun h => hq (hline.1 h.2).2.1
   refine At.callT1 0 rfl (fun w hw hr => eyeText_F _ b1 0 64 0 l ⟨#[70, 85, 82, 82, 79, 87, 48, 49]⟩ 31 w hr (hw.blk (i := 3) rfl).bytes' (hw.apart 3 0 rfl rfl (by decide)) (by omega) (by omega) (by rw [hl]; decide) hq) Tryz.call64 rfl ?_
   simp only [ec0, ecS]
   refine At.thenE (At.leaveP rfl Tryz.call61 ((erase_perm _ 1 _ rfl).trans (List.Perm.cons _ (erase_perm _ 0 _ rfl))) (fun w hw => caughtSuper_pan _ _ _ _ _ w (hw.blk (i := 0) rfl) rfl (hw.blk (i := 1) rfl) hw.ne01) rfl (ResOf.all (i := 0) Tryz.isAgg31 Tryz.sizeOf31 rfl rfl rfl) (ResOf.one (i := 1) Tryz.isAgg67 rfl rfl rfl) (fun w hw => ?_))
   exact ⟨by rw [openSup_no hno], hw.mod⟩
 ·have hno : ¬ OkSup l := fun h => by have h1 := (hline.1 h.2).1; rw [h4] at h1; cases h1
  refine At.callT0 (fun w hw => must_F _ w) Tryz.call62 rfl (At.thenE (At.leaveP rfl Tryz.call61 ((erase_perm _ 1 _ rfl).trans (List.Perm.cons _ (erase_perm _ 0 _ rfl))) (fun w hw => caughtSuper_pan _ _ _ _ _ w (hw.blk (i := 0) rfl) rfl (hw.blk (i := 1) rfl) hw.ne01) rfl (ResOf.all (i := 0) Tryz.isAgg31 Tryz.sizeOf31 rfl rfl rfl) (ResOf.one (i := 1) Tryz.isAgg67 rfl rfl rfl) (fun w hw => ?_)))
  exact ⟨by rw [openSup_no hno], hw.mod⟩
theorem openSupR_p (l : List UInt8) (w : World) (hl : l.length = 64) :
    PureC Tryz.prog 22 [.agg (l.map bv).toArray] (openSupV l) w := by
 refine enter0 Tryz.func22 rfl Tryz.ntmps22 rfl ?_
 have hp : -9223372036854775808 ≤ ((num l 8 4 : Nat) : Int) ∧ ((num l 8 4 : Nat) : Int) ≤ 9223372036854775807 := by have := num_lt (l := l) 8 4; omega
 simp only [envOf]
 refine tR (At.box rfl rfl rfl (fun b1 => (At.alloc Tryz.zeroValue31 rfl rfl (fun b2 => (tA rfl rfl (tE (tR ?_)))))))
 refine tV (Val.loadAll (i := 1) Tryz.isAgg39 Tryz.sizeOf39 rfl rfl (by rw [List.length_map]; exact hl)) rfl (At.callP (fun w hw => numR_p l 8 4 w hl (by decide) (by decide)) Tryz.call67 rfl rfl (tA rfl rfl (tE (tR ?_))))
 refine tV (Val.loadAll (i := 1) Tryz.isAgg39 Tryz.sizeOf39 rfl rfl (by rw [List.length_map]; exact hl)) rfl (At.callP (fun w hw => numR_p l 12 4 w hl (by decide) (by decide)) Tryz.call67 rfl rfl (tA rfl rfl (tE (tR ?_))))
 refine tV (Val.loadAll (i := 1) Tryz.isAgg39 Tryz.sizeOf39 rfl rfl (by rw [List.length_map]; exact hl)) rfl (At.callP (fun w hw => numR_p l 16 4 w hl (by decide) (by decide)) Tryz.call67 rfl rfl (tA rfl rfl (tE (tR (tM rfl rfl (tV (Val.conv Tryz.underlying34 Tryz.underlying3 rfl) rfl ?_))))))
 rw [num4_i64 l 8]
 refine tM rfl rfl (tV (Val.conv Tryz.underlying34 Tryz.underlying3 rfl) rfl ?_)
 rw [num4_i64 l 12]
 refine tM rfl rfl (tV (Val.conv Tryz.underlying34 Tryz.underlying3 rfl) rfl ?_)
 rw [num4_i64 l 16]
 refine tV (Val.build (fun a ha => by simp only [List.map_toArray, List.map_cons, List.map_nil, ha.eval (x := (.tmp 17)) rfl, ha.eval (x := (.tmp 19)) rfl, ha.eval (x := (.tmp 21)) rfl] <;> rfl) (bld_31_0_1_2 _ _ _ )) rfl (At.alloc Tryz.zeroValue31 rfl rfl (fun b3 => (At.storeAll (i := 0) Tryz.sizeOf31 rfl rfl rfl (by simp [Value.oneCell']) rfl rfl ?_)))
 simp only [sc0, scS]
 refine tE (tR (tV (Val.loadAll (i := 0) Tryz.isAgg31 Tryz.sizeOf31 rfl rfl rfl) rfl (At.callP (fun w hw => packSupR_p _ _ _ w hp) Tryz.call18 rfl rfl ?_)))
 by_cases hg : GoodSup (num l 8 4 : Nat) (num l 12 4 : Nat) (num l 16 4 : Nat)
 ·rw [packSup_yes hg]
  refine tM rfl rfl (tV (Val.extract rfl rfl) rfl (tV (Val.extract rfl rfl) rfl (At.alloc zero_39 zc_39 rfl (fun b4 => ?_))))
  refine At.storeAll (i := 0) Tryz.sizeOf39 rfl rfl (by rw [List.length_map]; exact lineL_length (by rw [superB_length]; decide)) (by simp [Value.oneCell']) rfl (by simp) ?_
  simp only [sc0, scS]
  refine tA rfl rfl (tE (At.seq (tR (tM rfl rfl (tV (Val.bin rfl rfl rfl) rfl (tM rfl rfl (At.yes rfl rfl ?_)))))))
  refine tV (Val.loadAll (i := 0) Tryz.isAgg39 Tryz.sizeOf39 rfl rfl (by rw [List.length_map]; exact lineL_length (by rw [superB_length]; decide))) rfl (At.yes rfl rfl ?_)
  refine tV (Val.loadAll (i := 3) Tryz.isAgg39 Tryz.sizeOf39 rfl rfl (by rw [List.length_map]; exact hl)) rfl (At.yes rfl rfl ?_)
  refine tV (Val.neAgg Tryz.eqGuardType39 (fun w => run_equal_bytes Tryz.underlying39 Tryz.underlying5 Tryz.isAgg5 Tryz.sizeOf5 _ _ (lineL_length (by rw [superB_length]; decide)) hl w) rfl rfl) rfl (tV (Val.pickF rfl rfl) rfl (tE ?_))
  refine At.cond rfl (fun h5 => ?_) (fun h5 => ?_)
  ·refine tR ?_
   refine tV (Val.build (fun a ha => by simp only [List.map_toArray, List.map_cons, List.map_nil] <;> rfl) (bld_31_)) rfl (At.storeAll (i := 2) Tryz.sizeOf31 rfl rfl rfl (by simp [Value.oneCell']) rfl rfl ?_)
   simp only [sc0, scS]
   refine tA rfl rfl (tE (At.retC (At.thenR (At.ret2 (.inl rfl) rfl rfl (ResOf.all (i := 2) Tryz.isAgg31 Tryz.sizeOf31 rfl rfl rfl) rfl (fun w hw => ?_)))))
   exact ⟨by rw [openSup_no (fun h => by have h2 := h.2; unfold SupLine at h2; simp only [Int.toNat_natCast] at *; simp_all)], hw.mod⟩
  ·refine At.skipC (At.thenN (tR (tV (Val.loadAll (i := 1) Tryz.isAgg31 Tryz.sizeOf31 rfl rfl rfl) rfl (At.storeAll (i := 2) Tryz.sizeOf31 rfl rfl rfl (by simp [Value.oneCell']) rfl rfl ?_))))
   simp only [sc0, scS]
   refine tA rfl rfl (tE (At.retC (At.ret2 (.inl rfl) rfl rfl (ResOf.all (i := 2) Tryz.isAgg31 Tryz.sizeOf31 rfl rfl rfl) rfl (fun w hw => ?_))))
   exact ⟨by rw [openSup_yes ⟨hg, by unfold SupLine; simp only [Int.toNat_natCast] at *; simp_all⟩], hw.mod⟩
 ·rw [packSup_no hg]
  have hno : ¬ OkSup l := fun h => hg h.1
  refine tM rfl rfl (tV (Val.extract rfl rfl) rfl (tV (Val.extract rfl rfl) rfl (At.alloc zero_39 zc_39 rfl (fun b6 => (At.storeAll (i := 0) Tryz.sizeOf39 rfl rfl (by simp [zs]) (by simp [Value.oneCell']) rfl (by simp) ?_)))))
  simp only [sc0, scS]
  refine tA rfl rfl (tE (At.seq (tR (tM rfl rfl (tV (Val.bin rfl rfl rfl) rfl (tM rfl rfl (At.no rfl rfl rfl rfl (At.no rfl rfl rfl rfl (At.no rfl rfl rfl rfl (tV (Val.pickT rfl rfl) rfl (tE (At.condT rfl (tR ?_)))))))))))))
  refine tV (Val.build (fun a ha => by simp only [List.map_toArray, List.map_cons, List.map_nil] <;> rfl) (bld_31_)) rfl (At.storeAll (i := 2) Tryz.sizeOf31 rfl rfl rfl (by simp [Value.oneCell']) rfl rfl ?_)
  simp only [sc0, scS]
  refine tA rfl rfl (tE (At.retC (At.thenR (At.ret2 (.inl rfl) rfl rfl (ResOf.all (i := 2) Tryz.isAgg31 Tryz.sizeOf31 rfl rfl rfl) rfl (fun w hw => ?_)))))
  exact ⟨by rw [openSup_no hno], hw.mod⟩
end Go.Proofs.YthdmlpjhcalliaaGreatDoor
namespace Go.Proofs.YthdmlpjhcalliaaGreatDoor
open Go Go.Wk
theorem lawSupers_T (l : List UInt8) (w : World) (ht : Tab w) (hl : l.length = 64) (hg : OkSup l) :
    PureC Tryz.prog 7 [.agg (l.map bv).toArray] (.bool true) w := by
 refine enter0 Tryz.func7 rfl Tryz.ntmps7 rfl ?_
 simp only [envOf]
 refine tR (At.box rfl rfl rfl (fun b1 => (tA rfl rfl (tE (tR ?_)))))
 refine tV (Val.loadAll (i := 0) Tryz.isAgg39 Tryz.sizeOf39 rfl rfl (by rw [List.length_map]; exact hl)) rfl ?_
 refine At.callP (fun w hw => (by have := openSup_p l w (ht.mod hw.mod) hl; rwa [openSup_yes hg] at this)) Tryz.call21 rfl rfl (tM rfl rfl (tV (Val.extract rfl rfl) rfl (tV (Val.extract rfl rfl) rfl (At.alloc Tryz.zeroValue31 rfl rfl (fun b2 => (At.storeAll (i := 0) Tryz.sizeOf31 rfl rfl rfl (by simp [Value.oneCell']) rfl rfl ?_))))))
 simp only [sc0, scS]
 refine tA rfl rfl (tE (tR ?_))
 refine tV (Val.loadAll (i := 1) Tryz.isAgg39 Tryz.sizeOf39 rfl rfl (by rw [List.length_map]; exact hl)) rfl ?_
 refine At.callP (fun w hw => (by have := openSupR_p l w hl; rwa [openSup_yes hg] at this)) Tryz.call22 rfl rfl (tM rfl rfl (tV (Val.extract rfl rfl) rfl (tV (Val.extract rfl rfl) rfl (At.alloc Tryz.zeroValue31 rfl rfl (fun b3 => (At.storeAll (i := 0) Tryz.sizeOf31 rfl rfl rfl (by simp [Value.oneCell']) rfl rfl ?_))))))
 simp only [sc0, scS]
 refine tA rfl rfl (tE (tR (tV (Val.loadAll (i := 1) Tryz.isAgg31 Tryz.sizeOf31 rfl rfl rfl) rfl (tV (Val.loadAll (i := 0) Tryz.isAgg31 Tryz.sizeOf31 rfl rfl rfl) rfl (tV (Val.eqAgg (b := true) Tryz.eqGuardType31 (fun w => by simpa using eq_31 (num l 8 4 : Nat) (num l 12 4 : Nat) (num l 16 4 : Nat) (num l 8 4 : Nat) (num l 12 4 : Nat) (num l 16 4 : Nat) w) rfl rfl) rfl (tM rfl rfl (At.yes rfl rfl (tM rfl rfl (At.yes rfl rfl (tM rfl rfl (At.yes rfl rfl (tV (Val.bin rfl rfl rfl) rfl (tV (Val.pickT rfl rfl) rfl (tA rfl rfl (tE (At.retC (At.ret1 (.inl rfl) rfl rfl rfl (fun w hw => ?_))))))))))))))))))
 exact ⟨rfl, hw.mod⟩
theorem lawSupers_F (l : List UInt8) (w : World) (ht : Tab w) (hl : l.length = 64) (hg : ¬ OkSup l) :
    PureC Tryz.prog 7 [.agg (l.map bv).toArray] (.bool true) w := by
 refine enter0 Tryz.func7 rfl Tryz.ntmps7 rfl ?_
 simp only [envOf]
 refine tR (At.box rfl rfl rfl (fun b1 => (tA rfl rfl (tE (tR ?_)))))
 refine tV (Val.loadAll (i := 0) Tryz.isAgg39 Tryz.sizeOf39 rfl rfl (by rw [List.length_map]; exact hl)) rfl ?_
 refine At.callP (fun w hw => (by have := openSup_p l w (ht.mod hw.mod) hl; rwa [openSup_no hg] at this)) Tryz.call21 rfl rfl (tM rfl rfl (tV (Val.extract rfl rfl) rfl (tV (Val.extract rfl rfl) rfl (At.alloc Tryz.zeroValue31 rfl rfl (fun b2 => (At.storeAll (i := 0) Tryz.sizeOf31 rfl rfl rfl (by simp [Value.oneCell']) rfl rfl ?_))))))
 simp only [sc0, scS]
 refine tA rfl rfl (tE (tR ?_))
 refine tV (Val.loadAll (i := 1) Tryz.isAgg39 Tryz.sizeOf39 rfl rfl (by rw [List.length_map]; exact hl)) rfl ?_
 refine At.callP (fun w hw => (by have := openSupR_p l w hl; rwa [openSup_no hg] at this)) Tryz.call22 rfl rfl (tM rfl rfl (tV (Val.extract rfl rfl) rfl (tV (Val.extract rfl rfl) rfl (At.alloc Tryz.zeroValue31 rfl rfl (fun b3 => (At.storeAll (i := 0) Tryz.sizeOf31 rfl rfl rfl (by simp [Value.oneCell']) rfl rfl ?_))))))
 simp only [sc0, scS]
 refine tA rfl rfl (tE (tR (tV (Val.loadAll (i := 1) Tryz.isAgg31 Tryz.sizeOf31 rfl rfl rfl) rfl (tV (Val.loadAll (i := 0) Tryz.isAgg31 Tryz.sizeOf31 rfl rfl rfl) rfl (tV (Val.eqAgg (b := true) Tryz.eqGuardType31 (fun w => by simpa using eq_31 0 0 0 0 0 0 w) rfl rfl) rfl (tM rfl rfl (At.yes rfl rfl (tM rfl rfl (At.yes rfl rfl (tM rfl rfl (At.yes rfl rfl (tV (Val.bin rfl rfl rfl) rfl (tV (Val.pickT rfl rfl) rfl (tA rfl rfl (tE (At.retC (At.ret1 (.inl rfl) rfl rfl rfl (fun w hw => ?_))))))))))))))))))
 exact ⟨rfl, hw.mod⟩
theorem lawSupers_p (l : List UInt8) (w : World) (ht : Tab w) (hl : l.length = 64) : PureC Tryz.prog 7 [.agg (l.map bv).toArray] (.bool true) w := by
  by_cases hg : OkSup l
  · exact lawSupers_T l w ht hl hg
  · exact lawSupers_F l w ht hl hg
end Go.Proofs.YthdmlpjhcalliaaGreatDoor
namespace Go.Proofs.YthdmlpjhcalliaaGreatDoor
open Go Go.Wk
def OkH (p : Int) (x y : BitVec 64) : Prop := GoodH p ((x.setWidth 32).toNat : Nat) ((y.setWidth 32).toNat : Nat) ∧ sealW (BitVec.ofInt 64 (512 * p)) (x.setWidth 32) = x ∧ sealW (BitVec.ofInt 64 (512 * p + 8)) (y.setWidth 32) = y
instance (p : Int) (x y : BitVec 64) : Decidable (OkH p x y) := by unfold OkH; infer_instance
def openHdrV (p : Int) (x y : BitVec 64) : Value := if OkH p x y then .tuple #[.agg #[.int .i64 ((x.setWidth 32).toNat : Nat), .int .i64 ((y.setWidth 32).toNat : Nat)], .int .i64 0] else .tuple #[.agg #[.int .i64 0, .int .i64 0], .int .i64 33]
theorem openHdr_yes {p : Int} {x y : BitVec 64} (h : OkH p x y) : openHdrV p x y = .tuple #[.agg #[.int .i64 ((x.setWidth 32).toNat : Nat), .int .i64 ((y.setWidth 32).toNat : Nat)], .int .i64 0] := if_pos h
theorem openHdr_no {p : Int} {x y : BitVec 64} (h : ¬ OkH p x y) : openHdrV p x y = .tuple #[.agg #[.int .i64 0, .int .i64 0], .int .i64 33] := if_neg h
theorem hdr_iff (p : Int) (x y : BitVec 64) : hdr p ((x.setWidth 32).toNat : Nat) ((y.setWidth 32).toNat : Nat) = [x, y] ↔ sealW (BitVec.ofInt 64 (512 * p)) (x.setWidth 32) = x ∧ sealW (BitVec.ofInt 64 (512 * p + 8)) (y.setWidth 32) = y := by
  unfold hdr
  rw [ofInt_toNat, ofInt_toNat]
  simp
theorem openHdr_p (p : Int) (x y : BitVec 64) (w : World) (ht : Tab w) :
    PureC Tryz.prog 37 [.int .i64 p, .agg #[b64 x, b64 y]] (openHdrV p x y) w := by
 refine enterD0 Tryz.func37 rfl Tryz.ntmps37 rfl ?_
 simp only [envOf]
 refine tR (At.box rfl rfl rfl (fun b1 => (At.alloc Tryz.zeroValue47 rfl rfl (fun b2 => (At.alloc Tryz.zeroValue67 rfl rfl (fun b3 => (tE (tR (At.defer rfl (tE (tR (tM rfl rfl (At.callP (fun w hw => isData_p _ w) Tryz.call83 rfl rfl ?_)))))))))))))
 refine At.split (t := 8) rfl (fun h4 => ?_) (fun h4 => ?_)
 ·have hd := data_T.1 h4
  refine At.callP (fun w hw => must_T _ w) Tryz.call62 rfl rfl (tE (tR (tM rfl rfl (tV (Val.bin rfl rfl rfl) rfl ?_))))
  rw [wrap_i64 (n := p * 512) (by omega) (by omega), Int.mul_comm p 512]
  refine tA rfl rfl (tE (At.seq ?_))
  by_cases hs0 : sealW (BitVec.ofInt 64 (512 * p)) (x.setWidth 32) = x <;> by_cases hs1 : sealW (BitVec.ofInt 64 (512 * p + 8)) (y.setWidth 32) = y
  ·refine At.tail 10 rfl (by decide +kernel) ?_
   simp only [List.take_succ_cons, List.take_zero, List.drop_succ_cons, List.drop_zero]
   refine qM rfl rfl (qV (Val.indexArr 0 rfl Tryz.underlying58 Tryz.sizeOf34 rfl rfl (by decide) (by decide)) rfl (qV (Val.load (i := 2) Tryz.isAgg34 rfl rfl rfl) rfl (QAt.callP (fun w hw => held_T (512 * p) x 33 w (ht.mod hw.mod) hs0) Tryz.call73 rfl rfl (qM rfl rfl (qV (Val.bin rfl rfl rfl) rfl ?_)))))
   rw [wrap_i64 (n := 512 * p + 8) (by omega) (by omega)]
   refine qV (Val.indexArr 1 rfl Tryz.underlying58 Tryz.sizeOf34 rfl rfl (by decide) (by decide)) rfl (qV (Val.load (i := 2) Tryz.isAgg34 rfl rfl rfl) rfl (QAt.callP (fun w hw => held_T (512 * p + 8) y 33 w (ht.mod hw.mod) hs1) Tryz.call73 rfl rfl ?_))
   refine qV (Val.build (fun a ha => by simp only [List.map_toArray, List.map_cons, List.map_nil, ha.eval (x := (.tmp 15)) rfl, ha.eval (x := (.tmp 20)) rfl] <;> rfl) (bld_47_0_1 _ _ )) rfl (QAt.fin (At.storeAll (i := 1) Tryz.sizeOf47 rfl rfl rfl (by simp [Value.oneCell']) rfl rfl ?_))
   simp only [sc0, scS]
   refine tE (tR (tM rfl rfl (tV (Val.loadAll (i := 1) Tryz.isAgg47 Tryz.sizeOf47 rfl rfl rfl) rfl (At.callP (fun w hw => goodHdr_p _ _ _ w) Tryz.call79 rfl rfl ?_))))
   refine At.split (t := 24) rfl (fun h5 => ?_) (fun h5 => ?_)
   ·have hg := of_decide_eq_true h5
    refine At.callP (fun w hw => must_T _ w) Tryz.call62 rfl rfl (tE (tR (tV (Val.loadAll (i := 1) Tryz.isAgg47 Tryz.sizeOf47 rfl rfl rfl) rfl (At.storeAll (i := 1) Tryz.sizeOf47 rfl rfl rfl (by simp [Value.oneCell']) rfl rfl ?_))))
    simp only [sc0, scS]
    refine At.store (i := 0) Tryz.sizeOf67 rfl rfl rfl rfl (by first | decide | simp) ?_
    simp only [sc0, scS]
    refine tE (At.retC (At.leaveN (.inl rfl) rfl Tryz.call82 (fun w hw => caughtHeader_idle _ _ w) rfl (ResOf.all (i := 1) Tryz.isAgg47 Tryz.sizeOf47 rfl rfl rfl) (ResOf.one (i := 0) Tryz.isAgg67 rfl rfl rfl) (fun w hw => ?_)))
    exact ⟨by rw [openHdr_yes ⟨hg, hs0, hs1⟩], hw.mod⟩
   ·have hno : ¬ OkH p x y := fun h => of_decide_eq_false h5 h.1
    refine At.callT0 (fun w hw => must_F _ w) Tryz.call62 rfl (At.thenE (At.leaveP rfl Tryz.call82 ((erase_perm _ 1 _ rfl).trans (List.Perm.cons _ (erase_perm _ 0 _ rfl))) (fun w hw => caughtHeader_pan _ _ _ _ _ w (hw.blk (i := 0) rfl) rfl (hw.blk (i := 1) rfl) hw.ne01) rfl (ResOf.all (i := 0) Tryz.isAgg47 Tryz.sizeOf47 rfl rfl rfl) (ResOf.one (i := 1) Tryz.isAgg67 rfl rfl rfl) (fun w hw => ?_)))
    exact ⟨by rw [openHdr_no hno], hw.mod⟩
  ·have hno : ¬ OkH p x y := fun h => hs1 h.2.2
   refine At.throwR (c := brk 150 33) 10 8 [(4, .pointer (some ⟨b2, 0, none⟩)), (5, .pointer (some ⟨b3, 0, none⟩))] (Sub.cons rfl (Sub.cons rfl Sub.nil)) rfl rfl (by decide +kernel) (by decide) rfl rfl ?_ ?_
   ·refine At.thenE (At.leaveP rfl Tryz.call82 ((erase_perm _ 1 _ rfl).trans (List.Perm.cons _ (erase_perm _ 0 _ rfl))) (fun w hw => caughtHeader_pan _ _ _ _ _ w (hw.blk (i := 0) rfl) rfl (hw.blk (i := 1) rfl) hw.ne01) rfl (ResOf.all (i := 0) Tryz.isAgg47 Tryz.sizeOf47 rfl rfl rfl) (ResOf.one (i := 1) Tryz.isAgg67 rfl rfl rfl) (fun w hw => ?_))
    exact ⟨by rw [openHdr_no hno], hw.mod⟩
   ·simp only [List.take_succ_cons, List.take_zero]
    refine TAt.val (Val.move rfl) rfl rfl rfl rfl (TAt.val (Val.indexArr 0 rfl Tryz.underlying58 Tryz.sizeOf34 rfl rfl (by decide) (by decide)) rfl rfl rfl rfl (TAt.val (Val.load (i := 2) Tryz.isAgg34 rfl rfl rfl) rfl rfl rfl rfl (TAt.callP (fun w hw => held_T (512 * p) x 33 w (ht.mod hw.mod) hs0) Tryz.call73 rfl rfl rfl (TAt.val (Val.move rfl) rfl rfl rfl rfl (TAt.val (Val.bin rfl rfl rfl) rfl rfl rfl rfl ?_)))))
    rw [wrap_i64 (n := 512 * p + 8) (by omega) (by omega)]
    refine TAt.val (Val.indexArr 1 rfl Tryz.underlying58 Tryz.sizeOf34 rfl rfl (by decide) (by decide)) rfl rfl rfl rfl (TAt.val (Val.load (i := 2) Tryz.isAgg34 rfl rfl rfl) rfl rfl rfl rfl (TAt.callT (.int .i64 0) (fun w hw => held_F (512 * p + 8) y 33 w (ht.mod hw.mod) hs1) Tryz.call73 rfl rfl ?_))
    refine TAt.val (Val.build (fun a ha => by simp only [List.map_toArray, List.map_cons, List.map_nil, ha.eval (x := (.tmp 15)) rfl, ha.eval (x := (.tmp 20)) rfl] <;> rfl) (bld_47_0_1 _ _ )) rfl rfl rfl rfl ?_
    exact TAt.fin
  ·have hno : ¬ OkH p x y := fun h => hs0 h.2.1
   refine At.throwR (c := brk 150 33) 10 3 [(4, .pointer (some ⟨b2, 0, none⟩)), (5, .pointer (some ⟨b3, 0, none⟩))] (Sub.cons rfl (Sub.cons rfl Sub.nil)) rfl rfl (by decide +kernel) (by decide) rfl rfl ?_ ?_
   ·refine At.thenE (At.leaveP rfl Tryz.call82 ((erase_perm _ 1 _ rfl).trans (List.Perm.cons _ (erase_perm _ 0 _ rfl))) (fun w hw => caughtHeader_pan _ _ _ _ _ w (hw.blk (i := 0) rfl) rfl (hw.blk (i := 1) rfl) hw.ne01) rfl (ResOf.all (i := 0) Tryz.isAgg47 Tryz.sizeOf47 rfl rfl rfl) (ResOf.one (i := 1) Tryz.isAgg67 rfl rfl rfl) (fun w hw => ?_))
    exact ⟨by rw [openHdr_no hno], hw.mod⟩
   ·simp only [List.take_succ_cons, List.take_zero]
    refine TAt.val (Val.move rfl) rfl rfl rfl rfl (TAt.val (Val.indexArr 0 rfl Tryz.underlying58 Tryz.sizeOf34 rfl rfl (by decide) (by decide)) rfl rfl rfl rfl (TAt.val (Val.load (i := 2) Tryz.isAgg34 rfl rfl rfl) rfl rfl rfl rfl (TAt.callT (.int .i64 0) (fun w hw => held_F (512 * p) x 33 w (ht.mod hw.mod) hs0) Tryz.call73 rfl rfl (TAt.val (Val.move rfl) rfl rfl rfl rfl (TAt.val (Val.bin rfl rfl rfl) rfl rfl rfl rfl ?_)))))
    rw [wrap_i64 (n := 512 * p + 8) (by omega) (by omega)]
    refine TAt.val (Val.indexArr 1 rfl Tryz.underlying58 Tryz.sizeOf34 rfl rfl (by decide) (by decide)) rfl rfl rfl rfl (TAt.val (Val.load (i := 2) Tryz.isAgg34 rfl rfl rfl) rfl rfl rfl rfl (TAt.callP (fun w hw => held_T (512 * p + 8) y 33 w (ht.mod hw.mod) hs1) Tryz.call73 rfl rfl rfl ?_))
    refine TAt.val (Val.build (fun a ha => by simp only [List.map_toArray, List.map_cons, List.map_nil, ha.eval (x := (.tmp 15)) rfl, ha.eval (x := (.tmp 20)) rfl] <;> rfl) (bld_47_0_1 _ _ )) rfl rfl rfl rfl ?_
    exact TAt.fin
  ·have hno : ¬ OkH p x y := fun h => hs0 h.2.1
   refine At.throwR (c := brk 150 33) 10 3 [(4, .pointer (some ⟨b2, 0, none⟩)), (5, .pointer (some ⟨b3, 0, none⟩))] (Sub.cons rfl (Sub.cons rfl Sub.nil)) rfl rfl (by decide +kernel) (by decide) rfl rfl ?_ ?_
   ·refine At.thenE (At.leaveP rfl Tryz.call82 ((erase_perm _ 1 _ rfl).trans (List.Perm.cons _ (erase_perm _ 0 _ rfl))) (fun w hw => caughtHeader_pan _ _ _ _ _ w (hw.blk (i := 0) rfl) rfl (hw.blk (i := 1) rfl) hw.ne01) rfl (ResOf.all (i := 0) Tryz.isAgg47 Tryz.sizeOf47 rfl rfl rfl) (ResOf.one (i := 1) Tryz.isAgg67 rfl rfl rfl) (fun w hw => ?_))
    exact ⟨by rw [openHdr_no hno], hw.mod⟩
   ·simp only [List.take_succ_cons, List.take_zero]
    refine TAt.val (Val.move rfl) rfl rfl rfl rfl (TAt.val (Val.indexArr 0 rfl Tryz.underlying58 Tryz.sizeOf34 rfl rfl (by decide) (by decide)) rfl rfl rfl rfl (TAt.val (Val.load (i := 2) Tryz.isAgg34 rfl rfl rfl) rfl rfl rfl rfl (TAt.callT (.int .i64 0) (fun w hw => held_F (512 * p) x 33 w (ht.mod hw.mod) hs0) Tryz.call73 rfl rfl (TAt.val (Val.move rfl) rfl rfl rfl rfl (TAt.val (Val.bin rfl rfl rfl) rfl rfl rfl rfl ?_)))))
    rw [wrap_i64 (n := 512 * p + 8) (by omega) (by omega)]
    refine TAt.val (Val.indexArr 1 rfl Tryz.underlying58 Tryz.sizeOf34 rfl rfl (by decide) (by decide)) rfl rfl rfl rfl (TAt.val (Val.load (i := 2) Tryz.isAgg34 rfl rfl rfl) rfl rfl rfl rfl (TAt.callT (.int .i64 0) (fun w hw => held_F (512 * p + 8) y 33 w (ht.mod hw.mod) hs1) Tryz.call73 rfl rfl ?_))
    refine TAt.val (Val.build (fun a ha => by simp only [List.map_toArray, List.map_cons, List.map_nil, ha.eval (x := (.tmp 15)) rfl, ha.eval (x := (.tmp 20)) rfl] <;> rfl) (bld_47_0_1 _ _ )) rfl rfl rfl rfl ?_
    exact TAt.fin
 ·have hno : ¬ OkH p x y := fun h => by have := h.1; unfold GoodH at this; rw [data_F] at h4; omega
  refine At.callT0 (fun w hw => must_F _ w) Tryz.call62 rfl (At.thenE (At.leaveP rfl Tryz.call82 ((erase_perm _ 1 _ rfl).trans (List.Perm.cons _ (erase_perm _ 0 _ rfl))) (fun w hw => caughtHeader_pan _ _ _ _ _ w (hw.blk (i := 0) rfl) rfl (hw.blk (i := 1) rfl) hw.ne01) rfl (ResOf.all (i := 0) Tryz.isAgg47 Tryz.sizeOf47 rfl rfl rfl) (ResOf.one (i := 1) Tryz.isAgg67 rfl rfl rfl) (fun w hw => ?_)))
  exact ⟨by rw [openHdr_no hno], hw.mod⟩
theorem openHdrR_p (p : Int) (x y : BitVec 64) (w : World) :
    PureC Tryz.prog 38 [.int .i64 p, .agg #[b64 x, b64 y]] (openHdrV p x y) w := by
 refine enter0 Tryz.func38 rfl Tryz.ntmps38 rfl ?_
 simp only [envOf]
 refine tR (At.box rfl rfl rfl (fun b1 => (At.alloc Tryz.zeroValue47 rfl rfl (fun b2 => (tA rfl rfl (tE (tR (tV (Val.indexArr 0 rfl Tryz.underlying58 Tryz.sizeOf34 rfl rfl (by decide) (by decide)) rfl (tV (Val.load (i := 1) Tryz.isAgg34 rfl rfl rfl) rfl (tV (Val.rem rfl rfl (by decide)) rfl (tV (Val.conv Tryz.underlying34 Tryz.underlying3 rfl) rfl ?_)))))))))))
 rw [low64]
 refine tV (Val.indexArr 1 rfl Tryz.underlying58 Tryz.sizeOf34 rfl rfl (by decide) (by decide)) rfl (tV (Val.load (i := 1) Tryz.isAgg34 rfl rfl rfl) rfl (tV (Val.rem rfl rfl (by decide)) rfl (tV (Val.conv Tryz.underlying34 Tryz.underlying3 rfl) rfl ?_)))
 rw [low64]
 refine tV (Val.build (fun a ha => by simp only [List.map_toArray, List.map_cons, List.map_nil, ha.eval (x := (.tmp 12)) rfl, ha.eval (x := (.tmp 16)) rfl] <;> rfl) (bld_47_0_1 _ _ )) rfl (At.alloc Tryz.zeroValue47 rfl rfl (fun b3 => (At.storeAll (i := 0) Tryz.sizeOf47 rfl rfl rfl (by simp [Value.oneCell']) rfl rfl ?_)))
 simp only [sc0, scS]
 refine tE (tR (tM rfl rfl (tV (Val.loadAll (i := 0) Tryz.isAgg47 Tryz.sizeOf47 rfl rfl rfl) rfl (At.callP (fun w hw => packHdrR_p p ((x.setWidth 32).toNat : Nat) ((y.setWidth 32).toNat : Nat) w) Tryz.call36 rfl rfl ?_))))
 by_cases hg : GoodH p ((x.setWidth 32).toNat : Nat) ((y.setWidth 32).toNat : Nat)
 ·rw [packHdr_yes hg]
  refine tM rfl rfl (tV (Val.extract rfl rfl) rfl (tV (Val.extract rfl rfl) rfl (At.alloc zero_58 zc_58 rfl (fun b4 => (At.storeAll (i := 0) Tryz.sizeOf58 rfl rfl rfl (by simp [Value.oneCell']) rfl (by simp) ?_)))))
  simp only [sc0, scS]
  refine tA rfl rfl (tE (At.seq (tR (tM rfl rfl (tV (Val.bin rfl rfl rfl) rfl (tM rfl rfl (At.yes rfl rfl (tV (Val.loadAll (i := 0) Tryz.isAgg58 Tryz.sizeOf58 rfl rfl rfl) rfl (At.yes rfl rfl (tV (Val.loadAll (i := 3) Tryz.isAgg58 Tryz.sizeOf58 rfl rfl rfl) rfl (At.yes rfl rfl (tV (Val.neAgg (b := decide (hdr p ((x.setWidth 32).toNat : Nat) ((y.setWidth 32).toNat : Nat) = [x, y])) Tryz.eqGuardType58 (fun w => by have := run_equal_arr Tryz.underlying58 Tryz.underlying34 Tryz.isAgg34 Tryz.sizeOf34 ((hdr p ((x.setWidth 32).toNat : Nat) ((y.setWidth 32).toNat : Nat)).map fun x => (x.toNat : Int)) (([x, y]).map fun x => (x.toNat : Int)) rfl rfl w; rw [words_eq] at this; exact this) rfl rfl) rfl (tV (Val.pickF rfl rfl) rfl (tE ?_))))))))))))))
  refine At.cond rfl (fun h5 => ?_) (fun h5 => ?_)
  ·refine tR ?_
   refine tV (Val.build (fun a ha => by simp only [List.map_toArray, List.map_cons, List.map_nil] <;> rfl) (bld_47_)) rfl (At.storeAll (i := 2) Tryz.sizeOf47 rfl rfl rfl (by simp [Value.oneCell']) rfl rfl ?_)
   simp only [sc0, scS]
   refine tA rfl rfl (tE (At.retC (At.thenR (At.ret2 (.inl rfl) rfl rfl (ResOf.all (i := 2) Tryz.isAgg47 Tryz.sizeOf47 rfl rfl rfl) rfl (fun w hw => ?_)))))
   exact ⟨by rw [openHdr_no (fun h => by have := (hdr_iff p x y).2 h.2; simp_all)], hw.mod⟩
  ·refine At.skipC (At.thenN (tR (tV (Val.loadAll (i := 1) Tryz.isAgg47 Tryz.sizeOf47 rfl rfl rfl) rfl (At.storeAll (i := 2) Tryz.sizeOf47 rfl rfl rfl (by simp [Value.oneCell']) rfl rfl ?_))))
   simp only [sc0, scS]
   refine tA rfl rfl (tE (At.retC (At.ret2 (.inl rfl) rfl rfl (ResOf.all (i := 2) Tryz.isAgg47 Tryz.sizeOf47 rfl rfl rfl) rfl (fun w hw => ?_))))
   exact ⟨by rw [openHdr_yes ⟨hg, (hdr_iff p x y).1 (by simp_all)⟩], hw.mod⟩
 ·rw [packHdr_no hg]
  have hno : ¬ OkH p x y := fun h => hg h.1
  refine tM rfl rfl (tV (Val.extract rfl rfl) rfl (tV (Val.extract rfl rfl) rfl (At.alloc zero_58 zc_58 rfl (fun b6 => (At.storeAll (i := 0) Tryz.sizeOf58 rfl rfl rfl (by simp [Value.oneCell']) rfl (by simp) ?_)))))
  simp only [sc0, scS]
  refine tA rfl rfl (tE (At.seq (tR (tM rfl rfl (tV (Val.bin rfl rfl rfl) rfl (tM rfl rfl (At.no rfl rfl rfl rfl (At.no rfl rfl rfl rfl (At.no rfl rfl rfl rfl (tV (Val.pickT rfl rfl) rfl (tE (At.condT rfl (tR ?_)))))))))))))
  refine tV (Val.build (fun a ha => by simp only [List.map_toArray, List.map_cons, List.map_nil] <;> rfl) (bld_47_)) rfl (At.storeAll (i := 2) Tryz.sizeOf47 rfl rfl rfl (by simp [Value.oneCell']) rfl rfl ?_)
  simp only [sc0, scS]
  refine tA rfl rfl (tE (At.retC (At.thenR (At.ret2 (.inl rfl) rfl rfl (ResOf.all (i := 2) Tryz.isAgg47 Tryz.sizeOf47 rfl rfl rfl) rfl (fun w hw => ?_)))))
  exact ⟨by rw [openHdr_no hno], hw.mod⟩
end Go.Proofs.YthdmlpjhcalliaaGreatDoor
namespace Go.Proofs.YthdmlpjhcalliaaGreatDoor
open Go Go.Wk
theorem lawHeaders_TT (p n o : Int) (x y : BitVec 64) (w : World) (ht : Tab w) (hg : GoodH p n o) (ho : OkH p x y) :
    PureC Tryz.prog 11 [.int .i64 p, .agg #[.int .i64 n, .int .i64 o], .agg #[b64 x, b64 y]] (.bool true) w := by
 refine enter0 Tryz.func11 rfl Tryz.ntmps11 rfl ?_
 simp only [envOf]
 refine tR (At.box rfl rfl rfl (fun b1 => (At.box rfl rfl rfl (fun b2 => (tA rfl rfl (tE (tR (tM rfl rfl (tV (Val.loadAll (i := 1) Tryz.isAgg47 Tryz.sizeOf47 rfl rfl rfl) rfl ?_)))))))))
 refine At.callP (fun w hw => (by have := packHdr_p p n o w (ht.mod hw.mod); rwa [packHdr_yes hg] at this)) Tryz.call35 rfl rfl (tM rfl rfl (tV (Val.extract rfl rfl) rfl (tV (Val.extract rfl rfl) rfl (At.alloc zero_58 zc_58 rfl (fun b3 => (At.storeAll (i := 0) Tryz.sizeOf58 rfl rfl rfl (by simp [Value.oneCell']) rfl (by simp) ?_))))))
 simp only [sc0, scS]
 refine tA rfl rfl (tE (tR (tM rfl rfl (tV (Val.loadAll (i := 2) Tryz.isAgg47 Tryz.sizeOf47 rfl rfl rfl) rfl ?_))))
 refine At.callP (fun w hw => (by have := packHdrR_p p n o w; rwa [packHdr_yes hg] at this)) Tryz.call36 rfl rfl (tM rfl rfl (tV (Val.extract rfl rfl) rfl (tV (Val.extract rfl rfl) rfl (At.alloc zero_58 zc_58 rfl (fun b4 => (At.storeAll (i := 0) Tryz.sizeOf58 rfl rfl rfl (by simp [Value.oneCell']) rfl (by simp) ?_))))))
 simp only [sc0, scS]
 refine tA rfl rfl (tE (At.seq (tR (tV (Val.loadAll (i := 1) Tryz.isAgg58 Tryz.sizeOf58 rfl rfl rfl) rfl (tV (Val.loadAll (i := 0) Tryz.isAgg58 Tryz.sizeOf58 rfl rfl rfl) rfl (tV (Val.neAgg (b := true) Tryz.eqGuardType58 (fun w => run_same_words Tryz.underlying58 Tryz.underlying34 Tryz.isAgg34 Tryz.sizeOf34 (hdr p n o) rfl w) rfl rfl) rfl (tM rfl rfl (At.yes rfl rfl (tM rfl rfl (At.yes rfl rfl (tM rfl rfl (At.yes rfl rfl (tV (Val.bin rfl rfl rfl) rfl (tV (Val.pickF rfl rfl) rfl (tE (At.condF rfl (At.skipC (At.thenN (tR (tM rfl rfl (tV (Val.loadAll (i := 2) Tryz.isAgg58 Tryz.sizeOf58 rfl rfl rfl) rfl ?_)))))))))))))))))))))
 refine At.callP (fun w hw => (by have := openHdr_p p x y w (ht.mod hw.mod); rwa [openHdr_yes ho] at this)) Tryz.call37 rfl rfl (tM rfl rfl (tV (Val.extract rfl rfl) rfl (tV (Val.extract rfl rfl) rfl (At.alloc Tryz.zeroValue47 rfl rfl (fun b5 => (At.storeAll (i := 0) Tryz.sizeOf47 rfl rfl rfl (by simp [Value.oneCell']) rfl rfl ?_))))))
 simp only [sc0, scS]
 refine tA rfl rfl (tE (tR (tM rfl rfl (tV (Val.loadAll (i := 3) Tryz.isAgg58 Tryz.sizeOf58 rfl rfl rfl) rfl ?_))))
 refine At.callP (fun w hw => (by have := openHdrR_p p x y w; rwa [openHdr_yes ho] at this)) Tryz.call38 rfl rfl (tM rfl rfl (tV (Val.extract rfl rfl) rfl (tV (Val.extract rfl rfl) rfl (At.alloc Tryz.zeroValue47 rfl rfl (fun b6 => (At.storeAll (i := 0) Tryz.sizeOf47 rfl rfl rfl (by simp [Value.oneCell']) rfl rfl ?_))))))
 simp only [sc0, scS]
 refine tA rfl rfl (tE (tR (tV (Val.loadAll (i := 1) Tryz.isAgg47 Tryz.sizeOf47 rfl rfl rfl) rfl (tV (Val.loadAll (i := 0) Tryz.isAgg47 Tryz.sizeOf47 rfl rfl rfl) rfl (tV (Val.eqAgg (b := true) Tryz.eqGuardType47 (fun w => by simpa using eq_47 ((x.setWidth 32).toNat : Nat) ((y.setWidth 32).toNat : Nat) ((x.setWidth 32).toNat : Nat) ((y.setWidth 32).toNat : Nat) w) rfl rfl) rfl (tM rfl rfl (At.yes rfl rfl (tM rfl rfl (At.yes rfl rfl (tM rfl rfl (At.yes rfl rfl (tV (Val.bin rfl rfl rfl) rfl (tV (Val.pickT rfl rfl) rfl (tA rfl rfl (tE (At.retC (At.ret1 (.inl rfl) rfl rfl rfl (fun w hw => ?_))))))))))))))))))
 exact ⟨rfl, hw.mod⟩
theorem lawHeaders_TF (p n o : Int) (x y : BitVec 64) (w : World) (ht : Tab w) (hg : GoodH p n o) (ho : ¬ OkH p x y) :
    PureC Tryz.prog 11 [.int .i64 p, .agg #[.int .i64 n, .int .i64 o], .agg #[b64 x, b64 y]] (.bool true) w := by
 refine enter0 Tryz.func11 rfl Tryz.ntmps11 rfl ?_
 simp only [envOf]
 refine tR (At.box rfl rfl rfl (fun b1 => (At.box rfl rfl rfl (fun b2 => (tA rfl rfl (tE (tR (tM rfl rfl (tV (Val.loadAll (i := 1) Tryz.isAgg47 Tryz.sizeOf47 rfl rfl rfl) rfl ?_)))))))))
 refine At.callP (fun w hw => (by have := packHdr_p p n o w (ht.mod hw.mod); rwa [packHdr_yes hg] at this)) Tryz.call35 rfl rfl (tM rfl rfl (tV (Val.extract rfl rfl) rfl (tV (Val.extract rfl rfl) rfl (At.alloc zero_58 zc_58 rfl (fun b3 => (At.storeAll (i := 0) Tryz.sizeOf58 rfl rfl rfl (by simp [Value.oneCell']) rfl (by simp) ?_))))))
 simp only [sc0, scS]
 refine tA rfl rfl (tE (tR (tM rfl rfl (tV (Val.loadAll (i := 2) Tryz.isAgg47 Tryz.sizeOf47 rfl rfl rfl) rfl ?_))))
 refine At.callP (fun w hw => (by have := packHdrR_p p n o w; rwa [packHdr_yes hg] at this)) Tryz.call36 rfl rfl (tM rfl rfl (tV (Val.extract rfl rfl) rfl (tV (Val.extract rfl rfl) rfl (At.alloc zero_58 zc_58 rfl (fun b4 => (At.storeAll (i := 0) Tryz.sizeOf58 rfl rfl rfl (by simp [Value.oneCell']) rfl (by simp) ?_))))))
 simp only [sc0, scS]
 refine tA rfl rfl (tE (At.seq (tR (tV (Val.loadAll (i := 1) Tryz.isAgg58 Tryz.sizeOf58 rfl rfl rfl) rfl (tV (Val.loadAll (i := 0) Tryz.isAgg58 Tryz.sizeOf58 rfl rfl rfl) rfl (tV (Val.neAgg (b := true) Tryz.eqGuardType58 (fun w => run_same_words Tryz.underlying58 Tryz.underlying34 Tryz.isAgg34 Tryz.sizeOf34 (hdr p n o) rfl w) rfl rfl) rfl (tM rfl rfl (At.yes rfl rfl (tM rfl rfl (At.yes rfl rfl (tM rfl rfl (At.yes rfl rfl (tV (Val.bin rfl rfl rfl) rfl (tV (Val.pickF rfl rfl) rfl (tE (At.condF rfl (At.skipC (At.thenN (tR (tM rfl rfl (tV (Val.loadAll (i := 2) Tryz.isAgg58 Tryz.sizeOf58 rfl rfl rfl) rfl ?_)))))))))))))))))))))
 refine At.callP (fun w hw => (by have := openHdr_p p x y w (ht.mod hw.mod); rwa [openHdr_no ho] at this)) Tryz.call37 rfl rfl (tM rfl rfl (tV (Val.extract rfl rfl) rfl (tV (Val.extract rfl rfl) rfl (At.alloc Tryz.zeroValue47 rfl rfl (fun b5 => (At.storeAll (i := 0) Tryz.sizeOf47 rfl rfl rfl (by simp [Value.oneCell']) rfl rfl ?_))))))
 simp only [sc0, scS]
 refine tA rfl rfl (tE (tR (tM rfl rfl (tV (Val.loadAll (i := 3) Tryz.isAgg58 Tryz.sizeOf58 rfl rfl rfl) rfl ?_))))
 refine At.callP (fun w hw => (by have := openHdrR_p p x y w; rwa [openHdr_no ho] at this)) Tryz.call38 rfl rfl (tM rfl rfl (tV (Val.extract rfl rfl) rfl (tV (Val.extract rfl rfl) rfl (At.alloc Tryz.zeroValue47 rfl rfl (fun b6 => (At.storeAll (i := 0) Tryz.sizeOf47 rfl rfl rfl (by simp [Value.oneCell']) rfl rfl ?_))))))
 simp only [sc0, scS]
 refine tA rfl rfl (tE (tR (tV (Val.loadAll (i := 1) Tryz.isAgg47 Tryz.sizeOf47 rfl rfl rfl) rfl (tV (Val.loadAll (i := 0) Tryz.isAgg47 Tryz.sizeOf47 rfl rfl rfl) rfl (tV (Val.eqAgg (b := true) Tryz.eqGuardType47 (fun w => by simpa using eq_47 0 0 0 0 w) rfl rfl) rfl (tM rfl rfl (At.yes rfl rfl (tM rfl rfl (At.yes rfl rfl (tM rfl rfl (At.yes rfl rfl (tV (Val.bin rfl rfl rfl) rfl (tV (Val.pickT rfl rfl) rfl (tA rfl rfl (tE (At.retC (At.ret1 (.inl rfl) rfl rfl rfl (fun w hw => ?_))))))))))))))))))
 exact ⟨rfl, hw.mod⟩
theorem lawHeaders_FT (p n o : Int) (x y : BitVec 64) (w : World) (ht : Tab w) (hg : ¬ GoodH p n o) (ho : OkH p x y) :
    PureC Tryz.prog 11 [.int .i64 p, .agg #[.int .i64 n, .int .i64 o], .agg #[b64 x, b64 y]] (.bool true) w := by
 refine enter0 Tryz.func11 rfl Tryz.ntmps11 rfl ?_
 simp only [envOf]
 refine tR (At.box rfl rfl rfl (fun b1 => (At.box rfl rfl rfl (fun b2 => (tA rfl rfl (tE (tR (tM rfl rfl (tV (Val.loadAll (i := 1) Tryz.isAgg47 Tryz.sizeOf47 rfl rfl rfl) rfl ?_)))))))))
 refine At.callP (fun w hw => (by have := packHdr_p p n o w (ht.mod hw.mod); rwa [packHdr_no hg] at this)) Tryz.call35 rfl rfl (tM rfl rfl (tV (Val.extract rfl rfl) rfl (tV (Val.extract rfl rfl) rfl (At.alloc zero_58 zc_58 rfl (fun b3 => (At.storeAll (i := 0) Tryz.sizeOf58 rfl rfl rfl (by simp [Value.oneCell']) rfl (by simp) ?_))))))
 simp only [sc0, scS]
 refine tA rfl rfl (tE (tR (tM rfl rfl (tV (Val.loadAll (i := 2) Tryz.isAgg47 Tryz.sizeOf47 rfl rfl rfl) rfl ?_))))
 refine At.callP (fun w hw => (by have := packHdrR_p p n o w; rwa [packHdr_no hg] at this)) Tryz.call36 rfl rfl (tM rfl rfl (tV (Val.extract rfl rfl) rfl (tV (Val.extract rfl rfl) rfl (At.alloc zero_58 zc_58 rfl (fun b4 => (At.storeAll (i := 0) Tryz.sizeOf58 rfl rfl rfl (by simp [Value.oneCell']) rfl (by simp) ?_))))))
 simp only [sc0, scS]
 refine tA rfl rfl (tE (At.seq (tR (tV (Val.loadAll (i := 1) Tryz.isAgg58 Tryz.sizeOf58 rfl rfl (by simp)) rfl (tV (Val.loadAll (i := 0) Tryz.isAgg58 Tryz.sizeOf58 rfl rfl (by simp)) rfl (tV (Val.neAgg (b := true) Tryz.eqGuardType58 (fun w => run_same_words Tryz.underlying58 Tryz.underlying34 Tryz.isAgg34 Tryz.sizeOf34 ([(0 : BitVec 64), 0]) rfl w) rfl rfl) rfl (tM rfl rfl (At.yes rfl rfl (tM rfl rfl (At.yes rfl rfl (tM rfl rfl (At.yes rfl rfl (tV (Val.bin rfl rfl rfl) rfl (tV (Val.pickF rfl rfl) rfl (tE (At.condF rfl (At.skipC (At.thenN (tR (tM rfl rfl (tV (Val.loadAll (i := 2) Tryz.isAgg58 Tryz.sizeOf58 rfl rfl rfl) rfl ?_)))))))))))))))))))))
 refine At.callP (fun w hw => (by have := openHdr_p p x y w (ht.mod hw.mod); rwa [openHdr_yes ho] at this)) Tryz.call37 rfl rfl (tM rfl rfl (tV (Val.extract rfl rfl) rfl (tV (Val.extract rfl rfl) rfl (At.alloc Tryz.zeroValue47 rfl rfl (fun b5 => (At.storeAll (i := 0) Tryz.sizeOf47 rfl rfl rfl (by simp [Value.oneCell']) rfl rfl ?_))))))
 simp only [sc0, scS]
 refine tA rfl rfl (tE (tR (tM rfl rfl (tV (Val.loadAll (i := 3) Tryz.isAgg58 Tryz.sizeOf58 rfl rfl rfl) rfl ?_))))
 refine At.callP (fun w hw => (by have := openHdrR_p p x y w; rwa [openHdr_yes ho] at this)) Tryz.call38 rfl rfl (tM rfl rfl (tV (Val.extract rfl rfl) rfl (tV (Val.extract rfl rfl) rfl (At.alloc Tryz.zeroValue47 rfl rfl (fun b6 => (At.storeAll (i := 0) Tryz.sizeOf47 rfl rfl rfl (by simp [Value.oneCell']) rfl rfl ?_))))))
 simp only [sc0, scS]
 refine tA rfl rfl (tE (tR (tV (Val.loadAll (i := 1) Tryz.isAgg47 Tryz.sizeOf47 rfl rfl rfl) rfl (tV (Val.loadAll (i := 0) Tryz.isAgg47 Tryz.sizeOf47 rfl rfl rfl) rfl (tV (Val.eqAgg (b := true) Tryz.eqGuardType47 (fun w => by simpa using eq_47 ((x.setWidth 32).toNat : Nat) ((y.setWidth 32).toNat : Nat) ((x.setWidth 32).toNat : Nat) ((y.setWidth 32).toNat : Nat) w) rfl rfl) rfl (tM rfl rfl (At.yes rfl rfl (tM rfl rfl (At.yes rfl rfl (tM rfl rfl (At.yes rfl rfl (tV (Val.bin rfl rfl rfl) rfl (tV (Val.pickT rfl rfl) rfl (tA rfl rfl (tE (At.retC (At.ret1 (.inl rfl) rfl rfl rfl (fun w hw => ?_))))))))))))))))))
 exact ⟨rfl, hw.mod⟩
theorem lawHeaders_FF (p n o : Int) (x y : BitVec 64) (w : World) (ht : Tab w) (hg : ¬ GoodH p n o) (ho : ¬ OkH p x y) :
    PureC Tryz.prog 11 [.int .i64 p, .agg #[.int .i64 n, .int .i64 o], .agg #[b64 x, b64 y]] (.bool true) w := by
 refine enter0 Tryz.func11 rfl Tryz.ntmps11 rfl ?_
 simp only [envOf]
 refine tR (At.box rfl rfl rfl (fun b1 => (At.box rfl rfl rfl (fun b2 => (tA rfl rfl (tE (tR (tM rfl rfl (tV (Val.loadAll (i := 1) Tryz.isAgg47 Tryz.sizeOf47 rfl rfl rfl) rfl ?_)))))))))
 refine At.callP (fun w hw => (by have := packHdr_p p n o w (ht.mod hw.mod); rwa [packHdr_no hg] at this)) Tryz.call35 rfl rfl (tM rfl rfl (tV (Val.extract rfl rfl) rfl (tV (Val.extract rfl rfl) rfl (At.alloc zero_58 zc_58 rfl (fun b3 => (At.storeAll (i := 0) Tryz.sizeOf58 rfl rfl rfl (by simp [Value.oneCell']) rfl (by simp) ?_))))))
 simp only [sc0, scS]
 refine tA rfl rfl (tE (tR (tM rfl rfl (tV (Val.loadAll (i := 2) Tryz.isAgg47 Tryz.sizeOf47 rfl rfl rfl) rfl ?_))))
 refine At.callP (fun w hw => (by have := packHdrR_p p n o w; rwa [packHdr_no hg] at this)) Tryz.call36 rfl rfl (tM rfl rfl (tV (Val.extract rfl rfl) rfl (tV (Val.extract rfl rfl) rfl (At.alloc zero_58 zc_58 rfl (fun b4 => (At.storeAll (i := 0) Tryz.sizeOf58 rfl rfl rfl (by simp [Value.oneCell']) rfl (by simp) ?_))))))
 simp only [sc0, scS]
 refine tA rfl rfl (tE (At.seq (tR (tV (Val.loadAll (i := 1) Tryz.isAgg58 Tryz.sizeOf58 rfl rfl (by simp)) rfl (tV (Val.loadAll (i := 0) Tryz.isAgg58 Tryz.sizeOf58 rfl rfl (by simp)) rfl (tV (Val.neAgg (b := true) Tryz.eqGuardType58 (fun w => run_same_words Tryz.underlying58 Tryz.underlying34 Tryz.isAgg34 Tryz.sizeOf34 ([(0 : BitVec 64), 0]) rfl w) rfl rfl) rfl (tM rfl rfl (At.yes rfl rfl (tM rfl rfl (At.yes rfl rfl (tM rfl rfl (At.yes rfl rfl (tV (Val.bin rfl rfl rfl) rfl (tV (Val.pickF rfl rfl) rfl (tE (At.condF rfl (At.skipC (At.thenN (tR (tM rfl rfl (tV (Val.loadAll (i := 2) Tryz.isAgg58 Tryz.sizeOf58 rfl rfl rfl) rfl ?_)))))))))))))))))))))
 refine At.callP (fun w hw => (by have := openHdr_p p x y w (ht.mod hw.mod); rwa [openHdr_no ho] at this)) Tryz.call37 rfl rfl (tM rfl rfl (tV (Val.extract rfl rfl) rfl (tV (Val.extract rfl rfl) rfl (At.alloc Tryz.zeroValue47 rfl rfl (fun b5 => (At.storeAll (i := 0) Tryz.sizeOf47 rfl rfl rfl (by simp [Value.oneCell']) rfl rfl ?_))))))
 simp only [sc0, scS]
 refine tA rfl rfl (tE (tR (tM rfl rfl (tV (Val.loadAll (i := 3) Tryz.isAgg58 Tryz.sizeOf58 rfl rfl rfl) rfl ?_))))
 refine At.callP (fun w hw => (by have := openHdrR_p p x y w; rwa [openHdr_no ho] at this)) Tryz.call38 rfl rfl (tM rfl rfl (tV (Val.extract rfl rfl) rfl (tV (Val.extract rfl rfl) rfl (At.alloc Tryz.zeroValue47 rfl rfl (fun b6 => (At.storeAll (i := 0) Tryz.sizeOf47 rfl rfl rfl (by simp [Value.oneCell']) rfl rfl ?_))))))
 simp only [sc0, scS]
 refine tA rfl rfl (tE (tR (tV (Val.loadAll (i := 1) Tryz.isAgg47 Tryz.sizeOf47 rfl rfl rfl) rfl (tV (Val.loadAll (i := 0) Tryz.isAgg47 Tryz.sizeOf47 rfl rfl rfl) rfl (tV (Val.eqAgg (b := true) Tryz.eqGuardType47 (fun w => by simpa using eq_47 0 0 0 0 w) rfl rfl) rfl (tM rfl rfl (At.yes rfl rfl (tM rfl rfl (At.yes rfl rfl (tM rfl rfl (At.yes rfl rfl (tV (Val.bin rfl rfl rfl) rfl (tV (Val.pickT rfl rfl) rfl (tA rfl rfl (tE (At.retC (At.ret1 (.inl rfl) rfl rfl rfl (fun w hw => ?_))))))))))))))))))
 exact ⟨rfl, hw.mod⟩
theorem lawHeaders_p (p n o : Int) (x y : BitVec 64) (w : World) (ht : Tab w) : PureC Tryz.prog 11 [.int .i64 p, .agg #[.int .i64 n, .int .i64 o], .agg #[b64 x, b64 y]] (.bool true) w := by
  by_cases hg : GoodH p n o
  · by_cases ho : OkH p x y
    · exact lawHeaders_TT p n o x y w ht hg ho
    · exact lawHeaders_TF p n o x y w ht hg ho
  · by_cases ho : OkH p x y
    · exact lawHeaders_FT p n o x y w ht hg ho
    · exact lawHeaders_FF p n o x y w ht hg ho
end Go.Proofs.YthdmlpjhcalliaaGreatDoor
