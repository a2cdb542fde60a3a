/- LayoutUndoHolds, walked. -/
import Derived.Test.YtoiebgnmknbkjaaDoorB29
import Derived.Test.YtoiebgnmknbkjaaDoorD22
import Derived.Test.YtoiebgnmknbkjaaDoorW8
import Derived.Test.YtoiebgnmknbkjaaDoorWv
set_option linter.unusedVariables false
set_option linter.unusedSimpArgs false
namespace Go.Proofs.YtoiebgnmknbkjaaDoor
open Go Go.Wk

theorem page_head {U : List (Int × BitVec 64)} {R : List UInt8} (h : PageK U 512 R) (hR : R.length = 512) : (undoB U).take 16 = R.take 16 := by
  apply List.ext_getElem?
  intro i
  rw [List.getElem?_take, List.getElem?_take]
  split
  · exact (h i (by omega) (.inl (by omega))).symm
  · rfl
theorem page_tail {U : List (Int × BitVec 64)} {R : List UInt8} (h : PageK U 512 R) (hR : R.length = 512) (hU : U.length ≤ 8) : (undoB U).drop 64 = (R.drop 64).take (64 + 16 * U.length - 64) := by
  apply List.ext_getElem?
  intro i
  rw [List.getElem?_drop, List.getElem?_take]
  split
  · rw [List.getElem?_drop]
    exact (h _ (by omega) (.inr ⟨by omega, by omega⟩)).symm
  · exact List.getElem?_eq_none (by rw [undoB_length]; omega)


theorem zero_step {Z : List UInt8} {k : Nat} (h : ∀ i, i < k → Z[i]? = some 0) (hk : k < Z.length) : ∀ i, i < k + 1 → (Z.set (k : Int).toNat 0)[i]? = some 0 := fun i hi => by
  rw [Int.toNat_natCast, List.getElem?_set]
  by_cases e : k = i
  · subst e; simp [hk]
  · rw [if_neg e]; exact h i (by omega)

theorem lawUndoHolds_p (n : Int) (v : Value) (L : List (Int × BitVec 64)) (p : Int) (F : BitVec 32) (w : World) (ht : Tab w) (hv : RdP w v L) (hL : L.length ≤ 8796093022144) :
    PureC Tryd.prog 16 [.int .i64 n, v, .agg #[.int .i64 p, b32 F]] (.bool true) w := by
  refine enter0 Tryd.func16 rfl Tryd.ntmps16 rfl ?_
  simp only [envOf]
  refine At.seq ?_
  refine At.region ?_
  refine At.box rfl rfl rfl (fun b1 => ?_)
  refine At.val (Val.assign rfl) rfl rfl rfl ?_
  refine At.nil ?_
  refine At.thenN ?_
  refine At.seq ?_
  refine At.region ?_
  refine At.val (Val.move rfl) rfl rfl rfl ?_
  refine At.callP (fun w hw => mod_p _ _ w (by decide) (by decide)) Tryd.call32 rfl rfl ?_
  first | refine At.val (Val.addI rfl rfl (by omega) (by omega)) rfl rfl rfl ?_ | refine At.val (Val.bin rfl rfl rfl) rfl rfl rfl ?_
  skip
  · skip
    obtain ⟨N, hN, hN1, hN8⟩ : ∃ N : Nat, 1 + n % 8 = (N : Int) ∧ 1 ≤ N ∧ N ≤ 8 := ⟨(1 + n % 8).toNat, by omega, by omega, by omega⟩
    rw [hN]
    refine At.val (Val.move rfl) rfl rfl rfl ?_
    refine At.callRX (fun w hw => undos_x v L N w (hv.mod hw.mod) hL hN1 hN8) Tryd.call65 rfl rfl (fun v2 n3 xs4 hv5 => ?_)
    obtain ⟨U, rfl, rfl, hUl, hg⟩ := hv5
    have hpl := undoB_length U
    have hU8 : U.length ≤ 8 := hg.2.1
    have hU1 : 1 ≤ U.length := hg.1
    refine At.val (Val.assign rfl) rfl rfl rfl ?_
    refine At.nil ?_
    refine At.thenN ?_
    refine At.seq ?_
    refine At.region ?_
    refine At.val (Val.move rfl) rfl rfl rfl ?_
    refine At.callN (fun w hw => copyUn_n _ U w (row_rd (hw.row (i := 0) rfl) (by decide)) (by omega)) Tryd.call59 rfl rfl (fun v6 => ?_)
    refine At.callNT (g := (fun v => .tuple #[v, .int .i64 (packE U)])) (fun w hw => packUn_n _ U w (ht.mod hw.mod) (row_rd (hw.row (i := 0) rfl) (by decide)) (by omega) (good_bd hg)) Tryd.call60 rfl rfl (fun v7 => ?_)
    skip
    · skip
      rw [packE_T hg, packB_T hg]
      refine At.val (Val.move rfl) rfl rfl rfl ?_
      refine At.val (Val.extract rfl rfl) rfl rfl rfl ?_
      refine At.val (Val.extract rfl rfl) rfl rfl rfl ?_
      refine At.val (Val.assign rfl) rfl rfl rfl ?_
      refine At.val (Val.assign rfl) rfl rfl rfl ?_
      refine At.nil ?_
      refine At.thenN ?_
      refine At.seq ?_
      refine At.seq ?_
      refine At.region ?_
      refine At.val (Val.move rfl) rfl rfl rfl ?_
      refine At.val (Val.bin rfl rfl rfl) rfl rfl rfl ?_
      refine At.val (Val.move rfl) rfl rfl rfl ?_
      refine At.yes rfl rfl ?_
      refine At.val (Val.move rfl) rfl rfl rfl ?_
      refine At.yes rfl rfl ?_
      refine At.val (Val.lenRow (i := 0) Tryd.underlying54 rfl rfl) rfl rfl rfl ?_
      refine At.yes rfl rfl ?_
      refine At.val (Val.move rfl) rfl rfl rfl ?_
      refine At.yes rfl rfl ?_
      refine At.val (Val.lenRow (i := 2) Tryd.underlying102 rfl rfl) rfl rfl rfl ?_
      refine At.yes rfl rfl ?_
      first | refine At.val (Val.mulI rfl rfl (by omega) (by omega)) rfl rfl rfl ?_ | refine At.val (Val.bin rfl rfl rfl) rfl rfl rfl ?_
      refine At.yes rfl rfl ?_
      first | refine At.val (Val.addI rfl rfl (by omega) (by omega)) rfl rfl rfl ?_ | refine At.val (Val.bin rfl rfl rfl) rfl rfl rfl ?_
      refine At.yes rfl rfl ?_
      refine At.val (Val.bin rfl rfl rfl) rfl rfl rfl ?_
      refine At.val (Val.pickF rfl rfl) rfl rfl rfl ?_
      refine At.nil ?_
      refine At.thenN ?_
      refine At.cond rfl (fun h8 => ?_) (fun h8 => ?_)
      · skip
        try simp only [vN_T, vN_F, nmE_T, nmE_F, wI_T, wI_F, data_T, data_F, ino_T, ino_F, notT, notF, bneT, bneF, beqT, beqF, decT, decF] at h8
        exfalso; omega
      · skip
        try simp only [vN_T, vN_F, nmE_T, nmE_F, wI_T, wI_F, data_T, data_F, ino_T, ino_F, notT, notF, bneT, bneF, beqT, beqF, decT, decF] at h8
        refine At.skipC ?_
        refine At.thenN ?_
        refine At.seq ?_
        refine At.region ?_
        refine At.val (Val.assign rfl) rfl rfl rfl ?_
        refine At.nil ?_
        refine At.rowNilB 5 ?_
        refine At.thenN ?_
        refine At.seq ?_
        refine At.seq ?_
        refine At.region ?_
        refine At.val (Val.assign rfl) rfl rfl rfl ?_
        refine At.nil ?_
        refine At.thenN ?_
        refine At.block ?_
        skip
        refine At.drop 2 ?_
        simp only [List.eraseIdx_cons_zero, List.eraseIdx_cons_succ]
        refine At.loop (σ := Nat × List UInt8 × Value) (fun s => s.2.1.length = s.1 ∧ s.1 ≤ 512 ∧ PageK U s.1 s.2.1) (fun s => [(5, .pointer (some ⟨b1, 0, none⟩)), (7, v2), (8, v7), (10, s.2.2), (11, .int .i64 (s.1 : Int))]) (fun s => [brow 5 s.2.2 s.2.1, rowR v7 5 1 (((undoB U)).length) (((undoB U)).map bv), rowR v2 111 2 ((U).length) (prC (U)), blk b1 50 ([.int .i64 p, b32 F])]) (fun s => 512 - s.1) (0, [], .slice none 0 0) ⟨rfl, by decide, fun i h => absurd h (Nat.not_lt_zero _)⟩ (Sub.cons rfl (Sub.cons rfl (Sub.cons rfl (Sub.cons rfl (Sub.cons rfl Sub.nil))))) (List.Perm.refl _) ?_
        intro s hs
        obtain ⟨k, R, vk⟩ := s
        dsimp only at hs ⊢
        refine At.seq ?_
        refine At.seq ?_
        refine At.region ?_
        refine At.val (Val.move rfl) rfl rfl rfl ?_
        refine At.val (Val.bin rfl rfl rfl) rfl rfl rfl ?_
        refine At.nil ?_
        refine At.thenN ?_
        refine At.cond rfl (fun h9 => ?_) (fun h9 => ?_)
        · skip
          try simp only [vN_T, vN_F, nmE_T, nmE_F, wI_T, wI_F, data_T, data_F, ino_T, ino_F, notT, notF, bneT, bneF, beqT, beqF, decT, decF] at h9
          have hk : k < 512 := by omega
          refine At.skipC ?_
          refine At.thenN ?_
          refine At.seq ?_
          refine At.block ?_
          refine At.block ?_
          refine At.seq ?_
          refine At.region ?_
          refine At.weaken [(5, _), (7, _), (8, _), (10, _), (11, _), (47, _), (48, _)] (Sub.cons rfl (Sub.cons rfl (Sub.cons rfl (Sub.cons rfl (Sub.cons rfl (Sub.cons rfl (Sub.cons rfl Sub.nil))))))) ?_
          refine At.boolMeet 12 73 (decide (k < 16 ∨ (64 ≤ k ∧ k < 64 + 16 * U.length))) ?_ ?_
          · skip
            simp only [List.take_succ_cons, List.take_zero]
            refine At.val (Val.move rfl) rfl rfl rfl ?_
            refine At.val (Val.bin rfl rfl rfl) rfl rfl rfl ?_
            refine At.val (Val.move rfl) rfl rfl rfl ?_
            refine At.split (t := 64) rfl (fun h10 => ?_) (fun h10 => ?_)
            · skip
              try simp only [vN_T, vN_F, nmE_T, nmE_F, wI_T, wI_F, data_T, data_F, ino_T, ino_F, notT, notF, bneT, bneF, beqT, beqF, decT, decF] at h10
              refine At.no rfl rfl rfl rfl ?_
              refine At.no rfl rfl rfl rfl ?_
              refine At.no rfl rfl rfl rfl ?_
              refine At.noU rfl rfl rfl ?_
              refine At.noU rfl rfl rfl ?_
              refine At.noU rfl rfl rfl ?_
              refine At.noU rfl rfl rfl ?_
              refine At.no rfl rfl rfl rfl ?_
              refine At.val (Val.pickT rfl rfl) rfl rfl rfl ?_
              refine At.nil ?_
              exact At.boolEnd rfl (by first | rfl | exact (decide_eq_true (by omega)).symm | exact (decide_eq_false (by omega)).symm | (apply Bool.eq_iff_iff.2; simp only [decide_eq_true_eq, beq_iff_eq, bne_iff_ne, ne_eq, wI_T, data_T, ino_T, vN_T, nmE_T, Bool.not_eq_true', wI_F, data_F, ino_F, vN_F, nmE_F, decide_eq_false_iff_not]; omega)) (by repeat (first | exact Sub.nil | refine Sub.cons rfl ?_))
            · skip
              try simp only [vN_T, vN_F, nmE_T, nmE_F, wI_T, wI_F, data_T, data_F, ino_T, ino_F, notT, notF, bneT, bneF, beqT, beqF, decT, decF] at h10
              refine At.yes rfl rfl ?_
              refine At.val (Val.move rfl) rfl rfl rfl ?_
              refine At.yes rfl rfl ?_
              refine At.val (Val.bin rfl rfl rfl) rfl rfl rfl ?_
              refine At.yes rfl rfl ?_
              refine At.val (Val.move rfl) rfl rfl rfl ?_
              refine At.split (t := 67) rfl (fun h11 => ?_) (fun h11 => ?_)
              · skip
                try simp only [vN_T, vN_F, nmE_T, nmE_F, wI_T, wI_F, data_T, data_F, ino_T, ino_F, notT, notF, bneT, bneF, beqT, beqF, decT, decF] at h11
                refine At.yes rfl rfl ?_
                refine At.val (Val.move rfl) rfl rfl rfl ?_
                refine At.yes rfl rfl ?_
                refine At.val (Val.move rfl) rfl rfl rfl ?_
                refine At.yes rfl rfl ?_
                refine At.val (Val.lenRow (i := 1) Tryd.underlying54 rfl rfl) rfl rfl rfl ?_
                refine At.yes rfl rfl ?_
                refine At.val (Val.bin rfl rfl rfl) rfl rfl rfl ?_
                refine At.yes rfl rfl ?_
                refine At.val (Val.pickT rfl rfl) rfl rfl rfl ?_
                refine At.val (Val.pickF rfl rfl) rfl rfl rfl ?_
                refine At.nil ?_
                exact At.boolEnd rfl (by first | rfl | exact (decide_eq_true (by omega)).symm | exact (decide_eq_false (by omega)).symm | (apply Bool.eq_iff_iff.2; simp only [decide_eq_true_eq, beq_iff_eq, bne_iff_ne, ne_eq, wI_T, data_T, ino_T, vN_T, nmE_T, Bool.not_eq_true', wI_F, data_F, ino_F, vN_F, nmE_F, decide_eq_false_iff_not]; omega)) (by repeat (first | exact Sub.nil | refine Sub.cons rfl ?_))
              · skip
                try simp only [vN_T, vN_F, nmE_T, nmE_F, wI_T, wI_F, data_T, data_F, ino_T, ino_F, notT, notF, bneT, bneF, beqT, beqF, decT, decF] at h11
                refine At.no rfl rfl rfl rfl ?_
                refine At.no rfl rfl rfl rfl ?_
                refine At.no rfl rfl rfl rfl ?_
                refine At.no rfl rfl rfl rfl ?_
                refine At.yes rfl rfl ?_
                refine At.val (Val.pickF rfl rfl) rfl rfl rfl ?_
                refine At.val (Val.pickF rfl rfl) rfl rfl rfl ?_
                refine At.nil ?_
                exact At.boolEnd rfl (by first | rfl | exact (decide_eq_true (by omega)).symm | exact (decide_eq_false (by omega)).symm | (apply Bool.eq_iff_iff.2; simp only [decide_eq_true_eq, beq_iff_eq, bne_iff_ne, ne_eq, wI_T, data_T, ino_T, vN_T, nmE_T, Bool.not_eq_true', wI_F, data_F, ino_F, vN_F, nmE_F, decide_eq_false_iff_not]; omega)) (by repeat (first | exact Sub.nil | refine Sub.cons rfl ?_))
          · skip
            simp only [List.drop_succ_cons, List.drop_zero]
            refine At.val (Val.assign rfl) rfl rfl rfl ?_
            refine At.nil ?_
            refine At.thenN ?_
            refine At.cond rfl (fun h12 => ?_) (fun h12 => ?_)
            · skip
              try simp only [vN_T, vN_F, nmE_T, nmE_F, wI_T, wI_F, data_T, data_F, ino_T, ino_F, notT, notF, bneT, bneF, beqT, beqF, decT, decF] at h12
              have hc : k < 16 ∨ (64 ≤ k ∧ k < 64 + 16 * U.length) := by simpa using h12
              refine At.region ?_
              refine At.val (Val.move rfl) rfl rfl rfl ?_
              refine At.val (Val.move rfl) rfl rfl rfl ?_
              refine At.val (Val.move rfl) rfl rfl rfl ?_
              refine At.idxRowB (i := 1) rfl Tryd.underlying54 Tryd.sizeOf5 rfl rfl (by omega) (by omega) rfl rfl (fun q13 hq14 hl15 => ?_)
              refine At.val (Val.loadRowB (i := 1) Tryd.isAgg5 rfl rfl hq14) rfl rfl rfl ?_
              refine At.buildSl (fun a ha => by simp only [List.map_toArray, List.map_cons, List.map_nil, ha.eval (x := (.tmp 78)) rfl]; try rfl) (bs_54_1 _ ) rfl (fun b16 => ?_)
              refine At.appendB1 (i := 1) (j := 0) (by_ := 1) Tryd.underlying54 info_5 rfl rfl rfl rfl rfl rfl rfl rfl (by omega) (by omega) rfl (fun v17 => ?_)
              simp only [List.set_cons_zero, List.set_cons_succ]
              refine At.drop 0 ?_
              simp only [List.eraseIdx_cons_zero, List.eraseIdx_cons_succ]
              refine At.val (Val.assign rfl) rfl rfl rfl ?_
              refine At.nil ?_
              refine At.blkN ?_
              refine At.blkN ?_
              refine At.thenN ?_
              refine At.region ?_
              refine At.val (Val.move rfl) rfl rfl rfl ?_
              first | refine At.val (Val.addI rfl rfl (by omega) (by omega)) rfl rfl rfl ?_ | refine At.val (Val.bin rfl rfl rfl) rfl rfl rfl ?_
              refine At.val (Val.assign rfl) rfl rfl rfl ?_
              refine At.nil ?_
              refine At.thenN ?_
              exact At.again (k + 1, R ++ [_], v17) ⟨by dsimp only; rw [List.length_append, List.length_singleton, hs.1], (show k + 1 ≤ 512 by omega), page_hit hs.2.2 hs.1 hq14⟩ (by dsimp only; omega) (Sub.cons rfl (Sub.cons rfl (Sub.cons rfl (Sub.cons rfl (Sub.cons (congrArg (fun z => some (Value.int IntKind.i64 z)) (by omega)) Sub.nil))))) (List.Perm.refl _)
            · skip
              try simp only [vN_T, vN_F, nmE_T, nmE_F, wI_T, wI_F, data_T, data_F, ino_T, ino_F, notT, notF, bneT, bneF, beqT, beqF, decT, decF] at h12
              have hc : ¬ (k < 16 ∨ (64 ≤ k ∧ k < 64 + 16 * U.length)) := by simpa using h12
              refine At.seq ?_
              refine At.region ?_
              refine At.val (Val.move rfl) rfl rfl rfl ?_
              refine At.val (Val.bin rfl rfl rfl) rfl rfl rfl ?_
              refine At.val (Val.move rfl) rfl rfl rfl ?_
              refine At.split (t := 84) rfl (fun h18 => ?_) (fun h18 => ?_)
              · skip
                try simp only [vN_T, vN_F, nmE_T, nmE_F, wI_T, wI_F, data_T, data_F, ino_T, ino_F, notT, notF, bneT, bneF, beqT, beqF, decT, decF] at h18
                refine At.yes rfl rfl ?_
                refine At.val (Val.move rfl) rfl rfl rfl ?_
                refine At.yes rfl rfl ?_
                refine At.val (Val.move rfl) rfl rfl rfl ?_
                refine At.yes rfl rfl ?_
                refine At.idxRowB (i := 1) rfl Tryd.underlying54 Tryd.sizeOf5 rfl rfl (by omega) (by omega) rfl rfl (fun q19 hq20 hl21 => ?_)
                refine At.yes rfl rfl ?_
                refine At.val (Val.loadRowB (i := 1) Tryd.isAgg5 rfl rfl hq20) rfl rfl rfl ?_
                refine At.yes rfl rfl ?_
                refine At.val (Val.bin rfl rfl rfl) rfl rfl rfl ?_
                refine At.val (Val.pickT rfl rfl) rfl rfl rfl ?_
                refine At.val (Val.assign rfl) rfl rfl rfl ?_
                refine At.nil ?_
                have hz := mid_zero hq20 (by omega) (by omega)
                refine At.thenN ?_
                refine At.cond rfl (fun h22 => ?_) (fun h22 => ?_)
                · skip
                  try simp only [vN_T, vN_F, nmE_T, nmE_F, wI_T, wI_F, data_T, data_F, ino_T, ino_F, notT, notF, bneT, bneF, beqT, beqF, decT, decF] at h22
                  exact absurd (by rw [hz]; rfl) h22
                · skip
                  try simp only [vN_T, vN_F, nmE_T, nmE_F, wI_T, wI_F, data_T, data_F, ino_T, ino_F, notT, notF, bneT, bneF, beqT, beqF, decT, decF] at h22
                  refine At.region ?_
                  refine At.val (Val.move rfl) rfl rfl rfl ?_
                  refine At.val (Val.field 0 rfl fo_50_0 rfl) rfl rfl rfl ?_
                  refine At.val (Val.load (i := 3) Tryd.isAgg3 rfl rfl rfl) rfl rfl rfl ?_
                  refine At.val (Val.move rfl) rfl rfl rfl ?_
                  first | refine At.val (Val.remI rfl rfl (by omega) (by decide)) rfl rfl rfl ?_ | refine At.val (Val.rem rfl rfl (by decide)) rfl rfl rfl ?_
                  first | refine At.val (Val.toU Tryd.underlying3 Tryd.underlying52 rfl (by omega) (by omega)) rfl rfl rfl ?_ | refine At.val (Val.conv Tryd.underlying3 Tryd.underlying52 rfl) rfl rfl rfl ?_
                  refine At.val (Val.shr rfl rfl (by omega)) rfl rfl rfl ?_
                  refine At.val (Val.conv Tryd.underlying3 Tryd.underlying5 rfl) rfl rfl rfl ?_
                  rw [u8_wrap]
                  refine At.buildSl (fun a ha => by simp only [List.map_toArray, List.map_cons, List.map_nil, ha.eval (x := (.tmp 58)) rfl]; try rfl) (bs_54_1 _ ) rfl (fun b23 => ?_)
                  refine At.appendB1 (i := 1) (j := 0) (by_ := 1) Tryd.underlying54 info_5 rfl rfl rfl rfl rfl rfl rfl rfl (by omega) (by omega) rfl (fun v24 => ?_)
                  simp only [List.set_cons_zero, List.set_cons_succ]
                  refine At.drop 0 ?_
                  simp only [List.eraseIdx_cons_zero, List.eraseIdx_cons_succ]
                  refine At.val (Val.assign rfl) rfl rfl rfl ?_
                  refine At.nil ?_
                  refine At.blkN ?_
                  refine At.blkN ?_
                  refine At.thenN ?_
                  refine At.region ?_
                  refine At.val (Val.move rfl) rfl rfl rfl ?_
                  first | refine At.val (Val.addI rfl rfl (by omega) (by omega)) rfl rfl rfl ?_ | refine At.val (Val.bin rfl rfl rfl) rfl rfl rfl ?_
                  refine At.val (Val.assign rfl) rfl rfl rfl ?_
                  refine At.nil ?_
                  refine At.thenN ?_
                  exact At.again (k + 1, R ++ [_], v24) ⟨by dsimp only; rw [List.length_append, List.length_singleton, hs.1], (show k + 1 ≤ 512 by omega), page_miss hs.2.2 hs.1 hc⟩ (by dsimp only; omega) (Sub.cons rfl (Sub.cons rfl (Sub.cons rfl (Sub.cons rfl (Sub.cons (congrArg (fun z => some (Value.int IntKind.i64 z)) (by omega)) Sub.nil))))) (List.Perm.refl _)
              · skip
                try simp only [vN_T, vN_F, nmE_T, nmE_F, wI_T, wI_F, data_T, data_F, ino_T, ino_F, notT, notF, bneT, bneF, beqT, beqF, decT, decF] at h18
                refine At.no rfl rfl rfl rfl ?_
                refine At.no rfl rfl rfl rfl ?_
                refine At.no rfl rfl rfl rfl ?_
                refine At.no rfl rfl rfl rfl ?_
                refine At.no rfl rfl rfl rfl ?_
                refine At.val (Val.pickF rfl rfl) rfl rfl rfl ?_
                refine At.val (Val.assign rfl) rfl rfl rfl ?_
                refine At.nil ?_
                refine At.thenN ?_
                refine At.condF rfl ?_
                refine At.region ?_
                refine At.val (Val.move rfl) rfl rfl rfl ?_
                refine At.val (Val.field 0 rfl fo_50_0 rfl) rfl rfl rfl ?_
                refine At.val (Val.load (i := 3) Tryd.isAgg3 rfl rfl rfl) rfl rfl rfl ?_
                refine At.val (Val.move rfl) rfl rfl rfl ?_
                first | refine At.val (Val.remI rfl rfl (by omega) (by decide)) rfl rfl rfl ?_ | refine At.val (Val.rem rfl rfl (by decide)) rfl rfl rfl ?_
                first | refine At.val (Val.toU Tryd.underlying3 Tryd.underlying52 rfl (by omega) (by omega)) rfl rfl rfl ?_ | refine At.val (Val.conv Tryd.underlying3 Tryd.underlying52 rfl) rfl rfl rfl ?_
                refine At.val (Val.shr rfl rfl (by omega)) rfl rfl rfl ?_
                refine At.val (Val.conv Tryd.underlying3 Tryd.underlying5 rfl) rfl rfl rfl ?_
                rw [u8_wrap]
                refine At.buildSl (fun a ha => by simp only [List.map_toArray, List.map_cons, List.map_nil, ha.eval (x := (.tmp 58)) rfl]; try rfl) (bs_54_1 _ ) rfl (fun b25 => ?_)
                refine At.appendB1 (i := 1) (j := 0) (by_ := 1) Tryd.underlying54 info_5 rfl rfl rfl rfl rfl rfl rfl rfl (by omega) (by omega) rfl (fun v26 => ?_)
                simp only [List.set_cons_zero, List.set_cons_succ]
                refine At.drop 0 ?_
                simp only [List.eraseIdx_cons_zero, List.eraseIdx_cons_succ]
                refine At.val (Val.assign rfl) rfl rfl rfl ?_
                refine At.nil ?_
                refine At.blkN ?_
                refine At.blkN ?_
                refine At.thenN ?_
                refine At.region ?_
                refine At.val (Val.move rfl) rfl rfl rfl ?_
                first | refine At.val (Val.addI rfl rfl (by omega) (by omega)) rfl rfl rfl ?_ | refine At.val (Val.bin rfl rfl rfl) rfl rfl rfl ?_
                refine At.val (Val.assign rfl) rfl rfl rfl ?_
                refine At.nil ?_
                refine At.thenN ?_
                exact At.again (k + 1, R ++ [_], v26) ⟨by dsimp only; rw [List.length_append, List.length_singleton, hs.1], (show k + 1 ≤ 512 by omega), page_miss hs.2.2 hs.1 hc⟩ (by dsimp only; omega) (Sub.cons rfl (Sub.cons rfl (Sub.cons rfl (Sub.cons rfl (Sub.cons (congrArg (fun z => some (Value.int IntKind.i64 z)) (by omega)) Sub.nil))))) (List.Perm.refl _)
        · skip
          try simp only [vN_T, vN_F, nmE_T, nmE_F, wI_T, wI_F, data_T, data_F, ino_T, ino_F, notT, notF, bneT, bneF, beqT, beqF, decT, decF] at h9
          obtain rfl : k = 512 := by omega
          have hR := hs.1
          have hpg := hs.2.2
          obtain ⟨hok, hnU, hrec⟩ := page_ok hR hg hpg
          have h16 : (undoB U).take 16 = R.take 16 := page_head hpg hR
          have h64 : (undoB U).drop 64 = (R.drop 64).take (64 + 16 * U.length - 64) := page_tail hpg hR hU8
          refine At.exitC ?_
          refine At.thenX ?_
          refine At.thenX ?_
          refine At.blkX ?_
          refine At.thenN ?_
          refine At.seq ?_
          refine At.region ?_
          refine At.val (Val.move rfl) rfl rfl rfl ?_
          refine At.callN (fun w hw => copyBytes_n _ R w (row_rd (hw.row (i := 0) rfl) (by decide)) (by omega)) Tryd.call33 rfl rfl (fun v27 => ?_)
          refine At.callNT (g := (fun v => .tuple #[v, .int .i64 (openUnE R)])) (fun w hw => openUn_n _ R w (ht.mod hw.mod) (row_rd (hw.row (i := 0) rfl) (by decide)) (by omega)) Tryd.call63 rfl rfl (fun v28 => ?_)
          skip
          · skip
            rw [openUnE_yes hok, openUnL_yes hok, hrec]
            refine At.val (Val.move rfl) rfl rfl rfl ?_
            refine At.val (Val.extract rfl rfl) rfl rfl rfl ?_
            refine At.val (Val.extract rfl rfl) rfl rfl rfl ?_
            refine At.val (Val.assign rfl) rfl rfl rfl ?_
            refine At.val (Val.assign rfl) rfl rfl rfl ?_
            refine At.nil ?_
            refine At.thenN ?_
            refine At.seq ?_
            refine At.seq ?_
            refine At.region ?_
            refine At.val (Val.move rfl) rfl rfl rfl ?_
            refine At.val (Val.bin rfl rfl rfl) rfl rfl rfl ?_
            refine At.val (Val.move rfl) rfl rfl rfl ?_
            refine At.yes rfl rfl ?_
            refine At.val (Val.move rfl) rfl rfl rfl ?_
            refine At.yes rfl rfl ?_
            refine At.val (Val.move rfl) rfl rfl rfl ?_
            refine At.yes rfl rfl ?_
            refine At.callP (fun w hw => sameUn_p _ _ U w (row_rd (hw.row (i := 0) rfl) (by decide)) (row_rd (hw.row (i := 4) rfl) (by decide)) (by omega)) Tryd.call62 rfl rfl ?_
            refine At.yes rfl rfl ?_
            refine At.val (Val.not rfl) rfl rfl rfl ?_
            refine At.val (Val.pickF rfl rfl) rfl rfl rfl ?_
            refine At.nil ?_
            refine At.thenN ?_
            refine At.condF rfl ?_
            refine At.skipC ?_
            refine At.thenN ?_
            refine At.seq ?_
            refine At.region ?_
            refine At.val (Val.move rfl) rfl rfl rfl ?_
            refine At.val (Val.field 0 rfl fo_50_0 rfl) rfl rfl rfl ?_
            refine At.val (Val.load (i := 5) Tryd.isAgg3 rfl rfl rfl) rfl rfl rfl ?_
            refine At.val (Val.conv Tryd.underlying3 Tryd.underlying5 rfl) rfl rfl rfl ?_
            rw [u8_wrap]
            refine At.callU 3 rfl (fun w hw hr => marks_u _ (undoB U) _ w hr (by omega)) Tryd.call52 rfl rfl ?_
            simp only [List.eraseIdx_cons_zero, List.eraseIdx_cons_succ]
            refine At.nil ?_
            refine At.thenN ?_
            refine At.seq ?_
            refine At.seq ?_
            refine At.region ?_
            refine At.val (Val.assign rfl) rfl rfl rfl ?_
            refine At.nil ?_
            refine At.thenN ?_
            refine At.block ?_
            skip
            refine At.drop 1 ?_
            simp only [List.eraseIdx_cons_zero, List.eraseIdx_cons_succ]
            refine At.loop (σ := Nat × List (Int × BitVec 64)) (fun s => s.1 ≤ U.length ∧ s.2.length = U.length) (fun s => [(5, .pointer (some ⟨b1, 0, none⟩)), (7, v2), (10, vk), (12, v28), (14, .int .i64 (s.1 : Int))]) (fun s => [prow 111 v28 s.2, rowR vk 5 1 ((R).length) ((R).map bv), rowR v2 111 2 ((U).length) (prC (U)), blk b1 50 ([.int .i64 p, b32 F])]) (fun s => U.length - s.1) (0, U) ⟨Nat.zero_le _, rfl⟩ (Sub.cons rfl (Sub.cons rfl (Sub.cons rfl (Sub.cons rfl (Sub.cons rfl Sub.nil))))) (List.Perm.refl _) ?_
            intro s hs
            obtain ⟨k, M⟩ := s
            dsimp only at hs ⊢
            refine At.seq ?_
            refine At.seq ?_
            refine At.region ?_
            refine At.val (Val.move rfl) rfl rfl rfl ?_
            refine At.val (Val.move rfl) rfl rfl rfl ?_
            refine At.val (Val.lenRow (i := 0) Tryd.underlying102 rfl rfl) rfl rfl rfl ?_
            refine At.val (Val.bin rfl rfl rfl) rfl rfl rfl ?_
            refine At.nil ?_
            refine At.thenN ?_
            refine At.cond rfl (fun h29 => ?_) (fun h29 => ?_)
            · skip
              try simp only [vN_T, vN_F, nmE_T, nmE_F, wI_T, wI_F, data_T, data_F, ino_T, ino_F, notT, notF, bneT, bneF, beqT, beqF, decT, decF] at h29
              have hk : k < U.length := by omega
              refine At.skipC ?_
              refine At.thenN ?_
              refine At.seq ?_
              refine At.block ?_
              refine At.region ?_
              refine At.val (Val.move rfl) rfl rfl rfl ?_
              refine At.val (Val.move rfl) rfl rfl rfl ?_
              refine At.val (Val.field 0 rfl fo_50_0 rfl) rfl rfl rfl ?_
              refine At.val (Val.load (i := 3) Tryd.isAgg3 rfl rfl rfl) rfl rfl rfl ?_
              refine At.val (Val.build (fun a ha => by simp only [List.map_toArray, List.map_cons, List.map_nil, ha.eval (x := (.tmp 119)) rfl, ha.eval (x := (.const (.int .u64 (7)))) rfl] <;> rfl) (bld_111_0_1 _ _ )) rfl rfl rfl ?_
              refine At.val (Val.indexRow (i := 0) (k * 2) (by omega) Tryd.underlying102 Tryd.sizeOf111 rfl rfl rfl (by omega) (by omega)) rfl rfl rfl ?_
              refine At.storePairRow (i := 0) (k := k) (a := p) (b := 7) Tryd.sizeOf111 rfl rfl rfl (by omega) ?_
              simp only [List.set_cons_zero, List.set_cons_succ]
              refine At.nil ?_
              refine At.blkN ?_
              refine At.thenN ?_
              refine At.region ?_
              refine At.val (Val.move rfl) rfl rfl rfl ?_
              first | refine At.val (Val.addI rfl rfl (by omega) (by omega)) rfl rfl rfl ?_ | refine At.val (Val.bin rfl rfl rfl) rfl rfl rfl ?_
              refine At.val (Val.assign rfl) rfl rfl rfl ?_
              refine At.nil ?_
              refine At.thenN ?_
              exact At.again (k + 1, M.set k (p, 7)) ⟨(show k + 1 ≤ _ by omega), by rw [List.length_set]; exact hs.2⟩ (by dsimp only; omega) (Sub.cons rfl (Sub.cons rfl (Sub.cons rfl (Sub.cons rfl (Sub.cons (congrArg (fun z => some (Value.int IntKind.i64 z)) (by omega)) Sub.nil))))) (List.Perm.refl _)
            · skip
              try simp only [vN_T, vN_F, nmE_T, nmE_F, wI_T, wI_F, data_T, data_F, ino_T, ino_F, notT, notF, bneT, bneF, beqT, beqF, decT, decF] at h29
              have hk : k = U.length := by omega
              refine At.exitC ?_
              refine At.thenX ?_
              refine At.thenX ?_
              refine At.blkX ?_
              refine At.thenN ?_
              refine At.seq ?_
              refine At.region ?_
              refine At.val (Val.move rfl) rfl rfl rfl ?_
              refine At.callN (fun w hw => copyBytes_n _ R w (row_rd (hw.row (i := 1) rfl) (by decide)) (by omega)) Tryd.call33 rfl rfl (fun v30 => ?_)
              refine At.callNT (g := (fun v => .tuple #[v, .int .i64 (openUnE R)])) (fun w hw => openUn_n _ R w (ht.mod hw.mod) (row_rd (hw.row (i := 0) rfl) (by decide)) (by omega)) Tryd.call63 rfl rfl (fun v31 => ?_)
              skip
              · skip
                rw [openUnE_yes hok, openUnL_yes hok, hrec]
                refine At.val (Val.move rfl) rfl rfl rfl ?_
                refine At.val (Val.extract rfl rfl) rfl rfl rfl ?_
                refine At.val (Val.extract rfl rfl) rfl rfl rfl ?_
                refine At.val (Val.assign rfl) rfl rfl rfl ?_
                refine At.val (Val.assign rfl) rfl rfl rfl ?_
                refine At.nil ?_
                refine At.thenN ?_
                refine At.seq ?_
                refine At.region ?_
                refine At.val (Val.move rfl) rfl rfl rfl ?_
                refine At.callN (fun w hw => copyUn_n _ U w (row_rd (hw.row (i := 4) rfl) (by decide)) (by omega)) Tryd.call59 rfl rfl (fun v32 => ?_)
                refine At.callNT (g := (fun v => .tuple #[v, .int .i64 (packE U)])) (fun w hw => packUn_n _ U w (ht.mod hw.mod) (row_rd (hw.row (i := 0) rfl) (by decide)) (by omega) (good_bd hg)) Tryd.call60 rfl rfl (fun v33 => ?_)
                skip
                · skip
                  rw [packE_T hg, packB_T hg]
                  refine At.val (Val.move rfl) rfl rfl rfl ?_
                  refine At.val (Val.extract rfl rfl) rfl rfl rfl ?_
                  refine At.val (Val.extract rfl rfl) rfl rfl rfl ?_
                  refine At.val (Val.assign rfl) rfl rfl rfl ?_
                  refine At.val (Val.assign rfl) rfl rfl rfl ?_
                  refine At.nil ?_
                  refine At.thenN ?_
                  refine At.seq ?_
                  refine At.seq ?_
                  refine At.region ?_
                  refine At.val (Val.move rfl) rfl rfl rfl ?_
                  refine At.val (Val.bin rfl rfl rfl) rfl rfl rfl ?_
                  refine At.val (Val.move rfl) rfl rfl rfl ?_
                  refine At.yes rfl rfl ?_
                  refine At.val (Val.move rfl) rfl rfl rfl ?_
                  refine At.yes rfl rfl ?_
                  refine At.val (Val.bin rfl rfl rfl) rfl rfl rfl ?_
                  refine At.val (Val.pickF rfl rfl) rfl rfl rfl ?_
                  refine At.val (Val.move rfl) rfl rfl rfl ?_
                  refine At.yes rfl rfl ?_
                  refine At.val (Val.move rfl) rfl rfl rfl ?_
                  refine At.yes rfl rfl ?_
                  refine At.val (Val.move rfl) rfl rfl rfl ?_
                  refine At.yes rfl rfl ?_
                  refine At.callP (fun w hw => sameUn_p _ _ U w (row_rd (hw.row (i := 2) rfl) (by decide)) (row_rd (hw.row (i := 6) rfl) (by decide)) (by omega)) Tryd.call62 rfl rfl ?_
                  refine At.yes rfl rfl ?_
                  refine At.val (Val.not rfl) rfl rfl rfl ?_
                  refine At.val (Val.pickF rfl rfl) rfl rfl rfl ?_
                  refine At.val (Val.move rfl) rfl rfl rfl ?_
                  refine At.yes rfl rfl ?_
                  refine At.val (Val.move rfl) rfl rfl rfl ?_
                  refine At.yes rfl rfl ?_
                  refine At.val (Val.lenRow (i := 0) Tryd.underlying54 rfl rfl) rfl rfl rfl ?_
                  refine At.yes rfl rfl ?_
                  refine At.val (Val.move rfl) rfl rfl rfl ?_
                  refine At.yes rfl rfl ?_
                  refine At.val (Val.lenRow (i := 6) Tryd.underlying102 rfl rfl) rfl rfl rfl ?_
                  refine At.yes rfl rfl ?_
                  first | refine At.val (Val.mulI rfl rfl (by omega) (by omega)) rfl rfl rfl ?_ | refine At.val (Val.bin rfl rfl rfl) rfl rfl rfl ?_
                  refine At.yes rfl rfl ?_
                  first | refine At.val (Val.addI rfl rfl (by omega) (by omega)) rfl rfl rfl ?_ | refine At.val (Val.bin rfl rfl rfl) rfl rfl rfl ?_
                  refine At.yes rfl rfl ?_
                  refine At.val (Val.bin rfl rfl rfl) rfl rfl rfl ?_
                  refine At.val (Val.pickF rfl rfl) rfl rfl rfl ?_
                  refine At.nil ?_
                  refine At.rowIs (i := 0) rfl (fun A34 c35 hv => ?_)
                  subst hv
                  refine At.rowIs (i := 5) rfl (fun A36 c37 hv => ?_)
                  subst hv
                  refine At.thenN ?_
                  refine At.cond rfl (fun h38 => ?_) (fun h38 => ?_)
                  · skip
                    try simp only [vN_T, vN_F, nmE_T, nmE_F, wI_T, wI_F, data_T, data_F, ino_T, ino_F, notT, notF, bneT, bneF, beqT, beqF, decT, decF] at h38
                    exfalso; omega
                  · skip
                    try simp only [vN_T, vN_F, nmE_T, nmE_F, wI_T, wI_F, data_T, data_F, ino_T, ino_F, notT, notF, bneT, bneF, beqT, beqF, decT, decF] at h38
                    refine At.skipC ?_
                    refine At.thenN ?_
                    refine At.seq ?_
                    refine At.seq ?_
                    have h64' : ((undoB U).drop 64).take ((undoB U).length - 64) = (R.drop 64).take ((undoB U).length - 64) := by rw [List.take_of_length_le (by rw [List.length_drop]; exact Nat.le_refl _), h64, hpl]
                    refine At.quiet rfl (by decide +kernel) ?_
                    refine QAt.val (Val.move rfl) rfl rfl rfl ?_
                    refine QAt.val (Val.cutRow (i := 0) (l := 0) (h := 16) rfl (by decide) Tryd.underlying54 Tryd.sizeOf5 rfl rfl ⟨_, _, rfl, by omega, by omega⟩ (by omega) (by omega)) rfl rfl rfl ?_
                    refine QAt.val (Val.move rfl) rfl rfl rfl ?_
                    refine QAt.val (Val.cutRow (i := 5) (l := 0) (h := 16) rfl (by decide) Tryd.underlying54 Tryd.sizeOf5 rfl rfl ⟨_, _, rfl, by omega, by omega⟩ (by omega) (by omega)) rfl rfl rfl ?_
                    refine QAt.callP (fun w hw => sameB_eq _ _ _ _ w (RdB.cut (l := 0) (h := 16) (row_rd (hw.row (i := 0) rfl) (by decide)) (by omega) (by omega)) (RdB.cut (l := 0) (h := 16) (row_rd (hw.row (i := 5) rfl) (by decide)) (by omega) (by omega)) (by simp only [List.length_take, List.length_drop]; omega) h16) Tryd.call36 rfl rfl ?_
                    refine QAt.val (Val.not rfl) rfl rfl rfl ?_
                    refine QAt.val (Val.move rfl) rfl rfl rfl ?_
                    refine QAt.yes rfl rfl ?_
                    refine QAt.val (Val.move rfl) rfl rfl rfl ?_
                    refine QAt.yes rfl rfl ?_
                    refine QAt.val (Val.cutRow (i := 0) (l := 64) (h := (undoB U).length) rfl (by decide) Tryd.underlying54 Tryd.sizeOf5 rfl ⟨_, _, rfl, by omega, by omega⟩ rfl (by omega) (by omega)) rfl rfl rfl ?_
                    refine QAt.yes rfl rfl ?_
                    refine QAt.val (Val.move rfl) rfl rfl rfl ?_
                    refine QAt.yes rfl rfl ?_
                    refine QAt.val (Val.move rfl) rfl rfl rfl ?_
                    refine QAt.yes rfl rfl ?_
                    refine QAt.val (Val.lenRow (i := 0) Tryd.underlying54 rfl rfl) rfl rfl rfl ?_
                    refine QAt.yes rfl rfl ?_
                    refine QAt.val (Val.cutRow (i := 5) (l := 64) (h := (undoB U).length) rfl (by decide) Tryd.underlying54 Tryd.sizeOf5 rfl ⟨_, _, rfl, by omega, by omega⟩ ⟨_, _, rfl, by omega, by omega⟩ (by omega) (by omega)) rfl rfl rfl ?_
                    refine QAt.yes rfl rfl ?_
                    refine QAt.callP (fun w hw => sameB_eq _ _ _ _ w (RdB.cut (l := 64) (h := (undoB U).length) (row_rd (hw.row (i := 0) rfl) (by decide)) (by omega) (by omega)) (RdB.cut (l := 64) (h := (undoB U).length) (row_rd (hw.row (i := 5) rfl) (by decide)) (by omega) (by omega)) (by simp only [List.length_take, List.length_drop]; omega) h64') Tryd.call36 rfl rfl ?_
                    refine QAt.yes rfl rfl ?_
                    refine QAt.val (Val.not rfl) rfl rfl rfl ?_
                    refine QAt.val (Val.pickF rfl rfl) rfl rfl rfl ?_
                    refine QAt.fin ?_
                    refine At.thenN ?_
                    refine At.condF rfl ?_
                    refine At.skipC ?_
                    refine At.thenN ?_
                    refine At.seq ?_
                    refine At.seq ?_
                    refine At.region ?_
                    refine At.val (Val.field 1 rfl fo_50_1 rfl) rfl rfl rfl ?_
                    refine At.val (Val.load (i := 7) Tryd.isAgg48 rfl rfl rfl) rfl rfl rfl ?_
                    refine At.val (Val.bin rfl rfl rfl) rfl rfl rfl ?_
                    refine At.nil ?_
                    refine At.thenN ?_
                    refine At.cond rfl (fun h39 => ?_) (fun h39 => ?_)
                    · skip
                      try simp only [vN_T, vN_F, nmE_T, nmE_F, wI_T, wI_F, data_T, data_F, ino_T, ino_F, notT, notF, bneT, bneF, beqT, beqF, decT, decF] at h39
                      have hF : F.toNat ≠ 0 := by omega
                      refine At.seq ?_
                      have hm0 := Int.emod_nonneg p (show 512 + 128 * (U.length : Int) - 32 - 512 + 1 ≠ 0 by omega)
                      have hm1 := Int.emod_lt_of_pos p (show 0 < 512 + 128 * (U.length : Int) - 32 - 512 + 1 by omega)
                      have hno : ¬ OkUn (spoilL R (512 + p % (512 + 128 * (U.length : Int) - 32 - 512 + 1)).toNat F.toNat) := spoil_un hok (by omega) hF F.isLt (by omega) (by omega)
                      have hsll : (spoilL R (512 + p % (512 + 128 * (U.length : Int) - 32 - 512 + 1)).toNat F.toNat).length = 512 := by rw [spoilL_length, hR]
                      refine At.region ?_
                      refine At.val (Val.move rfl) rfl rfl rfl ?_
                      refine At.val (Val.loadAll (i := 7) Tryd.isAgg50 Tryd.sizeOf50 rfl rfl rfl) rfl rfl rfl ?_
                      refine At.val (Val.move rfl) rfl rfl rfl ?_
                      refine At.val (Val.lenRow (i := 6) Tryd.underlying102 rfl rfl) rfl rfl rfl ?_
                      first | refine At.val (Val.mulI rfl rfl (by omega) (by omega)) rfl rfl rfl ?_ | refine At.val (Val.bin rfl rfl rfl) rfl rfl rfl ?_
                      first | refine At.val (Val.addI rfl rfl (by omega) (by omega)) rfl rfl rfl ?_ | refine At.val (Val.bin rfl rfl rfl) rfl rfl rfl ?_
                      refine At.callN (fun w hw => spoilt_n _ R p F 512 (512 + 128 * (U.length : Int)) w (row_rd (hw.row (i := 5) rfl) (by decide)) (by omega) (by omega) (by omega) (by omega)) Tryd.call39 rfl rfl (fun v40 => ?_)
                      refine At.val (Val.assign rfl) rfl rfl rfl ?_
                      refine At.nil ?_
                      refine At.thenN ?_
                      refine At.seq ?_
                      refine At.region ?_
                      refine At.val (Val.move rfl) rfl rfl rfl ?_
                      refine At.callNT (g := (fun v => .tuple #[v, .int .i64 (openUnE (spoilL R (512 + p % (512 + 128 * (U.length : Int) - 32 - 512 + 1)).toNat F.toNat))])) (fun w hw => openUn_n _ (spoilL R (512 + p % (512 + 128 * (U.length : Int) - 32 - 512 + 1)).toNat F.toNat) w (ht.mod hw.mod) (row_rd (hw.row (i := 0) rfl) (by decide)) (by omega)) Tryd.call63 rfl rfl (fun v41 => ?_)
                      skip
                      · skip
                        rw [openUnE_no hno, openUnL_no hno]
                        refine At.val (Val.move rfl) rfl rfl rfl ?_
                        refine At.val (Val.extract rfl rfl) rfl rfl rfl ?_
                        refine At.val (Val.extract rfl rfl) rfl rfl rfl ?_
                        refine At.val (Val.assign rfl) rfl rfl rfl ?_
                        refine At.val (Val.assign rfl) rfl rfl rfl ?_
                        refine At.nil ?_
                        refine At.thenN ?_
                        refine At.seq ?_
                        refine At.region ?_
                        refine At.val (Val.move rfl) rfl rfl rfl ?_
                        refine At.val (Val.bin rfl rfl rfl) rfl rfl rfl ?_
                        refine At.val (Val.move rfl) rfl rfl rfl ?_
                        refine At.yes rfl rfl ?_
                        refine At.val (Val.move rfl) rfl rfl rfl ?_
                        refine At.yes rfl rfl ?_
                        refine At.val (Val.lenRow (i := 0) Tryd.underlying102 rfl rfl) rfl rfl rfl ?_
                        refine At.yes rfl rfl ?_
                        refine At.val (Val.bin rfl rfl rfl) rfl rfl rfl ?_
                        refine At.val (Val.pickF rfl rfl) rfl rfl rfl ?_
                        refine At.nil ?_
                        refine At.thenN ?_
                        refine At.cond rfl (fun h42 => ?_) (fun h42 => ?_)
                        · skip
                          try simp only [vN_T, vN_F, nmE_T, nmE_F, wI_T, wI_F, data_T, data_F, ino_T, ino_F, notT, notF, bneT, bneF, beqT, beqF, decT, decF] at h42
                          exact absurd rfl h42
                        · skip
                          try simp only [vN_T, vN_F, nmE_T, nmE_F, wI_T, wI_F, data_T, data_F, ino_T, ino_F, notT, notF, bneT, bneF, beqT, beqF, decT, decF] at h42
                          refine At.skipC ?_
                          refine At.thenN ?_
                          refine At.seq ?_
                          refine At.seq ?_
                          refine At.region ?_
                          refine At.val (Val.assign rfl) rfl rfl rfl ?_
                          refine At.nil ?_
                          refine At.thenN ?_
                          refine At.block ?_
                          skip
                          refine At.drop 9 ?_
                          simp only [List.eraseIdx_cons_zero, List.eraseIdx_cons_succ]
                          refine At.drop 8 ?_
                          simp only [List.eraseIdx_cons_zero, List.eraseIdx_cons_succ]
                          refine At.drop 6 ?_
                          simp only [List.eraseIdx_cons_zero, List.eraseIdx_cons_succ]
                          refine At.drop 5 ?_
                          simp only [List.eraseIdx_cons_zero, List.eraseIdx_cons_succ]
                          refine At.drop 4 ?_
                          simp only [List.eraseIdx_cons_zero, List.eraseIdx_cons_succ]
                          refine At.drop 3 ?_
                          simp only [List.eraseIdx_cons_zero, List.eraseIdx_cons_succ]
                          refine At.drop 2 ?_
                          simp only [List.eraseIdx_cons_zero, List.eraseIdx_cons_succ]
                          refine At.drop 1 ?_
                          simp only [List.eraseIdx_cons_zero, List.eraseIdx_cons_succ]
                          refine At.drop 0 ?_
                          simp only [List.eraseIdx_cons_zero, List.eraseIdx_cons_succ]
                          refine At.loop (σ := Nat × List UInt8) (fun s => s.2.length = 512 ∧ s.1 ≤ 8 ∧ ∀ i, i < s.1 → s.2[i]? = some 0) (fun s => [(10, (.slice A36 ((R).length) c37)), (22, .int .i64 (s.1 : Int))]) (fun s => [brow 5 (.slice A36 ((R).length) c37) s.2]) (fun s => 8 - s.1) (0, R) ⟨hR, Nat.zero_le _, fun i h => absurd h (Nat.not_lt_zero _)⟩ (Sub.cons rfl (Sub.cons rfl Sub.nil)) (List.Perm.refl _) ?_
                          intro s hs
                          obtain ⟨k, Z⟩ := s
                          dsimp only at hs ⊢
                          refine At.seq ?_
                          refine At.seq ?_
                          refine At.region ?_
                          refine At.val (Val.move rfl) rfl rfl rfl ?_
                          refine At.val (Val.bin rfl rfl rfl) rfl rfl rfl ?_
                          refine At.nil ?_
                          refine At.thenN ?_
                          refine At.cond rfl (fun h43 => ?_) (fun h43 => ?_)
                          · skip
                            try simp only [vN_T, vN_F, nmE_T, nmE_F, wI_T, wI_F, data_T, data_F, ino_T, ino_F, notT, notF, bneT, bneF, beqT, beqF, decT, decF] at h43
                            have hk : k < 8 := by omega
                            refine At.skipC ?_
                            refine At.thenN ?_
                            refine At.seq ?_
                            refine At.block ?_
                            refine At.region ?_
                            refine At.val (Val.move rfl) rfl rfl rfl ?_
                            refine At.val (Val.move rfl) rfl rfl rfl ?_
                            refine At.idxRowB (i := 0) rfl Tryd.underlying54 Tryd.sizeOf5 rfl rfl (by omega) (by omega) rfl rfl (fun q44 hq45 hl46 => ?_)
                            refine At.storeRowB (i := 0) (c := 0) Tryd.sizeOf5 rfl rfl rfl (by omega) ?_
                            simp only [List.set_cons_zero, List.set_cons_succ]
                            refine At.nil ?_
                            refine At.blkN ?_
                            refine At.thenN ?_
                            refine At.region ?_
                            refine At.val (Val.move rfl) rfl rfl rfl ?_
                            first | refine At.val (Val.addI rfl rfl (by omega) (by omega)) rfl rfl rfl ?_ | refine At.val (Val.bin rfl rfl rfl) rfl rfl rfl ?_
                            refine At.val (Val.assign rfl) rfl rfl rfl ?_
                            refine At.nil ?_
                            refine At.thenN ?_
                            exact At.again (k + 1, Z.set (k : Int).toNat 0) ⟨by rw [List.length_set]; exact hs.1, (show k + 1 ≤ 8 by omega), zero_step hs.2.2 (by rw [hs.1]; omega)⟩ (by dsimp only; omega) (Sub.cons rfl (Sub.cons (congrArg (fun z => some (Value.int IntKind.i64 z)) (by omega)) Sub.nil)) (List.Perm.refl _)
                          · skip
                            try simp only [vN_T, vN_F, nmE_T, nmE_F, wI_T, wI_F, data_T, data_F, ino_T, ino_F, notT, notF, bneT, bneF, beqT, beqF, decT, decF] at h43
                            obtain rfl : k = 8 := by omega
                            obtain ⟨hok0, hu0⟩ := zero_un hs.1 hs.2.2
                            refine At.exitC ?_
                            refine At.thenX ?_
                            refine At.thenX ?_
                            refine At.blkX ?_
                            refine At.thenN ?_
                            refine At.seq ?_
                            refine At.region ?_
                            refine At.val (Val.move rfl) rfl rfl rfl ?_
                            refine At.callNT (g := (fun v => .tuple #[v, .int .i64 (openUnE Z)])) (fun w hw => openUn_n _ Z w (ht.mod hw.mod) (row_rd (hw.row (i := 0) rfl) (by decide)) (by omega)) Tryd.call63 rfl rfl (fun v47 => ?_)
                            skip
                            · skip
                              rw [openUnE_yes hok0, openUnL_0 hok0 hu0]
                              refine At.val (Val.move rfl) rfl rfl rfl ?_
                              refine At.val (Val.extract rfl rfl) rfl rfl rfl ?_
                              refine At.val (Val.extract rfl rfl) rfl rfl rfl ?_
                              refine At.val (Val.assign rfl) rfl rfl rfl ?_
                              refine At.val (Val.assign rfl) rfl rfl rfl ?_
                              refine At.nil ?_
                              refine At.thenN ?_
                              refine At.seq ?_
                              refine At.region ?_
                              refine At.val (Val.move rfl) rfl rfl rfl ?_
                              refine At.val (Val.bin rfl rfl rfl) rfl rfl rfl ?_
                              refine At.val (Val.move rfl) rfl rfl rfl ?_
                              refine At.yes rfl rfl ?_
                              refine At.val (Val.move rfl) rfl rfl rfl ?_
                              refine At.yes rfl rfl ?_
                              refine At.val (Val.lenRow (i := 0) Tryd.underlying102 rfl rfl) rfl rfl rfl ?_
                              refine At.yes rfl rfl ?_
                              refine At.val (Val.bin rfl rfl rfl) rfl rfl rfl ?_
                              refine At.val (Val.pickT rfl rfl) rfl rfl rfl ?_
                              refine At.val (Val.assign rfl) rfl rfl rfl ?_
                              refine At.nil ?_
                              refine At.thenN ?_
                              refine At.retC ?_
                              refine At.ret1 (.inl rfl) rfl rfl rfl (fun w hw => ?_)
                              exact ⟨rfl, hw.mod⟩
                    · skip
                      try simp only [vN_T, vN_F, nmE_T, nmE_F, wI_T, wI_F, data_T, data_F, ino_T, ino_F, notT, notF, bneT, bneF, beqT, beqF, decT, decF] at h39
                      refine At.skipC ?_
                      refine At.thenN ?_
                      refine At.seq ?_
                      refine At.seq ?_
                      refine At.region ?_
                      refine At.val (Val.assign rfl) rfl rfl rfl ?_
                      refine At.nil ?_
                      refine At.thenN ?_
                      refine At.block ?_
                      skip
                      refine At.drop 7 ?_
                      simp only [List.eraseIdx_cons_zero, List.eraseIdx_cons_succ]
                      refine At.drop 6 ?_
                      simp only [List.eraseIdx_cons_zero, List.eraseIdx_cons_succ]
                      refine At.drop 4 ?_
                      simp only [List.eraseIdx_cons_zero, List.eraseIdx_cons_succ]
                      refine At.drop 3 ?_
                      simp only [List.eraseIdx_cons_zero, List.eraseIdx_cons_succ]
                      refine At.drop 2 ?_
                      simp only [List.eraseIdx_cons_zero, List.eraseIdx_cons_succ]
                      refine At.drop 1 ?_
                      simp only [List.eraseIdx_cons_zero, List.eraseIdx_cons_succ]
                      refine At.drop 0 ?_
                      simp only [List.eraseIdx_cons_zero, List.eraseIdx_cons_succ]
                      refine At.loop (σ := Nat × List UInt8) (fun s => s.2.length = 512 ∧ s.1 ≤ 8 ∧ ∀ i, i < s.1 → s.2[i]? = some 0) (fun s => [(10, (.slice A36 ((R).length) c37)), (22, .int .i64 (s.1 : Int))]) (fun s => [brow 5 (.slice A36 ((R).length) c37) s.2]) (fun s => 8 - s.1) (0, R) ⟨hR, Nat.zero_le _, fun i h => absurd h (Nat.not_lt_zero _)⟩ (Sub.cons rfl (Sub.cons rfl Sub.nil)) (List.Perm.refl _) ?_
                      intro s hs
                      obtain ⟨k, Z⟩ := s
                      dsimp only at hs ⊢
                      refine At.seq ?_
                      refine At.seq ?_
                      refine At.region ?_
                      refine At.val (Val.move rfl) rfl rfl rfl ?_
                      refine At.val (Val.bin rfl rfl rfl) rfl rfl rfl ?_
                      refine At.nil ?_
                      refine At.thenN ?_
                      refine At.cond rfl (fun h48 => ?_) (fun h48 => ?_)
                      · skip
                        try simp only [vN_T, vN_F, nmE_T, nmE_F, wI_T, wI_F, data_T, data_F, ino_T, ino_F, notT, notF, bneT, bneF, beqT, beqF, decT, decF] at h48
                        have hk : k < 8 := by omega
                        refine At.skipC ?_
                        refine At.thenN ?_
                        refine At.seq ?_
                        refine At.block ?_
                        refine At.region ?_
                        refine At.val (Val.move rfl) rfl rfl rfl ?_
                        refine At.val (Val.move rfl) rfl rfl rfl ?_
                        refine At.idxRowB (i := 0) rfl Tryd.underlying54 Tryd.sizeOf5 rfl rfl (by omega) (by omega) rfl rfl (fun q49 hq50 hl51 => ?_)
                        refine At.storeRowB (i := 0) (c := 0) Tryd.sizeOf5 rfl rfl rfl (by omega) ?_
                        simp only [List.set_cons_zero, List.set_cons_succ]
                        refine At.nil ?_
                        refine At.blkN ?_
                        refine At.thenN ?_
                        refine At.region ?_
                        refine At.val (Val.move rfl) rfl rfl rfl ?_
                        first | refine At.val (Val.addI rfl rfl (by omega) (by omega)) rfl rfl rfl ?_ | refine At.val (Val.bin rfl rfl rfl) rfl rfl rfl ?_
                        refine At.val (Val.assign rfl) rfl rfl rfl ?_
                        refine At.nil ?_
                        refine At.thenN ?_
                        exact At.again (k + 1, Z.set (k : Int).toNat 0) ⟨by rw [List.length_set]; exact hs.1, (show k + 1 ≤ 8 by omega), zero_step hs.2.2 (by rw [hs.1]; omega)⟩ (by dsimp only; omega) (Sub.cons rfl (Sub.cons (congrArg (fun z => some (Value.int IntKind.i64 z)) (by omega)) Sub.nil)) (List.Perm.refl _)
                      · skip
                        try simp only [vN_T, vN_F, nmE_T, nmE_F, wI_T, wI_F, data_T, data_F, ino_T, ino_F, notT, notF, bneT, bneF, beqT, beqF, decT, decF] at h48
                        obtain rfl : k = 8 := by omega
                        obtain ⟨hok0, hu0⟩ := zero_un hs.1 hs.2.2
                        refine At.exitC ?_
                        refine At.thenX ?_
                        refine At.thenX ?_
                        refine At.blkX ?_
                        refine At.thenN ?_
                        refine At.seq ?_
                        refine At.region ?_
                        refine At.val (Val.move rfl) rfl rfl rfl ?_
                        refine At.callNT (g := (fun v => .tuple #[v, .int .i64 (openUnE Z)])) (fun w hw => openUn_n _ Z w (ht.mod hw.mod) (row_rd (hw.row (i := 0) rfl) (by decide)) (by omega)) Tryd.call63 rfl rfl (fun v52 => ?_)
                        skip
                        · skip
                          rw [openUnE_yes hok0, openUnL_0 hok0 hu0]
                          refine At.val (Val.move rfl) rfl rfl rfl ?_
                          refine At.val (Val.extract rfl rfl) rfl rfl rfl ?_
                          refine At.val (Val.extract rfl rfl) rfl rfl rfl ?_
                          refine At.val (Val.assign rfl) rfl rfl rfl ?_
                          refine At.val (Val.assign rfl) rfl rfl rfl ?_
                          refine At.nil ?_
                          refine At.thenN ?_
                          refine At.seq ?_
                          refine At.region ?_
                          refine At.val (Val.move rfl) rfl rfl rfl ?_
                          refine At.val (Val.bin rfl rfl rfl) rfl rfl rfl ?_
                          refine At.val (Val.move rfl) rfl rfl rfl ?_
                          refine At.yes rfl rfl ?_
                          refine At.val (Val.move rfl) rfl rfl rfl ?_
                          refine At.yes rfl rfl ?_
                          refine At.val (Val.lenRow (i := 0) Tryd.underlying102 rfl rfl) rfl rfl rfl ?_
                          refine At.yes rfl rfl ?_
                          refine At.val (Val.bin rfl rfl rfl) rfl rfl rfl ?_
                          refine At.val (Val.pickT rfl rfl) rfl rfl rfl ?_
                          refine At.val (Val.assign rfl) rfl rfl rfl ?_
                          refine At.nil ?_
                          refine At.thenN ?_
                          refine At.retC ?_
                          refine At.ret1 (.inl rfl) rfl rfl rfl (fun w hw => ?_)
                          exact ⟨rfl, hw.mod⟩

end Go.Proofs.YtoiebgnmknbkjaaDoor
