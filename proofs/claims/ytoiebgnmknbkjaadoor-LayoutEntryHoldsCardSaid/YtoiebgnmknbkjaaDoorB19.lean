/- Good entries. -/
import Derived.Test.YtoiebgnmknbkjaaDoorB2
import Derived.Test.YtoiebgnmknbkjaaDoorPn
import Derived.Test.YtoiebgnmknbkjaaDoorV1
set_option linter.unusedVariables false
set_option linter.unusedSimpArgs false
namespace Go.Proofs.YtoiebgnmknbkjaaDoor
open Go Go.Wk

theorem vN_01 (s : ByteArray) : vN s = 0 ∨ vN s = 1 := by unfold vN; split <;> simp
theorem nmE_eq {s : ByteArray} : (ByteArray.mk #[]).toList = s.toList ↔ s.size = 0 := by
  rw [← nmE_T, beq_iff_eq]; exact eq_comm
theorem nmE_T' {s : ByteArray} : ((ByteArray.mk #[]).toList == s.toList) = true ↔ s.size = 0 := by
  rw [← nmE_T, beq_iff_eq, beq_iff_eq]; exact eq_comm

theorem goodEnt_p (k q o c p z i : Int) (s : ByteArray) (w : World) (hlen : s.size ≤ 9223372036854775807) (hq : 0 ≤ q) :
    PureC Tryd.prog 110 [.agg #[.int .i64 k, .int .u64 q, .int .i64 o, .int .i64 c, .int .i64 p, .int .i64 z, .int .i64 i, .string s]] (.bool (decide (GoodE k q o c p z i s))) w := by
  refine enter0 Tryd.func110 rfl Tryd.ntmps110 rfl ?_
  have hvn := vN_01 s
  simp only [envOf]
  refine At.seq ?_
  refine At.region ?_
  refine At.box rfl rfl rfl (fun b1 => ?_)
  refine At.val (Val.assign rfl) rfl rfl rfl ?_
  refine At.nil ?_
  refine At.thenN ?_
  refine At.seq ?_
  refine At.seq ?_
  refine At.region ?_
  refine At.weaken [(0, _), (1, _), (2, _)] (Sub.cons rfl (Sub.cons rfl (Sub.cons rfl Sub.nil))) ?_
  refine At.boolMeet 8 14 (decide (q = 0 ∨ 4611686018427387904 < q)) ?_ ?_
  · skip
    simp only [List.take_succ_cons, List.take_zero]
    refine At.val (Val.field 1 rfl fo_92_1 rfl) rfl rfl rfl ?_
    refine At.val (Val.load (i := 0) Tryd.isAgg40 rfl rfl rfl) rfl rfl rfl ?_
    refine At.val (Val.bin rfl rfl rfl) rfl rfl rfl ?_
    refine At.val (Val.move rfl) rfl rfl rfl ?_
    refine At.split (t := 10) rfl (fun h2 => ?_) (fun h2 => ?_)
    · skip
      try simp only [vN_T, vN_F, nmE_T, nmE_F, wI_T, wI_F, data_T, data_F, ino_T, ino_F, notT, notF, bneT, bneF, beqT, beqF, decT, decF] at h2
      refine At.no rfl rfl rfl rfl ?_
      refine At.no rfl rfl rfl rfl ?_
      refine At.no rfl rfl rfl rfl ?_
      refine At.val (Val.pickT rfl rfl) rfl rfl rfl ?_
      refine At.nil ?_
      exact At.boolEnd rfl (by first | rfl | exact (decide_eq_true (by omega)).symm | exact (decide_eq_false (by omega)).symm | (apply Bool.eq_iff_iff.2; simp only [decide_eq_true_eq, beq_iff_eq, bne_iff_ne, ne_eq, wI_T, data_T, ino_T, vN_T, nmE_T, Bool.not_eq_true', wI_F, data_F, ino_F, vN_F, nmE_F, decide_eq_false_iff_not]; omega)) (by repeat (first | exact Sub.nil | refine Sub.cons rfl ?_))
    · skip
      try simp only [vN_T, vN_F, nmE_T, nmE_F, wI_T, wI_F, data_T, data_F, ino_T, ino_F, notT, notF, bneT, bneF, beqT, beqF, decT, decF] at h2
      refine At.yes rfl rfl ?_
      refine At.val (Val.field 1 rfl fo_92_1 rfl) rfl rfl rfl ?_
      refine At.yes rfl rfl ?_
      refine At.val (Val.load (i := 0) Tryd.isAgg40 rfl rfl rfl) rfl rfl rfl ?_
      refine At.yes rfl rfl ?_
      refine At.val (Val.bin rfl rfl rfl) rfl rfl rfl ?_
      refine At.val (Val.pickF rfl rfl) rfl rfl rfl ?_
      refine At.nil ?_
      exact At.boolEnd rfl (by first | rfl | exact (decide_eq_true (by omega)).symm | exact (decide_eq_false (by omega)).symm | (apply Bool.eq_iff_iff.2; simp only [decide_eq_true_eq, beq_iff_eq, bne_iff_ne, ne_eq, wI_T, data_T, ino_T, vN_T, nmE_T, Bool.not_eq_true', wI_F, data_F, ino_F, vN_F, nmE_F, decide_eq_false_iff_not]; omega)) (by repeat (first | exact Sub.nil | refine Sub.cons rfl ?_))
  · skip
    simp only [List.drop_succ_cons, List.drop_zero]
    refine At.nil ?_
    refine At.thenN ?_
    refine At.cond rfl (fun h3 => ?_) (fun h3 => ?_)
    · skip
      try simp only [vN_T, vN_F, nmE_T, nmE_F, wI_T, wI_F, data_T, data_F, ino_T, ino_F, notT, notF, bneT, bneF, beqT, beqF, decT, decF] at h3
      refine At.seq ?_
      refine At.region ?_
      refine At.val (Val.assign rfl) rfl rfl rfl ?_
      refine At.nil ?_
      refine At.thenN ?_
      refine At.retC ?_
      refine At.thenR ?_
      refine At.ret1 (.inl rfl) rfl rfl rfl (fun w hw => ?_)
      exact ⟨retB (by first | exact (decide_eq_false (by unfold GoodE; omega)).symm | (apply Bool.eq_iff_iff.2; simp only [decide_eq_true_eq]; unfold GoodE; omega)), hw.mod⟩
    · skip
      try simp only [vN_T, vN_F, nmE_T, nmE_F, wI_T, wI_F, data_T, data_F, ino_T, ino_F, notT, notF, bneT, bneF, beqT, beqF, decT, decF] at h3
      refine At.skipC ?_
      refine At.thenN ?_
      refine At.seq ?_
      refine At.quiet rfl (by decide +kernel) ?_
      refine QAt.val (Val.field 7 rfl fo_92_7 rfl) rfl rfl rfl ?_
      refine QAt.val (Val.load (i := 0) Tryd.isAgg9 rfl rfl rfl) rfl rfl rfl ?_
      refine QAt.val (Val.seq_ rfl rfl) rfl rfl rfl ?_
      refine QAt.weaken [(0, _), (1, _), (2, _), (14, _), (17, _)] (Sub.cons rfl (Sub.cons rfl (Sub.cons rfl (Sub.cons rfl (Sub.cons rfl Sub.nil))))) ?_
      refine QAt.boolMeet 13 30 (decide (o = 0 ∧ c = 0 ∧ p = 0)) ?_ ?_
      · skip
        simp only [List.take_succ_cons, List.take_zero]
        refine QAt.val (Val.field 2 rfl fo_92_2 rfl) rfl rfl rfl ?_
        refine QAt.val (Val.load (i := 0) Tryd.isAgg3 rfl rfl rfl) rfl rfl rfl ?_
        refine QAt.val (Val.bin rfl rfl rfl) rfl rfl rfl ?_
        refine QAt.val (Val.move rfl) rfl rfl rfl ?_
        refine QAt.split (t := 21) rfl (fun h4 => ?_) (fun h4 => ?_)
        · skip
          try simp only [vN_T, vN_F, nmE_T, nmE_F, wI_T, wI_F, data_T, data_F, ino_T, ino_F, notT, notF, bneT, bneF, beqT, beqF, decT, decF] at h4
          refine QAt.yes rfl rfl ?_
          refine QAt.val (Val.field 3 rfl fo_92_3 rfl) rfl rfl rfl ?_
          refine QAt.yes rfl rfl ?_
          refine QAt.val (Val.load (i := 0) Tryd.isAgg3 rfl rfl rfl) rfl rfl rfl ?_
          refine QAt.yes rfl rfl ?_
          refine QAt.val (Val.bin rfl rfl rfl) rfl rfl rfl ?_
          refine QAt.val (Val.pickT rfl rfl) rfl rfl rfl ?_
          refine QAt.val (Val.move rfl) rfl rfl rfl ?_
          refine QAt.split (t := 26) rfl (fun h5 => ?_) (fun h5 => ?_)
          · skip
            try simp only [vN_T, vN_F, nmE_T, nmE_F, wI_T, wI_F, data_T, data_F, ino_T, ino_F, notT, notF, bneT, bneF, beqT, beqF, decT, decF] at h5
            refine QAt.yes rfl rfl ?_
            refine QAt.val (Val.field 4 rfl fo_92_4 rfl) rfl rfl rfl ?_
            refine QAt.yes rfl rfl ?_
            refine QAt.val (Val.load (i := 0) Tryd.isAgg3 rfl rfl rfl) rfl rfl rfl ?_
            refine QAt.yes rfl rfl ?_
            refine QAt.val (Val.bin rfl rfl rfl) rfl rfl rfl ?_
            refine QAt.val (Val.pickT rfl rfl) rfl rfl rfl ?_
            exact QAt.boolEnd rfl (by first | rfl | exact (decide_eq_true (by omega)).symm | exact (decide_eq_false (by omega)).symm | (apply Bool.eq_iff_iff.2; simp only [decide_eq_true_eq, beq_iff_eq, bne_iff_ne, ne_eq, wI_T, data_T, ino_T, vN_T, nmE_T, Bool.not_eq_true', wI_F, data_F, ino_F, vN_F, nmE_F, decide_eq_false_iff_not]; omega)) (by repeat (first | exact Sub.nil | refine Sub.cons rfl ?_))
          · skip
            try simp only [vN_T, vN_F, nmE_T, nmE_F, wI_T, wI_F, data_T, data_F, ino_T, ino_F, notT, notF, bneT, bneF, beqT, beqF, decT, decF] at h5
            refine QAt.no rfl rfl rfl rfl ?_
            refine QAt.no rfl rfl rfl rfl ?_
            refine QAt.no rfl rfl rfl rfl ?_
            refine QAt.val (Val.pickF rfl rfl) rfl rfl rfl ?_
            exact QAt.boolEnd rfl (by first | rfl | exact (decide_eq_true (by omega)).symm | exact (decide_eq_false (by omega)).symm | (apply Bool.eq_iff_iff.2; simp only [decide_eq_true_eq, beq_iff_eq, bne_iff_ne, ne_eq, wI_T, data_T, ino_T, vN_T, nmE_T, Bool.not_eq_true', wI_F, data_F, ino_F, vN_F, nmE_F, decide_eq_false_iff_not]; omega)) (by repeat (first | exact Sub.nil | refine Sub.cons rfl ?_))
        · skip
          try simp only [vN_T, vN_F, nmE_T, nmE_F, wI_T, wI_F, data_T, data_F, ino_T, ino_F, notT, notF, bneT, bneF, beqT, beqF, decT, decF] at h4
          refine QAt.no rfl rfl rfl rfl ?_
          refine QAt.no rfl rfl rfl rfl ?_
          refine QAt.no rfl rfl rfl rfl ?_
          refine QAt.val (Val.pickF rfl rfl) rfl rfl rfl ?_
          refine QAt.val (Val.move rfl) rfl rfl rfl ?_
          refine QAt.no rfl rfl rfl rfl ?_
          refine QAt.no rfl rfl rfl rfl ?_
          refine QAt.no rfl rfl rfl rfl ?_
          refine QAt.val (Val.pickF rfl rfl) rfl rfl rfl ?_
          exact QAt.boolEnd rfl (by first | rfl | exact (decide_eq_true (by omega)).symm | exact (decide_eq_false (by omega)).symm | (apply Bool.eq_iff_iff.2; simp only [decide_eq_true_eq, beq_iff_eq, bne_iff_ne, ne_eq, wI_T, data_T, ino_T, vN_T, nmE_T, Bool.not_eq_true', wI_F, data_F, ino_F, vN_F, nmE_F, decide_eq_false_iff_not]; omega)) (by repeat (first | exact Sub.nil | refine Sub.cons rfl ?_))
      · skip
        simp only [List.drop_succ_cons, List.drop_zero]
        refine QAt.val (Val.assign rfl) rfl rfl rfl ?_
        refine QAt.val (Val.assign rfl) rfl rfl rfl ?_
        refine QAt.fin ?_
        refine At.thenN ?_
        refine At.seq ?_
        refine At.region ?_
        refine At.val (Val.field 5 rfl fo_92_5 rfl) rfl rfl rfl ?_
        refine At.val (Val.load (i := 0) Tryd.isAgg3 rfl rfl rfl) rfl rfl rfl ?_
        refine At.callP (fun w hw => within_p _ _ _ w) Tryd.call73 rfl rfl ?_
        refine At.val (Val.assign rfl) rfl rfl rfl ?_
        refine At.nil ?_
        refine At.thenN ?_
        refine At.seq ?_
        refine At.seq ?_
        refine At.region ?_
        refine At.val (Val.field 0 rfl fo_92_0 rfl) rfl rfl rfl ?_
        refine At.val (Val.load (i := 0) Tryd.isAgg3 rfl rfl rfl) rfl rfl rfl ?_
        refine At.nil ?_
        refine At.thenN ?_
        refine At.block ?_
        refine At.seq ?_
        refine At.region ?_
        refine At.val (Val.bin rfl rfl rfl) rfl rfl rfl ?_
        refine At.val (Val.assign rfl) rfl rfl rfl ?_
        refine At.nil ?_
        refine At.thenN ?_
        refine At.cond rfl (fun h6 => ?_) (fun h6 => ?_)
        · skip
          try simp only [vN_T, vN_F, nmE_T, nmE_F, wI_T, wI_F, data_T, data_F, ino_T, ino_F, notT, notF, bneT, bneF, beqT, beqF, decT, decF] at h6
          refine At.seq ?_
          refine At.region ?_
          refine At.weaken [(0, _), (1, _), (2, _), (14, _), (17, _), (30, _), (3, _), (4, _), (31, _), (32, _), (33, _), (5, _), (34, _), (35, _), (37, _), (36, _)] (Sub.cons rfl (Sub.cons rfl (Sub.cons rfl (Sub.cons rfl (Sub.cons rfl (Sub.cons rfl (Sub.cons rfl (Sub.cons rfl (Sub.cons rfl (Sub.cons rfl (Sub.cons rfl (Sub.cons rfl (Sub.cons rfl (Sub.cons rfl (Sub.cons rfl (Sub.cons rfl Sub.nil)))))))))))))))) ?_
          refine At.boolMeet 19 56 (decide (1 ≤ c ∧ c ≤ 16 ∧ 0 ≤ o ∧ o ≤ 512 - c ∧ 5 ≤ p ∧ p ≤ 1024 - c)) ?_ ?_
          · skip
            simp only [List.take_succ_cons, List.take_zero]
            refine At.val (Val.field 3 rfl fo_92_3 rfl) rfl rfl rfl ?_
            refine At.val (Val.load (i := 0) Tryd.isAgg3 rfl rfl rfl) rfl rfl rfl ?_
            refine At.callP (fun w hw => within_p _ _ _ w) Tryd.call73 rfl rfl ?_
            refine At.val (Val.move rfl) rfl rfl rfl ?_
            refine At.split (t := 41) rfl (fun h7 => ?_) (fun h7 => ?_)
            · skip
              try simp only [vN_T, vN_F, nmE_T, nmE_F, wI_T, wI_F, data_T, data_F, ino_T, ino_F, notT, notF, bneT, bneF, beqT, beqF, decT, decF] at h7
              refine At.yes rfl rfl ?_
              refine At.val (Val.field 2 rfl fo_92_2 rfl) rfl rfl rfl ?_
              refine At.yes rfl rfl ?_
              refine At.val (Val.load (i := 0) Tryd.isAgg3 rfl rfl rfl) rfl rfl rfl ?_
              refine At.yes rfl rfl ?_
              refine At.val (Val.field 3 rfl fo_92_3 rfl) rfl rfl rfl ?_
              refine At.yes rfl rfl ?_
              refine At.val (Val.load (i := 0) Tryd.isAgg3 rfl rfl rfl) rfl rfl rfl ?_
              refine At.yes rfl rfl ?_
              first | refine At.val (Val.subI rfl rfl (by omega) (by omega)) rfl rfl rfl ?_ | refine At.val (Val.bin rfl rfl rfl) rfl rfl rfl ?_
              refine At.yes rfl rfl ?_
              refine At.callP (fun w hw => within_p _ _ _ w) Tryd.call73 rfl rfl ?_
              refine At.val (Val.pickT rfl rfl) rfl rfl rfl ?_
              refine At.val (Val.move rfl) rfl rfl rfl ?_
              refine At.split (t := 49) rfl (fun h8 => ?_) (fun h8 => ?_)
              · skip
                try simp only [vN_T, vN_F, nmE_T, nmE_F, wI_T, wI_F, data_T, data_F, ino_T, ino_F, notT, notF, bneT, bneF, beqT, beqF, decT, decF] at h8
                refine At.yes rfl rfl ?_
                refine At.val (Val.field 4 rfl fo_92_4 rfl) rfl rfl rfl ?_
                refine At.yes rfl rfl ?_
                refine At.val (Val.load (i := 0) Tryd.isAgg3 rfl rfl rfl) rfl rfl rfl ?_
                refine At.yes rfl rfl ?_
                refine At.val (Val.field 3 rfl fo_92_3 rfl) rfl rfl rfl ?_
                refine At.yes rfl rfl ?_
                refine At.val (Val.load (i := 0) Tryd.isAgg3 rfl rfl rfl) rfl rfl rfl ?_
                refine At.yes rfl rfl ?_
                first | refine At.val (Val.subI rfl rfl (by omega) (by omega)) rfl rfl rfl ?_ | refine At.val (Val.bin rfl rfl rfl) rfl rfl rfl ?_
                refine At.yes rfl rfl ?_
                refine At.callP (fun w hw => within_p _ _ _ w) Tryd.call73 rfl rfl ?_
                refine At.val (Val.pickT rfl rfl) rfl rfl rfl ?_
                refine At.nil ?_
                exact At.boolEnd rfl (by first | rfl | exact (decide_eq_true (by omega)).symm | exact (decide_eq_false (by omega)).symm | (apply Bool.eq_iff_iff.2; simp only [decide_eq_true_eq, beq_iff_eq, bne_iff_ne, ne_eq, wI_T, data_T, ino_T, vN_T, nmE_T, Bool.not_eq_true', wI_F, data_F, ino_F, vN_F, nmE_F, decide_eq_false_iff_not]; omega)) (by repeat (first | exact Sub.nil | refine Sub.cons rfl ?_))
              · skip
                try simp only [vN_T, vN_F, nmE_T, nmE_F, wI_T, wI_F, data_T, data_F, ino_T, ino_F, notT, notF, bneT, bneF, beqT, beqF, decT, decF] at h8
                refine At.no rfl rfl rfl rfl ?_
                refine At.no rfl rfl rfl rfl ?_
                refine At.no rfl rfl rfl rfl ?_
                refine At.no rfl rfl rfl rfl ?_
                refine At.no rfl rfl rfl rfl ?_
                refine At.no rfl rfl rfl rfl ?_
                refine At.val (Val.pickF rfl rfl) rfl rfl rfl ?_
                refine At.nil ?_
                exact At.boolEnd rfl (by first | rfl | exact (decide_eq_true (by omega)).symm | exact (decide_eq_false (by omega)).symm | (apply Bool.eq_iff_iff.2; simp only [decide_eq_true_eq, beq_iff_eq, bne_iff_ne, ne_eq, wI_T, data_T, ino_T, vN_T, nmE_T, Bool.not_eq_true', wI_F, data_F, ino_F, vN_F, nmE_F, decide_eq_false_iff_not]; omega)) (by repeat (first | exact Sub.nil | refine Sub.cons rfl ?_))
            · skip
              try simp only [vN_T, vN_F, nmE_T, nmE_F, wI_T, wI_F, data_T, data_F, ino_T, ino_F, notT, notF, bneT, bneF, beqT, beqF, decT, decF] at h7
              refine At.no rfl rfl rfl rfl ?_
              refine At.no rfl rfl rfl rfl ?_
              refine At.no rfl rfl rfl rfl ?_
              refine At.no rfl rfl rfl rfl ?_
              refine At.no rfl rfl rfl rfl ?_
              refine At.no rfl rfl rfl rfl ?_
              refine At.val (Val.pickF rfl rfl) rfl rfl rfl ?_
              refine At.val (Val.move rfl) rfl rfl rfl ?_
              refine At.no rfl rfl rfl rfl ?_
              refine At.no rfl rfl rfl rfl ?_
              refine At.no rfl rfl rfl rfl ?_
              refine At.no rfl rfl rfl rfl ?_
              refine At.no rfl rfl rfl rfl ?_
              refine At.no rfl rfl rfl rfl ?_
              refine At.val (Val.pickF rfl rfl) rfl rfl rfl ?_
              refine At.nil ?_
              exact At.boolEnd rfl (by first | rfl | exact (decide_eq_true (by omega)).symm | exact (decide_eq_false (by omega)).symm | (apply Bool.eq_iff_iff.2; simp only [decide_eq_true_eq, beq_iff_eq, bne_iff_ne, ne_eq, wI_T, data_T, ino_T, vN_T, nmE_T, Bool.not_eq_true', wI_F, data_F, ino_F, vN_F, nmE_F, decide_eq_false_iff_not]; omega)) (by repeat (first | exact Sub.nil | refine Sub.cons rfl ?_))
          · skip
            simp only [List.drop_succ_cons, List.drop_zero]
            refine At.val (Val.assign rfl) rfl rfl rfl ?_
            refine At.nil ?_
            refine At.thenN ?_
            refine At.seq ?_
            refine At.region ?_
            refine At.weaken [(0, _), (1, _), (2, _), (14, _), (17, _), (30, _), (3, _), (4, _), (31, _), (32, _), (33, _), (5, _), (34, _), (35, _), (37, _), (36, _), (56, _), (6, _)] (Sub.cons rfl (Sub.cons rfl (Sub.cons rfl (Sub.cons rfl (Sub.cons rfl (Sub.cons rfl (Sub.cons rfl (Sub.cons rfl (Sub.cons rfl (Sub.cons rfl (Sub.cons rfl (Sub.cons rfl (Sub.cons rfl (Sub.cons rfl (Sub.cons rfl (Sub.cons rfl (Sub.cons rfl (Sub.cons rfl Sub.nil)))))))))))))))))) ?_
            refine At.boolMeet 12 68 (decide ((1 ≤ c ∧ c ≤ 16 ∧ 0 ≤ o ∧ o ≤ 512 - c ∧ 5 ≤ p ∧ p ≤ 1024 - c) ∧ (0 ≤ z ∧ z ≤ 262144) ∧ s.size = 0 ∧ i = 0)) ?_ ?_
            · skip
              simp only [List.take_succ_cons, List.take_zero]
              refine At.val (Val.move rfl) rfl rfl rfl ?_
              refine At.val (Val.move rfl) rfl rfl rfl ?_
              refine At.split (t := 58) rfl (fun h9 => ?_) (fun h9 => ?_)
              · skip
                try simp only [vN_T, vN_F, nmE_T, nmE_F, wI_T, wI_F, data_T, data_F, ino_T, ino_F, notT, notF, bneT, bneF, beqT, beqF, decT, decF] at h9
                refine At.yes rfl rfl ?_
                refine At.val (Val.move rfl) rfl rfl rfl ?_
                refine At.val (Val.pickT rfl rfl) rfl rfl rfl ?_
                refine At.val (Val.move rfl) rfl rfl rfl ?_
                refine At.split (t := 61) rfl (fun h10 => ?_) (fun h10 => ?_)
                · skip
                  try simp only [vN_T, vN_F, nmE_T, nmE_F, wI_T, wI_F, data_T, data_F, ino_T, ino_F, notT, notF, bneT, bneF, beqT, beqF, decT, decF] at h10
                  refine At.yes rfl rfl ?_
                  refine At.val (Val.move rfl) rfl rfl rfl ?_
                  refine At.val (Val.pickT rfl rfl) rfl rfl rfl ?_
                  refine At.val (Val.move rfl) rfl rfl rfl ?_
                  refine At.split (t := 64) rfl (fun h11 => ?_) (fun h11 => ?_)
                  · skip
                    try simp only [vN_T, vN_F, nmE_T, nmE_F, wI_T, wI_F, data_T, data_F, ino_T, ino_F, notT, notF, bneT, bneF, beqT, beqF, decT, decF] at h11
                    refine At.yes rfl rfl ?_
                    refine At.val (Val.field 6 rfl fo_92_6 rfl) rfl rfl rfl ?_
                    refine At.yes rfl rfl ?_
                    refine At.val (Val.load (i := 0) Tryd.isAgg3 rfl rfl rfl) rfl rfl rfl ?_
                    refine At.yes rfl rfl ?_
                    refine At.val (Val.bin rfl rfl rfl) rfl rfl rfl ?_
                    refine At.val (Val.pickT rfl rfl) rfl rfl rfl ?_
                    refine At.nil ?_
                    exact At.boolEnd rfl (by first | rfl | exact (decide_eq_true (by omega)).symm | exact (decide_eq_false (by omega)).symm | (apply Bool.eq_iff_iff.2; simp only [decide_eq_true_eq, beq_iff_eq, bne_iff_ne, ne_eq, wI_T, data_T, ino_T, vN_T, nmE_T, Bool.not_eq_true', wI_F, data_F, ino_F, vN_F, nmE_F, decide_eq_false_iff_not]; omega)) (by repeat (first | exact Sub.nil | refine Sub.cons rfl ?_))
                  · skip
                    try simp only [vN_T, vN_F, nmE_T, nmE_F, wI_T, wI_F, data_T, data_F, ino_T, ino_F, notT, notF, bneT, bneF, beqT, beqF, decT, decF] at h11
                    refine At.no rfl rfl rfl rfl ?_
                    refine At.no rfl rfl rfl rfl ?_
                    refine At.no rfl rfl rfl rfl ?_
                    refine At.val (Val.pickF rfl rfl) rfl rfl rfl ?_
                    refine At.nil ?_
                    exact At.boolEnd rfl (by first | rfl | exact (decide_eq_true (by omega)).symm | exact (decide_eq_false (by omega)).symm | (apply Bool.eq_iff_iff.2; simp only [decide_eq_true_eq, beq_iff_eq, bne_iff_ne, ne_eq, wI_T, data_T, ino_T, vN_T, nmE_T, Bool.not_eq_true', wI_F, data_F, ino_F, vN_F, nmE_F, decide_eq_false_iff_not]; omega)) (by repeat (first | exact Sub.nil | refine Sub.cons rfl ?_))
                · skip
                  try simp only [vN_T, vN_F, nmE_T, nmE_F, wI_T, wI_F, data_T, data_F, ino_T, ino_F, notT, notF, bneT, bneF, beqT, beqF, decT, decF] at h10
                  refine At.no rfl rfl rfl rfl ?_
                  refine At.val (Val.pickF rfl rfl) rfl rfl rfl ?_
                  refine At.val (Val.move rfl) rfl rfl rfl ?_
                  refine At.no rfl rfl rfl rfl ?_
                  refine At.no rfl rfl rfl rfl ?_
                  refine At.no rfl rfl rfl rfl ?_
                  refine At.val (Val.pickF rfl rfl) rfl rfl rfl ?_
                  refine At.nil ?_
                  exact At.boolEnd rfl (by first | rfl | exact (decide_eq_true (by omega)).symm | exact (decide_eq_false (by omega)).symm | (apply Bool.eq_iff_iff.2; simp only [decide_eq_true_eq, beq_iff_eq, bne_iff_ne, ne_eq, wI_T, data_T, ino_T, vN_T, nmE_T, Bool.not_eq_true', wI_F, data_F, ino_F, vN_F, nmE_F, decide_eq_false_iff_not]; omega)) (by repeat (first | exact Sub.nil | refine Sub.cons rfl ?_))
              · skip
                try simp only [vN_T, vN_F, nmE_T, nmE_F, wI_T, wI_F, data_T, data_F, ino_T, ino_F, notT, notF, bneT, bneF, beqT, beqF, decT, decF] at h9
                refine At.no rfl rfl rfl rfl ?_
                refine At.val (Val.pickF rfl rfl) rfl rfl rfl ?_
                refine At.val (Val.move rfl) rfl rfl rfl ?_
                refine At.no rfl rfl rfl rfl ?_
                refine At.val (Val.pickF rfl rfl) rfl rfl rfl ?_
                refine At.val (Val.move rfl) rfl rfl rfl ?_
                refine At.no rfl rfl rfl rfl ?_
                refine At.no rfl rfl rfl rfl ?_
                refine At.no rfl rfl rfl rfl ?_
                refine At.val (Val.pickF rfl rfl) rfl rfl rfl ?_
                refine At.nil ?_
                exact At.boolEnd rfl (by first | rfl | exact (decide_eq_true (by omega)).symm | exact (decide_eq_false (by omega)).symm | (apply Bool.eq_iff_iff.2; simp only [decide_eq_true_eq, beq_iff_eq, bne_iff_ne, ne_eq, wI_T, data_T, ino_T, vN_T, nmE_T, Bool.not_eq_true', wI_F, data_F, ino_F, vN_F, nmE_F, decide_eq_false_iff_not]; omega)) (by repeat (first | exact Sub.nil | refine Sub.cons rfl ?_))
            · skip
              simp only [List.drop_succ_cons, List.drop_zero]
              refine At.val (Val.assign rfl) rfl rfl rfl ?_
              refine At.nil ?_
              refine At.thenN ?_
              refine At.retC ?_
              refine At.blkR ?_
              refine At.thenR ?_
              refine At.ret1 (.inl rfl) rfl rfl rfl (fun w hw => ?_)
              exact ⟨retB (by first | exact (decide_eq_false (by unfold GoodE; omega)).symm | (apply Bool.eq_iff_iff.2; simp only [decide_eq_true_eq]; unfold GoodE; omega)), hw.mod⟩
        · skip
          try simp only [vN_T, vN_F, nmE_T, nmE_F, wI_T, wI_F, data_T, data_F, ino_T, ino_F, notT, notF, bneT, bneF, beqT, beqF, decT, decF] at h6
          refine At.seq ?_
          refine At.region ?_
          refine At.val (Val.bin rfl rfl rfl) rfl rfl rfl ?_
          refine At.val (Val.assign rfl) rfl rfl rfl ?_
          refine At.nil ?_
          refine At.thenN ?_
          refine At.cond rfl (fun h12 => ?_) (fun h12 => ?_)
          · skip
            try simp only [vN_T, vN_F, nmE_T, nmE_F, wI_T, wI_F, data_T, data_F, ino_T, ino_F, notT, notF, bneT, bneF, beqT, beqF, decT, decF] at h12
            refine At.seq ?_
            refine At.region ?_
            refine At.weaken [(0, _), (1, _), (2, _), (14, _), (17, _), (30, _), (3, _), (4, _), (31, _), (32, _), (33, _), (5, _), (34, _), (35, _), (37, _), (36, _), (70, _), (69, _)] (Sub.cons rfl (Sub.cons rfl (Sub.cons rfl (Sub.cons rfl (Sub.cons rfl (Sub.cons rfl (Sub.cons rfl (Sub.cons rfl (Sub.cons rfl (Sub.cons rfl (Sub.cons rfl (Sub.cons rfl (Sub.cons rfl (Sub.cons rfl (Sub.cons rfl (Sub.cons rfl (Sub.cons rfl (Sub.cons rfl Sub.nil)))))))))))))))))) ?_
            refine At.boolMeet 12 82 (decide ((o = 0 ∧ c = 0 ∧ p = 0) ∧ (0 ≤ z ∧ z ≤ 262144) ∧ s.size = 0 ∧ i = 0)) ?_ ?_
            · skip
              simp only [List.take_succ_cons, List.take_zero]
              refine At.val (Val.move rfl) rfl rfl rfl ?_
              refine At.val (Val.move rfl) rfl rfl rfl ?_
              refine At.split (t := 72) rfl (fun h13 => ?_) (fun h13 => ?_)
              · skip
                try simp only [vN_T, vN_F, nmE_T, nmE_F, wI_T, wI_F, data_T, data_F, ino_T, ino_F, notT, notF, bneT, bneF, beqT, beqF, decT, decF] at h13
                refine At.yes rfl rfl ?_
                refine At.val (Val.move rfl) rfl rfl rfl ?_
                refine At.val (Val.pickT rfl rfl) rfl rfl rfl ?_
                refine At.val (Val.move rfl) rfl rfl rfl ?_
                refine At.split (t := 75) rfl (fun h14 => ?_) (fun h14 => ?_)
                · skip
                  try simp only [vN_T, vN_F, nmE_T, nmE_F, wI_T, wI_F, data_T, data_F, ino_T, ino_F, notT, notF, bneT, bneF, beqT, beqF, decT, decF] at h14
                  refine At.yes rfl rfl ?_
                  refine At.val (Val.move rfl) rfl rfl rfl ?_
                  refine At.val (Val.pickT rfl rfl) rfl rfl rfl ?_
                  refine At.val (Val.move rfl) rfl rfl rfl ?_
                  refine At.split (t := 78) rfl (fun h15 => ?_) (fun h15 => ?_)
                  · skip
                    try simp only [vN_T, vN_F, nmE_T, nmE_F, wI_T, wI_F, data_T, data_F, ino_T, ino_F, notT, notF, bneT, bneF, beqT, beqF, decT, decF] at h15
                    refine At.yes rfl rfl ?_
                    refine At.val (Val.field 6 rfl fo_92_6 rfl) rfl rfl rfl ?_
                    refine At.yes rfl rfl ?_
                    refine At.val (Val.load (i := 0) Tryd.isAgg3 rfl rfl rfl) rfl rfl rfl ?_
                    refine At.yes rfl rfl ?_
                    refine At.val (Val.bin rfl rfl rfl) rfl rfl rfl ?_
                    refine At.val (Val.pickT rfl rfl) rfl rfl rfl ?_
                    refine At.nil ?_
                    exact At.boolEnd rfl (by first | rfl | exact (decide_eq_true (by omega)).symm | exact (decide_eq_false (by omega)).symm | (apply Bool.eq_iff_iff.2; simp only [decide_eq_true_eq, beq_iff_eq, bne_iff_ne, ne_eq, wI_T, data_T, ino_T, vN_T, nmE_T, Bool.not_eq_true', wI_F, data_F, ino_F, vN_F, nmE_F, decide_eq_false_iff_not]; omega)) (by repeat (first | exact Sub.nil | refine Sub.cons rfl ?_))
                  · skip
                    try simp only [vN_T, vN_F, nmE_T, nmE_F, wI_T, wI_F, data_T, data_F, ino_T, ino_F, notT, notF, bneT, bneF, beqT, beqF, decT, decF] at h15
                    refine At.no rfl rfl rfl rfl ?_
                    refine At.no rfl rfl rfl rfl ?_
                    refine At.no rfl rfl rfl rfl ?_
                    refine At.val (Val.pickF rfl rfl) rfl rfl rfl ?_
                    refine At.nil ?_
                    exact At.boolEnd rfl (by first | rfl | exact (decide_eq_true (by omega)).symm | exact (decide_eq_false (by omega)).symm | (apply Bool.eq_iff_iff.2; simp only [decide_eq_true_eq, beq_iff_eq, bne_iff_ne, ne_eq, wI_T, data_T, ino_T, vN_T, nmE_T, Bool.not_eq_true', wI_F, data_F, ino_F, vN_F, nmE_F, decide_eq_false_iff_not]; omega)) (by repeat (first | exact Sub.nil | refine Sub.cons rfl ?_))
                · skip
                  try simp only [vN_T, vN_F, nmE_T, nmE_F, wI_T, wI_F, data_T, data_F, ino_T, ino_F, notT, notF, bneT, bneF, beqT, beqF, decT, decF] at h14
                  refine At.no rfl rfl rfl rfl ?_
                  refine At.val (Val.pickF rfl rfl) rfl rfl rfl ?_
                  refine At.val (Val.move rfl) rfl rfl rfl ?_
                  refine At.no rfl rfl rfl rfl ?_
                  refine At.no rfl rfl rfl rfl ?_
                  refine At.no rfl rfl rfl rfl ?_
                  refine At.val (Val.pickF rfl rfl) rfl rfl rfl ?_
                  refine At.nil ?_
                  exact At.boolEnd rfl (by first | rfl | exact (decide_eq_true (by omega)).symm | exact (decide_eq_false (by omega)).symm | (apply Bool.eq_iff_iff.2; simp only [decide_eq_true_eq, beq_iff_eq, bne_iff_ne, ne_eq, wI_T, data_T, ino_T, vN_T, nmE_T, Bool.not_eq_true', wI_F, data_F, ino_F, vN_F, nmE_F, decide_eq_false_iff_not]; omega)) (by repeat (first | exact Sub.nil | refine Sub.cons rfl ?_))
              · skip
                try simp only [vN_T, vN_F, nmE_T, nmE_F, wI_T, wI_F, data_T, data_F, ino_T, ino_F, notT, notF, bneT, bneF, beqT, beqF, decT, decF] at h13
                refine At.no rfl rfl rfl rfl ?_
                refine At.val (Val.pickF rfl rfl) rfl rfl rfl ?_
                refine At.val (Val.move rfl) rfl rfl rfl ?_
                refine At.no rfl rfl rfl rfl ?_
                refine At.val (Val.pickF rfl rfl) rfl rfl rfl ?_
                refine At.val (Val.move rfl) rfl rfl rfl ?_
                refine At.no rfl rfl rfl rfl ?_
                refine At.no rfl rfl rfl rfl ?_
                refine At.no rfl rfl rfl rfl ?_
                refine At.val (Val.pickF rfl rfl) rfl rfl rfl ?_
                refine At.nil ?_
                exact At.boolEnd rfl (by first | rfl | exact (decide_eq_true (by omega)).symm | exact (decide_eq_false (by omega)).symm | (apply Bool.eq_iff_iff.2; simp only [decide_eq_true_eq, beq_iff_eq, bne_iff_ne, ne_eq, wI_T, data_T, ino_T, vN_T, nmE_T, Bool.not_eq_true', wI_F, data_F, ino_F, vN_F, nmE_F, decide_eq_false_iff_not]; omega)) (by repeat (first | exact Sub.nil | refine Sub.cons rfl ?_))
            · skip
              simp only [List.drop_succ_cons, List.drop_zero]
              refine At.val (Val.assign rfl) rfl rfl rfl ?_
              refine At.nil ?_
              refine At.thenN ?_
              refine At.retC ?_
              refine At.blkR ?_
              refine At.thenR ?_
              refine At.ret1 (.inl rfl) rfl rfl rfl (fun w hw => ?_)
              exact ⟨retB (by first | exact (decide_eq_false (by unfold GoodE; omega)).symm | (apply Bool.eq_iff_iff.2; simp only [decide_eq_true_eq]; unfold GoodE; omega)), hw.mod⟩
          · skip
            try simp only [vN_T, vN_F, nmE_T, nmE_F, wI_T, wI_F, data_T, data_F, ino_T, ino_F, notT, notF, bneT, bneF, beqT, beqF, decT, decF] at h12
            refine At.seq ?_
            refine At.region ?_
            refine At.val (Val.bin rfl rfl rfl) rfl rfl rfl ?_
            refine At.val (Val.assign rfl) rfl rfl rfl ?_
            refine At.nil ?_
            refine At.thenN ?_
            refine At.cond rfl (fun h16 => ?_) (fun h16 => ?_)
            · skip
              try simp only [vN_T, vN_F, nmE_T, nmE_F, wI_T, wI_F, data_T, data_F, ino_T, ino_F, notT, notF, bneT, bneF, beqT, beqF, decT, decF] at h16
              refine At.seq ?_
              refine At.region ?_
              refine At.weaken [(0, _), (1, _), (2, _), (14, _), (17, _), (30, _), (3, _), (4, _), (31, _), (32, _), (33, _), (5, _), (34, _), (35, _), (37, _), (36, _), (70, _), (69, _), (84, _), (83, _)] (Sub.cons rfl (Sub.cons rfl (Sub.cons rfl (Sub.cons rfl (Sub.cons rfl (Sub.cons rfl (Sub.cons rfl (Sub.cons rfl (Sub.cons rfl (Sub.cons rfl (Sub.cons rfl (Sub.cons rfl (Sub.cons rfl (Sub.cons rfl (Sub.cons rfl (Sub.cons rfl (Sub.cons rfl (Sub.cons rfl (Sub.cons rfl (Sub.cons rfl Sub.nil)))))))))))))))))))) ?_
              refine At.boolMeet 16 100 (decide ((o = 0 ∧ c = 0 ∧ p = 0) ∧ z = 0 ∧ (2 ≤ i ∧ i ≤ 256) ∧ vN s = 1)) ?_ ?_
              · skip
                simp only [List.take_succ_cons, List.take_zero]
                refine At.val (Val.move rfl) rfl rfl rfl ?_
                refine At.val (Val.move rfl) rfl rfl rfl ?_
                refine At.split (t := 86) rfl (fun h17 => ?_) (fun h17 => ?_)
                · skip
                  try simp only [vN_T, vN_F, nmE_T, nmE_F, wI_T, wI_F, data_T, data_F, ino_T, ino_F, notT, notF, bneT, bneF, beqT, beqF, decT, decF] at h17
                  refine At.yes rfl rfl ?_
                  refine At.val (Val.field 5 rfl fo_92_5 rfl) rfl rfl rfl ?_
                  refine At.yes rfl rfl ?_
                  refine At.val (Val.load (i := 0) Tryd.isAgg3 rfl rfl rfl) rfl rfl rfl ?_
                  refine At.yes rfl rfl ?_
                  refine At.val (Val.bin rfl rfl rfl) rfl rfl rfl ?_
                  refine At.val (Val.pickT rfl rfl) rfl rfl rfl ?_
                  refine At.val (Val.move rfl) rfl rfl rfl ?_
                  refine At.split (t := 91) rfl (fun h18 => ?_) (fun h18 => ?_)
                  · skip
                    try simp only [vN_T, vN_F, nmE_T, nmE_F, wI_T, wI_F, data_T, data_F, ino_T, ino_F, notT, notF, bneT, bneF, beqT, beqF, decT, decF] at h18
                    refine At.yes rfl rfl ?_
                    refine At.val (Val.field 6 rfl fo_92_6 rfl) rfl rfl rfl ?_
                    refine At.yes rfl rfl ?_
                    refine At.val (Val.load (i := 0) Tryd.isAgg3 rfl rfl rfl) rfl rfl rfl ?_
                    refine At.yes rfl rfl ?_
                    refine At.callP (fun w hw => within_p _ _ _ w) Tryd.call73 rfl rfl ?_
                    refine At.val (Val.pickT rfl rfl) rfl rfl rfl ?_
                    refine At.val (Val.move rfl) rfl rfl rfl ?_
                    refine At.split (t := 96) rfl (fun h19 => ?_) (fun h19 => ?_)
                    · skip
                      try simp only [vN_T, vN_F, nmE_T, nmE_F, wI_T, wI_F, data_T, data_F, ino_T, ino_F, notT, notF, bneT, bneF, beqT, beqF, decT, decF] at h19
                      refine At.yes rfl rfl ?_
                      refine At.val (Val.field 7 rfl fo_92_7 rfl) rfl rfl rfl ?_
                      refine At.yes rfl rfl ?_
                      refine At.val (Val.load (i := 0) Tryd.isAgg9 rfl rfl rfl) rfl rfl rfl ?_
                      refine At.yes rfl rfl ?_
                      refine At.callP (fun w hw => validI_p _ w hlen) Tryd.call130 rfl rfl ?_
                      refine At.val (Val.pickT rfl rfl) rfl rfl rfl ?_
                      refine At.nil ?_
                      exact At.boolEnd rfl (by first | rfl | exact (decide_eq_true (by omega)).symm | exact (decide_eq_false (by omega)).symm | (apply Bool.eq_iff_iff.2; simp only [decide_eq_true_eq, beq_iff_eq, bne_iff_ne, ne_eq, wI_T, data_T, ino_T, vN_T, nmE_T, Bool.not_eq_true', wI_F, data_F, ino_F, vN_F, nmE_F, decide_eq_false_iff_not]; omega)) (by repeat (first | exact Sub.nil | refine Sub.cons rfl ?_))
                    · skip
                      try simp only [vN_T, vN_F, nmE_T, nmE_F, wI_T, wI_F, data_T, data_F, ino_T, ino_F, notT, notF, bneT, bneF, beqT, beqF, decT, decF] at h19
                      refine At.no rfl rfl rfl rfl ?_
                      refine At.no rfl rfl rfl rfl ?_
                      refine At.no rfl rfl rfl rfl ?_
                      refine At.val (Val.pickF rfl rfl) rfl rfl rfl ?_
                      refine At.nil ?_
                      exact At.boolEnd rfl (by first | rfl | exact (decide_eq_true (by omega)).symm | exact (decide_eq_false (by omega)).symm | (apply Bool.eq_iff_iff.2; simp only [decide_eq_true_eq, beq_iff_eq, bne_iff_ne, ne_eq, wI_T, data_T, ino_T, vN_T, nmE_T, Bool.not_eq_true', wI_F, data_F, ino_F, vN_F, nmE_F, decide_eq_false_iff_not]; omega)) (by repeat (first | exact Sub.nil | refine Sub.cons rfl ?_))
                  · skip
                    try simp only [vN_T, vN_F, nmE_T, nmE_F, wI_T, wI_F, data_T, data_F, ino_T, ino_F, notT, notF, bneT, bneF, beqT, beqF, decT, decF] at h18
                    refine At.no rfl rfl rfl rfl ?_
                    refine At.no rfl rfl rfl rfl ?_
                    refine At.no rfl rfl rfl rfl ?_
                    refine At.val (Val.pickF rfl rfl) rfl rfl rfl ?_
                    refine At.val (Val.move rfl) rfl rfl rfl ?_
                    refine At.no rfl rfl rfl rfl ?_
                    refine At.no rfl rfl rfl rfl ?_
                    refine At.no rfl rfl rfl rfl ?_
                    refine At.val (Val.pickF rfl rfl) rfl rfl rfl ?_
                    refine At.nil ?_
                    exact At.boolEnd rfl (by first | rfl | exact (decide_eq_true (by omega)).symm | exact (decide_eq_false (by omega)).symm | (apply Bool.eq_iff_iff.2; simp only [decide_eq_true_eq, beq_iff_eq, bne_iff_ne, ne_eq, wI_T, data_T, ino_T, vN_T, nmE_T, Bool.not_eq_true', wI_F, data_F, ino_F, vN_F, nmE_F, decide_eq_false_iff_not]; omega)) (by repeat (first | exact Sub.nil | refine Sub.cons rfl ?_))
                · skip
                  try simp only [vN_T, vN_F, nmE_T, nmE_F, wI_T, wI_F, data_T, data_F, ino_T, ino_F, notT, notF, bneT, bneF, beqT, beqF, decT, decF] at h17
                  refine At.no rfl rfl rfl rfl ?_
                  refine At.no rfl rfl rfl rfl ?_
                  refine At.no rfl rfl rfl rfl ?_
                  refine At.val (Val.pickF rfl rfl) rfl rfl rfl ?_
                  refine At.val (Val.move rfl) rfl rfl rfl ?_
                  refine At.no rfl rfl rfl rfl ?_
                  refine At.no rfl rfl rfl rfl ?_
                  refine At.no rfl rfl rfl rfl ?_
                  refine At.val (Val.pickF rfl rfl) rfl rfl rfl ?_
                  refine At.val (Val.move rfl) rfl rfl rfl ?_
                  refine At.no rfl rfl rfl rfl ?_
                  refine At.no rfl rfl rfl rfl ?_
                  refine At.no rfl rfl rfl rfl ?_
                  refine At.val (Val.pickF rfl rfl) rfl rfl rfl ?_
                  refine At.nil ?_
                  exact At.boolEnd rfl (by first | rfl | exact (decide_eq_true (by omega)).symm | exact (decide_eq_false (by omega)).symm | (apply Bool.eq_iff_iff.2; simp only [decide_eq_true_eq, beq_iff_eq, bne_iff_ne, ne_eq, wI_T, data_T, ino_T, vN_T, nmE_T, Bool.not_eq_true', wI_F, data_F, ino_F, vN_F, nmE_F, decide_eq_false_iff_not]; omega)) (by repeat (first | exact Sub.nil | refine Sub.cons rfl ?_))
              · skip
                simp only [List.drop_succ_cons, List.drop_zero]
                refine At.val (Val.assign rfl) rfl rfl rfl ?_
                refine At.nil ?_
                refine At.thenN ?_
                refine At.retC ?_
                refine At.blkR ?_
                refine At.thenR ?_
                refine At.ret1 (.inl rfl) rfl rfl rfl (fun w hw => ?_)
                exact ⟨retB (by first | exact (decide_eq_false (by unfold GoodE; omega)).symm | (apply Bool.eq_iff_iff.2; simp only [decide_eq_true_eq]; unfold GoodE; omega)), hw.mod⟩
            · skip
              try simp only [vN_T, vN_F, nmE_T, nmE_F, wI_T, wI_F, data_T, data_F, ino_T, ino_F, notT, notF, bneT, bneF, beqT, beqF, decT, decF] at h16
              refine At.seq ?_
              refine At.region ?_
              refine At.val (Val.bin rfl rfl rfl) rfl rfl rfl ?_
              refine At.val (Val.assign rfl) rfl rfl rfl ?_
              refine At.nil ?_
              refine At.thenN ?_
              refine At.cond rfl (fun h20 => ?_) (fun h20 => ?_)
              · skip
                try simp only [vN_T, vN_F, nmE_T, nmE_F, wI_T, wI_F, data_T, data_F, ino_T, ino_F, notT, notF, bneT, bneF, beqT, beqF, decT, decF] at h20
                refine At.seq ?_
                refine At.region ?_
                refine At.weaken [(0, _), (1, _), (2, _), (14, _), (17, _), (30, _), (3, _), (4, _), (31, _), (32, _), (33, _), (5, _), (34, _), (35, _), (37, _), (36, _), (70, _), (69, _), (84, _), (83, _), (102, _), (101, _)] (Sub.cons rfl (Sub.cons rfl (Sub.cons rfl (Sub.cons rfl (Sub.cons rfl (Sub.cons rfl (Sub.cons rfl (Sub.cons rfl (Sub.cons rfl (Sub.cons rfl (Sub.cons rfl (Sub.cons rfl (Sub.cons rfl (Sub.cons rfl (Sub.cons rfl (Sub.cons rfl (Sub.cons rfl (Sub.cons rfl (Sub.cons rfl (Sub.cons rfl (Sub.cons rfl (Sub.cons rfl Sub.nil)))))))))))))))))))))) ?_
                refine At.boolMeet 16 118 (decide ((o = 0 ∧ c = 0 ∧ p = 0) ∧ z = 0 ∧ i = 0 ∧ vN s = 1)) ?_ ?_
                · skip
                  simp only [List.take_succ_cons, List.take_zero]
                  refine At.val (Val.move rfl) rfl rfl rfl ?_
                  refine At.val (Val.move rfl) rfl rfl rfl ?_
                  refine At.split (t := 104) rfl (fun h21 => ?_) (fun h21 => ?_)
                  · skip
                    try simp only [vN_T, vN_F, nmE_T, nmE_F, wI_T, wI_F, data_T, data_F, ino_T, ino_F, notT, notF, bneT, bneF, beqT, beqF, decT, decF] at h21
                    refine At.yes rfl rfl ?_
                    refine At.val (Val.field 5 rfl fo_92_5 rfl) rfl rfl rfl ?_
                    refine At.yes rfl rfl ?_
                    refine At.val (Val.load (i := 0) Tryd.isAgg3 rfl rfl rfl) rfl rfl rfl ?_
                    refine At.yes rfl rfl ?_
                    refine At.val (Val.bin rfl rfl rfl) rfl rfl rfl ?_
                    refine At.val (Val.pickT rfl rfl) rfl rfl rfl ?_
                    refine At.val (Val.move rfl) rfl rfl rfl ?_
                    refine At.split (t := 109) rfl (fun h22 => ?_) (fun h22 => ?_)
                    · skip
                      try simp only [vN_T, vN_F, nmE_T, nmE_F, wI_T, wI_F, data_T, data_F, ino_T, ino_F, notT, notF, bneT, bneF, beqT, beqF, decT, decF] at h22
                      refine At.yes rfl rfl ?_
                      refine At.val (Val.field 6 rfl fo_92_6 rfl) rfl rfl rfl ?_
                      refine At.yes rfl rfl ?_
                      refine At.val (Val.load (i := 0) Tryd.isAgg3 rfl rfl rfl) rfl rfl rfl ?_
                      refine At.yes rfl rfl ?_
                      refine At.val (Val.bin rfl rfl rfl) rfl rfl rfl ?_
                      refine At.val (Val.pickT rfl rfl) rfl rfl rfl ?_
                      refine At.val (Val.move rfl) rfl rfl rfl ?_
                      refine At.split (t := 114) rfl (fun h23 => ?_) (fun h23 => ?_)
                      · skip
                        try simp only [vN_T, vN_F, nmE_T, nmE_F, wI_T, wI_F, data_T, data_F, ino_T, ino_F, notT, notF, bneT, bneF, beqT, beqF, decT, decF] at h23
                        refine At.yes rfl rfl ?_
                        refine At.val (Val.field 7 rfl fo_92_7 rfl) rfl rfl rfl ?_
                        refine At.yes rfl rfl ?_
                        refine At.val (Val.load (i := 0) Tryd.isAgg9 rfl rfl rfl) rfl rfl rfl ?_
                        refine At.yes rfl rfl ?_
                        refine At.callP (fun w hw => validI_p _ w hlen) Tryd.call130 rfl rfl ?_
                        refine At.val (Val.pickT rfl rfl) rfl rfl rfl ?_
                        refine At.nil ?_
                        exact At.boolEnd rfl (by first | rfl | exact (decide_eq_true (by omega)).symm | exact (decide_eq_false (by omega)).symm | (apply Bool.eq_iff_iff.2; simp only [decide_eq_true_eq, beq_iff_eq, bne_iff_ne, ne_eq, wI_T, data_T, ino_T, vN_T, nmE_T, Bool.not_eq_true', wI_F, data_F, ino_F, vN_F, nmE_F, decide_eq_false_iff_not]; omega)) (by repeat (first | exact Sub.nil | refine Sub.cons rfl ?_))
                      · skip
                        try simp only [vN_T, vN_F, nmE_T, nmE_F, wI_T, wI_F, data_T, data_F, ino_T, ino_F, notT, notF, bneT, bneF, beqT, beqF, decT, decF] at h23
                        refine At.no rfl rfl rfl rfl ?_
                        refine At.no rfl rfl rfl rfl ?_
                        refine At.no rfl rfl rfl rfl ?_
                        refine At.val (Val.pickF rfl rfl) rfl rfl rfl ?_
                        refine At.nil ?_
                        exact At.boolEnd rfl (by first | rfl | exact (decide_eq_true (by omega)).symm | exact (decide_eq_false (by omega)).symm | (apply Bool.eq_iff_iff.2; simp only [decide_eq_true_eq, beq_iff_eq, bne_iff_ne, ne_eq, wI_T, data_T, ino_T, vN_T, nmE_T, Bool.not_eq_true', wI_F, data_F, ino_F, vN_F, nmE_F, decide_eq_false_iff_not]; omega)) (by repeat (first | exact Sub.nil | refine Sub.cons rfl ?_))
                    · skip
                      try simp only [vN_T, vN_F, nmE_T, nmE_F, wI_T, wI_F, data_T, data_F, ino_T, ino_F, notT, notF, bneT, bneF, beqT, beqF, decT, decF] at h22
                      refine At.no rfl rfl rfl rfl ?_
                      refine At.no rfl rfl rfl rfl ?_
                      refine At.no rfl rfl rfl rfl ?_
                      refine At.val (Val.pickF rfl rfl) rfl rfl rfl ?_
                      refine At.val (Val.move rfl) rfl rfl rfl ?_
                      refine At.no rfl rfl rfl rfl ?_
                      refine At.no rfl rfl rfl rfl ?_
                      refine At.no rfl rfl rfl rfl ?_
                      refine At.val (Val.pickF rfl rfl) rfl rfl rfl ?_
                      refine At.nil ?_
                      exact At.boolEnd rfl (by first | rfl | exact (decide_eq_true (by omega)).symm | exact (decide_eq_false (by omega)).symm | (apply Bool.eq_iff_iff.2; simp only [decide_eq_true_eq, beq_iff_eq, bne_iff_ne, ne_eq, wI_T, data_T, ino_T, vN_T, nmE_T, Bool.not_eq_true', wI_F, data_F, ino_F, vN_F, nmE_F, decide_eq_false_iff_not]; omega)) (by repeat (first | exact Sub.nil | refine Sub.cons rfl ?_))
                  · skip
                    try simp only [vN_T, vN_F, nmE_T, nmE_F, wI_T, wI_F, data_T, data_F, ino_T, ino_F, notT, notF, bneT, bneF, beqT, beqF, decT, decF] at h21
                    refine At.no rfl rfl rfl rfl ?_
                    refine At.no rfl rfl rfl rfl ?_
                    refine At.no rfl rfl rfl rfl ?_
                    refine At.val (Val.pickF rfl rfl) rfl rfl rfl ?_
                    refine At.val (Val.move rfl) rfl rfl rfl ?_
                    refine At.no rfl rfl rfl rfl ?_
                    refine At.no rfl rfl rfl rfl ?_
                    refine At.no rfl rfl rfl rfl ?_
                    refine At.val (Val.pickF rfl rfl) rfl rfl rfl ?_
                    refine At.val (Val.move rfl) rfl rfl rfl ?_
                    refine At.no rfl rfl rfl rfl ?_
                    refine At.no rfl rfl rfl rfl ?_
                    refine At.no rfl rfl rfl rfl ?_
                    refine At.val (Val.pickF rfl rfl) rfl rfl rfl ?_
                    refine At.nil ?_
                    exact At.boolEnd rfl (by first | rfl | exact (decide_eq_true (by omega)).symm | exact (decide_eq_false (by omega)).symm | (apply Bool.eq_iff_iff.2; simp only [decide_eq_true_eq, beq_iff_eq, bne_iff_ne, ne_eq, wI_T, data_T, ino_T, vN_T, nmE_T, Bool.not_eq_true', wI_F, data_F, ino_F, vN_F, nmE_F, decide_eq_false_iff_not]; omega)) (by repeat (first | exact Sub.nil | refine Sub.cons rfl ?_))
                · skip
                  simp only [List.drop_succ_cons, List.drop_zero]
                  refine At.val (Val.assign rfl) rfl rfl rfl ?_
                  refine At.nil ?_
                  refine At.thenN ?_
                  refine At.retC ?_
                  refine At.blkR ?_
                  refine At.thenR ?_
                  refine At.ret1 (.inl rfl) rfl rfl rfl (fun w hw => ?_)
                  exact ⟨retB (by first | exact (decide_eq_false (by unfold GoodE; omega)).symm | (apply Bool.eq_iff_iff.2; simp only [decide_eq_true_eq]; unfold GoodE; omega)), hw.mod⟩
              · skip
                try simp only [vN_T, vN_F, nmE_T, nmE_F, wI_T, wI_F, data_T, data_F, ino_T, ino_F, notT, notF, bneT, bneF, beqT, beqF, decT, decF] at h20
                refine At.skipC ?_
                refine At.blkN ?_
                refine At.thenN ?_
                refine At.seq ?_
                refine At.region ?_
                refine At.val (Val.assign rfl) rfl rfl rfl ?_
                refine At.nil ?_
                refine At.thenN ?_
                refine At.retC ?_
                refine At.ret1 (.inl rfl) rfl rfl rfl (fun w hw => ?_)
                exact ⟨retB (by first | exact (decide_eq_false (by unfold GoodE; omega)).symm | (apply Bool.eq_iff_iff.2; simp only [decide_eq_true_eq]; unfold GoodE; omega)), hw.mod⟩

theorem plainR_p (k q o c p z i : Int) (s : ByteArray) (w : World) :
    PureC Tryd.prog 131 [.agg #[.int .i64 k, .int .u64 q, .int .i64 o, .int .i64 c, .int .i64 p, .int .i64 z, .int .i64 i, .string s]] (.agg #[.int .i64 k, .int .u64 q, .int .i64 0, .int .i64 0, .int .i64 0, .int .i64 0, .int .i64 0, .string ⟨#[]⟩]) w := by
  refine enter0 Tryd.func131 rfl Tryd.ntmps131 rfl ?_
  simp only [envOf]
  refine At.seq ?_
  refine At.region ?_
  refine At.box rfl rfl rfl (fun b1 => ?_)
  refine At.alloc Tryd.zeroValue92 rfl rfl (fun b2 => ?_)
  refine At.nil ?_
  refine At.thenN ?_
  refine At.seq ?_
  refine At.region ?_
  refine At.val (Val.field 0 rfl fo_92_0 rfl) rfl rfl rfl ?_
  refine At.val (Val.load (i := 1) Tryd.isAgg3 rfl rfl rfl) rfl rfl rfl ?_
  refine At.val (Val.field 1 rfl fo_92_1 rfl) rfl rfl rfl ?_
  refine At.val (Val.load (i := 1) Tryd.isAgg40 rfl rfl rfl) rfl rfl rfl ?_
  refine At.val (Val.build (fun a ha => by simp only [List.map_toArray, List.map_cons, List.map_nil, ha.eval (x := (.tmp 4)) rfl, ha.eval (x := (.tmp 6)) rfl] <;> rfl) (bld_92_0_1 _ _ )) rfl rfl rfl ?_
  refine At.storeAll (i := 0) Tryd.sizeOf92 rfl rfl rfl (by simp [Value.oneCell']) rfl rfl ?_
  simp only [List.set_cons_zero, List.set_cons_succ]
  refine At.nil ?_
  refine At.thenN ?_
  refine At.retC ?_
  refine At.ret1 (.inl rfl) rfl rfl (ResOf.all (i := 0) Tryd.isAgg92 Tryd.sizeOf92 rfl rfl rfl) (fun w hw => ?_)
  exact ⟨rfl, hw.mod⟩

theorem goodEntR_p (k q o c p z i : Int) (s : ByteArray) (w : World) (hlen : s.size ≤ 9223372036854775807) (hq : 0 ≤ q) (hpp : -9223372036854775808 ≤ p ∧ p ≤ 9223372036854775807) :
    PureC Tryd.prog 111 [.agg #[.int .i64 k, .int .u64 q, .int .i64 o, .int .i64 c, .int .i64 p, .int .i64 z, .int .i64 i, .string s]] (.bool (decide (GoodE k q o c p z i s))) w := by
  refine enter0 Tryd.func111 rfl Tryd.ntmps111 rfl ?_
  have hvn := vN_01 s
  simp only [envOf]
  refine At.seq ?_
  refine At.region ?_
  refine At.box rfl rfl rfl (fun b1 => ?_)
  refine At.val (Val.assign rfl) rfl rfl rfl ?_
  refine At.nil ?_
  refine At.thenN ?_
  refine At.seq ?_
  refine At.seq ?_
  refine At.region ?_
  refine At.weaken [(0, _), (1, _), (2, _)] (Sub.cons rfl (Sub.cons rfl (Sub.cons rfl Sub.nil))) ?_
  refine At.boolMeet 8 11 (decide (q < 1 ∨ 4611686018427387904 < q)) ?_ ?_
  · skip
    simp only [List.take_succ_cons, List.take_zero]
    refine At.val (Val.field 1 rfl fo_92_1 rfl) rfl rfl rfl ?_
    refine At.val (Val.load (i := 0) Tryd.isAgg40 rfl rfl rfl) rfl rfl rfl ?_
    refine At.val (Val.bin rfl rfl rfl) rfl rfl rfl ?_
    refine At.val (Val.move rfl) rfl rfl rfl ?_
    refine At.split (t := 7) rfl (fun h2 => ?_) (fun h2 => ?_)
    · skip
      try simp only [vN_T, vN_F, nmE_T, nmE_F, wI_T, wI_F, data_T, data_F, ino_T, ino_F, notT, notF, bneT, bneF, beqT, beqF, decT, decF] at h2
      refine At.no rfl rfl rfl rfl ?_
      refine At.no rfl rfl rfl rfl ?_
      refine At.no rfl rfl rfl rfl ?_
      refine At.val (Val.pickT rfl rfl) rfl rfl rfl ?_
      refine At.nil ?_
      exact At.boolEnd rfl (by first | rfl | exact (decide_eq_true (by omega)).symm | exact (decide_eq_false (by omega)).symm | (apply Bool.eq_iff_iff.2; simp only [decide_eq_true_eq, beq_iff_eq, bne_iff_ne, ne_eq, wI_T, data_T, ino_T, vN_T, nmE_T, Bool.not_eq_true', wI_F, data_F, ino_F, vN_F, nmE_F, decide_eq_false_iff_not]; omega)) (by repeat (first | exact Sub.nil | refine Sub.cons rfl ?_))
    · skip
      try simp only [vN_T, vN_F, nmE_T, nmE_F, wI_T, wI_F, data_T, data_F, ino_T, ino_F, notT, notF, bneT, bneF, beqT, beqF, decT, decF] at h2
      refine At.yes rfl rfl ?_
      refine At.val (Val.field 1 rfl fo_92_1 rfl) rfl rfl rfl ?_
      refine At.yes rfl rfl ?_
      refine At.val (Val.load (i := 0) Tryd.isAgg40 rfl rfl rfl) rfl rfl rfl ?_
      refine At.yes rfl rfl ?_
      refine At.val (Val.bin rfl rfl rfl) rfl rfl rfl ?_
      refine At.val (Val.pickF rfl rfl) rfl rfl rfl ?_
      refine At.nil ?_
      exact At.boolEnd rfl (by first | rfl | exact (decide_eq_true (by omega)).symm | exact (decide_eq_false (by omega)).symm | (apply Bool.eq_iff_iff.2; simp only [decide_eq_true_eq, beq_iff_eq, bne_iff_ne, ne_eq, wI_T, data_T, ino_T, vN_T, nmE_T, Bool.not_eq_true', wI_F, data_F, ino_F, vN_F, nmE_F, decide_eq_false_iff_not]; omega)) (by repeat (first | exact Sub.nil | refine Sub.cons rfl ?_))
  · skip
    simp only [List.drop_succ_cons, List.drop_zero]
    refine At.nil ?_
    refine At.thenN ?_
    refine At.cond rfl (fun h3 => ?_) (fun h3 => ?_)
    · skip
      try simp only [vN_T, vN_F, nmE_T, nmE_F, wI_T, wI_F, data_T, data_F, ino_T, ino_F, notT, notF, bneT, bneF, beqT, beqF, decT, decF] at h3
      refine At.seq ?_
      refine At.region ?_
      refine At.val (Val.assign rfl) rfl rfl rfl ?_
      refine At.nil ?_
      refine At.thenN ?_
      refine At.retC ?_
      refine At.thenR ?_
      refine At.ret1 (.inl rfl) rfl rfl rfl (fun w hw => ?_)
      first | exact ⟨retB (decide_eq_false (by unfold GoodE; omega)).symm, hw.mod⟩ | exact ⟨retB (Bool.eq_iff_iff.2 (by simp only [Bool.and_eq_true, beq_iff_eq, nmE_T, nmE_T', nmE_eq, decide_eq_true_eq, and_true, true_and, beq_self_eq_true]; unfold GoodE; omega)), hw.mod⟩
    · skip
      try simp only [vN_T, vN_F, nmE_T, nmE_F, wI_T, wI_F, data_T, data_F, ino_T, ino_F, notT, notF, bneT, bneF, beqT, beqF, decT, decF] at h3
      refine At.skipC ?_
      refine At.thenN ?_
      refine At.seq ?_
      refine At.region ?_
      refine At.val (Val.loadAll (i := 0) Tryd.isAgg92 Tryd.sizeOf92 rfl rfl rfl) rfl rfl rfl ?_
      refine At.callP (fun w hw => plainR_p _ _ _ _ _ _ _ _ w) Tryd.call131 rfl rfl ?_
      refine At.alloc Tryd.zeroValue92 rfl rfl (fun b4 => ?_)
      refine At.storeAll (i := 0) Tryd.sizeOf92 rfl rfl rfl (by simp [Value.oneCell']) rfl rfl ?_
      simp only [List.set_cons_zero, List.set_cons_succ]
      refine At.nil ?_
      refine At.thenN ?_
      refine At.seq ?_
      refine At.seq ?_
      refine At.region ?_
      refine At.val (Val.field 0 rfl fo_92_0 rfl) rfl rfl rfl ?_
      refine At.val (Val.load (i := 1) Tryd.isAgg3 rfl rfl rfl) rfl rfl rfl ?_
      refine At.nil ?_
      refine At.thenN ?_
      refine At.block ?_
      refine At.seq ?_
      refine At.region ?_
      refine At.val (Val.bin rfl rfl rfl) rfl rfl rfl ?_
      refine At.val (Val.assign rfl) rfl rfl rfl ?_
      refine At.nil ?_
      refine At.thenN ?_
      refine At.cond rfl (fun h5 => ?_) (fun h5 => ?_)
      · skip
        try simp only [vN_T, vN_F, nmE_T, nmE_F, wI_T, wI_F, data_T, data_F, ino_T, ino_F, notT, notF, bneT, bneF, beqT, beqF, decT, decF] at h5
        refine At.seq ?_
        refine At.region ?_
        refine At.val (Val.field 2 rfl fo_92_2 rfl) rfl rfl rfl ?_
        refine At.val (Val.load (i := 1) Tryd.isAgg3 rfl rfl rfl) rfl rfl rfl ?_
        refine At.val (Val.field 2 rfl fo_92_2 rfl) rfl rfl rfl ?_
        refine At.store (i := 0) Tryd.sizeOf3 rfl rfl rfl rfl (by first | decide | simp) ?_
        simp only [List.set_cons_zero, List.set_cons_succ]
        refine At.nil ?_
        refine At.thenN ?_
        refine At.seq ?_
        refine At.region ?_
        refine At.val (Val.field 3 rfl fo_92_3 rfl) rfl rfl rfl ?_
        refine At.val (Val.load (i := 1) Tryd.isAgg3 rfl rfl rfl) rfl rfl rfl ?_
        refine At.val (Val.field 3 rfl fo_92_3 rfl) rfl rfl rfl ?_
        refine At.store (i := 0) Tryd.sizeOf3 rfl rfl rfl rfl (by first | decide | simp) ?_
        simp only [List.set_cons_zero, List.set_cons_succ]
        refine At.nil ?_
        refine At.thenN ?_
        refine At.seq ?_
        refine At.region ?_
        refine At.val (Val.field 4 rfl fo_92_4 rfl) rfl rfl rfl ?_
        refine At.val (Val.load (i := 1) Tryd.isAgg3 rfl rfl rfl) rfl rfl rfl ?_
        refine At.val (Val.field 4 rfl fo_92_4 rfl) rfl rfl rfl ?_
        refine At.store (i := 0) Tryd.sizeOf3 rfl rfl rfl rfl (by first | decide | simp) ?_
        simp only [List.set_cons_zero, List.set_cons_succ]
        refine At.nil ?_
        refine At.thenN ?_
        refine At.seq ?_
        refine At.region ?_
        refine At.val (Val.field 5 rfl fo_92_5 rfl) rfl rfl rfl ?_
        refine At.val (Val.load (i := 1) Tryd.isAgg3 rfl rfl rfl) rfl rfl rfl ?_
        refine At.val (Val.field 5 rfl fo_92_5 rfl) rfl rfl rfl ?_
        refine At.store (i := 0) Tryd.sizeOf3 rfl rfl rfl rfl (by first | decide | simp) ?_
        simp only [List.set_cons_zero, List.set_cons_succ]
        refine At.nil ?_
        refine At.thenN ?_
        refine At.seq ?_
        refine At.seq ?_
        refine At.region ?_
        refine At.weaken [(0, _), (1, _), (2, _), (11, _), (12, _), (13, _), (3, _), (14, _), (15, _), (17, _), (16, _), (18, _), (19, _), (20, _), (21, _), (22, _), (23, _), (24, _), (25, _), (26, _), (27, _), (28, _), (29, _)] (Sub.cons rfl (Sub.cons rfl (Sub.cons rfl (Sub.cons rfl (Sub.cons rfl (Sub.cons rfl (Sub.cons rfl (Sub.cons rfl (Sub.cons rfl (Sub.cons rfl (Sub.cons rfl (Sub.cons rfl (Sub.cons rfl (Sub.cons rfl (Sub.cons rfl (Sub.cons rfl (Sub.cons rfl (Sub.cons rfl (Sub.cons rfl (Sub.cons rfl (Sub.cons rfl (Sub.cons rfl (Sub.cons rfl Sub.nil))))))))))))))))))))))) ?_
        refine At.boolMeet 31 60 (decide (c < 1 ∨ 16 < c ∨ o < 0 ∨ 512 - c < o ∨ z < 0 ∨ 262144 < z)) ?_ ?_
        · skip
          simp only [List.take_succ_cons, List.take_zero]
          refine At.val (Val.field 3 rfl fo_92_3 rfl) rfl rfl rfl ?_
          refine At.val (Val.load (i := 1) Tryd.isAgg3 rfl rfl rfl) rfl rfl rfl ?_
          refine At.val (Val.bin rfl rfl rfl) rfl rfl rfl ?_
          refine At.val (Val.move rfl) rfl rfl rfl ?_
          refine At.split (t := 33) rfl (fun h6 => ?_) (fun h6 => ?_)
          · skip
            try simp only [vN_T, vN_F, nmE_T, nmE_F, wI_T, wI_F, data_T, data_F, ino_T, ino_F, notT, notF, bneT, bneF, beqT, beqF, decT, decF] at h6
            refine At.no rfl rfl rfl rfl ?_
            refine At.no rfl rfl rfl rfl ?_
            refine At.no rfl rfl rfl rfl ?_
            refine At.val (Val.pickT rfl rfl) rfl rfl rfl ?_
            refine At.val (Val.move rfl) rfl rfl rfl ?_
            refine At.no rfl rfl rfl rfl ?_
            refine At.no rfl rfl rfl rfl ?_
            refine At.no rfl rfl rfl rfl ?_
            refine At.val (Val.pickT rfl rfl) rfl rfl rfl ?_
            refine At.val (Val.move rfl) rfl rfl rfl ?_
            refine At.no rfl rfl rfl rfl ?_
            refine At.no rfl rfl rfl rfl ?_
            refine At.no rfl rfl rfl rfl ?_
            refine At.no rfl rfl rfl rfl ?_
            refine At.no rfl rfl rfl rfl ?_
            refine At.no rfl rfl rfl rfl ?_
            refine At.val (Val.pickT rfl rfl) rfl rfl rfl ?_
            refine At.val (Val.move rfl) rfl rfl rfl ?_
            refine At.no rfl rfl rfl rfl ?_
            refine At.no rfl rfl rfl rfl ?_
            refine At.no rfl rfl rfl rfl ?_
            refine At.val (Val.pickT rfl rfl) rfl rfl rfl ?_
            refine At.val (Val.move rfl) rfl rfl rfl ?_
            refine At.no rfl rfl rfl rfl ?_
            refine At.no rfl rfl rfl rfl ?_
            refine At.no rfl rfl rfl rfl ?_
            refine At.val (Val.pickT rfl rfl) rfl rfl rfl ?_
            refine At.nil ?_
            exact At.boolEnd rfl (by first | rfl | exact (decide_eq_true (by omega)).symm | exact (decide_eq_false (by omega)).symm | (apply Bool.eq_iff_iff.2; simp only [decide_eq_true_eq, beq_iff_eq, bne_iff_ne, ne_eq, wI_T, data_T, ino_T, vN_T, nmE_T, Bool.not_eq_true', wI_F, data_F, ino_F, vN_F, nmE_F, decide_eq_false_iff_not]; omega)) (by repeat (first | exact Sub.nil | refine Sub.cons rfl ?_))
          · skip
            try simp only [vN_T, vN_F, nmE_T, nmE_F, wI_T, wI_F, data_T, data_F, ino_T, ino_F, notT, notF, bneT, bneF, beqT, beqF, decT, decF] at h6
            refine At.yes rfl rfl ?_
            refine At.val (Val.field 3 rfl fo_92_3 rfl) rfl rfl rfl ?_
            refine At.yes rfl rfl ?_
            refine At.val (Val.load (i := 1) Tryd.isAgg3 rfl rfl rfl) rfl rfl rfl ?_
            refine At.yes rfl rfl ?_
            refine At.val (Val.bin rfl rfl rfl) rfl rfl rfl ?_
            refine At.val (Val.pickF rfl rfl) rfl rfl rfl ?_
            refine At.val (Val.move rfl) rfl rfl rfl ?_
            refine At.split (t := 38) rfl (fun h7 => ?_) (fun h7 => ?_)
            · skip
              try simp only [vN_T, vN_F, nmE_T, nmE_F, wI_T, wI_F, data_T, data_F, ino_T, ino_F, notT, notF, bneT, bneF, beqT, beqF, decT, decF] at h7
              refine At.no rfl rfl rfl rfl ?_
              refine At.no rfl rfl rfl rfl ?_
              refine At.no rfl rfl rfl rfl ?_
              refine At.val (Val.pickT rfl rfl) rfl rfl rfl ?_
              refine At.val (Val.move rfl) rfl rfl rfl ?_
              refine At.no rfl rfl rfl rfl ?_
              refine At.no rfl rfl rfl rfl ?_
              refine At.no rfl rfl rfl rfl ?_
              refine At.no rfl rfl rfl rfl ?_
              refine At.no rfl rfl rfl rfl ?_
              refine At.no rfl rfl rfl rfl ?_
              refine At.val (Val.pickT rfl rfl) rfl rfl rfl ?_
              refine At.val (Val.move rfl) rfl rfl rfl ?_
              refine At.no rfl rfl rfl rfl ?_
              refine At.no rfl rfl rfl rfl ?_
              refine At.no rfl rfl rfl rfl ?_
              refine At.val (Val.pickT rfl rfl) rfl rfl rfl ?_
              refine At.val (Val.move rfl) rfl rfl rfl ?_
              refine At.no rfl rfl rfl rfl ?_
              refine At.no rfl rfl rfl rfl ?_
              refine At.no rfl rfl rfl rfl ?_
              refine At.val (Val.pickT rfl rfl) rfl rfl rfl ?_
              refine At.nil ?_
              exact At.boolEnd rfl (by first | rfl | exact (decide_eq_true (by omega)).symm | exact (decide_eq_false (by omega)).symm | (apply Bool.eq_iff_iff.2; simp only [decide_eq_true_eq, beq_iff_eq, bne_iff_ne, ne_eq, wI_T, data_T, ino_T, vN_T, nmE_T, Bool.not_eq_true', wI_F, data_F, ino_F, vN_F, nmE_F, decide_eq_false_iff_not]; omega)) (by repeat (first | exact Sub.nil | refine Sub.cons rfl ?_))
            · skip
              try simp only [vN_T, vN_F, nmE_T, nmE_F, wI_T, wI_F, data_T, data_F, ino_T, ino_F, notT, notF, bneT, bneF, beqT, beqF, decT, decF] at h7
              refine At.yes rfl rfl ?_
              refine At.val (Val.field 2 rfl fo_92_2 rfl) rfl rfl rfl ?_
              refine At.yes rfl rfl ?_
              refine At.val (Val.load (i := 1) Tryd.isAgg3 rfl rfl rfl) rfl rfl rfl ?_
              refine At.yes rfl rfl ?_
              refine At.val (Val.bin rfl rfl rfl) rfl rfl rfl ?_
              refine At.val (Val.pickF rfl rfl) rfl rfl rfl ?_
              refine At.val (Val.move rfl) rfl rfl rfl ?_
              refine At.split (t := 43) rfl (fun h8 => ?_) (fun h8 => ?_)
              · skip
                try simp only [vN_T, vN_F, nmE_T, nmE_F, wI_T, wI_F, data_T, data_F, ino_T, ino_F, notT, notF, bneT, bneF, beqT, beqF, decT, decF] at h8
                refine At.no rfl rfl rfl rfl ?_
                refine At.no rfl rfl rfl rfl ?_
                refine At.no rfl rfl rfl rfl ?_
                refine At.no rfl rfl rfl rfl ?_
                refine At.no rfl rfl rfl rfl ?_
                refine At.no rfl rfl rfl rfl ?_
                refine At.val (Val.pickT rfl rfl) rfl rfl rfl ?_
                refine At.val (Val.move rfl) rfl rfl rfl ?_
                refine At.no rfl rfl rfl rfl ?_
                refine At.no rfl rfl rfl rfl ?_
                refine At.no rfl rfl rfl rfl ?_
                refine At.val (Val.pickT rfl rfl) rfl rfl rfl ?_
                refine At.val (Val.move rfl) rfl rfl rfl ?_
                refine At.no rfl rfl rfl rfl ?_
                refine At.no rfl rfl rfl rfl ?_
                refine At.no rfl rfl rfl rfl ?_
                refine At.val (Val.pickT rfl rfl) rfl rfl rfl ?_
                refine At.nil ?_
                exact At.boolEnd rfl (by first | rfl | exact (decide_eq_true (by omega)).symm | exact (decide_eq_false (by omega)).symm | (apply Bool.eq_iff_iff.2; simp only [decide_eq_true_eq, beq_iff_eq, bne_iff_ne, ne_eq, wI_T, data_T, ino_T, vN_T, nmE_T, Bool.not_eq_true', wI_F, data_F, ino_F, vN_F, nmE_F, decide_eq_false_iff_not]; omega)) (by repeat (first | exact Sub.nil | refine Sub.cons rfl ?_))
              · skip
                try simp only [vN_T, vN_F, nmE_T, nmE_F, wI_T, wI_F, data_T, data_F, ino_T, ino_F, notT, notF, bneT, bneF, beqT, beqF, decT, decF] at h8
                refine At.yes rfl rfl ?_
                refine At.val (Val.field 2 rfl fo_92_2 rfl) rfl rfl rfl ?_
                refine At.yes rfl rfl ?_
                refine At.val (Val.load (i := 1) Tryd.isAgg3 rfl rfl rfl) rfl rfl rfl ?_
                refine At.yes rfl rfl ?_
                refine At.val (Val.field 3 rfl fo_92_3 rfl) rfl rfl rfl ?_
                refine At.yes rfl rfl ?_
                refine At.val (Val.load (i := 1) Tryd.isAgg3 rfl rfl rfl) rfl rfl rfl ?_
                refine At.yes rfl rfl ?_
                first | refine At.val (Val.subI rfl rfl (by omega) (by omega)) rfl rfl rfl ?_ | refine At.val (Val.bin rfl rfl rfl) rfl rfl rfl ?_
                refine At.yes rfl rfl ?_
                refine At.val (Val.bin rfl rfl rfl) rfl rfl rfl ?_
                refine At.val (Val.pickF rfl rfl) rfl rfl rfl ?_
                refine At.val (Val.move rfl) rfl rfl rfl ?_
                refine At.split (t := 51) rfl (fun h9 => ?_) (fun h9 => ?_)
                · skip
                  try simp only [vN_T, vN_F, nmE_T, nmE_F, wI_T, wI_F, data_T, data_F, ino_T, ino_F, notT, notF, bneT, bneF, beqT, beqF, decT, decF] at h9
                  refine At.no rfl rfl rfl rfl ?_
                  refine At.no rfl rfl rfl rfl ?_
                  refine At.no rfl rfl rfl rfl ?_
                  refine At.val (Val.pickT rfl rfl) rfl rfl rfl ?_
                  refine At.val (Val.move rfl) rfl rfl rfl ?_
                  refine At.no rfl rfl rfl rfl ?_
                  refine At.no rfl rfl rfl rfl ?_
                  refine At.no rfl rfl rfl rfl ?_
                  refine At.val (Val.pickT rfl rfl) rfl rfl rfl ?_
                  refine At.nil ?_
                  exact At.boolEnd rfl (by first | rfl | exact (decide_eq_true (by omega)).symm | exact (decide_eq_false (by omega)).symm | (apply Bool.eq_iff_iff.2; simp only [decide_eq_true_eq, beq_iff_eq, bne_iff_ne, ne_eq, wI_T, data_T, ino_T, vN_T, nmE_T, Bool.not_eq_true', wI_F, data_F, ino_F, vN_F, nmE_F, decide_eq_false_iff_not]; omega)) (by repeat (first | exact Sub.nil | refine Sub.cons rfl ?_))
                · skip
                  try simp only [vN_T, vN_F, nmE_T, nmE_F, wI_T, wI_F, data_T, data_F, ino_T, ino_F, notT, notF, bneT, bneF, beqT, beqF, decT, decF] at h9
                  refine At.yes rfl rfl ?_
                  refine At.val (Val.field 5 rfl fo_92_5 rfl) rfl rfl rfl ?_
                  refine At.yes rfl rfl ?_
                  refine At.val (Val.load (i := 1) Tryd.isAgg3 rfl rfl rfl) rfl rfl rfl ?_
                  refine At.yes rfl rfl ?_
                  refine At.val (Val.bin rfl rfl rfl) rfl rfl rfl ?_
                  refine At.val (Val.pickF rfl rfl) rfl rfl rfl ?_
                  refine At.val (Val.move rfl) rfl rfl rfl ?_
                  refine At.split (t := 56) rfl (fun h10 => ?_) (fun h10 => ?_)
                  · skip
                    try simp only [vN_T, vN_F, nmE_T, nmE_F, wI_T, wI_F, data_T, data_F, ino_T, ino_F, notT, notF, bneT, bneF, beqT, beqF, decT, decF] at h10
                    refine At.no rfl rfl rfl rfl ?_
                    refine At.no rfl rfl rfl rfl ?_
                    refine At.no rfl rfl rfl rfl ?_
                    refine At.val (Val.pickT rfl rfl) rfl rfl rfl ?_
                    refine At.nil ?_
                    exact At.boolEnd rfl (by first | rfl | exact (decide_eq_true (by omega)).symm | exact (decide_eq_false (by omega)).symm | (apply Bool.eq_iff_iff.2; simp only [decide_eq_true_eq, beq_iff_eq, bne_iff_ne, ne_eq, wI_T, data_T, ino_T, vN_T, nmE_T, Bool.not_eq_true', wI_F, data_F, ino_F, vN_F, nmE_F, decide_eq_false_iff_not]; omega)) (by repeat (first | exact Sub.nil | refine Sub.cons rfl ?_))
                  · skip
                    try simp only [vN_T, vN_F, nmE_T, nmE_F, wI_T, wI_F, data_T, data_F, ino_T, ino_F, notT, notF, bneT, bneF, beqT, beqF, decT, decF] at h10
                    refine At.yes rfl rfl ?_
                    refine At.val (Val.field 5 rfl fo_92_5 rfl) rfl rfl rfl ?_
                    refine At.yes rfl rfl ?_
                    refine At.val (Val.load (i := 1) Tryd.isAgg3 rfl rfl rfl) rfl rfl rfl ?_
                    refine At.yes rfl rfl ?_
                    refine At.val (Val.bin rfl rfl rfl) rfl rfl rfl ?_
                    refine At.val (Val.pickF rfl rfl) rfl rfl rfl ?_
                    refine At.nil ?_
                    exact At.boolEnd rfl (by first | rfl | exact (decide_eq_true (by omega)).symm | exact (decide_eq_false (by omega)).symm | (apply Bool.eq_iff_iff.2; simp only [decide_eq_true_eq, beq_iff_eq, bne_iff_ne, ne_eq, wI_T, data_T, ino_T, vN_T, nmE_T, Bool.not_eq_true', wI_F, data_F, ino_F, vN_F, nmE_F, decide_eq_false_iff_not]; omega)) (by repeat (first | exact Sub.nil | refine Sub.cons rfl ?_))
        · skip
          simp only [List.drop_succ_cons, List.drop_zero]
          refine At.nil ?_
          refine At.thenN ?_
          refine At.cond rfl (fun h11 => ?_) (fun h11 => ?_)
          · skip
            try simp only [vN_T, vN_F, nmE_T, nmE_F, wI_T, wI_F, data_T, data_F, ino_T, ino_F, notT, notF, bneT, bneF, beqT, beqF, decT, decF] at h11
            refine At.seq ?_
            refine At.region ?_
            refine At.val (Val.assign rfl) rfl rfl rfl ?_
            refine At.nil ?_
            refine At.thenN ?_
            refine At.retC ?_
            refine At.thenR ?_
            refine At.blkR ?_
            refine At.thenR ?_
            refine At.ret1 (.inl rfl) rfl rfl rfl (fun w hw => ?_)
            first | exact ⟨retB (decide_eq_false (by unfold GoodE; omega)).symm, hw.mod⟩ | exact ⟨retB (Bool.eq_iff_iff.2 (by simp only [Bool.and_eq_true, beq_iff_eq, nmE_T, nmE_T', nmE_eq, decide_eq_true_eq, and_true, true_and, beq_self_eq_true]; unfold GoodE; omega)), hw.mod⟩
          · skip
            try simp only [vN_T, vN_F, nmE_T, nmE_F, wI_T, wI_F, data_T, data_F, ino_T, ino_F, notT, notF, bneT, bneF, beqT, beqF, decT, decF] at h11
            refine At.skipC ?_
            refine At.thenN ?_
            refine At.seq ?_
            refine At.region ?_
            refine At.weaken [(0, _), (1, _), (2, _), (11, _), (12, _), (13, _), (3, _), (14, _), (15, _), (17, _), (16, _), (18, _), (19, _), (20, _), (21, _), (22, _), (23, _), (24, _), (25, _), (26, _), (27, _), (28, _), (29, _), (60, _)] (Sub.cons rfl (Sub.cons rfl (Sub.cons rfl (Sub.cons rfl (Sub.cons rfl (Sub.cons rfl (Sub.cons rfl (Sub.cons rfl (Sub.cons rfl (Sub.cons rfl (Sub.cons rfl (Sub.cons rfl (Sub.cons rfl (Sub.cons rfl (Sub.cons rfl (Sub.cons rfl (Sub.cons rfl (Sub.cons rfl (Sub.cons rfl (Sub.cons rfl (Sub.cons rfl (Sub.cons rfl (Sub.cons rfl (Sub.cons rfl Sub.nil)))))))))))))))))))))))) ?_
            refine At.boolMeet 14 74 (decide (¬ (5 ≤ p ∧ p ≤ 1023) ∨ ¬ (5 ≤ p + c - 1 ∧ p + c - 1 ≤ 1023))) ?_ ?_
            · skip
              simp only [List.take_succ_cons, List.take_zero]
              refine At.val (Val.field 4 rfl fo_92_4 rfl) rfl rfl rfl ?_
              refine At.val (Val.load (i := 1) Tryd.isAgg3 rfl rfl rfl) rfl rfl rfl ?_
              refine At.callP (fun w hw => dataR_p _ w) Tryd.call92 rfl rfl ?_
              refine At.val (Val.not rfl) rfl rfl rfl ?_
              refine At.val (Val.move rfl) rfl rfl rfl ?_
              refine At.split (t := 65) rfl (fun h12 => ?_) (fun h12 => ?_)
              · skip
                try simp only [vN_T, vN_F, nmE_T, nmE_F, wI_T, wI_F, data_T, data_F, ino_T, ino_F, notT, notF, bneT, bneF, beqT, beqF, decT, decF] at h12
                refine At.no rfl rfl rfl rfl ?_
                refine At.no rfl rfl rfl rfl ?_
                refine At.no rfl rfl rfl rfl ?_
                refine At.no rfl rfl rfl rfl ?_
                refine At.no rfl rfl rfl rfl ?_
                refine At.no rfl rfl rfl rfl ?_
                refine At.no rfl rfl rfl rfl ?_
                refine At.no rfl rfl rfl rfl ?_
                refine At.val (Val.pickT rfl rfl) rfl rfl rfl ?_
                refine At.nil ?_
                exact At.boolEnd rfl (by first | rfl | exact (decide_eq_true (by omega)).symm | exact (decide_eq_false (by omega)).symm | (apply Bool.eq_iff_iff.2; simp only [decide_eq_true_eq, beq_iff_eq, bne_iff_ne, ne_eq, wI_T, data_T, ino_T, vN_T, nmE_T, Bool.not_eq_true', wI_F, data_F, ino_F, vN_F, nmE_F, decide_eq_false_iff_not]; omega)) (by repeat (first | exact Sub.nil | refine Sub.cons rfl ?_))
              · skip
                try simp only [vN_T, vN_F, nmE_T, nmE_F, wI_T, wI_F, data_T, data_F, ino_T, ino_F, notT, notF, bneT, bneF, beqT, beqF, decT, decF] at h12
                refine At.yes rfl rfl ?_
                refine At.val (Val.field 4 rfl fo_92_4 rfl) rfl rfl rfl ?_
                refine At.yes rfl rfl ?_
                refine At.val (Val.load (i := 1) Tryd.isAgg3 rfl rfl rfl) rfl rfl rfl ?_
                refine At.yes rfl rfl ?_
                refine At.val (Val.field 3 rfl fo_92_3 rfl) rfl rfl rfl ?_
                refine At.yes rfl rfl ?_
                refine At.val (Val.load (i := 1) Tryd.isAgg3 rfl rfl rfl) rfl rfl rfl ?_
                refine At.yes rfl rfl ?_
                first | refine At.val (Val.addI rfl rfl (by omega) (by omega)) rfl rfl rfl ?_ | refine At.val (Val.bin rfl rfl rfl) rfl rfl rfl ?_
                refine At.yes rfl rfl ?_
                first | refine At.val (Val.subI rfl rfl (by omega) (by omega)) rfl rfl rfl ?_ | refine At.val (Val.bin rfl rfl rfl) rfl rfl rfl ?_
                refine At.yes rfl rfl ?_
                refine At.callP (fun w hw => dataR_p _ w) Tryd.call92 rfl rfl ?_
                refine At.yes rfl rfl ?_
                refine At.val (Val.not rfl) rfl rfl rfl ?_
                refine At.val (Val.pickF rfl rfl) rfl rfl rfl ?_
                refine At.nil ?_
                exact At.boolEnd rfl (by first | rfl | exact (decide_eq_true (by omega)).symm | exact (decide_eq_false (by omega)).symm | (apply Bool.eq_iff_iff.2; simp only [decide_eq_true_eq, beq_iff_eq, bne_iff_ne, ne_eq, wI_T, data_T, ino_T, vN_T, nmE_T, Bool.not_eq_true', wI_F, data_F, ino_F, vN_F, nmE_F, decide_eq_false_iff_not]; omega)) (by repeat (first | exact Sub.nil | refine Sub.cons rfl ?_))
            · skip
              simp only [List.drop_succ_cons, List.drop_zero]
              refine At.nil ?_
              refine At.thenN ?_
              refine At.cond rfl (fun h13 => ?_) (fun h13 => ?_)
              · skip
                try simp only [vN_T, vN_F, nmE_T, nmE_F, wI_T, wI_F, data_T, data_F, ino_T, ino_F, notT, notF, bneT, bneF, beqT, beqF, decT, decF] at h13
                refine At.seq ?_
                refine At.region ?_
                refine At.val (Val.assign rfl) rfl rfl rfl ?_
                refine At.nil ?_
                refine At.thenN ?_
                refine At.retC ?_
                refine At.blkR ?_
                refine At.thenR ?_
                refine At.ret1 (.inl rfl) rfl rfl rfl (fun w hw => ?_)
                first | exact ⟨retB (decide_eq_false (by unfold GoodE; omega)).symm, hw.mod⟩ | exact ⟨retB (Bool.eq_iff_iff.2 (by simp only [Bool.and_eq_true, beq_iff_eq, nmE_T, nmE_T', nmE_eq, decide_eq_true_eq, and_true, true_and, beq_self_eq_true]; unfold GoodE; omega)), hw.mod⟩
              · skip
                try simp only [vN_T, vN_F, nmE_T, nmE_F, wI_T, wI_F, data_T, data_F, ino_T, ino_F, notT, notF, bneT, bneF, beqT, beqF, decT, decF] at h13
                refine At.skipC ?_
                refine At.blkN ?_
                refine At.thenN ?_
                refine At.seq ?_
                refine At.region ?_
                refine At.val (Val.loadAll (i := 0) Tryd.isAgg92 Tryd.sizeOf92 rfl rfl rfl) rfl rfl rfl ?_
                refine At.val (Val.loadAll (i := 1) Tryd.isAgg92 Tryd.sizeOf92 rfl rfl rfl) rfl rfl rfl ?_
                refine At.val (Val.eqAgg Tryd.eqGuardType92 (fun w => eq_92 _ _ _ _ _ _ _ _ _ _ _ _ _ _ _ _ w) rfl rfl) rfl rfl rfl ?_
                refine At.val (Val.assign rfl) rfl rfl rfl ?_
                refine At.nil ?_
                refine At.thenN ?_
                refine At.retC ?_
                refine At.ret1 (.inl rfl) rfl rfl rfl (fun w hw => ?_)
                first | exact ⟨retB (decide_eq_false (by unfold GoodE; omega)).symm, hw.mod⟩ | exact ⟨retB (Bool.eq_iff_iff.2 (by simp only [Bool.and_eq_true, beq_iff_eq, nmE_T, nmE_T', nmE_eq, decide_eq_true_eq, and_true, true_and, beq_self_eq_true]; unfold GoodE; omega)), hw.mod⟩
      · skip
        try simp only [vN_T, vN_F, nmE_T, nmE_F, wI_T, wI_F, data_T, data_F, ino_T, ino_F, notT, notF, bneT, bneF, beqT, beqF, decT, decF] at h5
        refine At.seq ?_
        refine At.region ?_
        refine At.val (Val.bin rfl rfl rfl) rfl rfl rfl ?_
        refine At.val (Val.assign rfl) rfl rfl rfl ?_
        refine At.nil ?_
        refine At.thenN ?_
        refine At.cond rfl (fun h14 => ?_) (fun h14 => ?_)
        · skip
          try simp only [vN_T, vN_F, nmE_T, nmE_F, wI_T, wI_F, data_T, data_F, ino_T, ino_F, notT, notF, bneT, bneF, beqT, beqF, decT, decF] at h14
          refine At.seq ?_
          refine At.region ?_
          refine At.val (Val.field 5 rfl fo_92_5 rfl) rfl rfl rfl ?_
          refine At.val (Val.load (i := 1) Tryd.isAgg3 rfl rfl rfl) rfl rfl rfl ?_
          refine At.val (Val.field 5 rfl fo_92_5 rfl) rfl rfl rfl ?_
          refine At.store (i := 0) Tryd.sizeOf3 rfl rfl rfl rfl (by first | decide | simp) ?_
          simp only [List.set_cons_zero, List.set_cons_succ]
          refine At.nil ?_
          refine At.thenN ?_
          refine At.seq ?_
          refine At.region ?_
          refine At.weaken [(0, _), (1, _), (2, _), (11, _), (12, _), (13, _), (3, _), (14, _), (15, _), (17, _), (16, _), (76, _), (75, _), (77, _), (78, _), (79, _)] (Sub.cons rfl (Sub.cons rfl (Sub.cons rfl (Sub.cons rfl (Sub.cons rfl (Sub.cons rfl (Sub.cons rfl (Sub.cons rfl (Sub.cons rfl (Sub.cons rfl (Sub.cons rfl (Sub.cons rfl (Sub.cons rfl (Sub.cons rfl (Sub.cons rfl (Sub.cons rfl Sub.nil)))))))))))))))) ?_
          refine At.boolMeet 8 87 (decide (z < 0 ∨ 262144 < z)) ?_ ?_
          · skip
            simp only [List.take_succ_cons, List.take_zero]
            refine At.val (Val.field 5 rfl fo_92_5 rfl) rfl rfl rfl ?_
            refine At.val (Val.load (i := 1) Tryd.isAgg3 rfl rfl rfl) rfl rfl rfl ?_
            refine At.val (Val.bin rfl rfl rfl) rfl rfl rfl ?_
            refine At.val (Val.move rfl) rfl rfl rfl ?_
            refine At.split (t := 83) rfl (fun h15 => ?_) (fun h15 => ?_)
            · skip
              try simp only [vN_T, vN_F, nmE_T, nmE_F, wI_T, wI_F, data_T, data_F, ino_T, ino_F, notT, notF, bneT, bneF, beqT, beqF, decT, decF] at h15
              refine At.no rfl rfl rfl rfl ?_
              refine At.no rfl rfl rfl rfl ?_
              refine At.no rfl rfl rfl rfl ?_
              refine At.val (Val.pickT rfl rfl) rfl rfl rfl ?_
              refine At.nil ?_
              exact At.boolEnd rfl (by first | rfl | exact (decide_eq_true (by omega)).symm | exact (decide_eq_false (by omega)).symm | (apply Bool.eq_iff_iff.2; simp only [decide_eq_true_eq, beq_iff_eq, bne_iff_ne, ne_eq, wI_T, data_T, ino_T, vN_T, nmE_T, Bool.not_eq_true', wI_F, data_F, ino_F, vN_F, nmE_F, decide_eq_false_iff_not]; omega)) (by repeat (first | exact Sub.nil | refine Sub.cons rfl ?_))
            · skip
              try simp only [vN_T, vN_F, nmE_T, nmE_F, wI_T, wI_F, data_T, data_F, ino_T, ino_F, notT, notF, bneT, bneF, beqT, beqF, decT, decF] at h15
              refine At.yes rfl rfl ?_
              refine At.val (Val.field 5 rfl fo_92_5 rfl) rfl rfl rfl ?_
              refine At.yes rfl rfl ?_
              refine At.val (Val.load (i := 1) Tryd.isAgg3 rfl rfl rfl) rfl rfl rfl ?_
              refine At.yes rfl rfl ?_
              refine At.val (Val.bin rfl rfl rfl) rfl rfl rfl ?_
              refine At.val (Val.pickF rfl rfl) rfl rfl rfl ?_
              refine At.nil ?_
              exact At.boolEnd rfl (by first | rfl | exact (decide_eq_true (by omega)).symm | exact (decide_eq_false (by omega)).symm | (apply Bool.eq_iff_iff.2; simp only [decide_eq_true_eq, beq_iff_eq, bne_iff_ne, ne_eq, wI_T, data_T, ino_T, vN_T, nmE_T, Bool.not_eq_true', wI_F, data_F, ino_F, vN_F, nmE_F, decide_eq_false_iff_not]; omega)) (by repeat (first | exact Sub.nil | refine Sub.cons rfl ?_))
          · skip
            simp only [List.drop_succ_cons, List.drop_zero]
            refine At.nil ?_
            refine At.thenN ?_
            refine At.cond rfl (fun h16 => ?_) (fun h16 => ?_)
            · skip
              try simp only [vN_T, vN_F, nmE_T, nmE_F, wI_T, wI_F, data_T, data_F, ino_T, ino_F, notT, notF, bneT, bneF, beqT, beqF, decT, decF] at h16
              refine At.seq ?_
              refine At.region ?_
              refine At.val (Val.assign rfl) rfl rfl rfl ?_
              refine At.nil ?_
              refine At.thenN ?_
              refine At.retC ?_
              refine At.blkR ?_
              refine At.thenR ?_
              refine At.ret1 (.inl rfl) rfl rfl rfl (fun w hw => ?_)
              first | exact ⟨retB (decide_eq_false (by unfold GoodE; omega)).symm, hw.mod⟩ | exact ⟨retB (Bool.eq_iff_iff.2 (by simp only [Bool.and_eq_true, beq_iff_eq, nmE_T, nmE_T', nmE_eq, decide_eq_true_eq, and_true, true_and, beq_self_eq_true]; unfold GoodE; omega)), hw.mod⟩
            · skip
              try simp only [vN_T, vN_F, nmE_T, nmE_F, wI_T, wI_F, data_T, data_F, ino_T, ino_F, notT, notF, bneT, bneF, beqT, beqF, decT, decF] at h16
              refine At.skipC ?_
              refine At.blkN ?_
              refine At.thenN ?_
              refine At.seq ?_
              refine At.region ?_
              refine At.val (Val.loadAll (i := 0) Tryd.isAgg92 Tryd.sizeOf92 rfl rfl rfl) rfl rfl rfl ?_
              refine At.val (Val.loadAll (i := 1) Tryd.isAgg92 Tryd.sizeOf92 rfl rfl rfl) rfl rfl rfl ?_
              refine At.val (Val.eqAgg Tryd.eqGuardType92 (fun w => eq_92 _ _ _ _ _ _ _ _ _ _ _ _ _ _ _ _ w) rfl rfl) rfl rfl rfl ?_
              refine At.val (Val.assign rfl) rfl rfl rfl ?_
              refine At.nil ?_
              refine At.thenN ?_
              refine At.retC ?_
              refine At.ret1 (.inl rfl) rfl rfl rfl (fun w hw => ?_)
              first | exact ⟨retB (decide_eq_false (by unfold GoodE; omega)).symm, hw.mod⟩ | exact ⟨retB (Bool.eq_iff_iff.2 (by simp only [Bool.and_eq_true, beq_iff_eq, nmE_T, nmE_T', nmE_eq, decide_eq_true_eq, and_true, true_and, beq_self_eq_true]; unfold GoodE; omega)), hw.mod⟩
        · skip
          try simp only [vN_T, vN_F, nmE_T, nmE_F, wI_T, wI_F, data_T, data_F, ino_T, ino_F, notT, notF, bneT, bneF, beqT, beqF, decT, decF] at h14
          refine At.seq ?_
          refine At.region ?_
          refine At.val (Val.bin rfl rfl rfl) rfl rfl rfl ?_
          refine At.val (Val.assign rfl) rfl rfl rfl ?_
          refine At.nil ?_
          refine At.thenN ?_
          refine At.cond rfl (fun h17 => ?_) (fun h17 => ?_)
          · skip
            try simp only [vN_T, vN_F, nmE_T, nmE_F, wI_T, wI_F, data_T, data_F, ino_T, ino_F, notT, notF, bneT, bneF, beqT, beqF, decT, decF] at h17
            refine At.seq ?_
            refine At.region ?_
            refine At.val (Val.field 6 rfl fo_92_6 rfl) rfl rfl rfl ?_
            refine At.val (Val.load (i := 1) Tryd.isAgg3 rfl rfl rfl) rfl rfl rfl ?_
            refine At.val (Val.field 6 rfl fo_92_6 rfl) rfl rfl rfl ?_
            refine At.store (i := 0) Tryd.sizeOf3 rfl rfl rfl rfl (by first | decide | simp) ?_
            simp only [List.set_cons_zero, List.set_cons_succ]
            refine At.nil ?_
            refine At.thenN ?_
            refine At.seq ?_
            refine At.region ?_
            refine At.val (Val.field 7 rfl fo_92_7 rfl) rfl rfl rfl ?_
            refine At.val (Val.load (i := 1) Tryd.isAgg9 rfl rfl rfl) rfl rfl rfl ?_
            refine At.val (Val.field 7 rfl fo_92_7 rfl) rfl rfl rfl ?_
            refine At.store (i := 0) Tryd.sizeOf9 rfl rfl rfl rfl (by first | decide | simp) ?_
            simp only [List.set_cons_zero, List.set_cons_succ]
            refine At.nil ?_
            refine At.thenN ?_
            refine At.seq ?_
            refine At.region ?_
            refine At.weaken [(0, _), (1, _), (2, _), (11, _), (12, _), (13, _), (3, _), (14, _), (15, _), (17, _), (16, _), (76, _), (75, _), (89, _), (88, _), (90, _), (91, _), (92, _), (93, _), (94, _), (95, _)] (Sub.cons rfl (Sub.cons rfl (Sub.cons rfl (Sub.cons rfl (Sub.cons rfl (Sub.cons rfl (Sub.cons rfl (Sub.cons rfl (Sub.cons rfl (Sub.cons rfl (Sub.cons rfl (Sub.cons rfl (Sub.cons rfl (Sub.cons rfl (Sub.cons rfl (Sub.cons rfl (Sub.cons rfl (Sub.cons rfl (Sub.cons rfl (Sub.cons rfl (Sub.cons rfl Sub.nil))))))))))))))))))))) ?_
            refine At.boolMeet 14 109 (decide (i < 2 ∨ 256 < i ∨ vN s = 0)) ?_ ?_
            · skip
              simp only [List.take_succ_cons, List.take_zero]
              refine At.val (Val.field 6 rfl fo_92_6 rfl) rfl rfl rfl ?_
              refine At.val (Val.load (i := 1) Tryd.isAgg3 rfl rfl rfl) rfl rfl rfl ?_
              refine At.val (Val.bin rfl rfl rfl) rfl rfl rfl ?_
              refine At.val (Val.move rfl) rfl rfl rfl ?_
              refine At.split (t := 99) rfl (fun h18 => ?_) (fun h18 => ?_)
              · skip
                try simp only [vN_T, vN_F, nmE_T, nmE_F, wI_T, wI_F, data_T, data_F, ino_T, ino_F, notT, notF, bneT, bneF, beqT, beqF, decT, decF] at h18
                refine At.no rfl rfl rfl rfl ?_
                refine At.no rfl rfl rfl rfl ?_
                refine At.no rfl rfl rfl rfl ?_
                refine At.val (Val.pickT rfl rfl) rfl rfl rfl ?_
                refine At.val (Val.move rfl) rfl rfl rfl ?_
                refine At.no rfl rfl rfl rfl ?_
                refine At.no rfl rfl rfl rfl ?_
                refine At.no rfl rfl rfl rfl ?_
                refine At.no rfl rfl rfl rfl ?_
                refine At.val (Val.pickT rfl rfl) rfl rfl rfl ?_
                refine At.nil ?_
                exact At.boolEnd rfl (by first | rfl | exact (decide_eq_true (by omega)).symm | exact (decide_eq_false (by omega)).symm | (apply Bool.eq_iff_iff.2; simp only [decide_eq_true_eq, beq_iff_eq, bne_iff_ne, ne_eq, wI_T, data_T, ino_T, vN_T, nmE_T, Bool.not_eq_true', wI_F, data_F, ino_F, vN_F, nmE_F, decide_eq_false_iff_not]; omega)) (by repeat (first | exact Sub.nil | refine Sub.cons rfl ?_))
              · skip
                try simp only [vN_T, vN_F, nmE_T, nmE_F, wI_T, wI_F, data_T, data_F, ino_T, ino_F, notT, notF, bneT, bneF, beqT, beqF, decT, decF] at h18
                refine At.yes rfl rfl ?_
                refine At.val (Val.field 6 rfl fo_92_6 rfl) rfl rfl rfl ?_
                refine At.yes rfl rfl ?_
                refine At.val (Val.load (i := 1) Tryd.isAgg3 rfl rfl rfl) rfl rfl rfl ?_
                refine At.yes rfl rfl ?_
                refine At.val (Val.bin rfl rfl rfl) rfl rfl rfl ?_
                refine At.val (Val.pickF rfl rfl) rfl rfl rfl ?_
                refine At.val (Val.move rfl) rfl rfl rfl ?_
                refine At.split (t := 104) rfl (fun h19 => ?_) (fun h19 => ?_)
                · skip
                  try simp only [vN_T, vN_F, nmE_T, nmE_F, wI_T, wI_F, data_T, data_F, ino_T, ino_F, notT, notF, bneT, bneF, beqT, beqF, decT, decF] at h19
                  refine At.no rfl rfl rfl rfl ?_
                  refine At.no rfl rfl rfl rfl ?_
                  refine At.no rfl rfl rfl rfl ?_
                  refine At.no rfl rfl rfl rfl ?_
                  refine At.val (Val.pickT rfl rfl) rfl rfl rfl ?_
                  refine At.nil ?_
                  exact At.boolEnd rfl (by first | rfl | exact (decide_eq_true (by omega)).symm | exact (decide_eq_false (by omega)).symm | (apply Bool.eq_iff_iff.2; simp only [decide_eq_true_eq, beq_iff_eq, bne_iff_ne, ne_eq, wI_T, data_T, ino_T, vN_T, nmE_T, Bool.not_eq_true', wI_F, data_F, ino_F, vN_F, nmE_F, decide_eq_false_iff_not]; omega)) (by repeat (first | exact Sub.nil | refine Sub.cons rfl ?_))
                · skip
                  try simp only [vN_T, vN_F, nmE_T, nmE_F, wI_T, wI_F, data_T, data_F, ino_T, ino_F, notT, notF, bneT, bneF, beqT, beqF, decT, decF] at h19
                  refine At.yes rfl rfl ?_
                  refine At.val (Val.field 7 rfl fo_92_7 rfl) rfl rfl rfl ?_
                  refine At.yes rfl rfl ?_
                  refine At.val (Val.load (i := 1) Tryd.isAgg9 rfl rfl rfl) rfl rfl rfl ?_
                  refine At.yes rfl rfl ?_
                  refine At.callP (fun w hw => validR_p _ w hlen) Tryd.call132 rfl rfl ?_
                  refine At.yes rfl rfl ?_
                  refine At.val (Val.not rfl) rfl rfl rfl ?_
                  refine At.val (Val.pickF rfl rfl) rfl rfl rfl ?_
                  refine At.nil ?_
                  exact At.boolEnd rfl (by first | rfl | exact (decide_eq_true (by omega)).symm | exact (decide_eq_false (by omega)).symm | (apply Bool.eq_iff_iff.2; simp only [decide_eq_true_eq, beq_iff_eq, bne_iff_ne, ne_eq, wI_T, data_T, ino_T, vN_T, nmE_T, Bool.not_eq_true', wI_F, data_F, ino_F, vN_F, nmE_F, decide_eq_false_iff_not]; omega)) (by repeat (first | exact Sub.nil | refine Sub.cons rfl ?_))
            · skip
              simp only [List.drop_succ_cons, List.drop_zero]
              refine At.nil ?_
              refine At.thenN ?_
              refine At.cond rfl (fun h20 => ?_) (fun h20 => ?_)
              · skip
                try simp only [vN_T, vN_F, nmE_T, nmE_F, wI_T, wI_F, data_T, data_F, ino_T, ino_F, notT, notF, bneT, bneF, beqT, beqF, decT, decF] at h20
                refine At.seq ?_
                refine At.region ?_
                refine At.val (Val.assign rfl) rfl rfl rfl ?_
                refine At.nil ?_
                refine At.thenN ?_
                refine At.retC ?_
                refine At.blkR ?_
                refine At.thenR ?_
                refine At.ret1 (.inl rfl) rfl rfl rfl (fun w hw => ?_)
                first | exact ⟨retB (decide_eq_false (by unfold GoodE; omega)).symm, hw.mod⟩ | exact ⟨retB (Bool.eq_iff_iff.2 (by simp only [Bool.and_eq_true, beq_iff_eq, nmE_T, nmE_T', nmE_eq, decide_eq_true_eq, and_true, true_and, beq_self_eq_true]; unfold GoodE; omega)), hw.mod⟩
              · skip
                try simp only [vN_T, vN_F, nmE_T, nmE_F, wI_T, wI_F, data_T, data_F, ino_T, ino_F, notT, notF, bneT, bneF, beqT, beqF, decT, decF] at h20
                refine At.skipC ?_
                refine At.blkN ?_
                refine At.thenN ?_
                refine At.seq ?_
                refine At.region ?_
                refine At.val (Val.loadAll (i := 0) Tryd.isAgg92 Tryd.sizeOf92 rfl rfl rfl) rfl rfl rfl ?_
                refine At.val (Val.loadAll (i := 1) Tryd.isAgg92 Tryd.sizeOf92 rfl rfl rfl) rfl rfl rfl ?_
                refine At.val (Val.eqAgg Tryd.eqGuardType92 (fun w => eq_92 _ _ _ _ _ _ _ _ _ _ _ _ _ _ _ _ w) rfl rfl) rfl rfl rfl ?_
                refine At.val (Val.assign rfl) rfl rfl rfl ?_
                refine At.nil ?_
                refine At.thenN ?_
                refine At.retC ?_
                refine At.ret1 (.inl rfl) rfl rfl rfl (fun w hw => ?_)
                first | exact ⟨retB (decide_eq_false (by unfold GoodE; omega)).symm, hw.mod⟩ | exact ⟨retB (Bool.eq_iff_iff.2 (by simp only [Bool.and_eq_true, beq_iff_eq, nmE_T, nmE_T', nmE_eq, decide_eq_true_eq, and_true, true_and, beq_self_eq_true]; unfold GoodE; omega)), hw.mod⟩
          · skip
            try simp only [vN_T, vN_F, nmE_T, nmE_F, wI_T, wI_F, data_T, data_F, ino_T, ino_F, notT, notF, bneT, bneF, beqT, beqF, decT, decF] at h17
            refine At.seq ?_
            refine At.region ?_
            refine At.val (Val.bin rfl rfl rfl) rfl rfl rfl ?_
            refine At.val (Val.assign rfl) rfl rfl rfl ?_
            refine At.nil ?_
            refine At.thenN ?_
            refine At.cond rfl (fun h21 => ?_) (fun h21 => ?_)
            · skip
              try simp only [vN_T, vN_F, nmE_T, nmE_F, wI_T, wI_F, data_T, data_F, ino_T, ino_F, notT, notF, bneT, bneF, beqT, beqF, decT, decF] at h21
              refine At.seq ?_
              refine At.region ?_
              refine At.val (Val.field 7 rfl fo_92_7 rfl) rfl rfl rfl ?_
              refine At.val (Val.load (i := 1) Tryd.isAgg9 rfl rfl rfl) rfl rfl rfl ?_
              refine At.val (Val.field 7 rfl fo_92_7 rfl) rfl rfl rfl ?_
              refine At.store (i := 0) Tryd.sizeOf9 rfl rfl rfl rfl (by first | decide | simp) ?_
              simp only [List.set_cons_zero, List.set_cons_succ]
              refine At.nil ?_
              refine At.thenN ?_
              refine At.seq ?_
              refine At.region ?_
              refine At.val (Val.field 7 rfl fo_92_7 rfl) rfl rfl rfl ?_
              refine At.val (Val.load (i := 1) Tryd.isAgg9 rfl rfl rfl) rfl rfl rfl ?_
              refine At.callP (fun w hw => validR_p _ w hlen) Tryd.call132 rfl rfl ?_
              refine At.val (Val.not rfl) rfl rfl rfl ?_
              refine At.nil ?_
              refine At.thenN ?_
              refine At.cond rfl (fun h22 => ?_) (fun h22 => ?_)
              · skip
                try simp only [vN_T, vN_F, nmE_T, nmE_F, wI_T, wI_F, data_T, data_F, ino_T, ino_F, notT, notF, bneT, bneF, beqT, beqF, decT, decF] at h22
                refine At.seq ?_
                refine At.region ?_
                refine At.val (Val.assign rfl) rfl rfl rfl ?_
                refine At.nil ?_
                refine At.thenN ?_
                refine At.retC ?_
                refine At.blkR ?_
                refine At.thenR ?_
                refine At.ret1 (.inl rfl) rfl rfl rfl (fun w hw => ?_)
                first | exact ⟨retB (decide_eq_false (by unfold GoodE; omega)).symm, hw.mod⟩ | exact ⟨retB (Bool.eq_iff_iff.2 (by simp only [Bool.and_eq_true, beq_iff_eq, nmE_T, nmE_T', nmE_eq, decide_eq_true_eq, and_true, true_and, beq_self_eq_true]; unfold GoodE; omega)), hw.mod⟩
              · skip
                try simp only [vN_T, vN_F, nmE_T, nmE_F, wI_T, wI_F, data_T, data_F, ino_T, ino_F, notT, notF, bneT, bneF, beqT, beqF, decT, decF] at h22
                refine At.skipC ?_
                refine At.blkN ?_
                refine At.thenN ?_
                refine At.seq ?_
                refine At.region ?_
                refine At.val (Val.loadAll (i := 0) Tryd.isAgg92 Tryd.sizeOf92 rfl rfl rfl) rfl rfl rfl ?_
                refine At.val (Val.loadAll (i := 1) Tryd.isAgg92 Tryd.sizeOf92 rfl rfl rfl) rfl rfl rfl ?_
                refine At.val (Val.eqAgg Tryd.eqGuardType92 (fun w => eq_92 _ _ _ _ _ _ _ _ _ _ _ _ _ _ _ _ w) rfl rfl) rfl rfl rfl ?_
                refine At.val (Val.assign rfl) rfl rfl rfl ?_
                refine At.nil ?_
                refine At.thenN ?_
                refine At.retC ?_
                refine At.ret1 (.inl rfl) rfl rfl rfl (fun w hw => ?_)
                first | exact ⟨retB (decide_eq_false (by unfold GoodE; omega)).symm, hw.mod⟩ | exact ⟨retB (Bool.eq_iff_iff.2 (by simp only [Bool.and_eq_true, beq_iff_eq, nmE_T, nmE_T', nmE_eq, decide_eq_true_eq, and_true, true_and, beq_self_eq_true]; unfold GoodE; omega)), hw.mod⟩
            · skip
              try simp only [vN_T, vN_F, nmE_T, nmE_F, wI_T, wI_F, data_T, data_F, ino_T, ino_F, notT, notF, bneT, bneF, beqT, beqF, decT, decF] at h21
              refine At.seq ?_
              refine At.region ?_
              refine At.val (Val.assign rfl) rfl rfl rfl ?_
              refine At.nil ?_
              refine At.thenN ?_
              refine At.retC ?_
              refine At.blkR ?_
              refine At.thenR ?_
              refine At.ret1 (.inl rfl) rfl rfl rfl (fun w hw => ?_)
              first | exact ⟨retB (decide_eq_false (by unfold GoodE; omega)).symm, hw.mod⟩ | exact ⟨retB (Bool.eq_iff_iff.2 (by simp only [Bool.and_eq_true, beq_iff_eq, nmE_T, nmE_T', nmE_eq, decide_eq_true_eq, and_true, true_and, beq_self_eq_true]; unfold GoodE; omega)), hw.mod⟩

end Go.Proofs.YtoiebgnmknbkjaaDoor
