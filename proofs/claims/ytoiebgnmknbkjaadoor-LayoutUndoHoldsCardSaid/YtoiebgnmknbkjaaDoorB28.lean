/- The document's word on undos; equal lists. -/
import Derived.Test.YtoiebgnmknbkjaaDoorB27
import Derived.Test.YtoiebgnmknbkjaaDoorD18
set_option linter.unusedVariables false
set_option linter.unusedSimpArgs false
namespace Go.Proofs.YtoiebgnmknbkjaaDoor
open Go Go.Wk
theorem openUnR_n (v : Value) (l : List UInt8) (w : World) (hv : RdB w v l) (hlen : l.length ≤ 140737488355328) :
    NewRowT Tryd.prog 64 [v] (fun v => .tuple #[v, .int .i64 (openUnE l)]) 111 2 (openUnL l).length (prC (openUnL l)) w := by
  refine enter0 Tryd.func64 rfl Tryd.ntmps64 rfl ?_
  simp only [envOf]
  refine At.seq ?_
  refine At.region ?_
  refine At.val (Val.assign rfl) rfl rfl rfl ?_
  refine At.val (Val.assign rfl) rfl rfl rfl ?_
  refine At.nil ?_
  refine At.thenN ?_
  refine At.seq ?_
  refine At.seq ?_
  refine At.region ?_
  refine At.val (Val.move rfl) rfl rfl rfl ?_
  refine At.val (Val.lenRd hv Tryd.underlying54 rfl) rfl rfl rfl ?_
  refine At.val (Val.bin rfl rfl rfl) rfl rfl rfl ?_
  refine At.nil ?_
  refine At.thenN ?_
  refine At.cond rfl (fun h1 => ?_) (fun h1 => ?_)
  · skip
    try simp only [vN_T, vN_F, nmE_T, nmE_F, wI_T, wI_F, data_T, data_F, ino_T, ino_F, notT, notF, bneT, bneF, beqT, beqF, decT, decF] at h1
    have hno : ¬ OkUn l := fun h => by have := h.1; omega
    refine At.seq ?_
    refine At.region ?_
    refine At.val (Val.assign rfl) rfl rfl rfl ?_
    refine At.val (Val.assign rfl) rfl rfl rfl ?_
    refine At.nil ?_
    refine At.thenN ?_
    refine At.retC ?_
    refine At.thenR ?_
    refine At.ret2 (.inl rfl) rfl rfl rfl rfl (fun w hw => ?_)
    exact ⟨.slice none 0 0, by rw [openUnE_no hno], by rw [openUnL_no hno]; exact ((hw.drop (List.nil_sublist _)).f0).nilRow _ _⟩
  · skip
    try simp only [vN_T, vN_F, nmE_T, nmE_F, wI_T, wI_F, data_T, data_F, ino_T, ino_F, notT, notF, bneT, bneF, beqT, beqF, decT, decF] at h1
    have hl : l.length = 512 := by omega
    refine At.skipC ?_
    refine At.thenN ?_
    refine At.seq ?_
    refine At.region ?_
    refine At.val (Val.move rfl) rfl rfl rfl ?_
    refine At.callP (fun w hw => wordS_p v l (0) w (hv.mod hw.mod) hlen (by omega)) Tryd.call119 rfl rfl ?_
    skip
    · skip
      rw [num_wordA l 0]
      refine At.val (Val.move rfl) rfl rfl rfl ?_
      refine At.val (Val.extract rfl rfl) rfl rfl rfl ?_
      refine At.val (Val.extract rfl rfl) rfl rfl rfl ?_
      refine At.val (Val.assign rfl) rfl rfl rfl ?_
      refine At.val (Val.assign rfl) rfl rfl rfl ?_
      refine At.nil ?_
      refine At.thenN ?_
      refine At.seq ?_
      refine At.region ?_
      refine At.val (Val.move rfl) rfl rfl rfl ?_
      by_cases hs0 : Sl 512 (wordA l 0)
      · skip
        refine At.callP (fun w hw => (by have := unsealR_p 512 (wordA l 0) w; rwa [unseal_yes hs0] at this)) Tryd.call101 rfl rfl ?_
        refine At.val (Val.move rfl) rfl rfl rfl ?_
        refine At.val (Val.extract rfl rfl) rfl rfl rfl ?_
        refine At.val (Val.extract rfl rfl) rfl rfl rfl ?_
        refine At.val (Val.assign rfl) rfl rfl rfl ?_
        refine At.val (Val.assign rfl) rfl rfl rfl ?_
        refine At.nil ?_
        rw [show b32 ((wordA l 0).setWidth 32) = Value.int .u32 ((unN l : Nat) : Int) from rfl]
        refine At.thenN ?_
        refine At.seq ?_
        refine At.seq ?_
        refine At.region ?_
        refine At.val (Val.move rfl) rfl rfl rfl ?_
        refine At.val (Val.bin rfl rfl rfl) rfl rfl rfl ?_
        refine At.val (Val.move rfl) rfl rfl rfl ?_
        refine At.yes rfl rfl ?_
        refine At.val (Val.move rfl) rfl rfl rfl ?_
        refine At.yes rfl rfl ?_
        refine At.val (Val.bin rfl rfl rfl) rfl rfl rfl ?_
        refine At.val (Val.pickF rfl rfl) rfl rfl rfl ?_
        refine At.nil ?_
        refine At.thenN ?_
        refine At.cond rfl (fun h2 => ?_) (fun h2 => ?_)
        · skip
          try simp only [vN_T, vN_F, nmE_T, nmE_F, wI_T, wI_F, data_T, data_F, ino_T, ino_F, notT, notF, bneT, bneF, beqT, beqF, decT, decF] at h2
          have hno : ¬ OkUn l := fun h => by have := (h.two (by omega)).1; omega
          refine At.seq ?_
          refine At.region ?_
          refine At.val (Val.assign rfl) rfl rfl rfl ?_
          refine At.val (Val.assign rfl) rfl rfl rfl ?_
          refine At.nil ?_
          refine At.thenN ?_
          refine At.retC ?_
          refine At.thenR ?_
          refine At.ret2 (.inl rfl) rfl rfl rfl rfl (fun w hw => ?_)
          exact ⟨.slice none 0 0, by rw [openUnE_no hno], by rw [openUnL_no hno]; exact ((hw.drop (List.nil_sublist _)).f0).nilRow _ _⟩
        · skip
          try simp only [vN_T, vN_F, nmE_T, nmE_F, wI_T, wI_F, data_T, data_F, ino_T, ino_F, notT, notF, bneT, bneF, beqT, beqF, decT, decF] at h2
          have hn8 : unN l ≤ 8 := by omega
          refine At.skipC ?_
          refine At.thenN ?_
          refine At.seq ?_
          refine At.region ?_
          refine At.val (Val.assign rfl) rfl rfl rfl ?_
          refine At.nil ?_
          refine At.rowNilP 111 ?_
          refine At.thenN ?_
          refine At.seq ?_
          refine At.seq ?_
          refine At.region ?_
          refine At.val (Val.assign rfl) rfl rfl rfl ?_
          refine At.nil ?_
          refine At.thenN ?_
          refine At.block ?_
          skip
          refine At.loop (σ := Nat × Value) (fun s => s.1 ≤ unN l) (fun s => [(0, v), (6, .int .u32 (unN l : Int)), (8, s.2), (9, .int .i64 (s.1 : Int))]) (fun s => [prow 111 s.2 (recs l s.1)]) (fun s => unN l - s.1) (0, .slice none 0 0) (Nat.zero_le _) (Sub.cons rfl (Sub.cons rfl (Sub.cons rfl (Sub.cons rfl Sub.nil)))) (List.Perm.refl _) ?_
          intro s hs
          obtain ⟨k, vk⟩ := s
          dsimp only at hs ⊢
          refine At.seq ?_
          refine At.seq ?_
          refine At.region ?_
          refine At.val (Val.move rfl) rfl rfl rfl ?_
          refine At.val (Val.move rfl) rfl rfl rfl ?_
          first | refine At.val (Val.toI Tryd.underlying48 Tryd.underlying3 rfl (by omega) (by omega)) rfl rfl rfl ?_ | refine At.val (Val.conv Tryd.underlying48 Tryd.underlying3 rfl) rfl rfl rfl ?_
          refine At.val (Val.bin rfl rfl rfl) rfl rfl rfl ?_
          refine At.nil ?_
          refine At.thenN ?_
          refine At.cond rfl (fun h3 => ?_) (fun h3 => ?_)
          · skip
            try simp only [vN_T, vN_F, nmE_T, nmE_F, wI_T, wI_F, data_T, data_F, ino_T, ino_F, notT, notF, bneT, bneF, beqT, beqF, decT, decF] at h3
            have hk : k < unN l := by omega
            refine At.skipC ?_
            refine At.thenN ?_
            refine At.seq ?_
            refine At.block ?_
            refine At.seq ?_
            refine At.region ?_
            refine At.val (Val.move rfl) rfl rfl rfl ?_
            refine At.val (Val.move rfl) rfl rfl rfl ?_
            first | refine At.val (Val.mulI rfl rfl (by omega) (by omega)) rfl rfl rfl ?_ | refine At.val (Val.bin rfl rfl rfl) rfl rfl rfl ?_
            refine At.val (Val.addI rfl rfl (by omega) (by omega)) rfl rfl rfl ?_
            rw [show (64 : Int) + 16 * (k : Int) = ((64 + 16 * k : Nat) : Int) from by omega]
            refine At.callP (fun w hw => wordS_p v l (64 + 16 * k) w (hv.mod hw.mod) hlen (by omega)) Tryd.call119 rfl rfl ?_
            refine At.val (Val.move rfl) rfl rfl rfl ?_
            refine At.val (Val.extract rfl rfl) rfl rfl rfl ?_
            refine At.val (Val.extract rfl rfl) rfl rfl rfl ?_
            refine At.val (Val.assign rfl) rfl rfl rfl ?_
            refine At.val (Val.assign rfl) rfl rfl rfl ?_
            refine At.nil ?_
            refine At.thenN ?_
            refine At.seq ?_
            refine At.region ?_
            refine At.val (Val.move rfl) rfl rfl rfl ?_
            refine At.val (Val.move rfl) rfl rfl rfl ?_
            first | refine At.val (Val.mulI rfl rfl (by omega) (by omega)) rfl rfl rfl ?_ | refine At.val (Val.bin rfl rfl rfl) rfl rfl rfl ?_
            refine At.val (Val.addI rfl rfl (by omega) (by omega)) rfl rfl rfl ?_
            rw [show (72 : Int) + 16 * (k : Int) = ((64 + 16 * k + 8 : Nat) : Int) from by omega]
            refine At.callP (fun w hw => wordS_p v l (64 + 16 * k + 8) w (hv.mod hw.mod) hlen (by omega)) Tryd.call119 rfl rfl ?_
            skip
            · skip
              rw [num_wordA l (64 + 16 * k + 8)]
              refine At.val (Val.move rfl) rfl rfl rfl ?_
              refine At.val (Val.extract rfl rfl) rfl rfl rfl ?_
              refine At.val (Val.extract rfl rfl) rfl rfl rfl ?_
              refine At.val (Val.assign rfl) rfl rfl rfl ?_
              refine At.val (Val.assign rfl) rfl rfl rfl ?_
              refine At.nil ?_
              refine At.thenN ?_
              refine At.seq ?_
              refine At.seq ?_
              refine At.region ?_
              refine At.val (Val.move rfl) rfl rfl rfl ?_
              refine At.val (Val.bin rfl rfl rfl) rfl rfl rfl ?_
              refine At.nil ?_
              refine At.thenN ?_
              refine At.cond rfl (fun h4 => ?_) (fun h4 => ?_)
              · skip
                try simp only [vN_T, vN_F, nmE_T, nmE_F, wI_T, wI_F, data_T, data_F, ino_T, ino_F, notT, notF, bneT, bneF, beqT, beqF, decT, decF] at h4
                have hno : ¬ OkUn l := fun h => by have := h.at hk; omega
                refine At.seq ?_
                refine At.region ?_
                refine At.val (Val.assign rfl) rfl rfl rfl ?_
                refine At.val (Val.assign rfl) rfl rfl rfl ?_
                refine At.nil ?_
                refine At.thenN ?_
                refine At.retC ?_
                refine At.thenR ?_
                refine At.blkR ?_
                refine At.thenR ?_
                refine At.thenR ?_
                refine At.blkR ?_
                refine At.thenR ?_
                refine At.ret2 (.inl rfl) rfl rfl rfl rfl (fun w hw => ?_)
                exact ⟨.slice none 0 0, by rw [openUnE_no hno], by rw [openUnL_no hno]; exact ((hw.drop (List.nil_sublist _)).f0).nilRow _ _⟩
              · skip
                try simp only [vN_T, vN_F, nmE_T, nmE_F, wI_T, wI_F, data_T, data_F, ino_T, ino_F, notT, notF, bneT, bneF, beqT, beqF, decT, decF] at h4
                refine At.skipC ?_
                refine At.thenN ?_
                refine At.region ?_
                refine At.val (Val.move rfl) rfl rfl rfl ?_
                refine At.val (Val.move rfl) rfl rfl rfl ?_
                first | refine At.val (Val.toI Tryd.underlying40 Tryd.underlying3 rfl (by omega) (by omega)) rfl rfl rfl ?_ | refine At.val (Val.conv Tryd.underlying40 Tryd.underlying3 rfl) rfl rfl rfl ?_
                refine At.val (Val.move rfl) rfl rfl rfl ?_
                refine At.val (Val.build (fun a ha => by simp only [List.map_toArray, List.map_cons, List.map_nil, ha.eval (x := (.tmp 62)) rfl, ha.eval (x := (.tmp 63)) rfl] <;> rfl) (bld_111_0_1 _ _ )) rfl rfl rfl ?_
                refine At.buildSl (fun a ha => by simp only [List.map_toArray, List.map_cons, List.map_nil, ha.eval (x := (.tmp 64)) rfl]; try rfl) (bs_102_1 _ _ ) rfl (fun b5 => ?_)
                refine At.appendP1 (i := 1) (j := 0) (by_ := 16) Tryd.underlying102 info_111 rfl rfl rfl rfl rfl rfl rfl rfl (by rw [recs_length]; omega) (by rw [recs_length]; omega) rfl (fun v6 => ?_)
                simp only [List.set_cons_zero, List.set_cons_succ]
                refine At.drop 0 ?_
                simp only [List.eraseIdx_cons_zero, List.eraseIdx_cons_succ]
                refine At.val (Val.assign rfl) rfl rfl rfl ?_
                refine At.nil ?_
                refine At.blkN ?_
                refine At.thenN ?_
                refine At.region ?_
                refine At.val (Val.move rfl) rfl rfl rfl ?_
                first | refine At.val (Val.addI rfl rfl (by omega) (by omega)) rfl rfl rfl ?_ | refine At.val (Val.bin rfl rfl rfl) rfl rfl rfl ?_
                refine At.val (Val.assign rfl) rfl rfl rfl ?_
                refine At.nil ?_
                refine At.thenN ?_
                exact At.again (k + 1, v6) (show k + 1 ≤ _ by omega) (by dsimp only; omega) (Sub.cons rfl (Sub.cons rfl (Sub.cons rfl (Sub.cons (congrArg (fun z => some (Value.int IntKind.i64 z)) (by omega)) Sub.nil)))) (by rw [recs_succ])
          · skip
            try simp only [vN_T, vN_F, nmE_T, nmE_F, wI_T, wI_F, data_T, data_F, ino_T, ino_F, notT, notF, bneT, bneF, beqT, beqF, decT, decF] at h3
            obtain rfl : k = unN l := by omega
            refine At.exitC ?_
            refine At.thenX ?_
            refine At.thenX ?_
            refine At.blkX ?_
            refine At.thenN ?_
            refine At.seq ?_
            refine At.seq ?_
            refine At.region ?_
            refine At.val (Val.move rfl) rfl rfl rfl ?_
            refine At.val (Val.bin rfl rfl rfl) rfl rfl rfl ?_
            refine At.nil ?_
            refine At.thenN ?_
            refine At.cond rfl (fun h7 => ?_) (fun h7 => ?_)
            · skip
              try simp only [vN_T, vN_F, nmE_T, nmE_F, wI_T, wI_F, data_T, data_F, ino_T, ino_F, notT, notF, bneT, bneF, beqT, beqF, decT, decF] at h7
              have h0 : unN l = 0 := by omega
              have hok : OkUn l := ⟨hl, hs0, .inl h0⟩
              refine At.seq ?_
              refine At.region ?_
              refine At.val (Val.assign rfl) rfl rfl rfl ?_
              refine At.val (Val.assign rfl) rfl rfl rfl ?_
              refine At.nil ?_
              refine At.thenN ?_
              refine At.retC ?_
              refine At.thenR ?_
              refine At.ret2 (.inl rfl) rfl rfl rfl rfl (fun w hw => ?_)
              exact ⟨.slice none 0 0, by rw [openUnE_yes hok], by rw [openUnL_0 hok h0]; exact ((hw.drop (List.nil_sublist _)).f0).nilRow _ _⟩
            · skip
              try simp only [vN_T, vN_F, nmE_T, nmE_F, wI_T, wI_F, data_T, data_F, ino_T, ino_F, notT, notF, bneT, bneF, beqT, beqF, decT, decF] at h7
              have h0 : ¬ unN l = 0 := by omega
              refine At.skipC ?_
              refine At.thenN ?_
              refine At.seq ?_
              refine At.region ?_
              refine At.val (Val.move rfl) rfl rfl rfl ?_
              refine At.callNT (g := (fun v => .tuple #[v, .int .i64 (packE (recs l (unN l)))])) (fun w hw => packUnR_n _ (recs l (unN l)) w (row_rd (hw.row (i := 0) rfl) (by decide)) (by rw [recs_length]; omega)) Tryd.call61 rfl rfl (fun v8 => ?_)
              by_cases hg : GoodUn (recs l (unN l))
              · skip
                rw [packE_T hg]
                have hpl : (packB (recs l (unN l))).length = 64 + 16 * unN l := by rw [packB_T hg, undoB_length, recs_length]
                refine At.val (Val.move rfl) rfl rfl rfl ?_
                refine At.val (Val.extract rfl rfl) rfl rfl rfl ?_
                refine At.val (Val.extract rfl rfl) rfl rfl rfl ?_
                refine At.val (Val.assign rfl) rfl rfl rfl ?_
                refine At.val (Val.assign rfl) rfl rfl rfl ?_
                refine At.nil ?_
                refine At.thenN ?_
                refine At.seq ?_
                refine At.seq ?_
                refine At.region ?_
                refine At.val (Val.move rfl) rfl rfl rfl ?_
                refine At.val (Val.bin rfl rfl rfl) rfl rfl rfl ?_
                refine At.nil ?_
                refine At.thenN ?_
                refine At.condF rfl ?_
                refine At.skipC ?_
                refine At.thenN ?_
                refine At.seq ?_
                refine At.seq ?_
                refine At.region ?_
                refine At.val (Val.assign rfl) rfl rfl rfl ?_
                refine At.nil ?_
                refine At.thenN ?_
                refine At.block ?_
                skip
                refine At.loop (σ := Nat) (fun k => k ≤ 64 + 16 * unN l ∧ ∀ i, i < k → (i < 16 ∨ 64 ≤ i) → (packB (recs l (unN l)))[i]? = l[i]?) (fun k => [(0, v), (8, vk), (14, v8), (16, .int .i64 (k : Int))]) (fun k => [rowR v8 5 1 ((packB (recs l (unN l))).length) ((packB (recs l (unN l))).map bv), rowR vk 111 2 (((recs l (unN l))).length) (prC ((recs l (unN l))))]) (fun k => 64 + 16 * unN l - k) 0 ⟨Nat.zero_le _, fun i h => absurd h (Nat.not_lt_zero _)⟩ (Sub.cons rfl (Sub.cons rfl (Sub.cons rfl (Sub.cons rfl Sub.nil)))) (List.Perm.refl _) ?_
                intro k hs
                refine At.seq ?_
                refine At.seq ?_
                refine At.region ?_
                refine At.val (Val.move rfl) rfl rfl rfl ?_
                refine At.val (Val.move rfl) rfl rfl rfl ?_
                refine At.val (Val.lenRow (i := 0) Tryd.underlying54 rfl rfl) rfl rfl rfl ?_
                refine At.val (Val.bin rfl rfl rfl) rfl rfl rfl ?_
                refine At.nil ?_
                refine At.thenN ?_
                refine At.cond rfl (fun h9 => ?_) (fun h9 => ?_)
                · skip
                  try simp only [vN_T, vN_F, nmE_T, nmE_F, wI_T, wI_F, data_T, data_F, ino_T, ino_F, notT, notF, bneT, bneF, beqT, beqF, decT, decF] at h9
                  have hk : k < 64 + 16 * unN l := by omega
                  refine At.skipC ?_
                  refine At.thenN ?_
                  refine At.seq ?_
                  refine At.block ?_
                  refine At.seq ?_
                  refine At.quiet rfl (by decide +kernel) ?_
                  refine QAt.val (Val.move rfl) rfl rfl rfl ?_
                  refine QAt.val (Val.bin rfl rfl rfl) rfl rfl rfl ?_
                  refine QAt.val (Val.move rfl) rfl rfl rfl ?_
                  refine QAt.split (t := 84) rfl (fun h10 => ?_) (fun h10 => ?_)
                  · skip
                    try simp only [vN_T, vN_F, nmE_T, nmE_F, wI_T, wI_F, data_T, data_F, ino_T, ino_F, notT, notF, bneT, bneF, beqT, beqF, decT, decF] at h10
                    refine QAt.no rfl rfl rfl rfl ?_
                    refine QAt.no rfl rfl rfl rfl ?_
                    refine QAt.val (Val.pickT rfl rfl) rfl rfl rfl ?_
                    refine QAt.val (Val.move rfl) rfl rfl rfl ?_
                    refine QAt.yes rfl rfl ?_
                    refine QAt.val (Val.move rfl) rfl rfl rfl ?_
                    refine QAt.yes rfl rfl ?_
                    refine QAt.val (Val.move rfl) rfl rfl rfl ?_
                    refine QAt.yes rfl rfl ?_
                    refine QAt.idxRowB (i := 0) rfl Tryd.underlying54 Tryd.sizeOf5 rfl rfl (by omega) (by omega) rfl rfl (fun q11 hq12 hl13 => ?_)
                    refine QAt.yes rfl rfl ?_
                    refine QAt.val (Val.loadRowB (i := 0) Tryd.isAgg5 rfl rfl hq12) rfl rfl rfl ?_
                    refine QAt.yes rfl rfl ?_
                    refine QAt.val (Val.move rfl) rfl rfl rfl ?_
                    refine QAt.yes rfl rfl ?_
                    refine QAt.val (Val.move rfl) rfl rfl rfl ?_
                    refine QAt.yes rfl rfl ?_
                    refine QAt.idxB hv Tryd.underlying54 Tryd.sizeOf5 rfl rfl (by omega) (by omega) rfl rfl (fun b14 o15 q16 hq17 hl18 hc19 => ?_)
                    refine QAt.yes rfl rfl ?_
                    refine QAt.val (Val.loadOld Tryd.isAgg5 rfl hc19 (fun h => h)) rfl rfl rfl ?_
                    refine QAt.yes rfl rfl ?_
                    refine QAt.val (Val.bin rfl rfl rfl) rfl rfl rfl ?_
                    refine QAt.val (Val.pickT rfl rfl) rfl rfl rfl ?_
                    refine QAt.fin ?_
                    refine At.thenN ?_
                    refine At.cond rfl (fun h20 => ?_) (fun h20 => ?_)
                    · skip
                      try simp only [vN_T, vN_F, nmE_T, nmE_F, wI_T, wI_F, data_T, data_F, ino_T, ino_F, notT, notF, bneT, bneF, beqT, beqF, decT, decF] at h20
                      refine At.seq ?_
                      refine At.region ?_
                      refine At.val (Val.assign rfl) rfl rfl rfl ?_
                      refine At.val (Val.assign rfl) rfl rfl rfl ?_
                      refine At.nil ?_
                      refine At.thenN ?_
                      refine At.retC ?_
                      refine At.blkR ?_
                      refine At.thenR ?_
                      refine At.thenR ?_
                      refine At.blkR ?_
                      refine At.thenR ?_
                      refine At.ret2 (.inl rfl) rfl rfl rfl rfl (fun w hw => ?_)
                      have hno : ¬ OkUn l := fun h => cmp_ne hq12 hq17 (by assumption) (pack_same h h0 (by omega) (by omega))
                      exact ⟨.slice none 0 0, by rw [openUnE_no hno], by rw [openUnL_no hno]; exact ((hw.drop (List.nil_sublist _)).f0).nilRow _ _⟩
                    · skip
                      try simp only [vN_T, vN_F, nmE_T, nmE_F, wI_T, wI_F, data_T, data_F, ino_T, ino_F, notT, notF, bneT, bneF, beqT, beqF, decT, decF] at h20
                      refine At.skipC ?_
                      refine At.blkN ?_
                      refine At.thenN ?_
                      refine At.region ?_
                      refine At.val (Val.move rfl) rfl rfl rfl ?_
                      first | refine At.val (Val.addI rfl rfl (by omega) (by omega)) rfl rfl rfl ?_ | refine At.val (Val.bin rfl rfl rfl) rfl rfl rfl ?_
                      refine At.val (Val.assign rfl) rfl rfl rfl ?_
                      refine At.nil ?_
                      refine At.thenN ?_
                      exact At.again (k + 1) ⟨by omega, fun i hi hc => by rcases Nat.lt_or_ge i k with h' | h'; exact hs.2 i h' hc; obtain rfl : k = i := (by omega); exact cmp_eq hq12 hq17 (by omega)⟩ (by omega) (Sub.cons rfl (Sub.cons rfl (Sub.cons rfl (Sub.cons (congrArg (fun z => some (Value.int IntKind.i64 z)) (by omega)) Sub.nil)))) (List.Perm.refl _)
                  · skip
                    try simp only [vN_T, vN_F, nmE_T, nmE_F, wI_T, wI_F, data_T, data_F, ino_T, ino_F, notT, notF, bneT, bneF, beqT, beqF, decT, decF] at h10
                    refine QAt.yes rfl rfl ?_
                    refine QAt.val (Val.move rfl) rfl rfl rfl ?_
                    refine QAt.yes rfl rfl ?_
                    refine QAt.val (Val.bin rfl rfl rfl) rfl rfl rfl ?_
                    refine QAt.val (Val.pickF rfl rfl) rfl rfl rfl ?_
                    refine QAt.val (Val.move rfl) rfl rfl rfl ?_
                    refine QAt.split (t := 88) rfl (fun h21 => ?_) (fun h21 => ?_)
                    · skip
                      try simp only [vN_T, vN_F, nmE_T, nmE_F, wI_T, wI_F, data_T, data_F, ino_T, ino_F, notT, notF, bneT, bneF, beqT, beqF, decT, decF] at h21
                      refine QAt.yes rfl rfl ?_
                      refine QAt.val (Val.move rfl) rfl rfl rfl ?_
                      refine QAt.yes rfl rfl ?_
                      refine QAt.val (Val.move rfl) rfl rfl rfl ?_
                      refine QAt.yes rfl rfl ?_
                      refine QAt.idxRowB (i := 0) rfl Tryd.underlying54 Tryd.sizeOf5 rfl rfl (by omega) (by omega) rfl rfl (fun q22 hq23 hl24 => ?_)
                      refine QAt.yes rfl rfl ?_
                      refine QAt.val (Val.loadRowB (i := 0) Tryd.isAgg5 rfl rfl hq23) rfl rfl rfl ?_
                      refine QAt.yes rfl rfl ?_
                      refine QAt.val (Val.move rfl) rfl rfl rfl ?_
                      refine QAt.yes rfl rfl ?_
                      refine QAt.val (Val.move rfl) rfl rfl rfl ?_
                      refine QAt.yes rfl rfl ?_
                      refine QAt.idxB hv Tryd.underlying54 Tryd.sizeOf5 rfl rfl (by omega) (by omega) rfl rfl (fun b25 o26 q27 hq28 hl29 hc30 => ?_)
                      refine QAt.yes rfl rfl ?_
                      refine QAt.val (Val.loadOld Tryd.isAgg5 rfl hc30 (fun h => h)) rfl rfl rfl ?_
                      refine QAt.yes rfl rfl ?_
                      refine QAt.val (Val.bin rfl rfl rfl) rfl rfl rfl ?_
                      refine QAt.val (Val.pickT rfl rfl) rfl rfl rfl ?_
                      refine QAt.fin ?_
                      refine At.thenN ?_
                      refine At.cond rfl (fun h31 => ?_) (fun h31 => ?_)
                      · skip
                        try simp only [vN_T, vN_F, nmE_T, nmE_F, wI_T, wI_F, data_T, data_F, ino_T, ino_F, notT, notF, bneT, bneF, beqT, beqF, decT, decF] at h31
                        refine At.seq ?_
                        refine At.region ?_
                        refine At.val (Val.assign rfl) rfl rfl rfl ?_
                        refine At.val (Val.assign rfl) rfl rfl rfl ?_
                        refine At.nil ?_
                        refine At.thenN ?_
                        refine At.retC ?_
                        refine At.blkR ?_
                        refine At.thenR ?_
                        refine At.thenR ?_
                        refine At.blkR ?_
                        refine At.thenR ?_
                        refine At.ret2 (.inl rfl) rfl rfl rfl rfl (fun w hw => ?_)
                        have hno : ¬ OkUn l := fun h => cmp_ne hq23 hq28 (by assumption) (pack_same h h0 (by omega) (by omega))
                        exact ⟨.slice none 0 0, by rw [openUnE_no hno], by rw [openUnL_no hno]; exact ((hw.drop (List.nil_sublist _)).f0).nilRow _ _⟩
                      · skip
                        try simp only [vN_T, vN_F, nmE_T, nmE_F, wI_T, wI_F, data_T, data_F, ino_T, ino_F, notT, notF, bneT, bneF, beqT, beqF, decT, decF] at h31
                        refine At.skipC ?_
                        refine At.blkN ?_
                        refine At.thenN ?_
                        refine At.region ?_
                        refine At.val (Val.move rfl) rfl rfl rfl ?_
                        first | refine At.val (Val.addI rfl rfl (by omega) (by omega)) rfl rfl rfl ?_ | refine At.val (Val.bin rfl rfl rfl) rfl rfl rfl ?_
                        refine At.val (Val.assign rfl) rfl rfl rfl ?_
                        refine At.nil ?_
                        refine At.thenN ?_
                        exact At.again (k + 1) ⟨by omega, fun i hi hc => by rcases Nat.lt_or_ge i k with h' | h'; exact hs.2 i h' hc; obtain rfl : k = i := (by omega); exact cmp_eq hq23 hq28 (by omega)⟩ (by omega) (Sub.cons rfl (Sub.cons rfl (Sub.cons rfl (Sub.cons (congrArg (fun z => some (Value.int IntKind.i64 z)) (by omega)) Sub.nil)))) (List.Perm.refl _)
                    · skip
                      try simp only [vN_T, vN_F, nmE_T, nmE_F, wI_T, wI_F, data_T, data_F, ino_T, ino_F, notT, notF, bneT, bneF, beqT, beqF, decT, decF] at h21
                      refine QAt.no rfl rfl rfl rfl ?_
                      refine QAt.no rfl rfl rfl rfl ?_
                      refine QAt.no rfl rfl rfl rfl ?_
                      refine QAt.no rfl rfl rfl rfl ?_
                      refine QAt.no rfl rfl rfl rfl ?_
                      refine QAt.no rfl rfl rfl rfl ?_
                      refine QAt.no rfl rfl rfl rfl ?_
                      refine QAt.no rfl rfl rfl rfl ?_
                      refine QAt.no rfl rfl rfl rfl ?_
                      refine QAt.val (Val.pickF rfl rfl) rfl rfl rfl ?_
                      refine QAt.fin ?_
                      refine At.thenN ?_
                      refine At.condF rfl ?_
                      refine At.skipC ?_
                      refine At.blkN ?_
                      refine At.thenN ?_
                      refine At.region ?_
                      refine At.val (Val.move rfl) rfl rfl rfl ?_
                      first | refine At.val (Val.addI rfl rfl (by omega) (by omega)) rfl rfl rfl ?_ | refine At.val (Val.bin rfl rfl rfl) rfl rfl rfl ?_
                      refine At.val (Val.assign rfl) rfl rfl rfl ?_
                      refine At.nil ?_
                      refine At.thenN ?_
                      exact At.again (k + 1) ⟨by omega, fun i hi hc => by rcases Nat.lt_or_ge i k with h' | h'; exact hs.2 i h' hc; obtain rfl : k = i := (by omega); omega⟩ (by omega) (Sub.cons rfl (Sub.cons rfl (Sub.cons rfl (Sub.cons (congrArg (fun z => some (Value.int IntKind.i64 z)) (by omega)) Sub.nil)))) (List.Perm.refl _)
                · skip
                  try simp only [vN_T, vN_F, nmE_T, nmE_F, wI_T, wI_F, data_T, data_F, ino_T, ino_F, notT, notF, bneT, bneF, beqT, beqF, decT, decF] at h9
                  obtain rfl : k = 64 + 16 * unN l := by omega
                  refine At.exitC ?_
                  refine At.thenX ?_
                  refine At.thenX ?_
                  refine At.blkX ?_
                  refine At.thenN ?_
                  refine At.seq ?_
                  refine At.region ?_
                  refine At.val (Val.move rfl) rfl rfl rfl ?_
                  refine At.val (Val.assign rfl) rfl rfl rfl ?_
                  refine At.val (Val.assign rfl) rfl rfl rfl ?_
                  refine At.nil ?_
                  refine At.thenN ?_
                  refine At.retC ?_
                  refine At.ret2 (.inl rfl) rfl rfl rfl rfl (fun w hw => ?_)
                  have hok : OkUn l := ⟨hl, hs0, .inr ⟨hn8, pack_seal hl hs0 hn8 hg hs.2, hg⟩⟩
                  exact ⟨vk, by rw [openUnE_yes hok], by rw [openUnL_yes hok]; exact (hw.drop (List.singleton_sublist.2 (List.mem_of_getElem? (i := 1) rfl))).f0⟩
              · skip
                rw [packE_F hg]
                have hno : ¬ OkUn l := fun h => hg (h.two h0).2.2
                refine At.val (Val.move rfl) rfl rfl rfl ?_
                refine At.val (Val.extract rfl rfl) rfl rfl rfl ?_
                refine At.val (Val.extract rfl rfl) rfl rfl rfl ?_
                refine At.val (Val.assign rfl) rfl rfl rfl ?_
                refine At.val (Val.assign rfl) rfl rfl rfl ?_
                refine At.nil ?_
                refine At.thenN ?_
                refine At.seq ?_
                refine At.seq ?_
                refine At.region ?_
                refine At.val (Val.move rfl) rfl rfl rfl ?_
                refine At.val (Val.bin rfl rfl rfl) rfl rfl rfl ?_
                refine At.nil ?_
                refine At.thenN ?_
                refine At.condT rfl ?_
                refine At.seq ?_
                refine At.region ?_
                refine At.val (Val.assign rfl) rfl rfl rfl ?_
                refine At.val (Val.assign rfl) rfl rfl rfl ?_
                refine At.nil ?_
                refine At.thenN ?_
                refine At.retC ?_
                refine At.thenR ?_
                refine At.ret2 (.inl rfl) rfl rfl rfl rfl (fun w hw => ?_)
                exact ⟨.slice none 0 0, by rw [openUnE_no hno], by rw [openUnL_no hno]; exact ((hw.drop (List.nil_sublist _)).f0).nilRow _ _⟩
      · skip
        have hno : ¬ OkUn l := fun h => hs0 h.2.1
        refine At.callP (fun w hw => (by have := unsealR_p 512 (wordA l 0) w; rwa [unseal_no hs0] at this)) Tryd.call101 rfl rfl ?_
        refine At.val (Val.move rfl) rfl rfl rfl ?_
        refine At.val (Val.extract rfl rfl) rfl rfl rfl ?_
        refine At.val (Val.extract rfl rfl) rfl rfl rfl ?_
        refine At.val (Val.assign rfl) rfl rfl rfl ?_
        refine At.val (Val.assign rfl) rfl rfl rfl ?_
        refine At.nil ?_
        refine At.thenN ?_
        refine At.seq ?_
        refine At.seq ?_
        refine At.region ?_
        refine At.val (Val.move rfl) rfl rfl rfl ?_
        refine At.val (Val.bin rfl rfl rfl) rfl rfl rfl ?_
        refine At.val (Val.move rfl) rfl rfl rfl ?_
        refine At.no rfl rfl rfl rfl ?_
        refine At.no rfl rfl rfl rfl ?_
        refine At.val (Val.pickT rfl rfl) rfl rfl rfl ?_
        refine At.nil ?_
        refine At.thenN ?_
        refine At.condT rfl ?_
        refine At.seq ?_
        refine At.region ?_
        refine At.val (Val.assign rfl) rfl rfl rfl ?_
        refine At.val (Val.assign rfl) rfl rfl rfl ?_
        refine At.nil ?_
        refine At.thenN ?_
        refine At.retC ?_
        refine At.thenR ?_
        refine At.ret2 (.inl rfl) rfl rfl rfl rfl (fun w hw => ?_)
        exact ⟨.slice none 0 0, by rw [openUnE_no hno], by rw [openUnL_no hno]; exact ((hw.drop (List.nil_sublist _)).f0).nilRow _ _⟩

theorem copyUn_n (v : Value) (L : List (Int × BitVec 64)) (w : World) (hv : RdP w v L) (hlen : L.length ≤ 8796093022144) :
    NewRow Tryd.prog 59 [v] 111 2 L.length (prC L) w := by
  refine enter (feet []) [] Tryd.func59 rfl Tryd.ntmps59 rfl ⟨by simp, by simp, by simp, Mod.refl _ _⟩ ?_
  simp only [envOf]
  refine At.seq ?_
  refine At.region ?_
  refine At.val (Val.assign rfl) rfl rfl rfl ?_
  refine At.nil ?_
  refine At.thenN ?_
  refine At.seq ?_
  refine At.region ?_
  refine At.val (Val.assign rfl) rfl rfl rfl ?_
  refine At.nil ?_
  refine At.thenN ?_
  refine At.seq ?_
  refine At.region ?_
  refine At.val (Val.move rfl) rfl rfl rfl ?_
  refine At.val (Val.move rfl) rfl rfl rfl ?_
  refine At.rowNilP 111 ?_
  refine At.appendRdP (i := 0) (by_ := 16) Tryd.underlying102 info_111 rfl rfl rfl rfl rfl rfl rfl hv (fun _ _ _ _ _ _ _ h => by simp [feet] at h) (by simp only [List.length_nil]; omega) (by simp only [List.length_nil]; omega) rfl (fun v1 => ?_)
  simp only [List.set_cons_zero, List.set_cons_succ]
  refine At.val (Val.assign rfl) rfl rfl rfl ?_
  refine At.nil ?_
  refine At.thenN ?_
  refine At.retC ?_
  refine At.ret1 (.inl rfl) rfl rfl rfl (fun w hw => ?_)
  exact ⟨_, rfl, hw⟩

theorem sameUn_p (v u : Value) (L : List (Int × BitVec 64)) (w : World) (hv : RdP w v L) (hu : RdP w u L) (hlen : L.length ≤ 8796093022144) :
    PureC Tryd.prog 62 [v, u] (.bool true) w := by
  refine enter0 Tryd.func62 rfl Tryd.ntmps62 rfl ?_
  simp only [envOf]
  refine At.seq ?_
  refine At.region ?_
  refine At.val (Val.assign rfl) rfl rfl rfl ?_
  refine At.nil ?_
  refine At.thenN ?_
  refine At.seq ?_
  refine At.seq ?_
  refine At.region ?_
  refine At.val (Val.move rfl) rfl rfl rfl ?_
  refine At.val (Val.lenRd hv Tryd.underlying102 rfl) rfl rfl rfl ?_
  refine At.val (Val.move rfl) rfl rfl rfl ?_
  refine At.val (Val.lenRd hu Tryd.underlying102 rfl) rfl rfl rfl ?_
  refine At.val (Val.bin rfl rfl rfl) rfl rfl rfl ?_
  refine At.nil ?_
  refine At.thenN ?_
  refine At.cond rfl (fun h1 => ?_) (fun h1 => ?_)
  · skip
    try simp only [vN_T, vN_F, nmE_T, nmE_F, wI_T, wI_F, data_T, data_F, ino_T, ino_F, notT, notF, bneT, bneF, beqT, beqF, decT, decF] at h1
    exact absurd rfl h1
  · skip
    try simp only [vN_T, vN_F, nmE_T, nmE_F, wI_T, wI_F, data_T, data_F, ino_T, ino_F, notT, notF, bneT, bneF, beqT, beqF, decT, decF] at h1
    refine At.skipC ?_
    refine At.thenN ?_
    refine At.seq ?_
    refine At.seq ?_
    refine At.region ?_
    refine At.val (Val.assign rfl) rfl rfl rfl ?_
    refine At.nil ?_
    refine At.thenN ?_
    refine At.block ?_
    skip
    refine At.loop (σ := Nat) (fun k => k ≤ L.length) (fun k => [(0, v), (1, u), (5, .int .i64 (k : Int))]) (fun k => []) (fun k => L.length - k) 0 (Nat.zero_le _) (Sub.cons rfl (Sub.cons rfl (Sub.cons rfl Sub.nil))) (List.Perm.refl _) ?_
    intro k hs
    refine At.seq ?_
    refine At.seq ?_
    refine At.region ?_
    refine At.val (Val.move rfl) rfl rfl rfl ?_
    refine At.val (Val.move rfl) rfl rfl rfl ?_
    refine At.val (Val.lenRd hv Tryd.underlying102 rfl) rfl rfl rfl ?_
    refine At.val (Val.bin rfl rfl rfl) rfl rfl rfl ?_
    refine At.nil ?_
    refine At.thenN ?_
    refine At.cond rfl (fun h2 => ?_) (fun h2 => ?_)
    · skip
      try simp only [vN_T, vN_F, nmE_T, nmE_F, wI_T, wI_F, data_T, data_F, ino_T, ino_F, notT, notF, bneT, bneF, beqT, beqF, decT, decF] at h2
      have hk : k < L.length := by omega
      refine At.skipC ?_
      refine At.thenN ?_
      refine At.seq ?_
      refine At.block ?_
      refine At.seq ?_
      refine At.quiet rfl (by decide +kernel) ?_
      refine QAt.val (Val.move rfl) rfl rfl rfl ?_
      refine QAt.val (Val.move rfl) rfl rfl rfl ?_
      refine QAt.idxP hv Tryd.underlying102 Tryd.sizeOf111 rfl rfl (by omega) (by omega) rfl rfl (fun b3 o4 q5 hq6 hc7 hd8 => ?_)
      refine QAt.val (Val.loadPair Tryd.isAgg111 Tryd.sizeOf111 rfl hc7 hd8 (fun h => h)) rfl rfl rfl ?_
      refine QAt.val (Val.move rfl) rfl rfl rfl ?_
      refine QAt.val (Val.move rfl) rfl rfl rfl ?_
      refine QAt.idxP hu Tryd.underlying102 Tryd.sizeOf111 rfl rfl (by omega) (by omega) rfl rfl (fun b9 o10 q11 hq12 hc13 hd14 => ?_)
      refine QAt.val (Val.loadPair Tryd.isAgg111 Tryd.sizeOf111 rfl hc13 hd14 (fun h => h)) rfl rfl rfl ?_
      refine QAt.val (Val.neAgg Tryd.eqGuardType111 (fun w => eq_111 _ _ _ _ w) rfl rfl) rfl rfl rfl ?_
      rw [show q11 = q5 from by have h1 := hq6; have h2 := hq12; rw [h1] at h2; exact (Option.some.inj h2).symm]
      simp only [beq_self_eq_true, Bool.and_true, Bool.not_true]
      refine QAt.fin ?_
      refine At.thenN ?_
      refine At.condF rfl ?_
      refine At.skipC ?_
      refine At.blkN ?_
      refine At.thenN ?_
      refine At.region ?_
      refine At.val (Val.move rfl) rfl rfl rfl ?_
      first | refine At.val (Val.addI rfl rfl (by omega) (by omega)) rfl rfl rfl ?_ | refine At.val (Val.bin rfl rfl rfl) rfl rfl rfl ?_
      refine At.val (Val.assign rfl) rfl rfl rfl ?_
      refine At.nil ?_
      refine At.thenN ?_
      exact At.again (k + 1) (by omega) (by omega) (Sub.cons rfl (Sub.cons rfl (Sub.cons (congrArg (fun z => some (Value.int IntKind.i64 z)) (by omega)) Sub.nil))) (List.Perm.refl _)
    · skip
      try simp only [vN_T, vN_F, nmE_T, nmE_F, wI_T, wI_F, data_T, data_F, ino_T, ino_F, notT, notF, bneT, bneF, beqT, beqF, decT, decF] at h2
      obtain rfl : k = L.length := by omega
      refine At.exitC ?_
      refine At.thenX ?_
      refine At.thenX ?_
      refine At.blkX ?_
      refine At.thenN ?_
      refine At.seq ?_
      refine At.region ?_
      refine At.val (Val.assign rfl) rfl rfl rfl ?_
      refine At.nil ?_
      refine At.thenN ?_
      refine At.retC ?_
      refine At.ret1 (.inl rfl) rfl rfl rfl (fun w hw => ?_)
      exact ⟨rfl, hw.mod⟩

end Go.Proofs.YtoiebgnmknbkjaaDoor
