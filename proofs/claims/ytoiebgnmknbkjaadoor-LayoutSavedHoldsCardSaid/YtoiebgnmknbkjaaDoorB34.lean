/- The document's word on records. -/
import Derived.Test.YtoiebgnmknbkjaaDoorB33
import Derived.Test.YtoiebgnmknbkjaaDoorB32
set_option linter.unusedVariables false
set_option linter.unusedSimpArgs false
namespace Go.Proofs.YtoiebgnmknbkjaaDoor
open Go Go.Wk
theorem openSvR_n (v : Value) (l : List UInt8) (w : World) (hv : RdB w v l) (hlen : l.length ≤ 140737488355328) :
    NewRowT Tryd.prog 49 [v] (fun v => .tuple #[.agg #[b32 (oT l), v], .int .i64 (oE l)]) 88 2 (oL l).length (prS (oL l)) w := by
  refine enter0 Tryd.func49 rfl Tryd.ntmps49 rfl ?_
  have hn16 : svN l < 4294967296 := by have := num_lt (l := l) 16 4; unfold svN; omega
  simp only [envOf]
  refine At.seq ?_
  refine At.region ?_
  refine At.alloc Tryd.zeroValue74 rfl rfl (fun b1 => ?_)
  refine At.val (Val.assign rfl) rfl rfl rfl ?_
  refine At.nil ?_
  refine At.thenN ?_
  refine At.seq ?_
  refine At.seq ?_
  refine At.region ?_
  refine At.val (Val.move rfl) rfl rfl rfl ?_
  refine At.val (Val.lenRd hv Tryd.underlying54 rfl) rfl rfl rfl ?_
  refine At.val (Val.bin rfl rfl rfl) rfl rfl rfl ?_
  refine At.nil ?_
  refine At.thenN ?_
  refine At.cond rfl (fun h2 => ?_) (fun h2 => ?_)
  · skip
    try simp only [vN_T, vN_F, nmE_T, nmE_F, wI_T, wI_F, data_T, data_F, ino_T, ino_F, notT, notF, bneT, bneF, beqT, beqF, decT, decF] at h2
    have hno : ¬ OkSv l := fun h => by have := h.1; omega
    refine At.seq ?_
    refine At.region ?_
    refine At.val (Val.build (fun a ha => by simp only [List.map_toArray, List.map_cons, List.map_nil] <;> rfl) (bld_74_)) rfl rfl rfl ?_
    refine At.storeAll (i := 0) Tryd.sizeOf74 rfl rfl rfl (by simp [Value.oneCell']) rfl rfl ?_
    simp only [List.set_cons_zero, List.set_cons_succ]
    refine At.val (Val.assign rfl) rfl rfl rfl ?_
    refine At.nil ?_
    refine At.thenN ?_
    refine At.retC ?_
    refine At.thenR ?_
    refine At.ret2 (.inl rfl) rfl rfl (ResOf.all (i := 0) Tryd.isAgg74 Tryd.sizeOf74 rfl rfl rfl) rfl (fun w hw => ?_)
    exact ⟨.slice none 0 0, by rw [oE_no hno, oT_no hno]; try rfl, by rw [oL_no hno]; exact ((hw.drop (List.nil_sublist _)).f0).nilRow _ _⟩
  · skip
    try simp only [vN_T, vN_F, nmE_T, nmE_F, wI_T, wI_F, data_T, data_F, ino_T, ino_F, notT, notF, bneT, bneF, beqT, beqF, decT, decF] at h2
    have h24 : 24 ≤ l.length := by omega
    refine At.skipC ?_
    refine At.thenN ?_
    refine At.seq ?_
    refine At.region ?_
    refine At.val (Val.move rfl) rfl rfl rfl ?_
    refine At.callP (fun w hw => halfS_p v l (8) w (hv.mod hw.mod) hlen (by omega)) Tryd.call109 rfl rfl ?_
    skip
    · skip
      rw [num_svT l]
      refine At.val (Val.move rfl) rfl rfl rfl ?_
      refine At.val (Val.extract rfl rfl) rfl rfl rfl ?_
      refine At.val (Val.extract rfl rfl) rfl rfl rfl ?_
      refine At.val (Val.assign rfl) rfl rfl rfl ?_
      refine At.val (Val.assign rfl) rfl rfl rfl ?_
      refine At.nil ?_
      refine At.thenN ?_
      refine At.seq ?_
      refine At.region ?_
      refine At.val (Val.move rfl) rfl rfl rfl ?_
      refine At.callP (fun w hw => halfS_p v l (16) w (hv.mod hw.mod) hlen (by omega)) Tryd.call109 rfl rfl ?_
      refine At.val (Val.move rfl) rfl rfl rfl ?_
      refine At.val (Val.extract rfl rfl) rfl rfl rfl ?_
      refine At.val (Val.extract rfl rfl) rfl rfl rfl ?_
      refine At.val (Val.assign rfl) rfl rfl rfl ?_
      refine At.val (Val.assign rfl) rfl rfl rfl ?_
      refine At.nil ?_
      rw [show num l 16 4 = svN l from rfl]
      refine At.thenN ?_
      refine At.seq ?_
      refine At.seq ?_
      refine At.region ?_
      refine At.val (Val.move rfl) rfl rfl rfl ?_
      refine At.val (Val.bin rfl rfl rfl) rfl rfl rfl ?_
      refine At.val (Val.move rfl) rfl rfl rfl ?_
      refine At.split (t := 31) rfl (fun h3 => ?_) (fun h3 => ?_)
      · skip
        try simp only [vN_T, vN_F, nmE_T, nmE_F, wI_T, wI_F, data_T, data_F, ino_T, ino_F, notT, notF, bneT, bneF, beqT, beqF, decT, decF] at h3
        have hno : ¬ OkSv l := fun h => by have := h.2.2.2.1; omega
        refine At.no rfl rfl rfl rfl ?_
        refine At.no rfl rfl rfl rfl ?_
        refine At.no rfl rfl rfl rfl ?_
        refine At.no rfl rfl rfl rfl ?_
        refine At.no rfl rfl rfl rfl ?_
        refine At.no rfl rfl rfl rfl ?_
        refine At.no rfl rfl rfl rfl ?_
        refine At.val (Val.pickT rfl rfl) rfl rfl rfl ?_
        refine At.nil ?_
        refine At.thenN ?_
        refine At.condT rfl ?_
        refine At.seq ?_
        refine At.region ?_
        refine At.val (Val.build (fun a ha => by simp only [List.map_toArray, List.map_cons, List.map_nil] <;> rfl) (bld_74_)) rfl rfl rfl ?_
        refine At.storeAll (i := 0) Tryd.sizeOf74 rfl rfl rfl (by simp [Value.oneCell']) rfl rfl ?_
        simp only [List.set_cons_zero, List.set_cons_succ]
        refine At.val (Val.assign rfl) rfl rfl rfl ?_
        refine At.nil ?_
        refine At.thenN ?_
        refine At.retC ?_
        refine At.thenR ?_
        refine At.ret2 (.inl rfl) rfl rfl (ResOf.all (i := 0) Tryd.isAgg74 Tryd.sizeOf74 rfl rfl rfl) rfl (fun w hw => ?_)
        exact ⟨.slice none 0 0, by rw [oE_no hno, oT_no hno]; try rfl, by rw [oL_no hno]; exact ((hw.drop (List.nil_sublist _)).f0).nilRow _ _⟩
      · skip
        try simp only [vN_T, vN_F, nmE_T, nmE_F, wI_T, wI_F, data_T, data_F, ino_T, ino_F, notT, notF, bneT, bneF, beqT, beqF, decT, decF] at h3
        refine At.yes rfl rfl ?_
        refine At.val (Val.move rfl) rfl rfl rfl ?_
        refine At.yes rfl rfl ?_
        refine At.val (Val.lenRd hv Tryd.underlying54 rfl) rfl rfl rfl ?_
        refine At.yes rfl rfl ?_
        refine At.val (Val.move rfl) rfl rfl rfl ?_
        refine At.yes rfl rfl ?_
        first | refine At.val (Val.toI Tryd.underlying48 Tryd.underlying3 rfl (by omega) (by omega)) rfl rfl rfl ?_ | refine At.val (Val.conv Tryd.underlying48 Tryd.underlying3 rfl) rfl rfl rfl ?_
        refine At.yes rfl rfl ?_
        first | refine At.val (Val.mulI rfl rfl (by omega) (by omega)) rfl rfl rfl ?_ | refine At.val (Val.bin rfl rfl rfl) rfl rfl rfl ?_
        refine At.yes rfl rfl ?_
        first | refine At.val (Val.addI rfl rfl (by omega) (by omega)) rfl rfl rfl ?_ | refine At.val (Val.bin rfl rfl rfl) rfl rfl rfl ?_
        refine At.yes rfl rfl ?_
        refine At.val (Val.bin rfl rfl rfl) rfl rfl rfl ?_
        refine At.val (Val.pickF rfl rfl) rfl rfl rfl ?_
        refine At.nil ?_
        refine At.thenN ?_
        refine At.cond rfl (fun h4 => ?_) (fun h4 => ?_)
        · skip
          try simp only [vN_T, vN_F, nmE_T, nmE_F, wI_T, wI_F, data_T, data_F, ino_T, ino_F, notT, notF, bneT, bneF, beqT, beqF, decT, decF] at h4
          have hno : ¬ OkSv l := fun h => by have := h.2.2.2.2.1; omega
          refine At.seq ?_
          refine At.region ?_
          refine At.val (Val.build (fun a ha => by simp only [List.map_toArray, List.map_cons, List.map_nil] <;> rfl) (bld_74_)) rfl rfl rfl ?_
          refine At.storeAll (i := 0) Tryd.sizeOf74 rfl rfl rfl (by simp [Value.oneCell']) rfl rfl ?_
          simp only [List.set_cons_zero, List.set_cons_succ]
          refine At.val (Val.assign rfl) rfl rfl rfl ?_
          refine At.nil ?_
          refine At.thenN ?_
          refine At.retC ?_
          refine At.thenR ?_
          refine At.ret2 (.inl rfl) rfl rfl (ResOf.all (i := 0) Tryd.isAgg74 Tryd.sizeOf74 rfl rfl rfl) rfl (fun w hw => ?_)
          exact ⟨.slice none 0 0, by rw [oE_no hno, oT_no hno]; try rfl, by rw [oL_no hno]; exact ((hw.drop (List.nil_sublist _)).f0).nilRow _ _⟩
        · skip
          try simp only [vN_T, vN_F, nmE_T, nmE_F, wI_T, wI_F, data_T, data_F, ino_T, ino_F, notT, notF, bneT, bneF, beqT, beqF, decT, decF] at h4
          have hn249 : svN l ≤ 249 := by omega
          have hl4 : 24 + 4 * svN l ≤ l.length := by omega
          refine At.skipC ?_
          refine At.thenN ?_
          refine At.seq ?_
          refine At.region ?_
          refine At.val (Val.move rfl) rfl rfl rfl ?_
          refine At.val (Val.build (fun a ha => by simp only [List.map_toArray, List.map_cons, List.map_nil, ha.eval (x := (.tmp 41)) rfl] <;> rfl) (bld_74_0 _ )) rfl rfl rfl ?_
          refine At.alloc Tryd.zeroValue74 rfl rfl (fun b5 => ?_)
          refine At.storeAll (i := 0) Tryd.sizeOf74 rfl rfl rfl (by simp [Value.oneCell']) rfl rfl ?_
          simp only [List.set_cons_zero, List.set_cons_succ]
          refine At.nil ?_
          refine At.thenN ?_
          refine At.seq ?_
          refine At.seq ?_
          refine At.region ?_
          refine At.val (Val.assign rfl) rfl rfl rfl ?_
          refine At.nil ?_
          refine At.rowNilS 88 ?_
          refine At.thenN ?_
          refine At.block ?_
          skip
          refine At.loop (σ := Nat × Value) (fun s => s.1 ≤ svN l) (fun s => [(0, v), (2, .pointer (some ⟨b1, 0, none⟩)), (6, .int .u32 (svN l : Int)), (8, .pointer (some ⟨b5, 0, none⟩)), (9, .int .i64 (s.1 : Int))]) (fun s => [srow 88 s.2 (spRec l s.1), blk b5 74 [b32 (svT l), s.2], blk b1 74 [.int .u32 0, .slice none 0 0]]) (fun s => svN l - s.1) (0, .slice none 0 0) (Nat.zero_le _) (Sub.cons rfl (Sub.cons rfl (Sub.cons rfl (Sub.cons rfl (Sub.cons rfl Sub.nil))))) (List.Perm.refl _) ?_
          intro s hs
          obtain ⟨k, vk⟩ := s
          dsimp only at hs ⊢
          have hn2 := num_lt (l := l) (24 + 4 * k) 2
          have hn3 := num_lt (l := l) (24 + 4 * k + 2) 2
          refine At.seq ?_
          refine At.seq ?_
          refine At.region ?_
          refine At.val (Val.move rfl) rfl rfl rfl ?_
          refine At.val (Val.move rfl) rfl rfl rfl ?_
          first | refine At.val (Val.toI Tryd.underlying48 Tryd.underlying3 rfl (by omega) (by omega)) rfl rfl rfl ?_ | refine At.val (Val.conv Tryd.underlying48 Tryd.underlying3 rfl) rfl rfl rfl ?_
          refine At.val (Val.bin rfl rfl rfl) rfl rfl rfl ?_
          refine At.nil ?_
          refine At.thenN ?_
          refine At.cond rfl (fun h6 => ?_) (fun h6 => ?_)
          · skip
            try simp only [vN_T, vN_F, nmE_T, nmE_F, wI_T, wI_F, data_T, data_F, ino_T, ino_F, notT, notF, bneT, bneF, beqT, beqF, decT, decF] at h6
            have hk : k < svN l := by omega
            refine At.skipC ?_
            refine At.thenN ?_
            refine At.seq ?_
            refine At.block ?_
            refine At.seq ?_
            refine At.region ?_
            refine At.val (Val.move rfl) rfl rfl rfl ?_
            refine At.val (Val.move rfl) rfl rfl rfl ?_
            first | refine At.val (Val.mulI rfl rfl (by omega) (by omega)) rfl rfl rfl ?_ | refine At.val (Val.bin rfl rfl rfl) rfl rfl rfl ?_
            refine At.val (Val.addI rfl rfl (by omega) (by omega)) rfl rfl rfl ?_
            rw [show (24 : Int) + 4 * (k : Int) = ((24 + 4 * k : Nat) : Int) from by omega]
            refine At.callP (fun w hw => halfS_p v l (24 + 4 * k) w (hv.mod hw.mod) hlen (by omega)) Tryd.call109 rfl rfl ?_
            refine At.val (Val.move rfl) rfl rfl rfl ?_
            refine At.val (Val.extract rfl rfl) rfl rfl rfl ?_
            refine At.val (Val.extract rfl rfl) rfl rfl rfl ?_
            refine At.val (Val.assign rfl) rfl rfl rfl ?_
            refine At.val (Val.assign rfl) rfl rfl rfl ?_
            refine At.nil ?_
            refine At.thenN ?_
            refine At.region ?_
            refine At.val (Val.field 1 rfl fo_74_1 rfl) rfl rfl rfl ?_
            refine At.val (Val.load (i := 1) Tryd.isAgg72 rfl rfl rfl) rfl rfl rfl ?_
            refine At.val (Val.move rfl) rfl rfl rfl ?_
            first | refine At.val (Val.remI rfl rfl (by omega) (by decide)) rfl rfl rfl ?_ | refine At.val (Val.rem rfl rfl (by decide)) rfl rfl rfl ?_
            refine At.val (Val.toI Tryd.underlying48 Tryd.underlying3 rfl (by omega) (by omega)) rfl rfl rfl ?_
            rw [show ((num l (24 + 4 * k) 4 : Nat) : Int) % 65536 = ((num l (24 + 4 * k) 2 : Nat) : Int) from by have := (num4_div (l := l) (a := 24 + 4 * k) (by omega)).1; omega]
            refine At.val (Val.move rfl) rfl rfl rfl ?_
            refine At.val (Val.quo rfl rfl (by decide)) rfl rfl rfl ?_
            rw [show IntKind.u32.wrap (((num l (24 + 4 * k) 4 : Nat) : Int).tdiv 65536) = ((num l (24 + 4 * k + 2) 2 : Nat) : Int) from by rw [Int.tdiv_eq_ediv_of_nonneg (by omega)]; have h9 := (num4_div (l := l) (a := 24 + 4 * k) (by omega)).2; rw [wrap_u32 (by omega) (by omega)]; omega]
            first | refine At.val (Val.toI Tryd.underlying48 Tryd.underlying3 rfl (by omega) (by omega)) rfl rfl rfl ?_ | refine At.val (Val.conv Tryd.underlying48 Tryd.underlying3 rfl) rfl rfl rfl ?_
            refine At.val (Val.build (fun a ha => by simp only [List.map_toArray, List.map_cons, List.map_nil, ha.eval (x := (.tmp 61)) rfl, ha.eval (x := (.tmp 64)) rfl] <;> rfl) (bld_88_0_1 _ _ )) rfl rfl rfl ?_
            refine At.buildSl (fun a ha => by simp only [List.map_toArray, List.map_cons, List.map_nil, ha.eval (x := (.tmp 65)) rfl]; try rfl) (bs_72_1 _ _ ) rfl (fun b7 => ?_)
            refine At.appendS1 (i := 1) (j := 0) (by_ := 16) Tryd.underlying72 info_88 rfl rfl rfl rfl rfl rfl rfl rfl (by rw [spRec_length]; omega) (by rw [spRec_length]; omega) rfl (fun v8 => ?_)
            simp only [List.set_cons_zero, List.set_cons_succ]
            refine At.drop 0 ?_
            simp only [List.eraseIdx_cons_zero, List.eraseIdx_cons_succ]
            refine At.val (Val.field 1 rfl fo_74_1 rfl) rfl rfl rfl ?_
            refine At.rowOne (i := 0) rfl (fun ho9 => ?_)
            refine At.store (i := 1) Tryd.sizeOf72 rfl rfl ho9 rfl (by first | decide | simp) ?_
            simp only [List.set_cons_zero, List.set_cons_succ]
            refine At.nil ?_
            refine At.blkN ?_
            refine At.thenN ?_
            refine At.region ?_
            refine At.val (Val.move rfl) rfl rfl rfl ?_
            first | refine At.val (Val.addI rfl rfl (by omega) (by omega)) rfl rfl rfl ?_ | refine At.val (Val.bin rfl rfl rfl) rfl rfl rfl ?_
            refine At.val (Val.assign rfl) rfl rfl rfl ?_
            refine At.nil ?_
            refine At.thenN ?_
            exact At.again (k + 1, v8) (show k + 1 ≤ _ by omega) (by dsimp only; omega) (Sub.cons rfl (Sub.cons rfl (Sub.cons rfl (Sub.cons rfl (Sub.cons (congrArg (fun z => some (Value.int IntKind.i64 z)) (by omega)) Sub.nil))))) (by rw [spRec_succ])
          · skip
            try simp only [vN_T, vN_F, nmE_T, nmE_F, wI_T, wI_F, data_T, data_F, ino_T, ino_F, notT, notF, bneT, bneF, beqT, beqF, decT, decF] at h6
            obtain rfl : k = svN l := by omega
            refine At.exitC ?_
            refine At.thenX ?_
            refine At.thenX ?_
            refine At.blkX ?_
            refine At.thenN ?_
            refine At.seq ?_
            refine At.region ?_
            refine At.val (Val.loadAll (i := 1) Tryd.isAgg74 Tryd.sizeOf74 rfl rfl rfl) rfl rfl rfl ?_
            refine At.callNT (g := (fun v => .tuple #[v, .int .i64 (svE (svT l) (spRec l (svN l)))])) (fun w hw => packSvR_n (svT l) _ (spRec l (svN l)) w (row_rd (hw.row (i := 0) rfl) (by decide)) (by rw [spRec_length]; omega)) Tryd.call46 rfl rfl (fun v10 => ?_)
            by_cases hg : GoodSv (svT l) (spRec l (svN l))
            · skip
              rw [svE_T hg]
              have hpl : (svP (svT l) (spRec l (svN l))).length = 24 + 4 * svN l + 4 * (svN l % 2) := by rw [svP_T hg, svB_length, spRec_length]
              refine At.val (Val.move rfl) rfl rfl rfl ?_
              refine At.val (Val.extract rfl rfl) rfl rfl rfl ?_
              refine At.val (Val.extract rfl rfl) rfl rfl rfl ?_
              refine At.val (Val.assign rfl) rfl rfl rfl ?_
              refine At.val (Val.assign rfl) rfl rfl rfl ?_
              refine At.nil ?_
              refine At.thenN ?_
              refine At.seq ?_
              refine At.seq ?_
              refine At.region ?_
              refine At.val (Val.move rfl) rfl rfl rfl ?_
              refine At.val (Val.bin rfl rfl rfl) rfl rfl rfl ?_
              refine At.nil ?_
              refine At.thenN ?_
              refine At.condF rfl ?_
              refine At.skipC ?_
              refine At.thenN ?_
              refine At.seq ?_
              refine At.seq ?_
              refine At.region ?_
              refine At.val (Val.assign rfl) rfl rfl rfl ?_
              refine At.nil ?_
              refine At.thenN ?_
              refine At.block ?_
              skip
              refine At.loop (σ := Nat) (fun k => k ≤ 24 + 4 * svN l ∧ ∀ i, i < k → (svP (svT l) (spRec l (svN l)))[i]? = l[i]?) (fun k => [(0, v), (2, .pointer (some ⟨b1, 0, none⟩)), (6, .int .u32 (svN l : Int)), (8, .pointer (some ⟨b5, 0, none⟩)), (12, v10), (14, .int .i64 (k : Int))]) (fun k => [rowR v10 5 1 ((svP (svT l) (spRec l (svN l))).length) ((svP (svT l) (spRec l (svN l))).map bv), rowR vk 88 2 (((spRec l (svN l))).length) (prS ((spRec l (svN l)))), blk b5 74 ([b32 (svT l), vk]), blk b1 74 ([.int .u32 0, .slice none 0 0])]) (fun k => 24 + 4 * svN l - k) 0 ⟨Nat.zero_le _, fun i h => absurd h (Nat.not_lt_zero _)⟩ (Sub.cons rfl (Sub.cons rfl (Sub.cons rfl (Sub.cons rfl (Sub.cons rfl (Sub.cons rfl Sub.nil)))))) (List.Perm.refl _) ?_
              intro k hs
              refine At.seq ?_
              refine At.seq ?_
              refine At.region ?_
              refine At.val (Val.move rfl) rfl rfl rfl ?_
              refine At.val (Val.move rfl) rfl rfl rfl ?_
              first | refine At.val (Val.toI Tryd.underlying48 Tryd.underlying3 rfl (by omega) (by omega)) rfl rfl rfl ?_ | refine At.val (Val.conv Tryd.underlying48 Tryd.underlying3 rfl) rfl rfl rfl ?_
              first | refine At.val (Val.mulI rfl rfl (by omega) (by omega)) rfl rfl rfl ?_ | refine At.val (Val.bin rfl rfl rfl) rfl rfl rfl ?_
              first | refine At.val (Val.addI rfl rfl (by omega) (by omega)) rfl rfl rfl ?_ | refine At.val (Val.bin rfl rfl rfl) rfl rfl rfl ?_
              refine At.val (Val.bin rfl rfl rfl) rfl rfl rfl ?_
              refine At.nil ?_
              refine At.thenN ?_
              refine At.cond rfl (fun h11 => ?_) (fun h11 => ?_)
              · skip
                try simp only [vN_T, vN_F, nmE_T, nmE_F, wI_T, wI_F, data_T, data_F, ino_T, ino_F, notT, notF, bneT, bneF, beqT, beqF, decT, decF] at h11
                have hk : k < 24 + 4 * svN l := by omega
                refine At.skipC ?_
                refine At.thenN ?_
                refine At.seq ?_
                refine At.block ?_
                refine At.seq ?_
                refine At.quiet rfl (by decide +kernel) ?_
                refine QAt.val (Val.move rfl) rfl rfl rfl ?_
                refine QAt.val (Val.move rfl) rfl rfl rfl ?_
                refine QAt.idxRowB (i := 0) rfl Tryd.underlying54 Tryd.sizeOf5 rfl rfl (by omega) (by omega) rfl rfl (fun q12 hq13 hl14 => ?_)
                refine QAt.val (Val.loadRowB (i := 0) Tryd.isAgg5 rfl rfl hq13) rfl rfl rfl ?_
                refine QAt.val (Val.move rfl) rfl rfl rfl ?_
                refine QAt.val (Val.move rfl) rfl rfl rfl ?_
                refine QAt.idxB hv Tryd.underlying54 Tryd.sizeOf5 rfl rfl (by omega) (by omega) rfl rfl (fun b15 o16 q17 hq18 hl19 hc20 => ?_)
                refine QAt.val (Val.loadOld Tryd.isAgg5 rfl hc20 (fun h => h)) rfl rfl rfl ?_
                refine QAt.val (Val.bin rfl rfl rfl) rfl rfl rfl ?_
                refine QAt.fin ?_
                refine At.thenN ?_
                refine At.cond rfl (fun h21 => ?_) (fun h21 => ?_)
                · skip
                  try simp only [vN_T, vN_F, nmE_T, nmE_F, wI_T, wI_F, data_T, data_F, ino_T, ino_F, notT, notF, bneT, bneF, beqT, beqF, decT, decF] at h21
                  refine At.seq ?_
                  refine At.region ?_
                  refine At.val (Val.build (fun a ha => by simp only [List.map_toArray, List.map_cons, List.map_nil] <;> rfl) (bld_74_)) rfl rfl rfl ?_
                  refine At.storeAll (i := 3) Tryd.sizeOf74 rfl rfl rfl (by simp [Value.oneCell']) rfl rfl ?_
                  simp only [List.set_cons_zero, List.set_cons_succ]
                  refine At.val (Val.assign rfl) rfl rfl rfl ?_
                  refine At.nil ?_
                  refine At.thenN ?_
                  refine At.retC ?_
                  refine At.blkR ?_
                  refine At.thenR ?_
                  refine At.thenR ?_
                  refine At.blkR ?_
                  refine At.thenR ?_
                  refine At.ret2 (.inl rfl) rfl rfl (ResOf.all (i := 3) Tryd.isAgg74 Tryd.sizeOf74 rfl rfl rfl) rfl (fun w hw => ?_)
                  have hno : ¬ OkSv l := fun h => cmpV_ne hq13 hq18 (by assumption) (sv_same h (by omega))
                  exact ⟨.slice none 0 0, by rw [oE_no hno, oT_no hno]; try rfl, by rw [oL_no hno]; exact ((hw.drop (List.nil_sublist _)).f0).nilRow _ _⟩
                · skip
                  try simp only [vN_T, vN_F, nmE_T, nmE_F, wI_T, wI_F, data_T, data_F, ino_T, ino_F, notT, notF, bneT, bneF, beqT, beqF, decT, decF] at h21
                  refine At.skipC ?_
                  refine At.blkN ?_
                  refine At.thenN ?_
                  refine At.region ?_
                  refine At.val (Val.move rfl) rfl rfl rfl ?_
                  first | refine At.val (Val.addI rfl rfl (by omega) (by omega)) rfl rfl rfl ?_ | refine At.val (Val.bin rfl rfl rfl) rfl rfl rfl ?_
                  refine At.val (Val.assign rfl) rfl rfl rfl ?_
                  refine At.nil ?_
                  refine At.thenN ?_
                  exact At.again (k + 1) ⟨by omega, fun i hi => by rcases Nat.lt_or_ge i k with h' | h'; exact hs.2 i h'; obtain rfl : k = i := (by omega); exact cmpV_eq hq13 hq18 (by omega)⟩ (by omega) (Sub.cons rfl (Sub.cons rfl (Sub.cons rfl (Sub.cons rfl (Sub.cons rfl (Sub.cons (congrArg (fun z => some (Value.int IntKind.i64 z)) (by omega)) Sub.nil)))))) (List.Perm.refl _)
              · skip
                try simp only [vN_T, vN_F, nmE_T, nmE_F, wI_T, wI_F, data_T, data_F, ino_T, ino_F, notT, notF, bneT, bneF, beqT, beqF, decT, decF] at h11
                obtain rfl : k = 24 + 4 * svN l := by omega
                refine At.exitC ?_
                refine At.thenX ?_
                refine At.thenX ?_
                refine At.blkX ?_
                refine At.thenN ?_
                refine At.seq ?_
                refine At.rowOne (i := 1) rfl (fun ho => ?_)
                refine At.region ?_
                refine At.val (Val.loadAll (i := 2) Tryd.isAgg74 Tryd.sizeOf74 rfl rfl rfl) rfl rfl rfl ?_
                refine At.storeAll (i := 3) Tryd.sizeOf74 rfl rfl rfl (by intro u hu; rcases List.mem_cons.1 hu with rfl | hu; rfl; obtain rfl := List.mem_singleton.1 hu; exact ho) rfl rfl ?_
                simp only [List.set_cons_zero, List.set_cons_succ]
                refine At.val (Val.assign rfl) rfl rfl rfl ?_
                refine At.nil ?_
                refine At.thenN ?_
                refine At.retC ?_
                refine At.ret2 (.inl rfl) rfl rfl (ResOf.all (i := 3) Tryd.isAgg74 Tryd.sizeOf74 rfl rfl rfl) rfl (fun w hw => ?_)
                have hok : OkSv l := sv_back h24 hn249 hl4 hg hs.2
                exact ⟨vk, by rw [oE_yes hok, oT_yes hok]; try rfl, by rw [oL_yes hok]; exact (hw.drop (List.singleton_sublist.2 (List.mem_of_getElem? (i := 1) rfl))).f0⟩
            · skip
              rw [svE_F hg]
              have hno : ¬ OkSv l := fun h => hg h.2.2.2.2.2.2
              refine At.val (Val.move rfl) rfl rfl rfl ?_
              refine At.val (Val.extract rfl rfl) rfl rfl rfl ?_
              refine At.val (Val.extract rfl rfl) rfl rfl rfl ?_
              refine At.val (Val.assign rfl) rfl rfl rfl ?_
              refine At.val (Val.assign rfl) rfl rfl rfl ?_
              refine At.nil ?_
              refine At.thenN ?_
              refine At.seq ?_
              refine At.seq ?_
              refine At.region ?_
              refine At.val (Val.move rfl) rfl rfl rfl ?_
              refine At.val (Val.bin rfl rfl rfl) rfl rfl rfl ?_
              refine At.nil ?_
              refine At.thenN ?_
              refine At.condT rfl ?_
              refine At.seq ?_
              refine At.region ?_
              refine At.val (Val.build (fun a ha => by simp only [List.map_toArray, List.map_cons, List.map_nil] <;> rfl) (bld_74_)) rfl rfl rfl ?_
              refine At.storeAll (i := 3) Tryd.sizeOf74 rfl rfl rfl (by simp [Value.oneCell']) rfl rfl ?_
              simp only [List.set_cons_zero, List.set_cons_succ]
              refine At.val (Val.assign rfl) rfl rfl rfl ?_
              refine At.nil ?_
              refine At.thenN ?_
              refine At.retC ?_
              refine At.thenR ?_
              refine At.ret2 (.inl rfl) rfl rfl (ResOf.all (i := 3) Tryd.isAgg74 Tryd.sizeOf74 rfl rfl rfl) rfl (fun w hw => ?_)
              exact ⟨.slice none 0 0, by rw [oE_no hno, oT_no hno]; try rfl, by rw [oL_no hno]; exact ((hw.drop (List.nil_sublist _)).f0).nilRow _ _⟩

end Go.Proofs.YtoiebgnmknbkjaaDoor
