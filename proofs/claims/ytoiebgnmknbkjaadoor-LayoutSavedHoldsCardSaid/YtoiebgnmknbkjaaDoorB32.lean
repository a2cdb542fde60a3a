/- The document's records packed; halves. -/
import Derived.Test.YtoiebgnmknbkjaaDoorB31
import Derived.Test.YtoiebgnmknbkjaaDoorB1
import Derived.Test.YtoiebgnmknbkjaaDoorB3
import Derived.Test.YtoiebgnmknbkjaaDoorE1
set_option linter.unusedVariables false
set_option linter.unusedSimpArgs false
namespace Go.Proofs.YtoiebgnmknbkjaaDoor
open Go Go.Wk

theorem rsumV_p (v : Value) (l : List UInt8) (w : World) (hv : RdB w v l) (hlen : l.length ≤ 140737488355328) : PureC Tryd.prog 106 [v] (b32 (sumOn 0 l)) w := by
  obtain ⟨A, c, rfl, hb, _⟩ := hv.bytes; exact rsum_p A l c w hb hlen

theorem packSvR_n (t : BitVec 32) (v : Value) (L : List (Int × Int)) (w : World) (hv : RdS w v L) (hlen : L.length ≤ 8796093022144) :
    NewRowT Tryd.prog 46 [.agg #[b32 t, v]] (fun v => .tuple #[v, .int .i64 (svE t L)]) 5 1 (svP t L).length ((svP t L).map bv) w := by
  refine enter0 Tryd.func46 rfl Tryd.ntmps46 rfl ?_
  simp only [envOf]
  refine At.seq ?_
  refine At.region ?_
  refine At.box rfl rfl rfl (fun b1 => ?_)
  refine At.val (Val.assign rfl) rfl rfl rfl ?_
  refine At.val (Val.assign rfl) rfl rfl rfl ?_
  refine At.nil ?_
  refine At.thenN ?_
  refine At.seq ?_
  refine At.region ?_
  refine At.val (Val.loadAll (i := 0) Tryd.isAgg74 Tryd.sizeOf74 rfl rfl rfl) rfl rfl rfl ?_
  refine At.callP (fun w hw => goodSvR_p t v L w (hv.mod hw.mod) hlen) Tryd.call105 rfl rfl ?_
  refine At.val (Val.assign rfl) rfl rfl rfl ?_
  refine At.nil ?_
  refine At.thenN ?_
  refine At.seq ?_
  refine At.seq ?_
  refine At.region ?_
  refine At.val (Val.move rfl) rfl rfl rfl ?_
  refine At.val (Val.not rfl) rfl rfl rfl ?_
  refine At.nil ?_
  refine At.thenN ?_
  refine At.cond rfl (fun h2 => ?_) (fun h2 => ?_)
  · skip
    try simp only [vN_T, vN_F, nmE_T, nmE_F, wI_T, wI_F, data_T, data_F, ino_T, ino_F, notT, notF, bneT, bneF, beqT, beqF, decT, decF] at h2
    have hg : ¬ GoodSv t L := by simpa using h2
    refine At.seq ?_
    refine At.region ?_
    refine At.val (Val.assign rfl) rfl rfl rfl ?_
    refine At.val (Val.assign rfl) rfl rfl rfl ?_
    refine At.nil ?_
    refine At.rowNilB 5 ?_
    refine At.thenN ?_
    refine At.retC ?_
    refine At.thenR ?_
    refine At.ret2 (.inl rfl) rfl rfl rfl rfl (fun w hw => ?_)
    exact ⟨_, by rw [svE_F hg], by rw [svP_F hg]; exact (hw.drop (List.singleton_sublist.2 (List.mem_of_getElem? (i := 0) rfl))).f0⟩
  · skip
    try simp only [vN_T, vN_F, nmE_T, nmE_F, wI_T, wI_F, data_T, data_F, ino_T, ino_F, notT, notF, bneT, bneF, beqT, beqF, decT, decF] at h2
    have hg : GoodSv t L := by simpa using h2
    have hL : L.length ≤ 249 := hg.2.1
    have hti := t.isLt
    have hhl := hd20_length t L.length
    have hsl := spB_length L
    refine At.skipC ?_
    refine At.thenN ?_
    refine At.seq ?_
    refine At.region ?_
    refine At.val (Val.assign rfl) rfl rfl rfl ?_
    refine At.nil ?_
    refine At.rowNilB 5 ?_
    refine At.thenN ?_
    refine At.seq ?_
    refine At.region ?_
    refine At.val (Val.move rfl) rfl rfl rfl ?_
    refine At.callR 0 rfl (fun w hw hr => letters_p _ ([] : List UInt8) ⟨#[70, 85, 82, 82, 79, 87, 83, 86]⟩ w hr (by decide)) Tryd.call78 rfl rfl (fun v3 => ?_)
    simp only [List.set_cons_zero, List.set_cons_succ]
    refine At.val (Val.assign rfl) rfl rfl rfl ?_
    refine At.nil ?_
    rw [show (([] : List UInt8) ++ (⟨#[70, 85, 82, 82, 79, 87, 83, 86]⟩ : ByteArray).data.toList) = magic from rfl]
    refine At.thenN ?_
    refine At.seq ?_
    refine At.region ?_
    refine At.val (Val.move rfl) rfl rfl rfl ?_
    refine At.val (Val.field 0 rfl fo_74_0 rfl) rfl rfl rfl ?_
    refine At.val (Val.load (i := 1) Tryd.isAgg48 rfl rfl rfl) rfl rfl rfl ?_
    first | refine At.val (Val.toU Tryd.underlying48 Tryd.underlying40 rfl (by omega) (by omega)) rfl rfl rfl ?_ | refine At.val (Val.conv Tryd.underlying48 Tryd.underlying40 rfl) rfl rfl rfl ?_
    refine At.callR 0 rfl (fun w hw hr => rlay_p _ magic (t.toNat) 4 w hr (by omega) (by decide) (by decide)) Tryd.call79 rfl rfl (fun v4 => ?_)
    simp only [List.set_cons_zero, List.set_cons_succ]
    refine At.val (Val.assign rfl) rfl rfl rfl ?_
    refine At.nil ?_
    refine At.thenN ?_
    refine At.seq ?_
    refine At.region ?_
    refine At.val (Val.move rfl) rfl rfl rfl ?_
    refine At.callR 0 rfl (fun w hw hr => rlay_p _ (magic ++ le 4 (t.toNat)) (0) 4 w hr (by decide) (by decide) (by rw [List.length_append, le_length]; decide)) Tryd.call79 rfl rfl (fun v5 => ?_)
    simp only [List.set_cons_zero, List.set_cons_succ]
    refine At.val (Val.assign rfl) rfl rfl rfl ?_
    refine At.nil ?_
    refine At.thenN ?_
    refine At.seq ?_
    refine At.region ?_
    refine At.val (Val.move rfl) rfl rfl rfl ?_
    refine At.val (Val.field 1 rfl fo_74_1 rfl) rfl rfl rfl ?_
    refine At.val (Val.load (i := 1) Tryd.isAgg72 rfl rfl rfl) rfl rfl rfl ?_
    refine At.val (Val.lenRd hv Tryd.underlying72 rfl) rfl rfl rfl ?_
    first | refine At.val (Val.toU Tryd.underlying3 Tryd.underlying40 rfl (by omega) (by omega)) rfl rfl rfl ?_ | refine At.val (Val.conv Tryd.underlying3 Tryd.underlying40 rfl) rfl rfl rfl ?_
    refine At.callR 0 rfl (fun w hw hr => rlay_p _ ((magic ++ le 4 (t.toNat)) ++ le 4 (0)) (L.length) 4 w hr (by omega) (by decide) (by rw [List.length_append, List.length_append, le_length, le_length]; decide)) Tryd.call79 rfl rfl (fun v6 => ?_)
    simp only [List.set_cons_zero, List.set_cons_succ]
    refine At.val (Val.assign rfl) rfl rfl rfl ?_
    refine At.nil ?_
    rw [show (magic ++ le 4 t.toNat ++ le 4 0 ++ le 4 L.length) = (hd20 t L.length) from rfl]
    refine At.thenN ?_
    refine At.seq ?_
    refine At.region ?_
    refine At.val (Val.assign rfl) rfl rfl rfl ?_
    refine At.nil ?_
    refine At.rowNilB 5 ?_
    refine At.thenN ?_
    refine At.seq ?_
    refine At.seq ?_
    refine At.region ?_
    refine At.val (Val.assign rfl) rfl rfl rfl ?_
    refine At.nil ?_
    refine At.thenN ?_
    refine At.block ?_
    skip
    refine At.loop (σ := Nat × Value) (fun s => s.1 ≤ L.length) (fun s => [(1, .pointer (some ⟨b1, 0, none⟩)), (5, v6), (6, s.2), (7, .int .i64 (s.1 : Int))]) (fun s => [brow 5 s.2 (spB (L.take s.1)), brow 5 v6 (hd20 t L.length), blk b1 74 [b32 t, v]]) (fun s => L.length - s.1) (0, (.slice none 0 0)) (Nat.zero_le _) (Sub.cons rfl (Sub.cons rfl (Sub.cons rfl (Sub.cons rfl Sub.nil)))) (List.Perm.refl _) ?_
    intro s hs
    obtain ⟨k, vk⟩ := s
    dsimp only at hs ⊢
    refine At.seq ?_
    refine At.seq ?_
    refine At.region ?_
    refine At.val (Val.move rfl) rfl rfl rfl ?_
    refine At.val (Val.field 1 rfl fo_74_1 rfl) rfl rfl rfl ?_
    refine At.val (Val.load (i := 2) Tryd.isAgg72 rfl rfl rfl) rfl rfl rfl ?_
    refine At.val (Val.lenRd hv Tryd.underlying72 rfl) rfl rfl rfl ?_
    refine At.val (Val.bin rfl rfl rfl) rfl rfl rfl ?_
    refine At.nil ?_
    refine At.thenN ?_
    refine At.cond rfl (fun h7 => ?_) (fun h7 => ?_)
    · skip
      try simp only [vN_T, vN_F, nmE_T, nmE_F, wI_T, wI_F, data_T, data_F, ino_T, ino_F, notT, notF, bneT, bneF, beqT, beqF, decT, decF] at h7
      have hk : k < L.length := by omega
      refine At.skipC ?_
      refine At.thenN ?_
      refine At.seq ?_
      refine At.block ?_
      refine At.seq ?_
      refine At.region ?_
      refine At.val (Val.move rfl) rfl rfl rfl ?_
      refine At.val (Val.field 1 rfl fo_74_1 rfl) rfl rfl rfl ?_
      refine At.val (Val.load (i := 2) Tryd.isAgg72 rfl rfl rfl) rfl rfl rfl ?_
      refine At.val (Val.move rfl) rfl rfl rfl ?_
      refine At.idxS hv Tryd.underlying72 Tryd.sizeOf88 rfl rfl (by omega) (by omega) rfl rfl (fun b8 o9 q10 hq11 hc12 hd13 => ?_)
      refine At.val (Val.field o9 rfl fo_88_0 rfl) rfl rfl rfl ?_
      refine At.val (Val.loadOld Tryd.isAgg3 rfl hc12 (fun h => h)) rfl rfl rfl ?_
      have hqk := hq11
      rw [Int.toNat_natCast] at hqk
      have hc := hg.2.2 k _ hk hqk
      have hlo := lo_bd (k := k) (fun j c hj hc => hg.2.2 j c (by omega) hc) (by omega)
      have hc2 := hc
      unfold OkSp at hc2
      refine At.val (Val.toU Tryd.underlying3 Tryd.underlying40 rfl (by omega) (by omega)) rfl rfl rfl ?_
      rw [show Value.int .u64 q10.1 = Value.int .u64 ((q10.1.toNat : Nat) : Int) from by congr 1; omega]
      refine At.callR 0 rfl (fun w hw hr => rlay_p _ (spB (L.take k)) (q10.1.toNat) 2 w hr (by omega) (by decide) (by rw [spB_length, List.length_take]; omega)) Tryd.call79 rfl rfl (fun v14 => ?_)
      simp only [List.set_cons_zero, List.set_cons_succ]
      refine At.val (Val.assign rfl) rfl rfl rfl ?_
      refine At.nil ?_
      refine At.thenN ?_
      refine At.region ?_
      refine At.val (Val.move rfl) rfl rfl rfl ?_
      refine At.val (Val.field 1 rfl fo_74_1 rfl) rfl rfl rfl ?_
      refine At.val (Val.load (i := 2) Tryd.isAgg72 rfl rfl rfl) rfl rfl rfl ?_
      refine At.val (Val.move rfl) rfl rfl rfl ?_
      refine At.idxS hv Tryd.underlying72 Tryd.sizeOf88 rfl rfl (by omega) (by omega) rfl rfl (fun b15 o16 q17 hq18 hc19 hd20 => ?_)
      refine At.val (Val.field (o16 + 1) rfl fo_88_1 rfl) rfl rfl rfl ?_
      refine At.val (Val.loadOld Tryd.isAgg3 rfl hd20 (fun h => h)) rfl rfl rfl ?_
      rw [sp_eq hq18 hqk]
      refine At.val (Val.toU Tryd.underlying3 Tryd.underlying40 rfl (by omega) (by omega)) rfl rfl rfl ?_
      rw [show Value.int .u64 q10.2 = Value.int .u64 ((q10.2.toNat : Nat) : Int) from by congr 1; omega]
      refine At.callR 0 rfl (fun w hw hr => rlay_p _ ((spB (L.take k)) ++ le 2 (q10.1.toNat)) (q10.2.toNat) 2 w hr (by omega) (by decide) (by rw [List.length_append, le_length, spB_length, List.length_take]; omega)) Tryd.call79 rfl rfl (fun v21 => ?_)
      simp only [List.set_cons_zero, List.set_cons_succ]
      refine At.val (Val.assign rfl) rfl rfl rfl ?_
      refine At.nil ?_
      refine At.blkN ?_
      refine At.thenN ?_
      refine At.region ?_
      refine At.val (Val.move rfl) rfl rfl rfl ?_
      first | refine At.val (Val.addI rfl rfl (by omega) (by omega)) rfl rfl rfl ?_ | refine At.val (Val.bin rfl rfl rfl) rfl rfl rfl ?_
      refine At.val (Val.assign rfl) rfl rfl rfl ?_
      refine At.nil ?_
      refine At.thenN ?_
      exact At.again (k + 1, v21) (show k + 1 ≤ _ by omega) (by dsimp only; omega) (Sub.cons rfl (Sub.cons rfl (Sub.cons rfl (Sub.cons (congrArg (fun z => some (Value.int IntKind.i64 z)) (by omega)) Sub.nil)))) (by rw [List.take_succ_of_get hqk, spB_snoc])
    · skip
      try simp only [vN_T, vN_F, nmE_T, nmE_F, wI_T, wI_F, data_T, data_F, ino_T, ino_F, notT, notF, bneT, bneF, beqT, beqF, decT, decF] at h7
      obtain rfl : k = L.length := by omega
      rw [List.take_length]
      refine At.exitC ?_
      refine At.thenX ?_
      refine At.thenX ?_
      refine At.blkX ?_
      refine At.thenN ?_
      refine At.seq ?_
      refine At.region ?_
      refine At.val (Val.assign rfl) rfl rfl rfl ?_
      refine At.nil ?_
      refine At.rowNilB 5 ?_
      refine At.thenN ?_
      refine At.seq ?_
      refine At.seq ?_
      refine At.region ?_
      refine At.val (Val.assign rfl) rfl rfl rfl ?_
      refine At.nil ?_
      refine At.thenN ?_
      refine At.block ?_
      skip
      refine At.loop (σ := Nat × Value) (fun s => s.1 ≤ ((hd20 t L.length)).length) (fun s => [(1, .pointer (some ⟨b1, 0, none⟩)), (5, v6), (6, vk), (8, s.2), (9, .int .i64 (s.1 : Int))]) (fun s => [brow 5 s.2 (((hd20 t L.length)).take s.1), brow 5 vk (spB L), brow 5 v6 (hd20 t L.length), blk b1 74 [b32 t, v]]) (fun s => ((hd20 t L.length)).length - s.1) (0, (.slice none 0 0)) (Nat.zero_le _) (Sub.cons rfl (Sub.cons rfl (Sub.cons rfl (Sub.cons rfl (Sub.cons rfl Sub.nil))))) (by rw [List.take_zero]) ?_
      intro s hs
      obtain ⟨k, vm⟩ := s
      dsimp only at hs ⊢
      refine At.seq ?_
      refine At.seq ?_
      refine At.region ?_
      refine At.val (Val.move rfl) rfl rfl rfl ?_
      refine At.val (Val.move rfl) rfl rfl rfl ?_
      refine At.val (Val.lenRow (i := 2) Tryd.underlying54 rfl rfl) rfl rfl rfl ?_
      refine At.val (Val.bin rfl rfl rfl) rfl rfl rfl ?_
      refine At.nil ?_
      refine At.thenN ?_
      refine At.cond rfl (fun h22 => ?_) (fun h22 => ?_)
      · skip
        try simp only [vN_T, vN_F, nmE_T, nmE_F, wI_T, wI_F, data_T, data_F, ino_T, ino_F, notT, notF, bneT, bneF, beqT, beqF, decT, decF] at h22
        have hk : k < (hd20 t L.length).length := by omega
        refine At.skipC ?_
        refine At.thenN ?_
        refine At.seq ?_
        refine At.block ?_
        refine At.region ?_
        refine At.val (Val.move rfl) rfl rfl rfl ?_
        refine At.val (Val.move rfl) rfl rfl rfl ?_
        refine At.val (Val.move rfl) rfl rfl rfl ?_
        refine At.idxRowB (i := 2) rfl Tryd.underlying54 Tryd.sizeOf5 rfl rfl (by omega) (by omega) rfl rfl (fun q23 hq24 hl25 => ?_)
        refine At.val (Val.loadRowB (i := 2) Tryd.isAgg5 rfl rfl hq24) rfl rfl rfl ?_
        refine At.buildSl (fun a ha => by simp only [List.map_toArray, List.map_cons, List.map_nil, ha.eval (x := (.tmp 67)) rfl]; try rfl) (bs_54_1 _ ) rfl (fun b26 => ?_)
        refine At.appendB1 (i := 1) (j := 0) (by_ := 1) Tryd.underlying54 info_5 rfl rfl rfl rfl rfl rfl rfl rfl (by rw [List.length_take]; omega) (by rw [List.length_take]; omega) rfl (fun v27 => ?_)
        simp only [List.set_cons_zero, List.set_cons_succ]
        refine At.drop 0 ?_
        simp only [List.eraseIdx_cons_zero, List.eraseIdx_cons_succ]
        refine At.val (Val.assign rfl) rfl rfl rfl ?_
        refine At.nil ?_
        refine At.blkN ?_
        refine At.thenN ?_
        refine At.region ?_
        refine At.val (Val.move rfl) rfl rfl rfl ?_
        first | refine At.val (Val.addI rfl rfl (by omega) (by omega)) rfl rfl rfl ?_ | refine At.val (Val.bin rfl rfl rfl) rfl rfl rfl ?_
        refine At.val (Val.assign rfl) rfl rfl rfl ?_
        refine At.nil ?_
        refine At.thenN ?_
        exact At.again (k + 1, v27) (show k + 1 ≤ _ by omega) (by dsimp only; omega) (Sub.cons rfl (Sub.cons rfl (Sub.cons rfl (Sub.cons rfl (Sub.cons (congrArg (fun z => some (Value.int IntKind.i64 z)) (by omega)) Sub.nil))))) (by rw [List.take_succ_of_get (by have := hq24; rwa [Int.toNat_natCast] at this)])
      · skip
        try simp only [vN_T, vN_F, nmE_T, nmE_F, wI_T, wI_F, data_T, data_F, ino_T, ino_F, notT, notF, bneT, bneF, beqT, beqF, decT, decF] at h22
        obtain rfl : k = (hd20 t L.length).length := by omega
        rw [List.take_length]
        refine At.exitC ?_
        refine At.thenX ?_
        refine At.thenX ?_
        refine At.blkX ?_
        refine At.thenN ?_
        refine At.seq ?_
        refine At.seq ?_
        refine At.region ?_
        refine At.val (Val.assign rfl) rfl rfl rfl ?_
        refine At.nil ?_
        refine At.thenN ?_
        refine At.block ?_
        skip
        refine At.loop (σ := Nat × Value) (fun s => s.1 ≤ (spB L).length) (fun s => [(1, .pointer (some ⟨b1, 0, none⟩)), (5, v6), (6, vk), (8, s.2), (10, .int .i64 (s.1 : Int))]) (fun s => [brow 5 s.2 ((hd20 t L.length) ++ (spB L).take s.1), brow 5 vk (spB L), brow 5 v6 (hd20 t L.length), blk b1 74 [b32 t, v]]) (fun s => (spB L).length - s.1) (0, vm) (Nat.zero_le _) (Sub.cons rfl (Sub.cons rfl (Sub.cons rfl (Sub.cons rfl (Sub.cons rfl Sub.nil))))) (by rw [List.take_zero, List.append_nil]) ?_
        intro s hs
        obtain ⟨k, vn⟩ := s
        dsimp only at hs ⊢
        refine At.seq ?_
        refine At.seq ?_
        refine At.region ?_
        refine At.val (Val.move rfl) rfl rfl rfl ?_
        refine At.val (Val.move rfl) rfl rfl rfl ?_
        refine At.val (Val.lenRow (i := 1) Tryd.underlying54 rfl rfl) rfl rfl rfl ?_
        refine At.val (Val.bin rfl rfl rfl) rfl rfl rfl ?_
        refine At.nil ?_
        refine At.thenN ?_
        refine At.cond rfl (fun h28 => ?_) (fun h28 => ?_)
        · skip
          try simp only [vN_T, vN_F, nmE_T, nmE_F, wI_T, wI_F, data_T, data_F, ino_T, ino_F, notT, notF, bneT, bneF, beqT, beqF, decT, decF] at h28
          have hk : k < (spB L).length := by omega
          refine At.skipC ?_
          refine At.thenN ?_
          refine At.seq ?_
          refine At.block ?_
          refine At.region ?_
          refine At.val (Val.move rfl) rfl rfl rfl ?_
          refine At.val (Val.move rfl) rfl rfl rfl ?_
          refine At.val (Val.move rfl) rfl rfl rfl ?_
          refine At.idxRowB (i := 1) rfl Tryd.underlying54 Tryd.sizeOf5 rfl rfl (by omega) (by omega) rfl rfl (fun q29 hq30 hl31 => ?_)
          refine At.val (Val.loadRowB (i := 1) Tryd.isAgg5 rfl rfl hq30) rfl rfl rfl ?_
          refine At.buildSl (fun a ha => by simp only [List.map_toArray, List.map_cons, List.map_nil, ha.eval (x := (.tmp 80)) rfl]; try rfl) (bs_54_1 _ ) rfl (fun b32 => ?_)
          refine At.appendB1 (i := 1) (j := 0) (by_ := 1) Tryd.underlying54 info_5 rfl rfl rfl rfl rfl rfl rfl rfl (by rw [List.length_append, List.length_take]; omega) (by rw [List.length_append, List.length_take]; omega) rfl (fun v33 => ?_)
          simp only [List.set_cons_zero, List.set_cons_succ]
          refine At.drop 0 ?_
          simp only [List.eraseIdx_cons_zero, List.eraseIdx_cons_succ]
          refine At.val (Val.assign rfl) rfl rfl rfl ?_
          refine At.nil ?_
          refine At.blkN ?_
          refine At.thenN ?_
          refine At.region ?_
          refine At.val (Val.move rfl) rfl rfl rfl ?_
          first | refine At.val (Val.addI rfl rfl (by omega) (by omega)) rfl rfl rfl ?_ | refine At.val (Val.bin rfl rfl rfl) rfl rfl rfl ?_
          refine At.val (Val.assign rfl) rfl rfl rfl ?_
          refine At.nil ?_
          refine At.thenN ?_
          exact At.again (k + 1, v33) (show k + 1 ≤ _ by omega) (by dsimp only; omega) (Sub.cons rfl (Sub.cons rfl (Sub.cons rfl (Sub.cons rfl (Sub.cons (congrArg (fun z => some (Value.int IntKind.i64 z)) (by omega)) Sub.nil))))) (by rw [List.take_succ_of_get (by have := hq30; rwa [Int.toNat_natCast] at this), ← List.append_assoc])
        · skip
          try simp only [vN_T, vN_F, nmE_T, nmE_F, wI_T, wI_F, data_T, data_F, ino_T, ino_F, notT, notF, bneT, bneF, beqT, beqF, decT, decF] at h28
          obtain rfl : k = (spB L).length := by omega
          rw [List.take_length]
          refine At.exitC ?_
          refine At.thenX ?_
          refine At.thenX ?_
          refine At.blkX ?_
          refine At.thenN ?_
          refine At.seq ?_
          refine At.region ?_
          refine At.val (Val.move rfl) rfl rfl rfl ?_
          refine At.callP (fun w hw => (show PureC _ _ _ (b32 (svSum t L)) w from rsumV_p _ ((hd20 t L.length) ++ spB L) w (row_rd (hw.row (i := 0) rfl) (by decide)) (by rw [List.length_append]; omega))) Tryd.call106 rfl rfl ?_
          refine At.val (Val.assign rfl) rfl rfl rfl ?_
          refine At.nil ?_
          refine At.thenN ?_
          refine At.seq ?_
          have hsum := (svSum t L).isLt
          refine At.region ?_
          refine At.val (Val.move rfl) rfl rfl rfl ?_
          refine At.val (Val.move rfl) rfl rfl rfl ?_
          refine At.val (Val.toU Tryd.underlying48 Tryd.underlying40 rfl (by show (0 : Int) ≤ ((svSum t L).toNat : Int); omega) (by show ((svSum t L).toNat : Int) < _; omega)) rfl rfl rfl ?_
          refine At.callR 2 rfl (fun w hw hr => rlay_p _ (hd20 t L.length) ((svSum t L).toNat) 4 w hr (by omega) (by decide) (by omega)) Tryd.call79 rfl rfl (fun v34 => ?_)
          simp only [List.set_cons_zero, List.set_cons_succ]
          refine At.val (Val.assign rfl) rfl rfl rfl ?_
          refine At.nil ?_
          refine At.thenN ?_
          refine At.seq ?_
          refine At.seq ?_
          refine At.region ?_
          refine At.val (Val.assign rfl) rfl rfl rfl ?_
          refine At.nil ?_
          refine At.thenN ?_
          refine At.block ?_
          skip
          refine At.loop (σ := Nat × Value) (fun s => s.1 ≤ (spB L).length) (fun s => [(1, .pointer (some ⟨b1, 0, none⟩)), (6, vk), (5, s.2), (12, .int .i64 (s.1 : Int))]) (fun s => [brow 5 vn ((hd20 t L.length) ++ spB L), brow 5 vk (spB L), brow 5 s.2 ((hd20 t L.length) ++ le 4 (svSum t L).toNat ++ (spB L).take s.1), blk b1 74 [b32 t, v]]) (fun s => (spB L).length - s.1) (0, v34) (Nat.zero_le _) (Sub.cons rfl (Sub.cons rfl (Sub.cons rfl (Sub.cons rfl Sub.nil)))) (by rw [List.take_zero, List.append_nil]) ?_
          intro s hs
          obtain ⟨k, vo⟩ := s
          dsimp only at hs ⊢
          refine At.seq ?_
          refine At.seq ?_
          refine At.region ?_
          refine At.val (Val.move rfl) rfl rfl rfl ?_
          refine At.val (Val.move rfl) rfl rfl rfl ?_
          refine At.val (Val.lenRow (i := 1) Tryd.underlying54 rfl rfl) rfl rfl rfl ?_
          refine At.val (Val.bin rfl rfl rfl) rfl rfl rfl ?_
          refine At.nil ?_
          refine At.thenN ?_
          refine At.cond rfl (fun h35 => ?_) (fun h35 => ?_)
          · skip
            try simp only [vN_T, vN_F, nmE_T, nmE_F, wI_T, wI_F, data_T, data_F, ino_T, ino_F, notT, notF, bneT, bneF, beqT, beqF, decT, decF] at h35
            have hk : k < (spB L).length := by omega
            refine At.skipC ?_
            refine At.thenN ?_
            refine At.seq ?_
            refine At.block ?_
            refine At.region ?_
            refine At.val (Val.move rfl) rfl rfl rfl ?_
            refine At.val (Val.move rfl) rfl rfl rfl ?_
            refine At.val (Val.move rfl) rfl rfl rfl ?_
            refine At.idxRowB (i := 1) rfl Tryd.underlying54 Tryd.sizeOf5 rfl rfl (by omega) (by omega) rfl rfl (fun q36 hq37 hl38 => ?_)
            refine At.val (Val.loadRowB (i := 1) Tryd.isAgg5 rfl rfl hq37) rfl rfl rfl ?_
            refine At.buildSl (fun a ha => by simp only [List.map_toArray, List.map_cons, List.map_nil, ha.eval (x := (.tmp 99)) rfl]; try rfl) (bs_54_1 _ ) rfl (fun b39 => ?_)
            refine At.appendB1 (i := 3) (j := 0) (by_ := 1) Tryd.underlying54 info_5 rfl rfl rfl rfl rfl rfl rfl rfl (by rw [List.length_append, List.length_append, le_length, List.length_take]; omega) (by rw [List.length_append, List.length_append, le_length, List.length_take]; omega) rfl (fun v40 => ?_)
            simp only [List.set_cons_zero, List.set_cons_succ]
            refine At.drop 0 ?_
            simp only [List.eraseIdx_cons_zero, List.eraseIdx_cons_succ]
            refine At.val (Val.assign rfl) rfl rfl rfl ?_
            refine At.nil ?_
            refine At.blkN ?_
            refine At.thenN ?_
            refine At.region ?_
            refine At.val (Val.move rfl) rfl rfl rfl ?_
            first | refine At.val (Val.addI rfl rfl (by omega) (by omega)) rfl rfl rfl ?_ | refine At.val (Val.bin rfl rfl rfl) rfl rfl rfl ?_
            refine At.val (Val.assign rfl) rfl rfl rfl ?_
            refine At.nil ?_
            refine At.thenN ?_
            exact At.again (k + 1, v40) (show k + 1 ≤ _ by omega) (by dsimp only; omega) (Sub.cons rfl (Sub.cons rfl (Sub.cons rfl (Sub.cons (congrArg (fun z => some (Value.int IntKind.i64 z)) (by omega)) Sub.nil)))) (by rw [List.take_succ_of_get (by have := hq37; rwa [Int.toNat_natCast] at this), ← List.append_assoc])
          · skip
            try simp only [vN_T, vN_F, nmE_T, nmE_F, wI_T, wI_F, data_T, data_F, ino_T, ino_F, notT, notF, bneT, bneF, beqT, beqF, decT, decF] at h35
            obtain rfl : k = (spB L).length := by omega
            rw [List.take_length]
            refine At.exitC ?_
            refine At.thenX ?_
            refine At.thenX ?_
            refine At.blkX ?_
            refine At.thenN ?_
            refine At.seq ?_
            refine At.seq ?_
            refine At.region ?_
            refine At.val (Val.field 1 rfl fo_74_1 rfl) rfl rfl rfl ?_
            refine At.val (Val.load (i := 3) Tryd.isAgg72 rfl rfl rfl) rfl rfl rfl ?_
            refine At.val (Val.lenRd hv Tryd.underlying72 rfl) rfl rfl rfl ?_
            first | refine At.val (Val.remI rfl rfl (by omega) (by decide)) rfl rfl rfl ?_ | refine At.val (Val.rem rfl rfl (by decide)) rfl rfl rfl ?_
            refine At.val (Val.bin rfl rfl rfl) rfl rfl rfl ?_
            refine At.nil ?_
            refine At.thenN ?_
            refine At.cond rfl (fun h41 => ?_) (fun h41 => ?_)
            · skip
              try simp only [vN_T, vN_F, nmE_T, nmE_F, wI_T, wI_F, data_T, data_F, ino_T, ino_F, notT, notF, bneT, bneF, beqT, beqF, decT, decF] at h41
              have hod : L.length % 2 = 1 := by omega
              refine At.region ?_
              refine At.val (Val.move rfl) rfl rfl rfl ?_
              refine At.callR 2 rfl (fun w hw hr => rlay_p _ ((hd20 t L.length) ++ le 4 (svSum t L).toNat ++ spB L) (0) 4 w hr (by decide) (by decide) (by rw [List.length_append, List.length_append, le_length]; omega)) Tryd.call79 rfl rfl (fun v42 => ?_)
              simp only [List.set_cons_zero, List.set_cons_succ]
              refine At.val (Val.assign rfl) rfl rfl rfl ?_
              refine At.nil ?_
              refine At.thenN ?_
              refine At.seq ?_
              refine At.region ?_
              refine At.val (Val.move rfl) rfl rfl rfl ?_
              refine At.val (Val.assign rfl) rfl rfl rfl ?_
              refine At.val (Val.assign rfl) rfl rfl rfl ?_
              refine At.nil ?_
              refine At.thenN ?_
              refine At.retC ?_
              refine At.ret2 (.inl rfl) rfl rfl rfl rfl (fun w hw => ?_)
              exact ⟨_, by rw [svE_T hg], by rw [svP_T hg, svB, pad_1 hod]; exact (hw.drop (List.singleton_sublist.2 (List.mem_of_getElem? (i := 2) rfl))).f0⟩
            · skip
              try simp only [vN_T, vN_F, nmE_T, nmE_F, wI_T, wI_F, data_T, data_F, ino_T, ino_F, notT, notF, bneT, bneF, beqT, beqF, decT, decF] at h41
              have hev : ¬ L.length % 2 = 1 := by omega
              refine At.skipC ?_
              refine At.thenN ?_
              refine At.seq ?_
              refine At.region ?_
              refine At.val (Val.move rfl) rfl rfl rfl ?_
              refine At.val (Val.assign rfl) rfl rfl rfl ?_
              refine At.val (Val.assign rfl) rfl rfl rfl ?_
              refine At.nil ?_
              refine At.thenN ?_
              refine At.retC ?_
              refine At.ret2 (.inl rfl) rfl rfl rfl rfl (fun w hw => ?_)
              exact ⟨_, by rw [svE_T hg], by rw [svP_T hg, svB, pad_0 hev, List.append_nil]; exact (hw.drop (List.singleton_sublist.2 (List.mem_of_getElem? (i := 2) rfl))).f0⟩

theorem halfS_p (v : Value) (l : List UInt8) (a : Nat) (w : World) (hv : RdB w v l) (hlen : l.length ≤ 140737488355328) (hn : a + 4 ≤ l.length) :
    PureC Tryd.prog 109 [v, .int .i64 (a : Int)] (.tuple #[.int .u32 (num l a 4 : Nat), .int .i64 0]) w := by
  have hnl := num_lt (l := l) a 4
  refine enter0 Tryd.func109 rfl Tryd.ntmps109 rfl ?_
  simp only [envOf]
  refine At.seq ?_
  refine At.region ?_
  refine At.val (Val.assign rfl) rfl rfl rfl ?_
  refine At.val (Val.assign rfl) rfl rfl rfl ?_
  refine At.nil ?_
  refine At.thenN ?_
  refine At.seq ?_
  refine At.seq ?_
  refine At.region ?_
  refine At.val (Val.move rfl) rfl rfl rfl ?_
  refine At.val (Val.move rfl) rfl rfl rfl ?_
  refine At.callP (fun w hw => fits_p v l a 4 w (hv.mod hw.mod) hlen (by omega)) Tryd.call128 rfl rfl ?_
  refine At.val (Val.not rfl) rfl rfl rfl ?_
  refine At.nil ?_
  refine At.thenN ?_
  refine At.cond rfl (fun h1 => ?_) (fun h1 => ?_)
  · skip
    try simp only [vN_T, vN_F, nmE_T, nmE_F, wI_T, wI_F, data_T, data_F, ino_T, ino_F, notT, notF, bneT, bneF, beqT, beqF, decT, decF] at h1
    exact absurd h1 (by simp; omega)
  · skip
    try simp only [vN_T, vN_F, nmE_T, nmE_F, wI_T, wI_F, data_T, data_F, ino_T, ino_F, notT, notF, bneT, bneF, beqT, beqF, decT, decF] at h1
    refine At.skipC ?_
    refine At.thenN ?_
    refine At.seq ?_
    refine At.region ?_
    refine At.val (Val.move rfl) rfl rfl rfl ?_
    refine At.val (Val.move rfl) rfl rfl rfl ?_
    refine At.callP (fun w hw => numS_p v l a 4 w (hv.mod hw.mod) hlen hn (by decide)) Tryd.call129 rfl rfl ?_
    first | refine At.val (Val.toW Tryd.underlying40 Tryd.underlying48 rfl (by omega) (by omega)) rfl rfl rfl ?_ | refine At.val (Val.conv Tryd.underlying40 Tryd.underlying48 rfl) rfl rfl rfl ?_
    refine At.val (Val.assign rfl) rfl rfl rfl ?_
    refine At.val (Val.assign rfl) rfl rfl rfl ?_
    refine At.nil ?_
    refine At.thenN ?_
    refine At.retC ?_
    refine At.ret2 (.inl rfl) rfl rfl rfl rfl (fun w hw => ?_)
    exact ⟨rfl, hw.mod⟩

end Go.Proofs.YtoiebgnmknbkjaaDoor
