/- Parts of the proof, joined: see the law's text. -/
import Derived.Test.YthhkbbodhghmcaaGreatDoorY2
import Derived.Maps.RangeRun
import Derived.ArgAppend
import Derived.Test.YthhkbbodhghmcaaGreatDoorY1
import Derived.Shelf.Sort.Plain
import Derived.Test.YthhkbbodhghmcaaGreatDoorChecked
set_option linter.unusedVariables false
set_option linter.unusedSimpArgs false
namespace Go.Proofs.YthhkbbodhghmcaaGreatDoor
open Go Go.Wk
theorem rsumV_p (v : Value) (l : List UInt8) (w : World) (hv : RdB w v l) (hlen : l.length ≤ 140737488355328) : PureC Tryz.prog 95 [v] (b32 (sumOn 0 l)) w := by
  obtain ⟨A, c, rfl, hb, _⟩ := hv.bytes; exact rsum_p A l c w hb hlen
theorem packSvR_n (t : BitVec 32) (v : Value) (L : List (Int × Int)) (w : World) (hv : RdS w v L) (hlen : L.length ≤ 8796093022144) :
    NewRowT Tryz.prog 54 [.agg #[b32 t, v]] (fun v => .tuple #[v, .int .i64 (svE t L)]) 5 1 (svP t L).length ((svP t L).map bv) w := by
 refine enter0 Tryz.func54 rfl Tryz.ntmps54 rfl ?_
 simp only [envOf]
 refine tR ?_
 refine At.box rfl rfl rfl (fun b1 => ?_)
 refine tA rfl rfl ?_
 refine tA rfl rfl ?_
 refine tE ?_
 refine tR ?_
 refine At.val (Val.loadAll (i := 0) Tryz.isAgg90 Tryz.sizeOf90 rfl rfl rfl) rfl rfl rfl ?_
 refine At.callP (fun w hw => goodSvR_p t v L w (hv.mod hw.mod) hlen) Tryz.call92 rfl rfl ?_
 refine tA rfl rfl ?_
 refine tE ?_
 refine At.seq ?_
 refine tR ?_
 refine tM rfl rfl ?_
 refine At.val (Val.not rfl) rfl rfl rfl ?_
 refine tE ?_
 refine At.cond rfl (fun h2 => ?_) (fun h2 => ?_)
 ·skip
  try simp only [vN_T, vN_F, nmE_T, nmE_F, wI_T, wI_F, data_T, data_F, ino_T, ino_F, notT, notF, bneT, bneF, beqT, beqF, decT, decF] at h2
  have hg : ¬ GoodSv t L := by simpa using h2
  refine tR ?_
  refine tA rfl rfl ?_
  refine tA rfl rfl ?_
  refine At.nil ?_
  refine At.rowNilB 5 ?_
  refine At.thenN ?_
  refine At.retC ?_
  refine At.thenR ?_
  refine At.ret2 (.inl rfl) rfl rfl rfl rfl (fun w hw => ?_)
  exact ⟨_, by rw [svE_F hg], by rw [svP_F hg]; exact (hw.drop (List.singleton_sublist.2 (List.mem_of_getElem? (i := 0) rfl))).f0⟩
 ·skip
  try simp only [vN_T, vN_F, nmE_T, nmE_F, wI_T, wI_F, data_T, data_F, ino_T, ino_F, notT, notF, bneT, bneF, beqT, beqF, decT, decF] at h2
  have hg : GoodSv t L := by simpa using h2
  have hL : L.length ≤ 249 := hg.2.1
  have hti := t.isLt
  have hhl := hd20_length t L.length
  have hsl := spB_length L
  refine At.skipC ?_
  refine At.thenN ?_
  refine tR ?_
  refine tA rfl rfl ?_
  refine At.nil ?_
  refine At.rowNilB 5 ?_
  refine At.thenN ?_
  refine tR ?_
  refine tM rfl rfl ?_
  refine At.callR 0 rfl (fun w hw hr => letters_p _ ([] : List UInt8) ⟨#[70, 85, 82, 82, 79, 87, 83, 86]⟩ w hr (by decide)) Tryz.call93 rfl rfl (fun v3 => ?_)
  simp only [sc0, scS]
  refine tA rfl rfl ?_
  refine At.nil ?_
  rw [show (([] : List UInt8) ++ (⟨#[70, 85, 82, 82, 79, 87, 83, 86]⟩ : ByteArray).data.toList) = magic from rfl]
  refine At.thenN ?_
  refine tR ?_
  refine tM rfl rfl ?_
  refine At.val (Val.field 0 rfl fo_90_0 rfl) rfl rfl rfl ?_
  refine At.val (Val.load (i := 1) Tryz.isAgg76 rfl rfl rfl) rfl rfl rfl ?_
  first | refine At.val (Val.toU Tryz.underlying76 Tryz.underlying32 rfl (by omega) (by omega)) rfl rfl rfl ?_ | refine At.val (Val.conv Tryz.underlying76 Tryz.underlying32 rfl) rfl rfl rfl ?_
  refine At.callR 0 rfl (fun w hw hr => rlay_p _ magic (t.toNat) 4 w hr (by omega) (by decide) (by decide)) Tryz.call94 rfl rfl (fun v4 => ?_)
  simp only [sc0, scS]
  refine tA rfl rfl ?_
  refine tE ?_
  refine tR ?_
  refine tM rfl rfl ?_
  refine At.callR 0 rfl (fun w hw hr => rlay_p _ (magic ++ le 4 (t.toNat)) (0) 4 w hr (by decide) (by decide) (by rw [List.length_append, le_length]; decide)) Tryz.call94 rfl rfl (fun v5 => ?_)
  simp only [sc0, scS]
  refine tA rfl rfl ?_
  refine tE ?_
  refine tR ?_
  refine tM rfl rfl ?_
  refine At.val (Val.field 1 rfl fo_90_1 rfl) rfl rfl rfl ?_
  refine At.val (Val.load (i := 1) Tryz.isAgg35 rfl rfl rfl) rfl rfl rfl ?_
  refine At.val (Val.lenRd hv Tryz.underlying35 rfl) rfl rfl rfl ?_
  first | refine At.val (Val.toU Tryz.underlying3 Tryz.underlying32 rfl (by omega) (by omega)) rfl rfl rfl ?_ | refine At.val (Val.conv Tryz.underlying3 Tryz.underlying32 rfl) rfl rfl rfl ?_
  refine At.callR 0 rfl (fun w hw hr => rlay_p _ ((magic ++ le 4 (t.toNat)) ++ le 4 (0)) (L.length) 4 w hr (by omega) (by decide) (by rw [List.length_append, List.length_append, le_length, le_length]; decide)) Tryz.call94 rfl rfl (fun v6 => ?_)
  simp only [sc0, scS]
  refine tA rfl rfl ?_
  refine At.nil ?_
  rw [show (magic ++ le 4 t.toNat ++ le 4 0 ++ le 4 L.length) = (hd20 t L.length) from rfl]
  refine At.thenN ?_
  refine tR ?_
  refine tA rfl rfl ?_
  refine At.nil ?_
  refine At.rowNilB 5 ?_
  refine At.thenN ?_
  refine At.seq ?_
  refine tR ?_
  refine tA rfl rfl ?_
  refine tE ?_
  refine At.block ?_
  skip
  refine At.loop (σ := Nat × Value) (fun s => s.1 ≤ L.length) (fun s => [(1, .pointer (some ⟨b1, 0, none⟩)), (5, v6), (6, s.2), (7, .int .i64 (s.1 : Int))]) (fun s => [brow 5 s.2 (spB (L.take s.1)), brow 5 v6 (hd20 t L.length), blk b1 90 [b32 t, v]]) (fun s => L.length - s.1) (0, (.slice none 0 0)) (Nat.zero_le _) (Sub.cons rfl (Sub.cons rfl (Sub.cons rfl (Sub.cons rfl Sub.nil)))) (List.Perm.refl _) ?_
  intro s hs
  obtain ⟨k, vk⟩ := s
  dsimp only at hs ⊢
  refine At.seq ?_
  refine tR ?_
  refine tM rfl rfl ?_
  refine At.val (Val.field 1 rfl fo_90_1 rfl) rfl rfl rfl ?_
  refine At.val (Val.load (i := 2) Tryz.isAgg35 rfl rfl rfl) rfl rfl rfl ?_
  refine At.val (Val.lenRd hv Tryz.underlying35 rfl) rfl rfl rfl ?_
  refine At.val (Val.bin rfl rfl rfl) rfl rfl rfl ?_
  refine tE ?_
  refine At.cond rfl (fun h7 => ?_) (fun h7 => ?_)
  ·skip
   try simp only [vN_T, vN_F, nmE_T, nmE_F, wI_T, wI_F, data_T, data_F, ino_T, ino_F, notT, notF, bneT, bneF, beqT, beqF, decT, decF] at h7
   have hk : k < L.length := by omega
   refine At.skipC ?_
   refine At.thenN ?_
   refine At.seq ?_
   refine At.block ?_
   refine tR ?_
   refine tM rfl rfl ?_
   refine At.val (Val.field 1 rfl fo_90_1 rfl) rfl rfl rfl ?_
   refine At.val (Val.load (i := 2) Tryz.isAgg35 rfl rfl rfl) rfl rfl rfl ?_
   refine tM rfl rfl ?_
   refine At.idxS hv Tryz.underlying35 Tryz.sizeOf100 rfl rfl (by omega) (by omega) rfl rfl (fun b8 o9 q10 hq11 hc12 hd13 => ?_)
   refine At.val (Val.field o9 rfl fo_100_0 rfl) rfl rfl rfl ?_
   refine At.val (Val.loadOld Tryz.isAgg3 rfl hc12 (fun h => h)) rfl rfl rfl ?_
   have hqk := hq11
   rw [Int.toNat_natCast] at hqk
   have hc := hg.2.2 k _ hk hqk
   have hlo := lo_bd (k := k) (fun j c hj hc => hg.2.2 j c (by omega) hc) (by omega)
   have hc2 := hc
   unfold OkSp at hc2
   refine At.val (Val.toU Tryz.underlying3 Tryz.underlying32 rfl (by omega) (by omega)) rfl rfl rfl ?_
   rw [show Value.int .u64 q10.1 = Value.int .u64 ((q10.1.toNat : Nat) : Int) from by congr 1; omega]
   refine At.callR 0 rfl (fun w hw hr => rlay_p _ (spB (L.take k)) (q10.1.toNat) 2 w hr (by omega) (by decide) (by rw [spB_length, List.length_take]; omega)) Tryz.call94 rfl rfl (fun v14 => ?_)
   simp only [sc0, scS]
   refine tA rfl rfl ?_
   refine tE ?_
   refine At.region ?_
   refine tM rfl rfl ?_
   refine At.val (Val.field 1 rfl fo_90_1 rfl) rfl rfl rfl ?_
   refine At.val (Val.load (i := 2) Tryz.isAgg35 rfl rfl rfl) rfl rfl rfl ?_
   refine tM rfl rfl ?_
   refine At.idxS hv Tryz.underlying35 Tryz.sizeOf100 rfl rfl (by omega) (by omega) rfl rfl (fun b15 o16 q17 hq18 hc19 hd20 => ?_)
   refine At.val (Val.field (o16 + 1) rfl fo_100_1 rfl) rfl rfl rfl ?_
   refine At.val (Val.loadOld Tryz.isAgg3 rfl hd20 (fun h => h)) rfl rfl rfl ?_
   rw [sp_eq hq18 hqk]
   refine At.val (Val.toU Tryz.underlying3 Tryz.underlying32 rfl (by omega) (by omega)) rfl rfl rfl ?_
   rw [show Value.int .u64 q10.2 = Value.int .u64 ((q10.2.toNat : Nat) : Int) from by congr 1; omega]
   refine At.callR 0 rfl (fun w hw hr => rlay_p _ ((spB (L.take k)) ++ le 2 (q10.1.toNat)) (q10.2.toNat) 2 w hr (by omega) (by decide) (by rw [List.length_append, le_length, spB_length, List.length_take]; omega)) Tryz.call94 rfl rfl (fun v21 => ?_)
   simp only [sc0, scS]
   refine tA rfl rfl ?_
   refine At.nil ?_
   refine At.blkN ?_
   refine At.thenN ?_
   refine At.region ?_
   refine tM rfl rfl ?_
   first | refine At.val (Val.addI rfl rfl (by omega) (by omega)) rfl rfl rfl ?_ | refine At.val (Val.bin rfl rfl rfl) rfl rfl rfl ?_
   refine tA rfl rfl ?_
   refine tE ?_
   exact At.again (k + 1, v21) (show k + 1 ≤ _ by omega) (by dsimp only; omega) (Sub.cons rfl (Sub.cons rfl (Sub.cons rfl (Sub.cons (congrArg (fun z => some (Value.int IntKind.i64 z)) (by omega)) Sub.nil)))) (by rw [List.take_succ_of_get hqk, spB_snoc])
  ·skip
   try simp only [vN_T, vN_F, nmE_T, nmE_F, wI_T, wI_F, data_T, data_F, ino_T, ino_F, notT, notF, bneT, bneF, beqT, beqF, decT, decF] at h7
   obtain rfl : k = L.length := by omega
   rw [List.take_length]
   refine At.exitC ?_
   refine At.thenX ?_
   refine At.thenX ?_
   refine At.blkX ?_
   refine At.thenN ?_
   refine tR ?_
   refine tA rfl rfl ?_
   refine At.nil ?_
   refine At.rowNilB 5 ?_
   refine At.thenN ?_
   refine At.seq ?_
   refine tR ?_
   refine tA rfl rfl ?_
   refine tE ?_
   refine At.block ?_
   skip
   refine At.loop (σ := Nat × Value) (fun s => s.1 ≤ ((hd20 t L.length)).length) (fun s => [(1, .pointer (some ⟨b1, 0, none⟩)), (5, v6), (6, vk), (8, s.2), (9, .int .i64 (s.1 : Int))]) (fun s => [brow 5 s.2 (((hd20 t L.length)).take s.1), brow 5 vk (spB L), brow 5 v6 (hd20 t L.length), blk b1 90 [b32 t, v]]) (fun s => ((hd20 t L.length)).length - s.1) (0, (.slice none 0 0)) (Nat.zero_le _) (Sub.cons rfl (Sub.cons rfl (Sub.cons rfl (Sub.cons rfl (Sub.cons rfl Sub.nil))))) (by rw [List.take_zero]) ?_
   intro s hs
   obtain ⟨k, vm⟩ := s
   dsimp only at hs ⊢
   refine At.seq ?_
   refine tR ?_
   refine tM rfl rfl ?_
   refine tM rfl rfl ?_
   refine At.val (Val.lenRow (i := 2) Tryz.underlying59 rfl rfl) rfl rfl rfl ?_
   refine At.val (Val.bin rfl rfl rfl) rfl rfl rfl ?_
   refine tE ?_
   refine At.cond rfl (fun h22 => ?_) (fun h22 => ?_)
   ·skip
    try simp only [vN_T, vN_F, nmE_T, nmE_F, wI_T, wI_F, data_T, data_F, ino_T, ino_F, notT, notF, bneT, bneF, beqT, beqF, decT, decF] at h22
    have hk : k < (hd20 t L.length).length := by omega
    refine At.skipC ?_
    refine At.thenN ?_
    refine At.seq ?_
    refine At.block ?_
    refine At.region ?_
    refine tM rfl rfl ?_
    refine tM rfl rfl ?_
    refine tM rfl rfl ?_
    refine At.idxRowB (i := 2) rfl Tryz.underlying59 Tryz.sizeOf5 rfl rfl (by omega) (by omega) rfl rfl (fun q23 hq24 hl25 => ?_)
    refine At.val (Val.loadRowB (i := 2) Tryz.isAgg5 rfl rfl hq24) rfl rfl rfl ?_
    refine At.buildSl (fun a ha => by simp only [List.map_toArray, List.map_cons, List.map_nil, ha.eval (x := (.tmp 67)) rfl]; try rfl) (bs_59_1 _ ) rfl (fun b26 => ?_)
    refine At.appendB1 (i := 1) (j := 0) (by_ := 1) Tryz.underlying59 info_5 rfl rfl rfl rfl rfl rfl rfl rfl (by rw [List.length_take]; omega) (by rw [List.length_take]; omega) rfl (fun v27 => ?_)
    simp only [sc0, scS]
    refine At.drop 0 ?_
    simp only [ec0, ecS]
    refine tA rfl rfl ?_
    refine At.nil ?_
    refine At.blkN ?_
    refine At.thenN ?_
    refine At.region ?_
    refine tM rfl rfl ?_
    first | refine At.val (Val.addI rfl rfl (by omega) (by omega)) rfl rfl rfl ?_ | refine At.val (Val.bin rfl rfl rfl) rfl rfl rfl ?_
    refine tA rfl rfl ?_
    refine tE ?_
    exact At.again (k + 1, v27) (show k + 1 ≤ _ by omega) (by dsimp only; omega) (Sub.cons rfl (Sub.cons rfl (Sub.cons rfl (Sub.cons rfl (Sub.cons (congrArg (fun z => some (Value.int IntKind.i64 z)) (by omega)) Sub.nil))))) (by rw [List.take_succ_of_get (by have := hq24; rwa [Int.toNat_natCast] at this)])
   ·skip
    try simp only [vN_T, vN_F, nmE_T, nmE_F, wI_T, wI_F, data_T, data_F, ino_T, ino_F, notT, notF, bneT, bneF, beqT, beqF, decT, decF] at h22
    obtain rfl : k = (hd20 t L.length).length := by omega
    rw [List.take_length]
    refine At.exitC ?_
    refine At.thenX ?_
    refine At.thenX ?_
    refine At.blkX ?_
    refine At.thenN ?_
    refine At.seq ?_
    refine tR ?_
    refine tA rfl rfl ?_
    refine tE ?_
    refine At.block ?_
    skip
    refine At.loop (σ := Nat × Value) (fun s => s.1 ≤ (spB L).length) (fun s => [(1, .pointer (some ⟨b1, 0, none⟩)), (5, v6), (6, vk), (8, s.2), (10, .int .i64 (s.1 : Int))]) (fun s => [brow 5 s.2 ((hd20 t L.length) ++ (spB L).take s.1), brow 5 vk (spB L), brow 5 v6 (hd20 t L.length), blk b1 90 [b32 t, v]]) (fun s => (spB L).length - s.1) (0, vm) (Nat.zero_le _) (Sub.cons rfl (Sub.cons rfl (Sub.cons rfl (Sub.cons rfl (Sub.cons rfl Sub.nil))))) (by rw [List.take_zero, List.append_nil]) ?_
    intro s hs
    obtain ⟨k, vn⟩ := s
    dsimp only at hs ⊢
    refine At.seq ?_
    refine tR ?_
    refine tM rfl rfl ?_
    refine tM rfl rfl ?_
    refine At.val (Val.lenRow (i := 1) Tryz.underlying59 rfl rfl) rfl rfl rfl ?_
    refine At.val (Val.bin rfl rfl rfl) rfl rfl rfl ?_
    refine tE ?_
    refine At.cond rfl (fun h28 => ?_) (fun h28 => ?_)
    ·skip
     try simp only [vN_T, vN_F, nmE_T, nmE_F, wI_T, wI_F, data_T, data_F, ino_T, ino_F, notT, notF, bneT, bneF, beqT, beqF, decT, decF] at h28
     have hk : k < (spB L).length := by omega
     refine At.skipC ?_
     refine At.thenN ?_
     refine At.seq ?_
     refine At.block ?_
     refine At.region ?_
     refine tM rfl rfl ?_
     refine tM rfl rfl ?_
     refine tM rfl rfl ?_
     refine At.idxRowB (i := 1) rfl Tryz.underlying59 Tryz.sizeOf5 rfl rfl (by omega) (by omega) rfl rfl (fun q29 hq30 hl31 => ?_)
     refine At.val (Val.loadRowB (i := 1) Tryz.isAgg5 rfl rfl hq30) rfl rfl rfl ?_
     refine At.buildSl (fun a ha => by simp only [List.map_toArray, List.map_cons, List.map_nil, ha.eval (x := (.tmp 80)) rfl]; try rfl) (bs_59_1 _ ) rfl (fun b32 => ?_)
     refine At.appendB1 (i := 1) (j := 0) (by_ := 1) Tryz.underlying59 info_5 rfl rfl rfl rfl rfl rfl rfl rfl (by rw [List.length_append, List.length_take]; omega) (by rw [List.length_append, List.length_take]; omega) rfl (fun v33 => ?_)
     simp only [sc0, scS]
     refine At.drop 0 ?_
     simp only [ec0, ecS]
     refine tA rfl rfl ?_
     refine At.nil ?_
     refine At.blkN ?_
     refine At.thenN ?_
     refine At.region ?_
     refine tM rfl rfl ?_
     first | refine At.val (Val.addI rfl rfl (by omega) (by omega)) rfl rfl rfl ?_ | refine At.val (Val.bin rfl rfl rfl) rfl rfl rfl ?_
     refine tA rfl rfl ?_
     refine tE ?_
     exact At.again (k + 1, v33) (show k + 1 ≤ _ by omega) (by dsimp only; omega) (Sub.cons rfl (Sub.cons rfl (Sub.cons rfl (Sub.cons rfl (Sub.cons (congrArg (fun z => some (Value.int IntKind.i64 z)) (by omega)) Sub.nil))))) (by rw [List.take_succ_of_get (by have := hq30; rwa [Int.toNat_natCast] at this), ← List.append_assoc])
    ·skip
     try simp only [vN_T, vN_F, nmE_T, nmE_F, wI_T, wI_F, data_T, data_F, ino_T, ino_F, notT, notF, bneT, bneF, beqT, beqF, decT, decF] at h28
     obtain rfl : k = (spB L).length := by omega
     rw [List.take_length]
     refine At.exitC ?_
     refine At.thenX ?_
     refine At.thenX ?_
     refine At.blkX ?_
     refine At.thenN ?_
     refine tR ?_
     refine tM rfl rfl ?_
     refine At.callP (fun w hw => (show PureC _ _ _ (b32 (svSum t L)) w from rsumV_p _ ((hd20 t L.length) ++ spB L) w (row_rd (hw.row (i := 0) rfl) (by decide)) (by rw [List.length_append]; omega))) Tryz.call95 rfl rfl ?_
     refine tA rfl rfl ?_
     refine tE ?_
     refine At.seq ?_
     have hsum := (svSum t L).isLt
     refine At.region ?_
     refine tM rfl rfl ?_
     refine tM rfl rfl ?_
     refine At.val (Val.toU Tryz.underlying76 Tryz.underlying32 rfl (by show (0 : Int) ≤ ((svSum t L).toNat : Int); omega) (by show ((svSum t L).toNat : Int) < _; omega)) rfl rfl rfl ?_
     refine At.callR 2 rfl (fun w hw hr => rlay_p _ (hd20 t L.length) ((svSum t L).toNat) 4 w hr (by omega) (by decide) (by omega)) Tryz.call94 rfl rfl (fun v34 => ?_)
     simp only [sc0, scS]
     refine tA rfl rfl ?_
     refine tE ?_
     refine At.seq ?_
     refine tR ?_
     refine tA rfl rfl ?_
     refine tE ?_
     refine At.block ?_
     skip
     refine At.loop (σ := Nat × Value) (fun s => s.1 ≤ (spB L).length) (fun s => [(1, .pointer (some ⟨b1, 0, none⟩)), (6, vk), (5, s.2), (12, .int .i64 (s.1 : Int))]) (fun s => [brow 5 vn ((hd20 t L.length) ++ spB L), brow 5 vk (spB L), brow 5 s.2 ((hd20 t L.length) ++ le 4 (svSum t L).toNat ++ (spB L).take s.1), blk b1 90 [b32 t, v]]) (fun s => (spB L).length - s.1) (0, v34) (Nat.zero_le _) (Sub.cons rfl (Sub.cons rfl (Sub.cons rfl (Sub.cons rfl Sub.nil)))) (by rw [List.take_zero, List.append_nil]) ?_
     intro s hs
     obtain ⟨k, vo⟩ := s
     dsimp only at hs ⊢
     refine At.seq ?_
     refine tR ?_
     refine tM rfl rfl ?_
     refine tM rfl rfl ?_
     refine At.val (Val.lenRow (i := 1) Tryz.underlying59 rfl rfl) rfl rfl rfl ?_
     refine At.val (Val.bin rfl rfl rfl) rfl rfl rfl ?_
     refine tE ?_
     refine At.cond rfl (fun h35 => ?_) (fun h35 => ?_)
     ·skip
      try simp only [vN_T, vN_F, nmE_T, nmE_F, wI_T, wI_F, data_T, data_F, ino_T, ino_F, notT, notF, bneT, bneF, beqT, beqF, decT, decF] at h35
      have hk : k < (spB L).length := by omega
      refine At.skipC ?_
      refine At.thenN ?_
      refine At.seq ?_
      refine At.block ?_
      refine At.region ?_
      refine tM rfl rfl ?_
      refine tM rfl rfl ?_
      refine tM rfl rfl ?_
      refine At.idxRowB (i := 1) rfl Tryz.underlying59 Tryz.sizeOf5 rfl rfl (by omega) (by omega) rfl rfl (fun q36 hq37 hl38 => ?_)
      refine At.val (Val.loadRowB (i := 1) Tryz.isAgg5 rfl rfl hq37) rfl rfl rfl ?_
      refine At.buildSl (fun a ha => by simp only [List.map_toArray, List.map_cons, List.map_nil, ha.eval (x := (.tmp 99)) rfl]; try rfl) (bs_59_1 _ ) rfl (fun b39 => ?_)
      refine At.appendB1 (i := 3) (j := 0) (by_ := 1) Tryz.underlying59 info_5 rfl rfl rfl rfl rfl rfl rfl rfl (by rw [List.length_append, List.length_append, le_length, List.length_take]; omega) (by rw [List.length_append, List.length_append, le_length, List.length_take]; omega) rfl (fun v40 => ?_)
      simp only [sc0, scS]
      refine At.drop 0 ?_
      simp only [ec0, ecS]
      refine tA rfl rfl ?_
      refine At.nil ?_
      refine At.blkN ?_
      refine At.thenN ?_
      refine At.region ?_
      refine tM rfl rfl ?_
      first | refine At.val (Val.addI rfl rfl (by omega) (by omega)) rfl rfl rfl ?_ | refine At.val (Val.bin rfl rfl rfl) rfl rfl rfl ?_
      refine tA rfl rfl ?_
      refine tE ?_
      exact At.again (k + 1, v40) (show k + 1 ≤ _ by omega) (by dsimp only; omega) (Sub.cons rfl (Sub.cons rfl (Sub.cons rfl (Sub.cons (congrArg (fun z => some (Value.int IntKind.i64 z)) (by omega)) Sub.nil)))) (by rw [List.take_succ_of_get (by have := hq37; rwa [Int.toNat_natCast] at this), ← List.append_assoc])
     ·skip
      try simp only [vN_T, vN_F, nmE_T, nmE_F, wI_T, wI_F, data_T, data_F, ino_T, ino_F, notT, notF, bneT, bneF, beqT, beqF, decT, decF] at h35
      obtain rfl : k = (spB L).length := by omega
      rw [List.take_length]
      refine At.exitC ?_
      refine At.thenX ?_
      refine At.thenX ?_
      refine At.blkX ?_
      refine At.thenN ?_
      refine At.seq ?_
      refine tR ?_
      refine At.val (Val.field 1 rfl fo_90_1 rfl) rfl rfl rfl ?_
      refine At.val (Val.load (i := 3) Tryz.isAgg35 rfl rfl rfl) rfl rfl rfl ?_
      refine At.val (Val.lenRd hv Tryz.underlying35 rfl) rfl rfl rfl ?_
      first | refine At.val (Val.remI rfl rfl (by omega) (by decide)) rfl rfl rfl ?_ | refine At.val (Val.rem rfl rfl (by decide)) rfl rfl rfl ?_
      refine At.val (Val.bin rfl rfl rfl) rfl rfl rfl ?_
      refine tE ?_
      refine At.cond rfl (fun h41 => ?_) (fun h41 => ?_)
      ·skip
       try simp only [vN_T, vN_F, nmE_T, nmE_F, wI_T, wI_F, data_T, data_F, ino_T, ino_F, notT, notF, bneT, bneF, beqT, beqF, decT, decF] at h41
       have hod : L.length % 2 = 1 := by omega
       refine At.region ?_
       refine tM rfl rfl ?_
       refine At.callR 2 rfl (fun w hw hr => rlay_p _ ((hd20 t L.length) ++ le 4 (svSum t L).toNat ++ spB L) (0) 4 w hr (by decide) (by decide) (by rw [List.length_append, List.length_append, le_length]; omega)) Tryz.call94 rfl rfl (fun v42 => ?_)
       simp only [sc0, scS]
       refine tA rfl rfl ?_
       refine tE ?_
       refine tR ?_
       refine tM rfl rfl ?_
       refine tA rfl rfl ?_
       refine tA rfl rfl ?_
       refine tE ?_
       refine At.retC ?_
       refine At.ret2 (.inl rfl) rfl rfl rfl rfl (fun w hw => ?_)
       exact ⟨_, by rw [svE_T hg], by rw [svP_T hg, svB, pad_1 hod]; exact (hw.drop (List.singleton_sublist.2 (List.mem_of_getElem? (i := 2) rfl))).f0⟩
      ·skip
       try simp only [vN_T, vN_F, nmE_T, nmE_F, wI_T, wI_F, data_T, data_F, ino_T, ino_F, notT, notF, bneT, bneF, beqT, beqF, decT, decF] at h41
       have hev : ¬ L.length % 2 = 1 := by omega
       refine At.skipC ?_
       refine At.thenN ?_
       refine tR ?_
       refine tM rfl rfl ?_
       refine tA rfl rfl ?_
       refine tA rfl rfl ?_
       refine tE ?_
       refine At.retC ?_
       refine At.ret2 (.inl rfl) rfl rfl rfl rfl (fun w hw => ?_)
       exact ⟨_, by rw [svE_T hg], by rw [svP_T hg, svB, pad_0 hev, List.append_nil]; exact (hw.drop (List.singleton_sublist.2 (List.mem_of_getElem? (i := 2) rfl))).f0⟩
theorem halfS_p (v : Value) (l : List UInt8) (a : Nat) (w : World) (hv : RdB w v l) (hlen : l.length ≤ 140737488355328) (hn : a + 4 ≤ l.length) :
    PureC Tryz.prog 122 [v, .int .i64 (a : Int)] (.tuple #[.int .u32 (num l a 4 : Nat), .int .i64 0]) w := by
 have hnl := num_lt (l := l) a 4
 refine enter0 Tryz.func122 rfl Tryz.ntmps122 rfl ?_
 simp only [envOf]
 refine tR ?_
 refine tA rfl rfl ?_
 refine tA rfl rfl ?_
 refine tE ?_
 refine At.seq ?_
 refine tR ?_
 refine tM rfl rfl ?_
 refine tM rfl rfl ?_
 refine At.callP (fun w hw => fits_p v l a 4 w (hv.mod hw.mod) hlen (by omega)) Tryz.call96 rfl rfl ?_
 refine At.val (Val.not rfl) rfl rfl rfl ?_
 refine tE ?_
 refine At.cond rfl (fun h1 => ?_) (fun h1 => ?_)
 ·skip
  try simp only [vN_T, vN_F, nmE_T, nmE_F, wI_T, wI_F, data_T, data_F, ino_T, ino_F, notT, notF, bneT, bneF, beqT, beqF, decT, decF] at h1
  exact absurd h1 (by simp; omega)
 ·skip
  try simp only [vN_T, vN_F, nmE_T, nmE_F, wI_T, wI_F, data_T, data_F, ino_T, ino_F, notT, notF, bneT, bneF, beqT, beqF, decT, decF] at h1
  refine At.skipC ?_
  refine At.thenN ?_
  refine tR ?_
  refine tM rfl rfl ?_
  refine tM rfl rfl ?_
  refine At.callP (fun w hw => numS_p v l a 4 w (hv.mod hw.mod) hlen hn (by decide)) Tryz.call97 rfl rfl ?_
  first | refine At.val (Val.toW Tryz.underlying32 Tryz.underlying76 rfl (by omega) (by omega)) rfl rfl rfl ?_ | refine At.val (Val.conv Tryz.underlying32 Tryz.underlying76 rfl) rfl rfl rfl ?_
  refine tA rfl rfl ?_
  refine tA rfl rfl ?_
  refine tE ?_
  refine At.retC ?_
  refine At.ret2 (.inl rfl) rfl rfl rfl rfl (fun w hw => ?_)
  exact ⟨rfl, hw.mod⟩
end Go.Proofs.YthhkbbodhghmcaaGreatDoor
set_option linter.unusedVariables false
set_option linter.unusedSimpArgs false
namespace Go.Proofs.YthhkbbodhghmcaaGreatDoor
open Go Go.Wk
theorem openSvR_n (v : Value) (l : List UInt8) (w : World) (hv : RdB w v l) (hlen : l.length ≤ 140737488355328) :
    NewRowT Tryz.prog 104 [v] (fun v => .tuple #[.agg #[b32 (oT l), v], .int .i64 (oE l)]) 100 2 (oL l).length (prS (oL l)) w := by
 refine enter0 Tryz.func104 rfl Tryz.ntmps104 rfl ?_
 have hn16 : svN l < 4294967296 := by have := num_lt (l := l) 16 4; unfold svN; omega
 simp only [envOf]
 refine tR ?_
 refine At.alloc Tryz.zeroValue90 rfl rfl (fun b1 => ?_)
 refine tA rfl rfl ?_
 refine tE ?_
 refine At.seq ?_
 refine tR ?_
 refine tM rfl rfl ?_
 refine At.val (Val.lenRd hv Tryz.underlying59 rfl) rfl rfl rfl ?_
 refine At.val (Val.bin rfl rfl rfl) rfl rfl rfl ?_
 refine tE ?_
 refine At.cond rfl (fun h2 => ?_) (fun h2 => ?_)
 ·skip
  try simp only [vN_T, vN_F, nmE_T, nmE_F, wI_T, wI_F, data_T, data_F, ino_T, ino_F, notT, notF, bneT, bneF, beqT, beqF, decT, decF] at h2
  have hno : ¬ OkSv l := fun h => by have := h.1; omega
  refine tR ?_
  refine At.val (Val.build (fun a ha => by simp only [List.map_toArray, List.map_cons, List.map_nil] <;> rfl) (bld_90_)) rfl rfl rfl ?_
  refine At.storeAll (i := 0) Tryz.sizeOf90 rfl rfl rfl (by simp [Value.oneCell']) rfl rfl ?_
  simp only [sc0, scS]
  refine tA rfl rfl ?_
  refine tE ?_
  refine At.retC ?_
  refine At.thenR ?_
  refine At.ret2 (.inl rfl) rfl rfl (ResOf.all (i := 0) Tryz.isAgg90 Tryz.sizeOf90 rfl rfl rfl) rfl (fun w hw => ?_)
  exact ⟨.slice none 0 0, by rw [oE_no hno, oT_no hno]; try rfl, by rw [oL_no hno]; exact ((hw.drop (List.nil_sublist _)).f0).nilRow _ _⟩
 ·skip
  try simp only [vN_T, vN_F, nmE_T, nmE_F, wI_T, wI_F, data_T, data_F, ino_T, ino_F, notT, notF, bneT, bneF, beqT, beqF, decT, decF] at h2
  have h24 : 24 ≤ l.length := by omega
  refine At.skipC ?_
  refine At.thenN ?_
  refine tR ?_
  refine tM rfl rfl ?_
  refine At.callP (fun w hw => halfS_p v l (8) w (hv.mod hw.mod) hlen (by omega)) Tryz.call122 rfl rfl ?_
  skip
  ·skip
   rw [num_svT l]
   refine tM rfl rfl ?_
   refine At.val (Val.extract rfl rfl) rfl rfl rfl ?_
   refine At.val (Val.extract rfl rfl) rfl rfl rfl ?_
   refine tA rfl rfl ?_
   refine tA rfl rfl ?_
   refine tE ?_
   refine tR ?_
   refine tM rfl rfl ?_
   refine At.callP (fun w hw => halfS_p v l (16) w (hv.mod hw.mod) hlen (by omega)) Tryz.call122 rfl rfl ?_
   refine tM rfl rfl ?_
   refine At.val (Val.extract rfl rfl) rfl rfl rfl ?_
   refine At.val (Val.extract rfl rfl) rfl rfl rfl ?_
   refine tA rfl rfl ?_
   refine tA rfl rfl ?_
   refine At.nil ?_
   rw [show num l 16 4 = svN l from rfl]
   refine At.thenN ?_
   refine At.seq ?_
   refine tR ?_
   refine tM rfl rfl ?_
   refine At.val (Val.bin rfl rfl rfl) rfl rfl rfl ?_
   refine tM rfl rfl ?_
   refine At.split (t := 31) rfl (fun h3 => ?_) (fun h3 => ?_)
   ·skip
    try simp only [vN_T, vN_F, nmE_T, nmE_F, wI_T, wI_F, data_T, data_F, ino_T, ino_F, notT, notF, bneT, bneF, beqT, beqF, decT, decF] at h3
    have hno : ¬ OkSv l := fun h => by have := h.2.2.2.1; omega
    refine At.no rfl rfl rfl rfl ?_
    refine At.no rfl rfl rfl rfl ?_
    refine At.no rfl rfl rfl rfl ?_
    refine At.no rfl rfl rfl rfl ?_
    refine At.no rfl rfl rfl rfl ?_
    refine At.no rfl rfl rfl rfl ?_
    refine At.no rfl rfl rfl rfl ?_
    refine At.val (Val.pickT rfl rfl) rfl rfl rfl ?_
    refine tE ?_
    refine At.condT rfl ?_
    refine tR ?_
    refine At.val (Val.build (fun a ha => by simp only [List.map_toArray, List.map_cons, List.map_nil] <;> rfl) (bld_90_)) rfl rfl rfl ?_
    refine At.storeAll (i := 0) Tryz.sizeOf90 rfl rfl rfl (by simp [Value.oneCell']) rfl rfl ?_
    simp only [sc0, scS]
    refine tA rfl rfl ?_
    refine tE ?_
    refine At.retC ?_
    refine At.thenR ?_
    refine At.ret2 (.inl rfl) rfl rfl (ResOf.all (i := 0) Tryz.isAgg90 Tryz.sizeOf90 rfl rfl rfl) rfl (fun w hw => ?_)
    exact ⟨.slice none 0 0, by rw [oE_no hno, oT_no hno]; try rfl, by rw [oL_no hno]; exact ((hw.drop (List.nil_sublist _)).f0).nilRow _ _⟩
   ·skip
    try simp only [vN_T, vN_F, nmE_T, nmE_F, wI_T, wI_F, data_T, data_F, ino_T, ino_F, notT, notF, bneT, bneF, beqT, beqF, decT, decF] at h3
    refine At.yes rfl rfl ?_
    refine tM rfl rfl ?_
    refine At.yes rfl rfl ?_
    refine At.val (Val.lenRd hv Tryz.underlying59 rfl) rfl rfl rfl ?_
    refine At.yes rfl rfl ?_
    refine tM rfl rfl ?_
    refine At.yes rfl rfl ?_
    first | refine At.val (Val.toI Tryz.underlying76 Tryz.underlying3 rfl (by omega) (by omega)) rfl rfl rfl ?_ | refine At.val (Val.conv Tryz.underlying76 Tryz.underlying3 rfl) rfl rfl rfl ?_
    refine At.yes rfl rfl ?_
    first | refine At.val (Val.mulI rfl rfl (by omega) (by omega)) rfl rfl rfl ?_ | refine At.val (Val.bin rfl rfl rfl) rfl rfl rfl ?_
    refine At.yes rfl rfl ?_
    first | refine At.val (Val.addI rfl rfl (by omega) (by omega)) rfl rfl rfl ?_ | refine At.val (Val.bin rfl rfl rfl) rfl rfl rfl ?_
    refine At.yes rfl rfl ?_
    refine At.val (Val.bin rfl rfl rfl) rfl rfl rfl ?_
    refine At.val (Val.pickF rfl rfl) rfl rfl rfl ?_
    refine tE ?_
    refine At.cond rfl (fun h4 => ?_) (fun h4 => ?_)
    ·skip
     try simp only [vN_T, vN_F, nmE_T, nmE_F, wI_T, wI_F, data_T, data_F, ino_T, ino_F, notT, notF, bneT, bneF, beqT, beqF, decT, decF] at h4
     have hno : ¬ OkSv l := fun h => by have := h.2.2.2.2.1; omega
     refine tR ?_
     refine At.val (Val.build (fun a ha => by simp only [List.map_toArray, List.map_cons, List.map_nil] <;> rfl) (bld_90_)) rfl rfl rfl ?_
     refine At.storeAll (i := 0) Tryz.sizeOf90 rfl rfl rfl (by simp [Value.oneCell']) rfl rfl ?_
     simp only [sc0, scS]
     refine tA rfl rfl ?_
     refine tE ?_
     refine At.retC ?_
     refine At.thenR ?_
     refine At.ret2 (.inl rfl) rfl rfl (ResOf.all (i := 0) Tryz.isAgg90 Tryz.sizeOf90 rfl rfl rfl) rfl (fun w hw => ?_)
     exact ⟨.slice none 0 0, by rw [oE_no hno, oT_no hno]; try rfl, by rw [oL_no hno]; exact ((hw.drop (List.nil_sublist _)).f0).nilRow _ _⟩
    ·skip
     try simp only [vN_T, vN_F, nmE_T, nmE_F, wI_T, wI_F, data_T, data_F, ino_T, ino_F, notT, notF, bneT, bneF, beqT, beqF, decT, decF] at h4
     have hn249 : svN l ≤ 249 := by omega
     have hl4 : 24 + 4 * svN l ≤ l.length := by omega
     refine At.skipC ?_
     refine At.thenN ?_
     refine tR ?_
     refine tM rfl rfl ?_
     refine At.val (Val.build (fun a ha => by simp only [List.map_toArray, List.map_cons, List.map_nil, ha.eval (x := (.tmp 41)) rfl] <;> rfl) (bld_90_0 _ )) rfl rfl rfl ?_
     refine At.alloc Tryz.zeroValue90 rfl rfl (fun b5 => ?_)
     refine At.storeAll (i := 0) Tryz.sizeOf90 rfl rfl rfl (by simp [Value.oneCell']) rfl rfl ?_
     simp only [sc0, scS]
     refine tE ?_
     refine At.seq ?_
     refine tR ?_
     refine tA rfl rfl ?_
     refine At.nil ?_
     refine At.rowNilS 100 ?_
     refine At.thenN ?_
     refine At.block ?_
     skip
     refine At.loop (σ := Nat × Value) (fun s => s.1 ≤ svN l) (fun s => [(0, v), (2, .pointer (some ⟨b1, 0, none⟩)), (6, .int .u32 (svN l : Int)), (8, .pointer (some ⟨b5, 0, none⟩)), (9, .int .i64 (s.1 : Int))]) (fun s => [srow 100 s.2 (spRec l s.1), blk b5 90 [b32 (svT l), s.2], blk b1 90 [.int .u32 0, .slice none 0 0]]) (fun s => svN l - s.1) (0, .slice none 0 0) (Nat.zero_le _) (Sub.cons rfl (Sub.cons rfl (Sub.cons rfl (Sub.cons rfl (Sub.cons rfl Sub.nil))))) (List.Perm.refl _) ?_
     intro s hs
     obtain ⟨k, vk⟩ := s
     dsimp only at hs ⊢
     have hn2 := num_lt (l := l) (24 + 4 * k) 2
     have hn3 := num_lt (l := l) (24 + 4 * k + 2) 2
     refine At.seq ?_
     refine tR ?_
     refine tM rfl rfl ?_
     refine tM rfl rfl ?_
     first | refine At.val (Val.toI Tryz.underlying76 Tryz.underlying3 rfl (by omega) (by omega)) rfl rfl rfl ?_ | refine At.val (Val.conv Tryz.underlying76 Tryz.underlying3 rfl) rfl rfl rfl ?_
     refine At.val (Val.bin rfl rfl rfl) rfl rfl rfl ?_
     refine tE ?_
     refine At.cond rfl (fun h6 => ?_) (fun h6 => ?_)
     ·skip
      try simp only [vN_T, vN_F, nmE_T, nmE_F, wI_T, wI_F, data_T, data_F, ino_T, ino_F, notT, notF, bneT, bneF, beqT, beqF, decT, decF] at h6
      have hk : k < svN l := by omega
      refine At.skipC ?_
      refine At.thenN ?_
      refine At.seq ?_
      refine At.block ?_
      refine tR ?_
      refine tM rfl rfl ?_
      refine tM rfl rfl ?_
      first | refine At.val (Val.mulI rfl rfl (by omega) (by omega)) rfl rfl rfl ?_ | refine At.val (Val.bin rfl rfl rfl) rfl rfl rfl ?_
      refine At.val (Val.addI rfl rfl (by omega) (by omega)) rfl rfl rfl ?_
      rw [show (24 : Int) + 4 * (k : Int) = ((24 + 4 * k : Nat) : Int) from by omega]
      refine At.callP (fun w hw => halfS_p v l (24 + 4 * k) w (hv.mod hw.mod) hlen (by omega)) Tryz.call122 rfl rfl ?_
      refine tM rfl rfl ?_
      refine At.val (Val.extract rfl rfl) rfl rfl rfl ?_
      refine At.val (Val.extract rfl rfl) rfl rfl rfl ?_
      refine tA rfl rfl ?_
      refine tA rfl rfl ?_
      refine tE ?_
      refine At.region ?_
      refine At.val (Val.field 1 rfl fo_90_1 rfl) rfl rfl rfl ?_
      refine At.val (Val.load (i := 1) Tryz.isAgg35 rfl rfl rfl) rfl rfl rfl ?_
      refine tM rfl rfl ?_
      first | refine At.val (Val.remI rfl rfl (by omega) (by decide)) rfl rfl rfl ?_ | refine At.val (Val.rem rfl rfl (by decide)) rfl rfl rfl ?_
      refine At.val (Val.toI Tryz.underlying76 Tryz.underlying3 rfl (by omega) (by omega)) rfl rfl rfl ?_
      rw [show ((num l (24 + 4 * k) 4 : Nat) : Int) % 65536 = ((num l (24 + 4 * k) 2 : Nat) : Int) from by have := (num4_div (l := l) (a := 24 + 4 * k) (by omega)).1; omega]
      refine tM rfl rfl ?_
      refine At.val (Val.quo rfl rfl (by decide)) rfl rfl rfl ?_
      rw [show IntKind.u32.wrap (((num l (24 + 4 * k) 4 : Nat) : Int).tdiv 65536) = ((num l (24 + 4 * k + 2) 2 : Nat) : Int) from by rw [Int.tdiv_eq_ediv_of_nonneg (by omega)]; have h9 := (num4_div (l := l) (a := 24 + 4 * k) (by omega)).2; rw [wrap_u32 (by omega) (by omega)]; omega]
      first | refine At.val (Val.toI Tryz.underlying76 Tryz.underlying3 rfl (by omega) (by omega)) rfl rfl rfl ?_ | refine At.val (Val.conv Tryz.underlying76 Tryz.underlying3 rfl) rfl rfl rfl ?_
      refine At.val (Val.build (fun a ha => by simp only [List.map_toArray, List.map_cons, List.map_nil, ha.eval (x := (.tmp 61)) rfl, ha.eval (x := (.tmp 64)) rfl] <;> rfl) (bld_100_0_1 _ _ )) rfl rfl rfl ?_
      refine At.buildSl (fun a ha => by simp only [List.map_toArray, List.map_cons, List.map_nil, ha.eval (x := (.tmp 65)) rfl]; try rfl) (bs_35_1 _ _ ) rfl (fun b7 => ?_)
      refine At.appendS1 (i := 1) (j := 0) (by_ := 16) Tryz.underlying35 info_100 rfl rfl rfl rfl rfl rfl rfl rfl (by rw [spRec_length]; omega) (by rw [spRec_length]; omega) rfl (fun v8 => ?_)
      simp only [sc0, scS]
      refine At.drop 0 ?_
      simp only [ec0, ecS]
      refine At.val (Val.field 1 rfl fo_90_1 rfl) rfl rfl rfl ?_
      refine At.rowOne (i := 0) rfl (fun ho9 => ?_)
      refine At.store (i := 1) Tryz.sizeOf35 rfl rfl ho9 rfl (by first | decide | simp) ?_
      simp only [sc0, scS]
      refine At.nil ?_
      refine At.blkN ?_
      refine At.thenN ?_
      refine At.region ?_
      refine tM rfl rfl ?_
      first | refine At.val (Val.addI rfl rfl (by omega) (by omega)) rfl rfl rfl ?_ | refine At.val (Val.bin rfl rfl rfl) rfl rfl rfl ?_
      refine tA rfl rfl ?_
      refine tE ?_
      exact At.again (k + 1, v8) (show k + 1 ≤ _ by omega) (by dsimp only; omega) (Sub.cons rfl (Sub.cons rfl (Sub.cons rfl (Sub.cons rfl (Sub.cons (congrArg (fun z => some (Value.int IntKind.i64 z)) (by omega)) Sub.nil))))) (by rw [spRec_succ])
     ·skip
      try simp only [vN_T, vN_F, nmE_T, nmE_F, wI_T, wI_F, data_T, data_F, ino_T, ino_F, notT, notF, bneT, bneF, beqT, beqF, decT, decF] at h6
      obtain rfl : k = svN l := by omega
      refine At.exitC ?_
      refine At.thenX ?_
      refine At.thenX ?_
      refine At.blkX ?_
      refine At.thenN ?_
      refine tR ?_
      refine At.val (Val.loadAll (i := 1) Tryz.isAgg90 Tryz.sizeOf90 rfl rfl rfl) rfl rfl rfl ?_
      refine At.callNT (g := (fun v => .tuple #[v, .int .i64 (svE (svT l) (spRec l (svN l)))])) (fun w hw => packSvR_n (svT l) _ (spRec l (svN l)) w (row_rd (hw.row (i := 0) rfl) (by decide)) (by rw [spRec_length]; omega)) Tryz.call54 rfl rfl (fun v10 => ?_)
      by_cases hg : GoodSv (svT l) (spRec l (svN l))
      ·skip
       rw [svE_T hg]
       have hpl : (svP (svT l) (spRec l (svN l))).length = 24 + 4 * svN l + 4 * (svN l % 2) := by rw [svP_T hg, svB_length, spRec_length]
       refine tM rfl rfl ?_
       refine At.val (Val.extract rfl rfl) rfl rfl rfl ?_
       refine At.val (Val.extract rfl rfl) rfl rfl rfl ?_
       refine tA rfl rfl ?_
       refine tA rfl rfl ?_
       refine tE ?_
       refine At.seq ?_
       refine tR ?_
       refine tM rfl rfl ?_
       refine At.val (Val.bin rfl rfl rfl) rfl rfl rfl ?_
       refine tE ?_
       refine At.condF rfl ?_
       refine At.skipC ?_
       refine At.thenN ?_
       refine At.seq ?_
       refine tR ?_
       refine tA rfl rfl ?_
       refine tE ?_
       refine At.block ?_
       skip
       refine At.loop (σ := Nat) (fun k => k ≤ 24 + 4 * svN l ∧ ∀ i, i < k → (svP (svT l) (spRec l (svN l)))[i]? = l[i]?) (fun k => [(0, v), (2, .pointer (some ⟨b1, 0, none⟩)), (6, .int .u32 (svN l : Int)), (8, .pointer (some ⟨b5, 0, none⟩)), (12, v10), (14, .int .i64 (k : Int))]) (fun k => [rowR v10 5 1 ((svP (svT l) (spRec l (svN l))).length) ((svP (svT l) (spRec l (svN l))).map bv), rowR vk 100 2 (((spRec l (svN l))).length) (prS ((spRec l (svN l)))), blk b5 90 ([b32 (svT l), vk]), blk b1 90 ([.int .u32 0, .slice none 0 0])]) (fun k => 24 + 4 * svN l - k) 0 ⟨Nat.zero_le _, fun i h => absurd h (Nat.not_lt_zero _)⟩ (Sub.cons rfl (Sub.cons rfl (Sub.cons rfl (Sub.cons rfl (Sub.cons rfl (Sub.cons rfl Sub.nil)))))) (List.Perm.refl _) ?_
       intro k hs
       refine At.seq ?_
       refine tR ?_
       refine tM rfl rfl ?_
       refine tM rfl rfl ?_
       first | refine At.val (Val.toI Tryz.underlying76 Tryz.underlying3 rfl (by omega) (by omega)) rfl rfl rfl ?_ | refine At.val (Val.conv Tryz.underlying76 Tryz.underlying3 rfl) rfl rfl rfl ?_
       first | refine At.val (Val.mulI rfl rfl (by omega) (by omega)) rfl rfl rfl ?_ | refine At.val (Val.bin rfl rfl rfl) rfl rfl rfl ?_
       first | refine At.val (Val.addI rfl rfl (by omega) (by omega)) rfl rfl rfl ?_ | refine At.val (Val.bin rfl rfl rfl) rfl rfl rfl ?_
       refine At.val (Val.bin rfl rfl rfl) rfl rfl rfl ?_
       refine tE ?_
       refine At.cond rfl (fun h11 => ?_) (fun h11 => ?_)
       ·skip
        try simp only [vN_T, vN_F, nmE_T, nmE_F, wI_T, wI_F, data_T, data_F, ino_T, ino_F, notT, notF, bneT, bneF, beqT, beqF, decT, decF] at h11
        have hk : k < 24 + 4 * svN l := by omega
        refine At.skipC ?_
        refine At.thenN ?_
        refine At.seq ?_
        refine At.block ?_
        refine At.seq ?_
        refine At.quiet rfl (by decide +kernel) ?_
        refine qM rfl rfl ?_
        refine qM rfl rfl ?_
        refine QAt.idxRowB (i := 0) rfl Tryz.underlying59 Tryz.sizeOf5 rfl rfl (by omega) (by omega) rfl rfl (fun q12 hq13 hl14 => ?_)
        refine QAt.val (Val.loadRowB (i := 0) Tryz.isAgg5 rfl rfl hq13) rfl rfl rfl ?_
        refine qM rfl rfl ?_
        refine qM rfl rfl ?_
        refine QAt.idxB hv Tryz.underlying59 Tryz.sizeOf5 rfl rfl (by omega) (by omega) rfl rfl (fun b15 o16 q17 hq18 hl19 hc20 => ?_)
        refine QAt.val (Val.loadOld Tryz.isAgg5 rfl hc20 (fun h => h)) rfl rfl rfl ?_
        refine QAt.val (Val.bin rfl rfl rfl) rfl rfl rfl ?_
        refine QAt.fin ?_
        refine At.thenN ?_
        refine At.cond rfl (fun h21 => ?_) (fun h21 => ?_)
        ·skip
         try simp only [vN_T, vN_F, nmE_T, nmE_F, wI_T, wI_F, data_T, data_F, ino_T, ino_F, notT, notF, bneT, bneF, beqT, beqF, decT, decF] at h21
         refine tR ?_
         refine At.val (Val.build (fun a ha => by simp only [List.map_toArray, List.map_cons, List.map_nil] <;> rfl) (bld_90_)) rfl rfl rfl ?_
         refine At.storeAll (i := 3) Tryz.sizeOf90 rfl rfl rfl (by simp [Value.oneCell']) rfl rfl ?_
         simp only [sc0, scS]
         refine tA rfl rfl ?_
         refine tE ?_
         refine At.retC ?_
         refine At.blkR ?_
         refine At.thenR ?_
         refine At.thenR ?_
         refine At.blkR ?_
         refine At.thenR ?_
         refine At.ret2 (.inl rfl) rfl rfl (ResOf.all (i := 3) Tryz.isAgg90 Tryz.sizeOf90 rfl rfl rfl) rfl (fun w hw => ?_)
         have hno : ¬ OkSv l := fun h => cmpV_ne hq13 hq18 (by assumption) (sv_same h (by omega))
         exact ⟨.slice none 0 0, by rw [oE_no hno, oT_no hno]; try rfl, by rw [oL_no hno]; exact ((hw.drop (List.nil_sublist _)).f0).nilRow _ _⟩
        ·skip
         try simp only [vN_T, vN_F, nmE_T, nmE_F, wI_T, wI_F, data_T, data_F, ino_T, ino_F, notT, notF, bneT, bneF, beqT, beqF, decT, decF] at h21
         refine At.skipC ?_
         refine At.blkN ?_
         refine At.thenN ?_
         refine At.region ?_
         refine tM rfl rfl ?_
         first | refine At.val (Val.addI rfl rfl (by omega) (by omega)) rfl rfl rfl ?_ | refine At.val (Val.bin rfl rfl rfl) rfl rfl rfl ?_
         refine tA rfl rfl ?_
         refine tE ?_
         exact At.again (k + 1) ⟨by omega, fun i hi => by rcases Nat.lt_or_ge i k with h' | h'; exact hs.2 i h'; obtain rfl : k = i := (by omega); exact cmpV_eq hq13 hq18 (by omega)⟩ (by omega) (Sub.cons rfl (Sub.cons rfl (Sub.cons rfl (Sub.cons rfl (Sub.cons rfl (Sub.cons (congrArg (fun z => some (Value.int IntKind.i64 z)) (by omega)) Sub.nil)))))) (List.Perm.refl _)
       ·skip
        try simp only [vN_T, vN_F, nmE_T, nmE_F, wI_T, wI_F, data_T, data_F, ino_T, ino_F, notT, notF, bneT, bneF, beqT, beqF, decT, decF] at h11
        obtain rfl : k = 24 + 4 * svN l := by omega
        refine At.exitC ?_
        refine At.thenX ?_
        refine At.thenX ?_
        refine At.blkX ?_
        refine At.thenN ?_
        refine At.seq ?_
        refine At.rowOne (i := 1) rfl (fun ho => ?_)
        refine At.region ?_
        refine At.val (Val.loadAll (i := 2) Tryz.isAgg90 Tryz.sizeOf90 rfl rfl rfl) rfl rfl rfl ?_
        refine At.storeAll (i := 3) Tryz.sizeOf90 rfl rfl rfl (by intro u hu; rcases List.mem_cons.1 hu with rfl | hu; rfl; obtain rfl := List.mem_singleton.1 hu; exact ho) rfl rfl ?_
        simp only [sc0, scS]
        refine tA rfl rfl ?_
        refine tE ?_
        refine At.retC ?_
        refine At.ret2 (.inl rfl) rfl rfl (ResOf.all (i := 3) Tryz.isAgg90 Tryz.sizeOf90 rfl rfl rfl) rfl (fun w hw => ?_)
        have hok : OkSv l := sv_back h24 hn249 hl4 hg hs.2
        exact ⟨vk, by rw [oE_yes hok, oT_yes hok]; try rfl, by rw [oL_yes hok]; exact (hw.drop (List.singleton_sublist.2 (List.mem_of_getElem? (i := 1) rfl))).f0⟩
      ·skip
       rw [svE_F hg]
       have hno : ¬ OkSv l := fun h => hg h.2.2.2.2.2.2
       refine tM rfl rfl ?_
       refine At.val (Val.extract rfl rfl) rfl rfl rfl ?_
       refine At.val (Val.extract rfl rfl) rfl rfl rfl ?_
       refine tA rfl rfl ?_
       refine tA rfl rfl ?_
       refine tE ?_
       refine At.seq ?_
       refine tR ?_
       refine tM rfl rfl ?_
       refine At.val (Val.bin rfl rfl rfl) rfl rfl rfl ?_
       refine tE ?_
       refine At.condT rfl ?_
       refine tR ?_
       refine At.val (Val.build (fun a ha => by simp only [List.map_toArray, List.map_cons, List.map_nil] <;> rfl) (bld_90_)) rfl rfl rfl ?_
       refine At.storeAll (i := 3) Tryz.sizeOf90 rfl rfl rfl (by simp [Value.oneCell']) rfl rfl ?_
       simp only [sc0, scS]
       refine tA rfl rfl ?_
       refine tE ?_
       refine At.retC ?_
       refine At.thenR ?_
       refine At.ret2 (.inl rfl) rfl rfl (ResOf.all (i := 3) Tryz.isAgg90 Tryz.sizeOf90 rfl rfl rfl) rfl (fun w hw => ?_)
       exact ⟨.slice none 0 0, by rw [oE_no hno, oT_no hno]; try rfl, by rw [oL_no hno]; exact ((hw.drop (List.nil_sublist _)).f0).nilRow _ _⟩
end Go.Proofs.YthhkbbodhghmcaaGreatDoor
set_option linter.unusedVariables false
set_option linter.unusedSimpArgs false
namespace Go.Wk
open Go Go.ChangeShapes Go.WideShapes Go.ChangeAt Go.RowKit
section
variable {H : Type} {enc : TypeId × Value → H} {P : Program} {W : World} {r : Reach} {base b0 : Nat} {sp : Nat → Bool} {held : Bool}
end
end Go.Wk
set_option linter.unusedVariables false
set_option linter.unusedSimpArgs false
namespace Go.Wk
open Go Go.ChangeShapes Go.WideShapes Go.ChangeAt Go.RowKit
section
variable {H : Type} {enc : TypeId × Value → H} {P : Program} {W : World} {r : Reach} {base b0 : Nat} {sp : Nat → Bool} {held : Bool}
theorem cell_slice {t e : TypeId} {v : Value} (hu : P.underlying t = some (.slice e)) (h : Cell.okWide P W r base t v) : v = .slice none 0 0 ∨ ∃ b o n c, v = .slice (some ⟨b, o, none⟩) n c ∧ n ≤ c :=
  arg_slice (r := r) (base := base) hu (by unfold Value.okWide; rw [hu]; exact h)
end
end Go.Wk
set_option linter.unusedVariables false
set_option linter.unusedSimpArgs false
namespace Go.Wk
open Go Go.ChangeMaps
section
variable {P : Program} {Γ : Ctx} {E : Env} {H L F : List Res} {ops : Array Oper} {Q : Exit → Act → World → Prop} {rest : List Oper} {w0 w w' : World} {S : Nat → Prop} {φ : Act → World → Prop}
  {d : Nat} {dst : Option Tmp} {g : Option (Nat × Bool)} {ty : TypeId} {pos : String} {after : Array Edge} {x y z : Operand} {v u : Value}
/-! ### stars -/
def star (L : List Res) : Res where
  foot := feet L
  holds := fun w => L.Pairwise Apart ∧ ∀ r ∈ L, r.holds w
  stable := fun h hw => ⟨hw.1, fun r hr => r.stable (fun b hb => h b ⟨r, hr, hb⟩) (hw.2 r hr)⟩
  low := fun hw b ⟨r, hr, hb⟩ => r.low (hw.2 r hr) b hb
theorem Rep.openS (h : Rep w0 S (star L :: F) w) : Rep w0 S (L ++ F) w := by
  have hs := List.pairwise_cons.1 h.sep
  have hl := h.all (star L) (List.mem_cons_self ..)
  refine ⟨List.pairwise_append.2 ⟨hl.1, hs.2, fun r hr s hs' b hb hsb => hs.1 s hs' b ⟨r, hr, hb⟩ hsb⟩, fun r hr => ?_, fun r hr b hb => ?_, h.mod⟩
  · rcases List.mem_append.1 hr with h1 | h1
    · exact hl.2 r h1
    · exact h.all r (List.mem_cons_of_mem _ h1)
  · rcases List.mem_append.1 hr with h1 | h1
    · exact h.mine (star L) (List.mem_cons_self ..) b ⟨r, h1, hb⟩
    · exact h.mine r (List.mem_cons_of_mem _ h1) b hb
theorem Rep.shutS (h : Rep w0 S (L ++ F) w) : Rep w0 S (star L :: F) w := by
  have hs := List.pairwise_append.1 h.sep
  refine ⟨List.pairwise_cons.2 ⟨fun s hs' b ⟨r, hr, hb⟩ hsb => hs.2.2 r hr s hs' b hb hsb, hs.2.1⟩, fun r hr => ?_, fun r hr b hb => ?_, h.mod⟩
  · rcases List.mem_cons.1 hr with rfl | h1
    · exact ⟨hs.1, fun r hr => h.all r (List.mem_append_left _ hr)⟩
    · exact h.all r (List.mem_append_right _ h1)
  · rcases List.mem_cons.1 hr with rfl | h1
    · obtain ⟨r, hr, hb⟩ := hb
      exact h.mine r (List.mem_append_left _ hr) b hb
    · exact h.mine r (List.mem_append_right _ h1) b hb
theorem At.openS (i : Nat) (hi : H[i]? = some (star L)) (k : At Γ E (L ++ H.eraseIdx i) φ) : At Γ E H φ := fun a w ha hw => k a w ha (hw.perm (erase_perm H i _ hi)).openS
theorem At.shutS (k : At Γ E (star L :: H) φ) : At Γ E (L ++ H) φ := fun a w ha hw => k a w ha hw.shutS
theorem Rep.of_star {r : Res} (h : (star L).holds w) : Rep w (feet [star L]) L w :=
  ⟨h.1, h.2, fun r hr b hb => .inr ⟨star L, by simp, r, hr, hb⟩, Mod.refl _ _⟩
def factR (p : Prop) : Res where
  foot := fun _ => False
  holds := fun _ => p
  stable := fun _ h => h
  low := fun _ b hb => hb.elim
theorem At.fact {p : Prop} (i : Nat) (hi : H[i]? = some (factR p)) (k : p → At Γ E H φ) : At Γ E H φ := fun a w ha hw => k (hw.all _ (List.mem_of_getElem? hi)) a w ha hw
theorem Rep.fact {p : Prop} (hp : p) (h : Rep w0 S H w) : Rep w0 S (factR p :: H) w :=
  ⟨List.pairwise_cons.2 ⟨fun s _ b hb _ => hb.elim, h.sep⟩, fun r hr => by
    rcases List.mem_cons.1 hr with rfl | h1
    · exact hp
    · exact h.all r h1, fun r hr b hb => by
    rcases List.mem_cons.1 hr with rfl | h1
    · exact hb.elim
    · exact h.mine r h1 b hb, h.mod⟩
/-! ### families -/
def upd {α : Type} (I : Nat → α) (k : Nat) (x : α) : Nat → α := fun j => if j = k then x else I j
theorem upd_at {α : Type} (I : Nat → α) (k : Nat) (x : α) : upd I k x k = x := by simp [upd]
theorem upd_ne {α : Type} (I : Nat → α) {k j : Nat} (x : α) (h : j ≠ k) : upd I k x j = I j := by simp [upd, h]
theorem upd_none {I : Nat → Option Res} {k j : Nat} {r : Res} (h : upd I k none j = some r) : j ≠ k ∧ I j = some r := by
  unfold upd at h; split at h
  · cases h
  · exact ⟨by assumption, h⟩
def fam (I : Nat → Option Res) : Res where
  foot := fun b => ∃ k r, I k = some r ∧ r.foot b
  holds := fun w => (∀ k r, I k = some r → r.holds w) ∧ ∀ k k' r r', I k = some r → I k' = some r' → k ≠ k' → Apart r r'
  stable := fun h hw => ⟨fun k r hk => r.stable (fun b hb => h b ⟨k, r, hk, hb⟩) (hw.1 k r hk), hw.2⟩
  low := fun hw b ⟨k, r, hk, hb⟩ => r.low (hw.1 k r hk) b hb
theorem Rep.focus {I : Nat → Option Res} {k : Nat} {r : Res} (hk : I k = some r) (h : Rep w0 S (fam I :: F) w) : Rep w0 S (r :: fam (upd I k none) :: F) w := by
  have hs := List.pairwise_cons.1 h.sep
  have hl := h.all (fam I) (List.mem_cons_self ..)
  have hm := h.mine (fam I) (List.mem_cons_self ..)
  refine ⟨List.pairwise_cons.2 ⟨fun s hs' b hb hsb => ?_, List.pairwise_cons.2 ⟨fun s hs' b ⟨k', r', hk', hb⟩ hsb => ?_, hs.2⟩⟩, fun s hs' => ?_, fun s hs' b hb => ?_, h.mod⟩
  · rcases List.mem_cons.1 hs' with rfl | h1
    · obtain ⟨k', r', hk', hb'⟩ := hsb
      obtain ⟨h2, h3⟩ := upd_none hk'
      exact hl.2 _ _ _ _ hk h3 (Ne.symm h2) b hb hb'
    · exact hs.1 s h1 b ⟨k, r, hk, hb⟩ hsb
  · exact hs.1 s hs' b ⟨k', r', (upd_none hk').2, hb⟩ hsb
  · rcases List.mem_cons.1 hs' with rfl | h1
    · exact hl.1 _ _ hk
    · rcases List.mem_cons.1 h1 with rfl | h1
      · exact ⟨fun j q hj => hl.1 _ _ (upd_none hj).2, fun j j' q q' hj hj' hne => hl.2 _ _ _ _ (upd_none hj).2 (upd_none hj').2 hne⟩
      · exact h.all s (List.mem_cons_of_mem _ h1)
  · rcases List.mem_cons.1 hs' with rfl | h1
    · exact hm b ⟨k, _, hk, hb⟩
    · rcases List.mem_cons.1 h1 with rfl | h1
      · obtain ⟨k', r', hk', hb'⟩ := hb
        exact hm b ⟨k', r', (upd_none hk').2, hb'⟩
      · exact h.mine s (List.mem_cons_of_mem _ h1) b hb
theorem upd_some {I : Nat → Option Res} {k j : Nat} {r q : Res} (h : upd I k (some r) j = some q) : (j = k ∧ q = r) ∨ (j ≠ k ∧ I j = some q) := by
  unfold upd at h; split at h
  · exact .inl ⟨by assumption, (Option.some.inj h).symm⟩
  · exact .inr ⟨by assumption, h⟩
theorem Rep.unfocus {I : Nat → Option Res} {k : Nat} {r : Res} (hk : I k = none) (h : Rep w0 S (r :: fam I :: F) w) : Rep w0 S (fam (upd I k (some r)) :: F) w := by
  have hs := List.pairwise_cons.1 h.sep
  have hs2 := List.pairwise_cons.1 hs.2
  have hl := h.all (fam I) (by simp)
  have hr := h.all r (by simp)
  refine ⟨List.pairwise_cons.2 ⟨fun s hs' b ⟨k', r', hk', hb⟩ hsb => ?_, hs2.2⟩, fun s hs' => ?_, fun s hs' b hb => ?_, h.mod⟩
  · rcases upd_some hk' with ⟨_, rfl⟩ | ⟨_, h1⟩
    · exact hs.1 s (List.mem_cons_of_mem _ hs') b hb hsb
    · exact hs2.1 s hs' b ⟨k', r', h1, hb⟩ hsb
  · rcases List.mem_cons.1 hs' with rfl | h1
    · refine ⟨fun j q hj => ?_, fun j j' q q' hj hj' hne => ?_⟩
      · rcases upd_some hj with ⟨_, rfl⟩ | ⟨_, h1⟩
        · exact hr
        · exact hl.1 _ _ h1
      · rcases upd_some hj with ⟨e1, rfl⟩ | ⟨_, h1⟩
        · rcases upd_some hj' with ⟨e2, rfl⟩ | ⟨_, h2⟩
          · exact absurd (e1.trans e2.symm) hne
          · exact fun b hb hb' => hs.1 (fam I) (by simp) b hb ⟨_, _, h2, hb'⟩
        · rcases upd_some hj' with ⟨e2, rfl⟩ | ⟨_, h2⟩
          · exact fun b hb hb' => hs.1 (fam I) (by simp) b hb' ⟨_, _, h1, hb⟩
          · exact hl.2 _ _ _ _ h1 h2 hne
    · exact h.all s (List.mem_cons_of_mem _ (List.mem_cons_of_mem _ h1))
  · rcases List.mem_cons.1 hs' with rfl | h1
    · obtain ⟨k', r', hk', hb'⟩ := hb
      rcases upd_some hk' with ⟨_, rfl⟩ | ⟨_, h1⟩
      · exact h.mine _ (by simp) b hb'
      · exact h.mine (fam I) (by simp) b ⟨_, _, h1, hb'⟩
    · exact h.mine s (List.mem_cons_of_mem _ (List.mem_cons_of_mem _ h1)) b hb
/-! ### windows -/
def Win (w : World) (v : Value) (e : TypeId) (xs : List Value) : Prop :=
  (v = .slice none 0 0 ∧ xs = []) ∨ ∃ b o c cur, v = .slice (some ⟨b, o, none⟩) xs.length c ∧ w.heap[b]? = some (.cells cur e (0, 0)) ∧ xs.length ≤ c ∧ c ≤ maxLen ∧ o + c ≤ cur.size ∧ ∀ j u, xs[j]? = some u → cur[o + j]? = some u
def winR (v : Value) (e : TypeId) (xs : List Value) : Res where
  foot := fun x => v.ownBlock = some x
  holds := fun w => Win w v e xs
  stable := fun {w w'} h hw => by
    rcases hw with h1 | ⟨b, o, c, cur, rfl, hb, r⟩
    · exact .inl h1
    · exact .inr ⟨b, o, c, cur, rfl, (h b rfl).trans hb, r⟩
  low := fun {w} hw x hx => by
    rcases hw with ⟨rfl, _⟩ | ⟨b, o, c, cur, rfl, hb, r⟩
    · cases hx
    · simp only [Value.ownBlock, Option.some.injEq] at hx
      subst hx
      exact (Array.getElem?_eq_some_iff.1 hb).1
theorem own_win {base e n : Nat} {xs : List Value} (h : w.ownsRow base e 1 v n xs) : Win w v e xs := by
  obtain ⟨hl, h⟩ := h
  rw [Nat.mul_one] at hl
  subst hl
  rcases h with ⟨rfl, h0⟩ | ⟨b, cap, cur, rfl, _, hb, h1, h2, h3, h4⟩
  · exact .inl ⟨rfl, List.eq_nil_of_length_eq_zero h0⟩
  · refine .inr ⟨b, 0, cap, cur, rfl, hb, h1, h2, by omega, fun j u hj => ?_⟩
    rw [Nat.zero_add, ← Array.getElem?_toList]
    rw [← h4, List.getElem?_take] at hj
    split at hj
    · exact hj
    · cases hj
theorem Val.lenWin {i t el e : Nat} {xs : List Value} (hi : H[i]? = some (winR v e xs)) (hu : P.underlying t = some (.slice el)) (hx : ev E x = some v) :
    Val P Γ E H ⟨dst, .call { callee := .builtin .len, args := #[x], argTypes := #[t] }, ty, pos, after, g⟩ (.int .i64 xs.length) := fun a w ha hw => by
  have h : Win w v e xs := hw.all _ (List.mem_of_getElem? hi)
  rcases h with ⟨rfl, rfl⟩ | ⟨b, o, c, cur, rfl, _⟩
  · exact Val.len (bt := #[]) hu hx a w ha hw
  · exact Val.len (bt := #[]) hu hx a w ha hw
theorem Win.at {e b o n c j : Nat} {xs : List Value} (h : Win w (.slice (some ⟨b, o, none⟩) n c) e xs) (hv : xs[j]? = some u) : w.cell? ⟨b, o + j, none⟩ = some u := by
  rcases h with ⟨h1, _⟩ | ⟨b', o', c', cur, h1, hb, _, _, _, h2⟩
  · cases h1
  · simp only [Value.slice.injEq, Option.some.injEq, Addr.mk.injEq] at h1
    obtain ⟨⟨rfl, rfl, _⟩, _, _⟩ := h1
    rw [cell_of_row w _ _ cur e _ hb]
    exact h2 j u hv
theorem At.winCut (i l : Nat) {e b o n c : Nat} {xs : List Value} (hi : H[i]? = some (winR (.slice (some ⟨b, o, none⟩) n c) e xs)) (hl : l ≤ xs.length)
    (k : At Γ E (H.set i (winR (.slice (some ⟨b, if c = l then o else o + l * 1, none⟩) (n - l) (c - l)) e (xs.drop l))) φ) : At Γ E H φ := fun a w ha hw => by
  have h : Win w (.slice (some ⟨b, o, none⟩) n c) e xs := hw.all _ (List.mem_of_getElem? hi)
  refine k a w ha (hw.change hi (Mod.refl _ _) ?_ (fun b' hb => .inl hb))
  rcases h with ⟨h1, _⟩ | ⟨b', o', c', cur, h1, hb, g1, g2, g3, g4⟩
  · cases h1
  · simp only [Value.slice.injEq, Option.some.injEq, Addr.mk.injEq] at h1
    obtain ⟨⟨rfl, rfl, _⟩, rfl, rfl⟩ := h1
    refine .inr ⟨b, _, _, cur, by rw [List.length_drop], hb, by rw [List.length_drop]; omega, by omega, ?_, fun j u hj => ?_⟩
    · split <;> omega
    · rw [List.getElem?_drop] at hj
      have hlt := (List.getElem?_eq_some_iff.1 hj).1
      rw [if_neg (by omega), Nat.mul_one, Nat.add_assoc]
      exact g4 _ _ hj
theorem At.appendWin1 {i j t e by_ b' U : Nat} {ti : TypeInfo} {z : Value} {xs : List Value} (ht : P.underlying t = some (.slice e)) (hti : P.info? e = some ti) (hz : ti.zero = some z) (hsize : ti.size = 1) (hby : ti.bytes = by_) (hzs : z.cells.size = 1)
    (hx : ev E x = some v) (hy : ev E y = some (.slice (some ⟨b', 0, none⟩) 1 1)) (hi : H[i]? = some (winR v e xs)) (hj : H[j]? = some (blk b' U [u])) (h1 : u.oneCell' = true) (h63 : (xs.length + 1) * by_ ≤ 140737488355328) (h64 : xs.length + 1 ≤ 140737488355328) (hn : Nat.blt d Γ.n = true)
    (k : ∀ v', At Γ ((d, v') :: E) (H.set i (winR v' e (xs ++ [u]))) (wpList P ops Q rest)) :
    At Γ E H (wpList P ops Q ({ dst := some d, op := .call { callee := .builtin .append, args := #[x, y], argTypes := #[t, t] }, type := ty, pos, after, guard := none } :: rest)) :=
  At.run rfl rfl hn fun a w ha hw => by
    have h : Win w v e xs := hw.all _ (List.mem_of_getElem? hi)
    have hc : ∀ j' u', ([u] : List Value)[j']? = some u' → w.cell? ((⟨b', 0, none⟩ : Addr).add j') = some u' := fun j' u' hj' => by rw [Addr.add_off, Nat.zero_add]; exact ((hw.blk hj).cell j').trans hj'
    have h1' : ∀ q ∈ [u], q.oneCell' = true := by simpa using h1
    rcases h with ⟨rfl, rfl⟩ | ⟨b, o, c, cur, rfl, hb, g1, g2, g3, g4⟩
    · obtain ⟨v', w', hr, ho, hg, hf⟩ := run_append_row (P := P) (ty := ty) ht hti hz hsize hby hzs (by omega) (w := w) (v := .slice none 0 0) (n := 0) (xs := []) ⟨by simp, .inl ⟨rfl, rfl⟩⟩ (a := ⟨b', 0, none⟩) (m := 1) (c := 1) (news := [u]) rfl hc h1' (by simp [maxLen]) (by simpa using h63)
      exact ⟨v', w', _, by simp [execOp, resolve, invoke, builtin, ha.eval hx, ha.eval hy, Sem.run_bind, hr], hw.change (r' := winR v' e ([] ++ [u])) hi (grown_mod hg) (own_win ho) hf, k v'⟩
    · by_cases hroom : xs.length + 1 ≤ c
      · have hcell : ∀ q, q < cur.size → w.cell? ⟨b, q, none⟩ = some (cur[q]?.getD undef) := fun q hq => by rw [cell_of_row w _ _ cur e _ hb, Array.getElem?_eq_getElem hq]; rfl
        have hr := run_append_room_cells (P := P) (w := w) t ty e ti ht hti b o xs.length c ⟨b', 0, none⟩ 1 1 [u] (by rw [hsize]; rfl) hc h1' hroom
          (fun j' hj' => by simp at hj'; subst hj'; rw [hsize, hcell _ (by omega)]; rfl) (fun j' hj' => by simp [World.frozen?, hb])
        refine ⟨_, _, _, by simp [execOp, resolve, invoke, builtin, ha.eval hx, ha.eval hy, Sem.run_bind, hr]; exact ⟨rfl, rfl⟩, ?_, k _⟩
        refine hw.change (r' := winR (.slice (some ⟨b, o, none⟩) (xs.length + 1) c) e (xs ++ [u])) hi ?_ ?_ (fun b hb => .inl hb)
        · exact (Mod.setCell w ⟨b, _, none⟩ u).mono fun x' hx' => by subst hx'; rfl
        · refine .inr ⟨b, o, c, cur.setIfInBounds (o + xs.length * ti.size) u, by simp, ?_, by simpa using hroom, g2, by simpa using g3, fun j' u' hj' => ?_⟩
          · show (w.setCell ⟨b, o + xs.length * ti.size, none⟩ u).heap[b]? = _
            rw [setCell_eq_setRow w b _ cur e (0, 0) u hb, setRow_heap w b _ _ e (0, 0) hb]
          · rw [hsize, Nat.mul_one]
            rcases Nat.lt_or_ge j' xs.length with hlt | hge
            · rw [List.getElem?_append_left hlt] at hj'
              rw [Array.getElem?_setIfInBounds_ne (by omega)]
              exact g4 _ _ hj'
            · rw [List.getElem?_append_right hge] at hj'
              have : j' = xs.length := by
                have := (List.getElem?_eq_some_iff.1 hj').1
                simp at this; omega
              subst this
              rw [Nat.sub_self] at hj'
              have : u = u' := by simpa using hj'
              subst this
              rw [Array.getElem?_setIfInBounds_self, if_pos (by omega)]
      · obtain ⟨v', w', hr, ho, hg⟩ := run_append_arg_grows (P := P) (w := w) t ty e ti z 1 by_ ht hti hz hsize hby hzs (by omega) ⟨b, o, none⟩ xs.length c xs (by omega)
          (fun j' u' hj' => by rw [Addr.add_off, cell_of_row w _ _ cur e _ hb]; exact g4 _ _ hj') ⟨b', 0, none⟩ 1 1 [u] rfl hc (by omega) (by simp only [maxLen]; omega) h63
        exact ⟨v', w', _, by simp [execOp, resolve, invoke, builtin, ha.eval hx, ha.eval hy, Sem.run_bind, hr], hw.change (r' := winR v' e (xs ++ [u])) hi ((grown_none hg).mono fun b hb => hb.elim) (own_win ho) (fun q hq => .inr (own_block ho q hq)), k v'⟩
/-! ### a pointer against nil -/
theorem Val.neNil {t t' : TypeId} {p : Option Addr} (h : P.underlying t = some (.pointer (P.pointee t))) (hx : ev E x = some (.pointer p)) : Val P Γ E H ⟨dst, .binOp .neq t x (.const (.pointer none)) t', ty, pos, after, g⟩ (.bool p.isSome) := fun a w ha _ => by
  have hc : a.eval (.const (.pointer none)) = .pointer none := rfl
  cases p <;> simp [execOp, ha.eval hx, hc, eqGuard, run_neq_pointer_nil w t _ h]
theorem Val.eqNil {t t' : TypeId} {p : Option Addr} (h : P.underlying t = some (.pointer (P.pointee t))) (hx : ev E x = some (.pointer p)) : Val P Γ E H ⟨dst, .binOp .eql t x (.const (.pointer none)) t', ty, pos, after, g⟩ (.bool p.isNone) := fun a w ha _ => by
  have hc : a.eval (.const (.pointer none)) = .pointer none := rfl
  cases p <;> simp [execOp, ha.eval hx, hc, eqGuard, run_eql_pointer_nil w t _ h]
end
end Go.Wk
set_option linter.unusedVariables false
set_option linter.unusedSimpArgs false
namespace Go.Wk
open Go Go.ChangeMaps
abbrev kv (k : Int) : Value := .int .i64 k
/-- What a map's entries hold. -/
structure Ent (f : Int → Option Value) (E : Array MapEntry) (clock : Nat) : Prop where
  int : ∀ x ∈ E.toList, ∃ k, x.key = kv k
  keys : (E.toList.map (·.key)).Nodup
  stamps : (E.toList.map (·.born)).Nodup
  old : ∀ x ∈ E.toList, x.born < clock
  get : ∀ k v, f k = some v ↔ ∃ x ∈ E.toList, x.key = kv k ∧ x.val = v
theorem key_inj {l : List MapEntry} (h : (l.map (·.key)).Nodup) {x y : MapEntry} (hx : x ∈ l) (hy : y ∈ l) (e : x.key = y.key) : x = y := by
  induction l with
  | nil => cases hx
  | cons a l ih =>
    simp only [List.map_cons, List.nodup_cons, List.mem_map, not_exists, not_and] at h
    rcases List.mem_cons.1 hx with rfl | hx' <;> rcases List.mem_cons.1 hy with rfl | hy'
    · rfl
    · exact absurd e.symm (h.1 y hy')
    · exact absurd e (h.1 x hx')
    · exact ih h.2 hx' hy'
theorem Ent.find {f : Int → Option Value} {E : Array MapEntry} {clock : Nat} (h : Ent f E clock) (k : Int) :
    (Instr.findNow (.int .i64) (kv k) E.toList 0 = some none ∧ f k = none) ∨ ∃ j e, Instr.findNow (.int .i64) (kv k) E.toList 0 = some (some (j, e.val)) ∧ E.toList[j]? = some e ∧ e.key = kv k ∧ f k = some e.val := by
  have hk : MapKept.IsKey (.int .i64) (kv k) := by simp [MapKept.IsKey]
  rcases MapKept.findNow_spec hk E.toList 0 (fun x hx => by obtain ⟨q, hq⟩ := h.int x hx; rw [hq]; simp [MapKept.IsKey]) with ⟨h1, h2⟩ | ⟨j, e, h1, h2, h3⟩
  · refine .inl ⟨h1, ?_⟩
    cases hf : f k with
    | none => rfl
    | some v => obtain ⟨x, hx, hxk, _⟩ := (h.get k v).1 hf; exact absurd hxk (h2 x hx)
  · exact .inr ⟨j, e, by simpa using h1, h2, h3, (h.get k _).2 ⟨e, List.mem_of_getElem? h2, h3, rfl⟩⟩
theorem Ent.nil (clock : Nat) : Ent (fun _ => none) #[] clock := ⟨by simp, by simp, by simp, by simp, by simp⟩
theorem Ent.push {f : Int → Option Value} {E : Array MapEntry} {clock : Nat} (h : Ent f E clock) {k : Int} (hk : f k = none) (v : Value) : Ent (fun x => if x = k then some v else f x) (E.push { key := kv k, val := v, born := clock }) (clock + 1) := by
  have hno : ∀ x ∈ E.toList, x.key ≠ kv k := fun x hx e => by
    have := (h.get k x.val).2 ⟨x, hx, e, rfl⟩
    rw [hk] at this; cases this
  refine ⟨fun x hx => ?_, ?_, ?_, fun x hx => ?_, fun q u => ?_⟩
  · simp only [Array.toList_push, List.mem_append, List.mem_singleton] at hx
    rcases hx with hx | rfl
    · exact h.int x hx
    · exact ⟨k, rfl⟩
  · simp only [Array.toList_push, List.map_append, List.map_cons, List.map_nil]
    refine List.nodup_append.2 ⟨h.keys, by simp, fun a ha b hb => ?_⟩
    obtain ⟨x, hx, rfl⟩ := List.mem_map.1 ha
    rw [List.mem_singleton.1 hb]
    exact hno x hx
  · simp only [Array.toList_push, List.map_append, List.map_cons, List.map_nil]
    refine List.nodup_append.2 ⟨h.stamps, by simp, fun a ha b hb => ?_⟩
    obtain ⟨x, hx, rfl⟩ := List.mem_map.1 ha
    rw [List.mem_singleton.1 hb]
    have := h.old x hx
    show x.born ≠ clock
    omega
  · simp only [Array.toList_push, List.mem_append, List.mem_singleton] at hx
    rcases hx with hx | rfl
    · have := h.old x hx; omega
    · simp
  · simp only [Array.toList_push, List.mem_append, List.mem_singleton]
    by_cases hq : q = k
    · subst hq
      simp only [if_true]
      constructor
      · intro e; have e := Option.some.inj e; subst e; exact ⟨_, .inr rfl, rfl, rfl⟩
      · rintro ⟨x, hx | rfl, h1, h2⟩
        · exact absurd h1 (hno x hx)
        · rw [← h2]
    · rw [if_neg hq, h.get q u]
      constructor
      · rintro ⟨x, hx, h1, h2⟩; exact ⟨x, .inl hx, h1, h2⟩
      · rintro ⟨x, hx | rfl, h1, h2⟩
        · exact ⟨x, hx, h1, h2⟩
        · simp only [kv, Value.int.injEq, true_and] at h1; exact absurd h1.symm hq
theorem Ent.erase {f : Int → Option Value} {E E' : Array MapEntry} {clock j : Nat} {e : MapEntry} (h : Ent f E clock) {k : Int} (hj : E.toList[j]? = some e) (hk : e.key = kv k) (hE : E'.toList = E.toList.eraseIdx j) : Ent (fun x => if x = k then none else f x) E' clock := by
  have hs : (E.toList.eraseIdx j).Sublist E.toList := List.eraseIdx_sublist ..
  have hm : ∀ x, x ∈ E'.toList ↔ x ∈ E.toList ∧ x.key ≠ kv k := fun x => by
    rw [hE, List.mem_eraseIdx_iff_getElem?]
    constructor
    · rintro ⟨i, hne, hi⟩
      refine ⟨List.mem_of_getElem? hi, fun e1 => hne ?_⟩
      have hxe : x = e := key_inj h.keys (List.mem_of_getElem? hi) (List.mem_of_getElem? hj) (e1.trans hk.symm)
      subst hxe
      have h1 := (List.getElem?_eq_some_iff.1 hi)
      have h2 := (List.getElem?_eq_some_iff.1 hj)
      have hn : E.toList.Nodup := List.Pairwise.imp (fun {a b} hab e => hab (congrArg MapEntry.key e)) (List.pairwise_map.1 h.keys)
      rcases Nat.lt_trichotomy i j with hlt | hlt | hlt
      · exact absurd (h1.2.trans h2.2.symm) (List.pairwise_iff_getElem.1 hn i j h1.1 h2.1 hlt)
      · exact hlt
      · exact absurd (h2.2.trans h1.2.symm) (List.pairwise_iff_getElem.1 hn j i h2.1 h1.1 hlt)
    · rintro ⟨hx, hne⟩
      obtain ⟨i, hi⟩ := List.getElem?_of_mem hx
      refine ⟨i, fun e1 => hne ?_, hi⟩
      rw [e1, hj] at hi; cases hi; exact hk
  refine ⟨fun x hx => h.int x ((hm x).1 hx).1, ?_, ?_, fun x hx => h.old x ((hm x).1 hx).1, fun q u => ?_⟩
  · rw [hE]; exact h.keys.sublist (hs.map _)
  · rw [hE]; exact h.stamps.sublist (hs.map _)
  · by_cases hq : q = k
    · subst hq
      simp only [if_true]
      constructor
      · intro e; cases e
      · rintro ⟨x, hx, h1, h2⟩; exact absurd h1 ((hm x).1 hx).2
    · rw [if_neg hq, h.get q u]
      constructor
      · rintro ⟨x, hx, h1, h2⟩
        refine ⟨x, (hm x).2 ⟨hx, fun e1 => hq ?_⟩, h1, h2⟩
        rw [h1] at e1; simpa [kv] using e1
      · rintro ⟨x, hx, h1, h2⟩; exact ⟨x, ((hm x).1 hx).1, h1, h2⟩
def mapR (b : Nat) (f : Int → Option Value) : Res where
  foot := fun x => x = b
  holds := fun w => ∃ E clock, w.heap[b]? = some (.map E clock) ∧ Ent f E clock
  stable := fun h ⟨E, clock, hb, he⟩ => ⟨E, clock, (h b rfl).trans hb, he⟩
  low := fun ⟨E, clock, hb, he⟩ x hx => by subst hx; exact (Array.getElem?_eq_some_iff.1 hb).1
/-- A map, and an iterator over it: left: which keys are still to come; cur: the entry that came last; cnt: how many are to come. -/
def iterR (b r : Nat) (f : Int → Option Value) (left : Int → Bool) (cur : Option (Int × Value)) (cnt : Nat) : Res where
  foot := fun x => x = b ∨ x = r
  holds := fun w => ∃ E clock since seen c0, r ≠ b ∧ w.heap[b]? = some (.map E clock) ∧ Ent f E clock ∧ w.heap[r]? = some (.mapIter (some b) since seen c0) ∧ (∀ x ∈ E.toList, x.born < since) ∧ since ≤ c0 ∧ since ≤ clock ∧
    (∀ x ∈ E.toList, ∀ k, x.key = kv k → left k = !seen.contains x.born) ∧ (∀ k, left k = true → f k ≠ none) ∧ (leftOf E seen).size = cnt ∧ (∀ k v, cur = some (k, v) → c0 = clock ∧ ∃ (s : Array Nat) (x : MapEntry), seen = s.push x.born ∧ x ∈ E.toList ∧ x.key = kv k ∧ x.val = v)
  stable := fun h ⟨E, clock, since, seen, c0, hne, hb, he, hr, hh⟩ => ⟨E, clock, since, seen, c0, hne, (h b (.inl rfl)).trans hb, he, (h r (.inr rfl)).trans hr, hh⟩
  low := fun ⟨E, clock, since, seen, c0, hne, hb, he, hr, hh⟩ x hx => by
    rcases hx with rfl | rfl
    · exact (Array.getElem?_eq_some_iff.1 hb).1
    · exact (Array.getElem?_eq_some_iff.1 hr).1
section
variable {P : Program} {Γ : Ctx} {E : Env} {H L F : List Res} {ops : Array Oper} {Q : Exit → Act → World → Prop} {rest : List Oper} {w0 w w' : World} {S : Nat → Prop} {φ : Act → World → Prop}
  {d : Nat} {dst : Option Tmp} {g : Option (Nat × Bool)} {ty : TypeId} {pos : String} {after : Array Edge} {x y z : Operand} {v u : Value} {f : Int → Option Value} {left : Int → Bool} {cur : Option (Int × Value)} {cnt b r i : Nat} {t kt et : TypeId}
theorem Mod.setBlock (w : World) (b : Nat) (o : Obj) : Mod (fun x => x = b) w (setBlock w b o) :=
  ⟨by simp [ChangeMaps.setBlock], fun x _ hn => by simp only [ChangeMaps.setBlock]; rw [Array.getElem?_setIfInBounds_ne (Ne.symm hn)], rfl, rfl, rfl⟩
theorem setBlock_at {w : World} {b : Nat} {o o' : Obj} (h : w.heap[b]? = some o) : (setBlock w b o').heap[b]? = some o' := by
  have := (Array.getElem?_eq_some_iff.1 h).1
  simp [ChangeMaps.setBlock, this]
theorem setBlock_ne {w : World} {b b' : Nat} {o' : Obj} (h : b' ≠ b) : (setBlock w b o').heap[b']? = w.heap[b']? := by
  simp only [ChangeMaps.setBlock]; rw [Array.getElem?_setIfInBounds_ne (Ne.symm h)]
theorem run_setMap {w : World} {r : Nat} {es : Array MapEntry} {clock : Nat} (o : Obj) (hb : w.heap[r]? = some (.map es clock)) : (setObj r o).run P w = .ok () (setBlock w r o) := MapKept.run_setObj_map o hb
theorem Val.look {k : Int} (hu : P.underlying t = some (.map kt et)) (hk : P.underlying kt = some (.int .i64)) (hz : ∀ w, (zeroValue et).run P w = .ok (.pointer none) w) (hx : ev E x = some (.map (some b))) (hy : ev E y = some (.int .i64 k)) (hi : H[i]? = some (mapR b f)) :
    Val P Γ E H ⟨dst, .lookup t x y false, ty, pos, after, g⟩ ((f k).getD (.pointer none)) := fun a w ha hw => by
  obtain ⟨es, clock, hb, he⟩ : ∃ es clock, w.heap[b]? = some (.map es clock) ∧ Ent f es clock := hw.all _ (List.mem_of_getElem? hi)
  have hck := fun e => MapKept.run_checkKey (P := P) (w := w) (k := kv k) hk (by simp [MapKept.IsKey]) e 9999
  rcases he.find k with ⟨h1, h2⟩ | ⟨j, e, h1, h2, h3, h4⟩
  · simp [execOp, ha.eval hx, ha.eval hy, Instr.lookup, Sem.run_bind, run_underlying hu, MapKept.run_getObj_map hb, hck, MapKept.run_findKey hk h1, hz, h2]
  · simp [execOp, ha.eval hx, ha.eval hy, Instr.lookup, Sem.run_bind, run_underlying hu, MapKept.run_getObj_map hb, hck, MapKept.run_findKey hk h1, h4]
theorem At.mapSet {k : Int} (hu : P.underlying t = some (.map kt et)) (hk : P.underlying kt = some (.int .i64)) (hx : ev E x = some (.map (some b))) (hy : ev E y = some (.int .i64 k)) (hz : ev E z = some v) (hi : H[i]? = some (mapR b f)) (hf : f k = none)
    (c : At Γ E (H.set i (mapR b fun q => if q = k then some v else f q)) (wpList P ops Q rest)) : At Γ E H (wpList P ops Q ({ dst := .none, op := .mapUpdate t x y z, type := ty, pos, after, guard := none } :: rest)) :=
  At.skip rfl rfl fun a w ha hw => by
    obtain ⟨es, clock, hb, he⟩ : ∃ es clock, w.heap[b]? = some (.map es clock) ∧ Ent f es clock := hw.all _ (List.mem_of_getElem? hi)
    have hck := fun e => MapKept.run_checkKey (P := P) (w := w) (k := kv k) hk (by simp [MapKept.IsKey]) e 9999
    rcases he.find k with ⟨h1, h2⟩ | ⟨j, e, h1, h2, h3, h4⟩
    · refine ⟨_, _, by simp [execOp, ha.eval hx, ha.eval hy, ha.eval hz, Instr.mapUpdate, Sem.run_bind, run_underlying hu, MapKept.run_getObj_map hb, hck, MapKept.run_findKey hk h1, run_setMap _ hb]; rfl, ?_, c⟩
      exact hw.change (r' := mapR b _) hi (Mod.setBlock w b _) ⟨_, _, setBlock_at hb, he.push hf v⟩ (fun b hb => .inl hb)
    · rw [hf] at h4; cases h4
theorem At.makeMap (hn : Nat.blt d Γ.n = true) (c : ∀ b, At Γ ((d, .map (some b)) :: E) (mapR b (fun _ => none) :: H) (wpList P ops Q rest)) :
    At Γ E H (wpList P ops Q ({ dst := some d, op := .makeMap t .none, type := ty, pos, after, guard := none } :: rest)) :=
  At.run rfl rfl hn fun a w ha hw => ⟨.map (some w.heap.size), w.alloc (.map #[] 0), _, by
    have h0 : (Instr.makeMap t none).run P w = .ok (.map (some w.heap.size)) (w.alloc (.map #[] 0)) := rfl
    simp [execOp, Sem.run_bind, h0], hw.new (r' := mapR w.heap.size fun _ => none) (Mod.alloc w _) ⟨#[], 0, heap_alloc_new w _, Ent.nil 0⟩ (fun b hb => by simp only [mapR] at hb; omega), c _⟩
theorem At.range (hu : P.underlying t = some (.map kt et)) (hx : ev E x = some (.map (some b))) (hi : H[i]? = some (mapR b f)) (hn : Nat.blt d Γ.n = true)
    (c : ∀ r cnt, At Γ ((d, .pointer (some ⟨r, 0, none⟩)) :: E) (H.set i (iterR b r f (fun k => (f k).isSome) none cnt)) (wpList P ops Q rest)) :
    At Γ E H (wpList P ops Q ({ dst := some d, op := .range t x, type := ty, pos, after, guard := none } :: rest)) :=
  At.run rfl rfl hn fun a w ha hw => by
    obtain ⟨es, clock, hb, he⟩ : ∃ es clock, w.heap[b]? = some (.map es clock) ∧ Ent f es clock := hw.all _ (List.mem_of_getElem? hi)
    have hlt := (Array.getElem?_eq_some_iff.1 hb).1
    refine ⟨_, _, _, by simp [execOp, ha.eval hx, Sem.run_bind, run_range_map w t kt et b es clock hu hb]; exact ⟨rfl, rfl⟩, ?_, c _ (leftOf es #[]).size⟩
    refine hw.change (r' := iterR b w.heap.size f _ none _) hi ((Mod.alloc w _).mono fun b hb => hb.elim) ⟨es, clock, clock, #[], clock, by omega, (heap_alloc_old w _ hlt).trans hb, he, heap_alloc_new w _, he.old, Nat.le_refl _, Nat.le_refl _, fun q hq k hk => ?_, fun k hk => ?_, rfl, (fun k v h => by cases h)⟩ (fun q hq => ?_)
    · show (f k).isSome = _
      rw [(he.get k q.val).2 ⟨q, hq, hk, rfl⟩]; simp
    · intro h0
      have hk : (f k).isSome = true := hk
      rw [h0] at hk; cases hk
    · rcases hq with rfl | rfl
      · exact .inl rfl
      · exact .inr (Nat.le_refl _)
theorem At.next (hx : ev E x = some (.pointer (some ⟨r, 0, none⟩))) (hi : H[i]? = some (iterR b r f left cur cnt)) (hn : Nat.blt d Γ.n = true)
    (c0 : (∀ k, left k = false) → At Γ ((d, .tuple #[.bool false]) :: E) H (wpList P ops Q rest))
    (c1 : ∀ k v cnt', left k = true → f k = some v → cnt' < cnt → At Γ ((d, .tuple #[.bool true, .int .i64 k, v]) :: E) (H.set i (iterR b r f (fun q => left q && q != k) (some (k, v)) cnt')) (wpList P ops Q rest)) :
    At Γ E H (wpList P ops Q ({ dst := some d, op := .next x false, type := ty, pos, after, guard := none } :: rest)) :=
  At.run rfl rfl hn fun a w ha hw => by
    obtain ⟨es, clock, since, seen, co, hne, hb, he, hr, hold, hs1, hs2, hl1, hl2, hcnt, hcur⟩ : (iterR b r f left cur cnt).holds w := hw.all _ (List.mem_of_getElem? hi)
    rcases run_next_at (P := P) w ty r b since co seen es clock hr hb hold hs1 with ⟨h0, hrun⟩ | ⟨e, hel, w1, hal, hrun⟩
    · refine ⟨.tuple #[.bool false], w, H, by simp [execOp, ha.eval hx, Sem.run_bind, hrun], hw, c0 fun k => ?_⟩
      cases hk : left k with
      | false => rfl
      | true =>
        have := hl2 k hk
        cases hf : f k with
        | none => exact absurd hf this
        | some v =>
          obtain ⟨q, hq, h1, h2⟩ := (he.get k v).1 hf
          have h3 := hl1 q hq k h1
          rw [all_seen es seen h0 q hq, hk] at h3
          cases h3
    · obtain ⟨hem, hes⟩ := mem_left hel
      obtain ⟨k, hk⟩ := he.int e hem
      have hfk := (he.get k e.val).2 ⟨e, hem, hk, rfl⟩
      have hw1 : Rep Γ.w0 Γ.S H w1 := by rcases hal with rfl | rfl; exact hw; exact hw.drew
      have hr1 : w1.heap[r]? = some (.mapIter (some b) since seen co) := by rcases hal with rfl | rfl <;> exact hr
      have hb1 : w1.heap[b]? = some (.map es clock) := by rcases hal with rfl | rfl <;> exact hb
      refine ⟨_, _, _, by simp [execOp, ha.eval hx, Sem.run_bind, hrun]; exact ⟨rfl, rfl⟩, ?_, by
        have := c1 k e.val (leftOf es (seen.push e.born)).size (by rw [hl1 e hem k hk, hes]; rfl) hfk (by rw [← hcnt]; exact left_shrinks es seen e hel)
        rw [hk]; exact this⟩
      refine hw1.change (r' := iterR b r f _ (some (k, e.val)) _) hi ((Mod.setBlock w1 r _).mono fun q hq => .inr hq) ⟨es, clock, since, seen.push e.born, clock, hne, (setBlock_ne (Ne.symm hne)).trans hb1, he, setBlock_at hr1, hold, hs2, hs2, fun q hq k' hk' => ?_, fun k' hk' => hl2 k' (by simp at hk'; exact hk'.1), rfl, fun k' v' h' => ?_⟩ (fun q hq => .inl hq)
      · show (left k' && k' != k) = _
        rw [contains_push, hl1 q hq k' hk']
        by_cases hqe : q.born = e.born
        · have : q = e := by
            have hn := he.stamps
            exact born_inj hn hq hem hqe
          subst this
          rw [hk] at hk'
          have : k = k' := by simpa [kv] using hk'
          subst this
          simp
        · have h1 : (q.born == e.born) = false := by simpa using hqe
          have h2 : (k' != k) = true := by
            simp only [bne_iff_ne, ne_eq]
            intro e1; subst e1
            exact hqe (congrArg MapEntry.born (key_inj he.keys hq hem (hk'.trans hk.symm)))
          rw [h1, h2]; cases seen.contains q.born <;> rfl
      · simp only [Option.some.injEq, Prod.mk.injEq] at h'
        obtain ⟨rfl, rfl⟩ := h'
        exact ⟨rfl, seen, e, rfl, hem, hk, rfl⟩
theorem Val.entry {k : Int} (hx : ev E x = some (.pointer (some ⟨r, 0, none⟩))) (hi : H[i]? = some (iterR b r f left (some (k, v)) cnt)) :
    Val P Γ E H ⟨dst, .entry x, ty, pos, after, g⟩ (.tuple #[.int .i64 k, v]) := fun a w ha hw => by
  obtain ⟨es, clock, since, seen, co, hne, hb, he, hr, hold, hs1, hs2, hl1, hl2, hcnt, hcur⟩ : (iterR b r f left (some (k, v)) cnt).holds w := hw.all _ (List.mem_of_getElem? hi)
  obtain ⟨rfl, s, e, rfl, hem, hk, rfl⟩ := hcur k v rfl
  have := run_entry_at (P := P) w r b since s es _ e hr hb hem he.stamps
  simp [execOp, ha.eval hx, Sem.run_bind, this, hk]
theorem At.delIt {k : Int} (hu : P.underlying t = some (.map kt et)) (hk : P.underlying kt = some (.int .i64)) (hx : ev E x = some (.map (some b))) (hy : ev E y = some (.int .i64 k)) (hi : H[i]? = some (iterR b r f left cur cnt))
    (c : ∀ cnt', cnt' ≤ cnt → At Γ E (H.set i (iterR b r (fun q => if q = k then none else f q) (fun q => left q && q != k) none cnt')) (wpList P ops Q rest)) :
    At Γ E H (wpList P ops Q ({ dst := .none, op := .call { callee := .builtin .delete, args := #[x, y], argTypes := #[t, kt] }, type := ty, pos, after, guard := none } :: rest)) := fun a w ha hw => by
  obtain ⟨es, clock, since, seen, co, hne, hb, he, hr, hold, hs1, hs2, hl1, hl2, hcnt, hcur⟩ : (iterR b r f left cur cnt).holds w := hw.all _ (List.mem_of_getElem? hi)
  have hck := fun e => MapKept.run_checkKey (P := P) (w := w) (k := kv k) hk (by simp [MapKept.IsKey]) e 9999
  have fin : ∀ (es' : Array MapEntry) (w' : World), (execOp a.eval { dst := .none, op := .call { callee := .builtin .delete, args := #[x, y], argTypes := #[t, kt] }, type := ty, pos, after, guard := none }).run P w = .ok (.value (.tuple #[])) w' → w' = setBlock w b (.map es' clock) →
      Ent (fun q => if q = k then none else f q) es' clock → (∀ q, q ∈ es'.toList → q ∈ es.toList) → (∀ q, q ∈ es'.toList → q.key ≠ kv k) → (leftOf es' seen).size ≤ cnt → wpList P ops Q ({ dst := .none, op := .call { callee := .builtin .delete, args := #[x, y], argTypes := #[t, kt] }, type := ty, pos, after, guard := none } :: rest) a w := fun es' w' hrun hw' he' hsub hnk hle => by
    refine wpList_plain rfl fun K hK => ?_
    unfold Oper.wp
    rw [hrun, Oper.upon_value]
    refine hK _ _ (c _ hle _ _ ha ?_)
    subst hw'
    refine hw.change (r' := iterR b r _ _ none _) hi ((Mod.setBlock w b _).mono fun q hq => .inl hq) ⟨es', clock, since, seen, co, hne, setBlock_at hb, he', (setBlock_ne hne).trans hr, fun q hq => hold q (hsub q hq), hs1, hs2, fun q hq k' hk' => ?_, fun k' hk' => ?_, rfl, (fun k v h => by cases h)⟩ (fun q hq => .inl hq)
    · show (left k' && k' != k) = _
      rw [hl1 q (hsub q hq) k' hk']
      have : (k' != k) = true := by
        simp only [bne_iff_ne, ne_eq]
        intro e1; subst e1
        exact hnk q hq hk'
      rw [this]; simp
    · have hk' : (left k' && k' != k) = true := hk'
      simp only [Bool.and_eq_true, bne_iff_ne, ne_eq] at hk'
      show (if k' = k then none else f k') ≠ none
      rw [if_neg hk'.2]
      exact hl2 k' hk'.1
  rcases he.find k with ⟨h1, h2⟩ | ⟨j, e, h1, h2, h3, h4⟩
  · refine fin es _ (by simp [execOp, resolve, invoke, builtin, ha.eval hx, ha.eval hy, Builtin.delete_, Sem.run_bind, run_underlying hu, MapKept.run_getObj_map hb, hck, MapKept.run_findKey hk h1, run_setMap _ hb]) rfl ?_ (fun q h => h) (fun q hq e => ?_) (Nat.le_of_eq hcnt)
    · have : (fun q => if q = k then none else f q) = f := funext fun q => by split; · rename_i e; rw [e, h2]
                                                                              · rfl
      rw [this]; exact he
    · have := (he.get k q.val).2 ⟨q, hq, e, rfl⟩
      rw [h2] at this; cases this
  · have hjs : j < es.size := by have := (List.getElem?_eq_some_iff.1 h2).1; simpa using this
    have hE : (es.eraseIdxIfInBounds j).toList = es.toList.eraseIdx j := by
      unfold Array.eraseIdxIfInBounds
      rw [dif_pos hjs]; simp
    have he' := he.erase h2 h3 hE
    have hsub : ∀ q, q ∈ (es.eraseIdxIfInBounds j).toList → q ∈ es.toList := fun q hq => (List.eraseIdx_sublist ..).subset (hE ▸ hq)
    refine fin (es.eraseIdxIfInBounds j) _ (by simp [execOp, resolve, invoke, builtin, ha.eval hx, ha.eval hy, Builtin.delete_, Sem.run_bind, run_underlying hu, MapKept.run_getObj_map hb, hck, MapKept.run_findKey hk h1, run_setMap _ hb]) rfl he' hsub (fun q hq e1 => ?_) ?_
    · have := (he'.get k q.val).2 ⟨q, hq, e1, rfl⟩
      simp at this
    · rw [← hcnt]
      unfold leftOf
      have e1 : ∀ (a : Array MapEntry) (p : MapEntry → Bool), (a.filter p).size = (a.toList.filter p).length := fun a p => by rw [← Array.toList_filter, Array.length_toList]
      rw [e1, e1, hE]
      exact ((List.eraseIdx_sublist _ _).filter _).length_le
theorem At.iterEnd (i : Nat) (hi : H[i]? = some (iterR b r f left cur cnt)) (k : At Γ E (H.set i (mapR b f)) φ) : At Γ E H φ := fun a w ha hw => by
  obtain ⟨es, clock, since, seen, co, hne, hb, he, hr, hh⟩ : (iterR b r f left cur cnt).holds w := hw.all _ (List.mem_of_getElem? hi)
  exact k a w ha (hw.change (r' := mapR b f) hi (Mod.refl _ _) ⟨es, clock, hb, he⟩ (fun q hq => .inl (.inl hq)))
end
end Go.Wk
set_option linter.unusedVariables false
set_option linter.unusedSimpArgs false
namespace Go.Wk
open Go Go.ChangeMaps
/-- A word: its durable value, the values since, how many of them the next fence makes durable. -/
structure Wd where
  old : BitVec 64
  news : List (BitVec 64)
  mark : Nat
structure Ds where
  ws : List Wd
  steps : Nat
  armed : Bool
  left : Nat
/-- Where its parts lie: the old values' slice, the map's block, each doubt's block and slice. -/
structure Gh where
  vo : Value
  mb : Nat
  g : Nat → Nat × Value
abbrev tDv : TypeId := 47
abbrev tDb : TypeId := 113
abbrev tW : TypeId := 32
def olds (ws : List Wd) : List (BitVec 64) := ws.map (·.old)
def dR (p : Nat × Value) (w : Wd) : Res := star [blk p.1 tDb [p.2, .int .i64 (w.mark : Int)], winR p.2 tW (w.news.map b64)]
def dI (ws : List Wd) (g : Nat → Nat × Value) (k : Nat) : Option Res := match ws[k]? with | some w => (match w.news with | [] => none | _ => some (dR (g k) w)) | none => none
def mkN (ws : List Wd) (g : Nat → Nat × Value) (k : Nat) : Option Value := match ws[k]? with | some w => (match w.news with | [] => none | _ => some (.pointer (some ⟨(g k).1, 0, none⟩))) | none => none
def mk (ws : List Wd) (g : Nat → Nat × Value) (x : Int) : Option Value := if 0 ≤ x ∧ x % 8 = 0 then mkN ws g (x / 8).toNat else none
structure Dgood (σ : Ds) : Prop where
  pos : 0 < σ.ws.length
  len : σ.ws.length ≤ 65536
  lines : σ.ws.length % 8 = 0
  steps : σ.steps ≤ 1099511627776
  left : σ.left ≤ 9223372036854775807
  word : ∀ w ∈ σ.ws, w.mark ≤ w.news.length ∧ w.news.length ≤ σ.steps
def devL (p : Nat) (γ : Gh) (σ : Ds) : List Res :=
  [blk p tDv [γ.vo, .map (some γ.mb), .int .i64 (σ.steps : Int), .bool σ.armed, .int .i64 (σ.left : Int)], wrow tW γ.vo (olds σ.ws), mapR γ.mb (mk σ.ws γ.g), fam (dI σ.ws γ.g), factR (Dgood σ)]
def Dev (p : Nat) (γ : Gh) (σ : Ds) : Res := star (devL p γ σ)
theorem Dev.good {p γ σ} {w : World} (h : (Dev p γ σ).holds w) : Dgood σ := h.2 (factR (Dgood σ)) (by simp [devL])
theorem olds_length (ws : List Wd) : (olds ws).length = ws.length := by simp [olds]
theorem olds_at {ws : List Wd} {k : Nat} {wd : Wd} (h : ws[k]? = some wd) : (olds ws)[k]? = some wd.old := by simp [olds, h]
theorem olds_set (ws : List Wd) (k : Nat) (wd : Wd) : olds (ws.set k wd) = (olds ws).set k wd.old := by simp [olds, List.map_set]
theorem olds_same {ws : List Wd} {k : Nat} {wd wd' : Wd} (h : ws[k]? = some wd) (he : wd'.old = wd.old) : olds (ws.set k wd') = olds ws := by
  rw [olds_set, he]
  apply List.ext_getElem?
  intro j
  rw [List.getElem?_set]
  split
  · rename_i e; subst e
    have := olds_at h
    rw [this]; simp [(List.getElem?_eq_some_iff.1 this).1]
  · rfl
theorem dI_some {ws : List Wd} {g : Nat → Nat × Value} {k : Nat} {wd : Wd} (hk : ws[k]? = some wd) (hn : wd.news ≠ []) : dI ws g k = some (dR (g k) wd) := by
  unfold dI; rw [hk]; cases h : wd.news with
  | nil => exact absurd h hn
  | cons a l => simp only [h]
theorem dI_none {ws : List Wd} {g : Nat → Nat × Value} {k : Nat} {wd : Wd} (hk : ws[k]? = some wd) (hn : wd.news = []) : dI ws g k = none := by
  unfold dI; rw [hk]; simp only [hn]
theorem dI_ne {ws : List Wd} {g g' : Nat → Nat × Value} {k j : Nat} {wd : Wd} (hj : j ≠ k) (hg : g' j = g j) : dI (ws.set k wd) g' j = dI ws g j := by
  unfold dI; rw [List.getElem?_set_ne (Ne.symm hj), hg]
theorem mkN_some {ws : List Wd} {g : Nat → Nat × Value} {k : Nat} {wd : Wd} (hk : ws[k]? = some wd) (hn : wd.news ≠ []) : mkN ws g k = some (.pointer (some ⟨(g k).1, 0, none⟩)) := by
  unfold mkN; rw [hk]; cases h : wd.news with
  | nil => exact absurd h hn
  | cons a l => simp only [h]
theorem mkN_none {ws : List Wd} {g : Nat → Nat × Value} {k : Nat} {wd : Wd} (hk : ws[k]? = some wd) (hn : wd.news = []) : mkN ws g k = none := by
  unfold mkN; rw [hk]; simp only [hn]
theorem mkN_ne {ws : List Wd} {g g' : Nat → Nat × Value} {k j : Nat} {wd : Wd} (hj : j ≠ k) (hg : g' j = g j) : mkN (ws.set k wd) g' j = mkN ws g j := by
  unfold mkN; rw [List.getElem?_set_ne (Ne.symm hj), hg]
theorem mk_at (ws : List Wd) (g : Nat → Nat × Value) (k : Nat) : mk ws g (8 * (k : Int)) = mkN ws g k := by
  unfold mk; rw [if_pos (by omega)]; congr 1; omega
theorem mk_inv {ws : List Wd} {g : Nat → Nat × Value} {x : Int} {v : Value} (h : mk ws g x = some v) : ∃ (k : Nat) (wd : Wd), x = 8 * (k : Int) ∧ ws[k]? = some wd ∧ wd.news ≠ [] ∧ v = .pointer (some ⟨(g k).1, 0, none⟩) := by
  unfold mk at h
  split at h
  · rename_i hx
    refine ⟨(x / 8).toNat, ?_⟩
    unfold mkN at h
    split at h
    · rename_i wd hwd
      split at h
      · cases h
      · rename_i hn
        exact ⟨wd, by omega, hwd, fun e => hn e, (Option.some.inj h).symm⟩
    · cases h
  · cases h
theorem mk_set {ws : List Wd} {g g' : Nat → Nat × Value} {k : Nat} {wd : Wd} (hg : ∀ j, j ≠ k → g' j = g j) : mk (ws.set k wd) g' = fun q => if q = 8 * (k : Int) then mkN (ws.set k wd) g' k else mk ws g q := by
  funext q
  by_cases hq : q = 8 * (k : Int)
  · subst hq; rw [if_pos rfl, mk_at]
  · rw [if_neg hq]
    unfold mk
    split
    · rename_i hx
      have hne : (q / 8).toNat ≠ k := fun e => hq (by omega)
      exact mkN_ne hne (hg _ hne)
    · rfl
theorem set_self? {ws : List Wd} {k : Nat} {wd : Wd} (h : k < ws.length) : (ws.set k wd)[k]? = some wd := by simp [h]
theorem mk_push {ws : List Wd} {g : Nat → Nat × Value} {k b : Nat} {v' : Value} {wd : Wd} (h : k < ws.length) (hn : wd.news ≠ []) : mk (ws.set k wd) (upd g k (b, v')) = fun q => if q = 8 * (k : Int) then some (.pointer (some ⟨b, 0, none⟩)) else mk ws g q := by
  rw [mk_set (g := g) (fun j hj => upd_ne g _ hj), mkN_some (set_self? h) hn, upd_at]
theorem mk_keep {ws : List Wd} {g : Nat → Nat × Value} {k : Nat} {v' : Value} {wd wd' : Wd} (h : ws[k]? = some wd) (hn : wd.news ≠ []) (hn' : wd'.news ≠ []) : mk (ws.set k wd') (upd g k ((g k).1, v')) = mk ws g := by
  rw [mk_push (List.getElem?_eq_some_iff.1 h).1 hn']
  funext q
  split
  · rename_i e; subst e; rw [mk_at, mkN_some h hn]
  · rfl
theorem mk_drop {ws : List Wd} {g : Nat → Nat × Value} {k : Nat} {wd : Wd} (h : k < ws.length) (hn : wd.news = []) : mk (ws.set k wd) g = fun q => if q = 8 * (k : Int) then none else mk ws g q := by
  rw [mk_set (g := g) (fun j hj => rfl), mkN_none (set_self? h) hn]
theorem fam_unf {ws : List Wd} {g : Nat → Nat × Value} {k b : Nat} {v' : Value} {wd : Wd} (h : k < ws.length) (hn : wd.news ≠ []) : upd (upd (dI ws g) k none) k (some (dR (b, v') wd)) = dI (ws.set k wd) (upd g k (b, v')) := by
  funext j
  by_cases hj : j = k
  · subst hj; rw [upd_at, dI_some (set_self? h) hn, upd_at]
  · rw [upd_ne _ _ hj, upd_ne _ _ hj, dI_ne hj (upd_ne g _ hj)]
theorem fam_drop {ws : List Wd} {g : Nat → Nat × Value} {k : Nat} {wd : Wd} (h : k < ws.length) (hn : wd.news = []) : upd (dI ws g) k none = dI (ws.set k wd) g := by
  funext j
  by_cases hj : j = k
  · subst hj; rw [upd_at, dI_none (set_self? h) hn]
  · rw [upd_ne _ _ hj, dI_ne hj rfl]
theorem upd_same {α : Type} (g : Nat → α) (k : Nat) : upd g k (g k) = g := by
  funext j; unfold upd; split
  · rename_i e; rw [e]
  · rfl
section
variable {P : Program} {Γ : Ctx} {E : Env} {H L F : List Res} {ops : Array Oper} {Q : Exit → Act → World → Prop} {rest : List Oper} {w0 w w' : World} {S : Nat → Prop} {φ : Act → World → Prop} {ψ : Act → Prop}
  {d : Nat} {dst : Option Tmp} {gd : Option (Nat × Bool)} {ty : TypeId} {pos : String} {after : Array Edge} {x y z : Operand} {v u : Value} {ws : List Wd} {g : Nat → Nat × Value} {k i : Nat} {wd : Wd} {p : Nat} {γ : Gh} {σ σ' : Ds}
theorem fam_dbt (h : (fam (dI ws g)).holds w) (hk : ws[k]? = some wd) (hn : wd.news ≠ []) : Holds w (g k).1 tDb [(g k).2, .int .i64 (wd.mark : Int)] ∧ Win w (g k).2 tW (wd.news.map b64) := by
  have h1 := h.1 k _ (dI_some hk hn)
  exact ⟨h1.2 (blk (g k).1 tDb _) (by simp), h1.2 (winR (g k).2 tW _) (by simp)⟩
theorem Val.loadDbt {t q : Nat} (hA : ∀ w, (isAgg t).run P w = .ok false w) (hx : ev E x = some (.pointer (some ⟨(g k).1, q, none⟩))) (hi : H[i]? = some (fam (dI ws g))) (hk : ws[k]? = some wd) (hn : wd.news ≠ []) (hv : ([(g k).2, .int .i64 (wd.mark : Int)] : List Value)[q]? = some u) :
    Val P Γ E H ⟨dst, .load t x, ty, pos, after, gd⟩ u := fun a w ha hw => by
  have h := (fam_dbt (hw.all _ (List.mem_of_getElem? hi)) hk hn).1
  have := run_loadAt_cell (P := P) hA ((h.cell q).trans hv)
  simp [execOp, ha.eval hx, Sem.run_bind, this]
theorem Val.lenDbt {t el : Nat} (hi : H[i]? = some (fam (dI ws g))) (hk : ws[k]? = some wd) (hn : wd.news ≠ []) (hu : P.underlying t = some (.slice el)) (hx : ev E x = some (g k).2) :
    Val P Γ E H ⟨dst, .call { callee := .builtin .len, args := #[x], argTypes := #[t] }, ty, pos, after, gd⟩ (.int .i64 (wd.news.length : Int)) := fun a w ha hw => by
  have h := (fam_dbt (hw.all _ (List.mem_of_getElem? hi)) hk hn).2
  rcases h with ⟨h1, h2⟩ | ⟨b, o, c, cur, h1, _⟩
  · have := congrArg List.length h2; simp at this; exact absurd this hn
  · rw [h1, List.length_map] at hx
    exact Val.len (bt := #[]) hu hx a w ha hw
theorem At.dbtSome (i : Nat) (hi : H[i]? = some (fam (dI ws g))) (hk : ws[k]? = some wd) (hn : wd.news ≠ []) (c : ∀ b o c, (g k).2 = .slice (some ⟨b, o, none⟩) wd.news.length c → At Γ E H φ) : At Γ E H φ := fun a w ha hw => by
  have h := (fam_dbt (hw.all _ (List.mem_of_getElem? hi)) hk hn).2
  rcases h with ⟨h1, h2⟩ | ⟨b, o, c', cur, h1, _⟩
  · have := congrArg List.length h2; simp at this; exact absurd this hn
  · rw [List.length_map] at h1; exact c b o c' h1 a w ha hw
theorem Val.loadNews {t b o n c j q : Nat} {z' : BitVec 64} (hA : ∀ w, (isAgg t).run P w = .ok false w) (hx : ev E x = some (.pointer (some ⟨b, q, none⟩))) (hi : H[i]? = some (fam (dI ws g))) (hk : ws[k]? = some wd) (hn : wd.news ≠ []) (hg : (g k).2 = .slice (some ⟨b, o, none⟩) n c) (hq : o + j = q) (hv : wd.news[j]? = some z') :
    Val P Γ E H ⟨dst, .load t x, ty, pos, after, gd⟩ (b64 z') := fun a w ha hw => by
  subst hq
  have h := (fam_dbt (hw.all _ (List.mem_of_getElem? hi)) hk hn).2
  rw [hg] at h
  have := run_loadAt_cell (P := P) hA (h.at (u := b64 z') (by rw [List.getElem?_map, hv]; rfl))
  simp [execOp, ha.eval hx, Sem.run_bind, this]
theorem At.focusD (i : Nat) (hi : H[i]? = some (fam (dI ws g))) (hk : ws[k]? = some wd) (hn : wd.news ≠ []) (c : At Γ E (blk (g k).1 tDb [(g k).2, .int .i64 (wd.mark : Int)] :: winR (g k).2 tW (wd.news.map b64) :: fam (upd (dI ws g) k none) :: H.eraseIdx i) φ) : At Γ E H φ := fun a w ha hw =>
  c a w ha ((hw.perm (erase_perm H i _ hi)).focus (dI_some hk hn)).openS
theorem At.unfocusD {b : Nat} {v' : Value} (hk : k < ws.length) (hn : wd.news ≠ []) (c : At Γ E (fam (dI (ws.set k wd) (upd g k (b, v'))) :: H) φ) : At Γ E (blk b tDb [v', .int .i64 (wd.mark : Int)] :: winR v' tW (wd.news.map b64) :: fam (upd (dI ws g) k none) :: H) φ := fun a w ha hw => by
  have h1 : Rep Γ.w0 Γ.S (dR (b, v') wd :: fam (upd (dI ws g) k none) :: H) w := Rep.shutS (L := [blk b tDb [v', .int .i64 (wd.mark : Int)], winR v' tW (wd.news.map b64)]) hw
  have h2 := h1.unfocus (upd_at ..)
  rw [fam_unf hk hn] at h2
  exact c a w ha h2
/-- .. of a doubt that is new. -/
theorem At.bornD {b : Nat} {v' : Value} {wo : Wd} (hk : ws[k]? = some wo) (ho : wo.news = []) (hn : wd.news ≠ []) (c : At Γ E (fam (dI (ws.set k wd) (upd g k (b, v'))) :: H) φ) : At Γ E (blk b tDb [v', .int .i64 (wd.mark : Int)] :: winR v' tW (wd.news.map b64) :: fam (dI ws g) :: H) φ := by
  have e : upd (dI ws g) k none = dI ws g := by
    funext j; unfold upd; split
    · rename_i e; rw [e, dI_none hk ho]
    · rfl
  have := At.unfocusD (Γ := Γ) (E := E) (H := H) (φ := φ) (g := g) (b := b) (v' := v') (wd := wd) (List.getElem?_eq_some_iff.1 hk).1 hn c
  rwa [e] at this
theorem At.dropD {r1 r2 : Res} (hk : k < ws.length) (hn : wd.news = []) (c : At Γ E (fam (dI (ws.set k wd) g) :: H) φ) : At Γ E (r1 :: r2 :: fam (upd (dI ws g) k none) :: H) φ := fun a w ha hw => by
  rw [fam_drop hk hn] at hw
  exact c a w ha (hw.drop ((List.Sublist.refl _).cons _ |>.cons _))
theorem At.rot3 {a b c f : Res} (h : At Γ E (a :: b :: c :: f :: F) φ) : At Γ E (f :: a :: b :: c :: F) φ := fun q w ha hw => h q w ha (hw.perm (List.perm_middle (l₁ := [a, b, c])).symm)
/-! ### calls that keep a resource, that change a device -/
theorem set_same {α : Type} {H : List α} {i : Nat} {r : α} (hi : H[i]? = some r) : H.set i r = H := by
  apply List.ext_getElem?
  intro q
  rw [List.getElem?_set]
  split
  · rename_i e; subst e
    split
    · rw [hi]
    · rename_i hn; rw [List.getElem?_eq_none (by omega)]
  · rfl
theorem Rep.kept {r : Res} (hi : H[i]? = some r) (h : Rep w0 S H w) (h' : Rep w (feet [r]) [r] w') : Rep w0 S H w' := by
  have := Rep.frame1 (X := []) hi h h'
  rwa [set_same hi] at this
theorem At.callK (i : Nat) {r : Res} {f : FuncId} {l : List Operand} {vs : List Value} {at_ : Array TypeId} (hi : H[i]? = some r) (h : ∀ w, Rep Γ.w0 Γ.S H w → r.holds w → Upd P f vs r v r w) (hc : ∀ args w, (callFunc f args).run P w = .ok (.enter f args) w) (hv : evs E l = some vs) (hn : Nat.blt d Γ.n = true)
    (c : At Γ ((d, v) :: E) H (wpList P ops Q rest)) :
    At Γ E H (wpList P ops Q ({ dst := some d, op := .call { callee := .value (.func f), args := l.toArray, argTypes := at_ }, type := ty, pos, after, guard := none } :: rest)) :=
  At.call hc hv hn fun w hw => (h w hw (hw.all _ (List.mem_of_getElem? hi))).mono fun e w' ⟨he, hr⟩ => ⟨v, _, he, hw.kept hi hr, c⟩
theorem QAt.callK (i : Nat) {r : Res} {f : FuncId} {l : List Operand} {vs : List Value} {at_ : Array TypeId} (hi : H[i]? = some r) (h : ∀ w, Rep Γ.w0 Γ.S H w → r.holds w → Upd P f vs r v r w) (hc : ∀ args w, (callFunc f args).run P w = .ok (.enter f args) w) (hv : evs E l = some vs) (hn : Nat.blt d Γ.n = true)
    (c : QAt P Γ ops ((d, v) :: E) H rest ψ) : QAt P Γ ops E H ({ dst := some d, op := .call { callee := .value (.func f), args := l.toArray, argTypes := at_ }, type := ty, pos, after, guard := none } :: rest) ψ := fun a ha => by
  unfold wpQuiet
  rw [if_pos (by simp [Region.wanted])]
  refine ⟨v, fun w hw => ?_, c _ (ha.put d v hn)⟩
  unfold Oper.quietAt
  rw [run_call ha hc hv w]
  exact ⟨rfl, (h w hw (hw.all _ (List.mem_of_getElem? hi))).mono fun e w' ⟨he, hm⟩ => ⟨he, hw.kept hi hm⟩⟩
/-- .. with the star open, at the front. -/
theorem Rep.keptS (h : Rep w0 S (L ++ F) w) (h' : Rep w (feet [star L]) [star L] w') : Rep w0 S (L ++ F) w' := (Rep.kept (H := star L :: F) (i := 0) rfl h.shutS h').openS
theorem At.callKS (L : List Res) {F : List Res} {f : FuncId} {l : List Operand} {vs : List Value} {at_ : Array TypeId} (hL : H = L ++ F) (h : ∀ w, Rep Γ.w0 Γ.S H w → (star L).holds w → Upd P f vs (star L) v (star L) w) (hc : ∀ args w, (callFunc f args).run P w = .ok (.enter f args) w) (hv : evs E l = some vs) (hn : Nat.blt d Γ.n = true)
    (c : At Γ ((d, v) :: E) H (wpList P ops Q rest)) :
    At Γ E H (wpList P ops Q ({ dst := some d, op := .call { callee := .value (.func f), args := l.toArray, argTypes := at_ }, type := ty, pos, after, guard := none } :: rest)) := by
  subst hL
  exact At.call hc hv hn fun w hw => (h w hw (hw.shutS.all _ (List.mem_cons_self ..))).mono fun e w' ⟨he, hr⟩ => ⟨v, _, he, hw.keptS hr, c⟩
theorem QAt.callKS (L : List Res) {F : List Res} {f : FuncId} {l : List Operand} {vs : List Value} {at_ : Array TypeId} (hL : H = L ++ F) (h : ∀ w, Rep Γ.w0 Γ.S H w → (star L).holds w → Upd P f vs (star L) v (star L) w) (hc : ∀ args w, (callFunc f args).run P w = .ok (.enter f args) w) (hv : evs E l = some vs) (hn : Nat.blt d Γ.n = true)
    (c : QAt P Γ ops ((d, v) :: E) H rest ψ) : QAt P Γ ops E H ({ dst := some d, op := .call { callee := .value (.func f), args := l.toArray, argTypes := at_ }, type := ty, pos, after, guard := none } :: rest) ψ := by
  subst hL
  intro a ha
  unfold wpQuiet
  rw [if_pos (by simp [Region.wanted])]
  refine ⟨v, fun w hw => ?_, c _ (ha.put d v hn)⟩
  unfold Oper.quietAt
  rw [run_call ha hc hv w]
  exact ⟨rfl, (h w hw (hw.shutS.all _ (List.mem_cons_self ..))).mono fun e w' ⟨he, hm⟩ => ⟨he, hw.keptS hm⟩⟩
/-- A call that changes a device. -/
def DevU (P : Program) (f : FuncId) (vs : List Value) (p : Nat) (γ : Gh) (σ : Ds) (v : Value) (σ' : Ds) (w : World) : Prop := Calls P f vs.toArray w fun e w' => ∃ γ', e = .returned v ∧ Rep w (feet [Dev p γ σ]) [Dev p γ' σ'] w'
theorem At.callD (i : Nat) {f : FuncId} {l : List Operand} {vs : List Value} {at_ : Array TypeId} (hi : H[i]? = some (Dev p γ σ)) (h : ∀ w, Rep Γ.w0 Γ.S H w → (Dev p γ σ).holds w → DevU P f vs p γ σ v σ' w) (hc : ∀ args w, (callFunc f args).run P w = .ok (.enter f args) w) (hv : evs E l = some vs) (hn : Nat.blt d Γ.n = true)
    (c : ∀ γ', At Γ ((d, v) :: E) (H.set i (Dev p γ' σ')) (wpList P ops Q rest)) :
    At Γ E H (wpList P ops Q ({ dst := some d, op := .call { callee := .value (.func f), args := l.toArray, argTypes := at_ }, type := ty, pos, after, guard := none } :: rest)) :=
  At.call hc hv hn fun w hw => (h w hw (hw.all _ (List.mem_of_getElem? hi))).mono fun e w' ⟨γ', he, hr⟩ => ⟨v, _, he, Rep.frame1 (X := []) hi hw hr, c γ'⟩
/-- A call that makes a device, or none. -/
def NewDev (P : Program) (f : FuncId) (vs : List Value) (σ : Ds) (w : World) : Prop := Calls P f vs.toArray w fun e w' => ∃ p γ, e = .returned (.tuple #[.pointer (some ⟨p, 0, none⟩), .int .i64 0]) ∧ Rep w (feet []) [Dev p γ σ] w'
theorem At.callND {f : FuncId} {l : List Operand} {vs : List Value} {at_ : Array TypeId} (h : ∀ w, Rep Γ.w0 Γ.S H w → NewDev P f vs σ w) (hc : ∀ args w, (callFunc f args).run P w = .ok (.enter f args) w) (hv : evs E l = some vs) (hn : Nat.blt d Γ.n = true)
    (c : ∀ p γ, At Γ ((d, .tuple #[.pointer (some ⟨p, 0, none⟩), .int .i64 0]) :: E) (Dev p γ σ :: H) (wpList P ops Q rest)) :
    At Γ E H (wpList P ops Q ({ dst := some d, op := .call { callee := .value (.func f), args := l.toArray, argTypes := at_ }, type := ty, pos, after, guard := none } :: rest)) :=
  At.call hc hv hn fun w hw => (h w hw).mono fun e w' ⟨p, γ, he, hr⟩ => ⟨_, _, he, by
    have := Rep.frame (H0 := []) (F := H) (by simpa using hw) hr
    simpa using this, c p γ⟩
/-- A call that reads one resource and makes a row. -/
def RowK (P : Program) (f : FuncId) (vs : List Value) (r : Res) (e sz n : Nat) (xs : List Value) (w : World) : Prop := Calls P f vs.toArray w fun q w' => ∃ v', q = .returned v' ∧ Rep w (feet [r]) [rowR v' e sz n xs, r] w'
theorem At.callRK (i : Nat) {r : Res} {e sz n : Nat} {xs : List Value} {f : FuncId} {l : List Operand} {vs : List Value} {at_ : Array TypeId} (hi : H[i]? = some r) (h : ∀ w, Rep Γ.w0 Γ.S H w → r.holds w → RowK P f vs r e sz n xs w) (hc : ∀ args w, (callFunc f args).run P w = .ok (.enter f args) w) (hv : evs E l = some vs) (hn : Nat.blt d Γ.n = true)
    (c : ∀ v', At Γ ((d, v') :: E) (rowR v' e sz n xs :: H) (wpList P ops Q rest)) :
    At Γ E H (wpList P ops Q ({ dst := some d, op := .call { callee := .value (.func f), args := l.toArray, argTypes := at_ }, type := ty, pos, after, guard := none } :: rest)) :=
  At.call hc hv hn fun w hw => (h w hw (hw.all _ (List.mem_of_getElem? hi))).mono fun q w' ⟨v', he, hr⟩ => ⟨v', _, he, by
    have h1 : Rep Γ.w0 Γ.S ([r] ++ H.eraseIdx i) w := hw.perm (erase_perm H i r hi)
    exact (h1.frame (H0' := [rowR v' e sz n xs, r]) hr).perm ((erase_perm H i r hi).symm.cons _), c v'⟩
/-- .. with the star open, at the front. -/
theorem At.callRKS (L : List Res) {F : List Res} {e sz n : Nat} {xs : List Value} {f : FuncId} {l : List Operand} {vs : List Value} {at_ : Array TypeId} (hL : H = L ++ F) (h : ∀ w, Rep Γ.w0 Γ.S H w → (star L).holds w → RowK P f vs (star L) e sz n xs w) (hc : ∀ args w, (callFunc f args).run P w = .ok (.enter f args) w) (hv : evs E l = some vs) (hn : Nat.blt d Γ.n = true)
    (c : ∀ v', At Γ ((d, v') :: E) (rowR v' e sz n xs :: H) (wpList P ops Q rest)) :
    At Γ E H (wpList P ops Q ({ dst := some d, op := .call { callee := .value (.func f), args := l.toArray, argTypes := at_ }, type := ty, pos, after, guard := none } :: rest)) := by
  subst hL
  exact At.call hc hv hn fun w hw => (h w hw (hw.shutS.all _ (List.mem_cons_self ..))).mono fun q w' ⟨v', he, hr⟩ => ⟨v', _, he, by
    have h1 : Rep Γ.w0 Γ.S ([star L] ++ F) w := hw.shutS
    have h2 : Rep Γ.w0 Γ.S (rowR v' e sz n xs :: star L :: F) w' := h1.frame (H0' := [rowR v' e sz n xs, star L]) hr
    have h3 : Rep Γ.w0 Γ.S (star L :: rowR v' e sz n xs :: F) w' := h2.perm (List.Perm.swap ..)
    exact h3.openS.perm List.perm_middle, c v'⟩
theorem retRK {p : Nat} {γ : Gh} {σ : Ds} {r : Res} {F : List Res} (hw : Rep w S (r :: devL p γ σ ++ F) w') : Rep w S [r, Dev p γ σ] w' := by
  have h1 : Rep w S (devL p γ σ ++ (r :: F)) w' := hw.perm (List.perm_middle (l₁ := devL p γ σ)).symm
  exact ((h1.shutS).perm (List.Perm.swap ..)).drop ((List.nil_sublist F).cons_cons _ |>.cons_cons _)
theorem enterV {f : FuncId} {fn : Func} {c : Code} {vs : List Value} {w : World} {R : Ending → World → Prop} {n : Nat} (hd : (Dev p γ σ).holds w) (hf : P.funcs[f]? = some fn) (hb : fn.body = some c) (hn : fn.ntmps = n) (hl : Nat.ble vs.length n = true)
    (k : At ⟨w, feet [Dev p γ σ], n, []⟩ (envOf 0 vs) (devL p γ σ) (c.wp P (bodyPost P fn R))) : Calls P f vs.toArray w R := enter (feet [Dev p γ σ]) (devL p γ σ) hf hb hn hl (Rep.of_star (r := Dev p γ σ) hd) k
theorem enterVc {f : FuncId} {fn : Func} {c : Code} {vs : List Value} {w : World} {R : Ending → World → Prop} {n : Nat} (hd : (Dev p γ σ).holds w) (hf : P.funcs[f]? = some fn) (hb : fn.body = some c) (hn : fn.ntmps = n) (hl : Nat.ble vs.length n = true)
    (k : At ⟨w, feet [Dev p γ σ], n, []⟩ (envOf 0 vs) [Dev p γ σ] (c.wp P (bodyPost P fn R))) : Calls P f vs.toArray w R := enter (feet [Dev p γ σ]) [Dev p γ σ] hf hb hn hl (Rep.one hd) k
theorem retK {F : List Res} (hw : Rep w S (devL p γ σ ++ F) w') : Rep w S [Dev p γ σ] w' := (hw.shutS).drop ((List.nil_sublist F).cons_cons _)
/-- An open device whose parts are known is a device again. -/
theorem toDev {F : List Res} {a b c e : Res} (hg : Dgood σ) (hw : Rep w S (a :: b :: c :: e :: F) w') (ha : a = blk p tDv [γ.vo, .map (some γ.mb), .int .i64 (σ.steps : Int), .bool σ.armed, .int .i64 (σ.left : Int)]) (hb : b = wrow tW γ.vo (olds σ.ws)) (hc : c = mapR γ.mb (mk σ.ws γ.g)) (he : e = fam (dI σ.ws γ.g)) : Rep w S (Dev p γ σ :: F) w' := by
  subst ha hb hc he
  have h1 : Rep w S (factR (Dgood σ) :: _) w' := Rep.fact hg hw
  have h2 : Rep w S (devL p γ σ ++ F) w' := h1.perm (List.perm_middle (l₁ := [_, _, _, _]) (a := factR (Dgood σ)) (l₂ := F)).symm
  exact h2.shutS
end
end Go.Wk
set_option linter.unusedVariables false
set_option linter.unusedSimpArgs false
namespace Go.Wk
open Go
section
variable {P : Program} {Γ : Ctx} {E E' : Env} {H : List Res} {ops : Array Oper} {Q : Exit → Act → World → Prop} {rest : List Oper}
  {d : Nat} {ty : TypeId} {pos : String} {after : Array Edge} {x y : Operand} {v u : Value}
theorem putAt_whole {xs ys : List Value} (h : ys.length = xs.length) : putAt xs 0 ys = ys := by
  unfold putAt
  rw [List.take_zero, List.nil_append, Nat.zero_add, h, List.drop_length, List.append_nil]
/-- A row is written over with as many elements of another list. -/
theorem At.copyWhole {i dT sT e e' sz N : Nat} {xs ys : List Value} (ht : P.underlying dT = some (.slice e)) (hz : ∀ w, (sizeOf e).run P w = .ok sz w)
    (hx : ev E x = some v) (hy : ev E y = some u) (hi : H[i]? = some (rowR v e' sz N xs)) (hsz : 0 < sz) (hsrc : ∀ w, Rep Γ.w0 Γ.S H w → Rd w u sz N ys) (h1 : ∀ u ∈ ys, u.oneCell' = true) (hn : Nat.blt d Γ.n = true)
    (k : At Γ ((d, .int .i64 N) :: E) (H.set i (rowR v e' sz N ys)) (wpList P ops Q rest)) :
    At Γ E H (wpList P ops Q ({ dst := some d, op := .call { callee := .builtin .copy, args := #[x, y], argTypes := #[dT, sT] }, type := ty, pos, after, guard := none } :: rest)) :=
  At.run rfl rfl hn fun a w ha hw => by
    have hd := hw.row hi
    have hxl : xs.length = N * sz := hd.1
    obtain ⟨A, c, rfl, hc, hyl, hle, hnil, _⟩ := hsrc w hw
    rcases Nat.eq_zero_or_pos N with h0 | h0
    · subst h0
      have hx0 : xs = [] := List.eq_nil_of_length_eq_zero (by rw [hxl, Nat.zero_mul])
      have hy0 : ys = [] := List.eq_nil_of_length_eq_zero (by rw [hyl, Nat.zero_mul])
      subst hx0 hy0
      rw [set_same hi] at k
      refine ⟨.int .i64 (0 : Nat), w, _, ?_, hw, k⟩
      have hld : (Builtin.firstCells sz 0 (.slice A 0 c)).run P w = .ok #[] w := by
        cases A with
        | none => rfl
        | some a =>
          show (loadCells a (0 * sz)).run P w = _
          have := run_loadCells_list (P := P) w a [] (fun j u hu => by cases hu)
          rw [Nat.zero_mul]; exact this
      have h0 : (Builtin.copy_ #[dT, sT] ty #[v, .slice A 0 c]).run P w = .ok (goInt 0) w := by
        rcases hd.2 with ⟨rfl, _⟩ | ⟨b, cap, cur, rfl, _⟩
        · simp [Builtin.copy_, run_underlying ht, Builtin.lenOf, hz, hld]
        · simp [Builtin.copy_, run_underlying ht, Builtin.lenOf, hz, hld, storeCells]
      simp [execOp, resolve, invoke, builtin, ha.eval hx, ha.eval hy, Sem.run_bind, h0, goInt]
    · have hp : 0 < ys.length := by rw [hyl]; exact Nat.mul_pos h0 hsz
      obtain ⟨b', o', rfl, hcc⟩ := hc 0 (ys[0]'hp) (List.getElem?_eq_getElem hp)
      rcases hd.2 with ⟨_, h⟩ | ⟨b, cap, cur, rfl, _⟩
      · omega
      obtain ⟨w', hr, hw'⟩ := storeCells_row (P := P) ys 0 0 xs H w hw hi (by omega) h1
      rw [Nat.add_zero, putAt_whole (by rw [hyl, hxl])] at hw'
      have hld := run_loadCells_list (P := P) w ⟨b', o', none⟩ ys (fun j u hu => by
        obtain ⟨b2, o2, e2, h2⟩ := hc j u hu
        simp only [Option.some.injEq, Addr.mk.injEq] at e2
        obtain ⟨rfl, rfl, _⟩ := e2
        rw [Addr.add_off]; exact h2)
      refine ⟨.int .i64 N, w', _, ?_, hw', k⟩
      rw [hyl] at hld
      have hr' : (storeCells ⟨b, 0, none⟩ ys 0).run P w = .ok () w' := hr
      have h0 : (Builtin.copy_ #[dT, sT] ty #[.slice (some ⟨b, 0, none⟩) N cap, .slice (some ⟨b', o', none⟩) N c]).run P w = .ok (goInt N) w' := by
        have hm : Nat.min N N = N := Nat.min_self N
        have hm' : min N N = N := Nat.min_self N
        simp [Builtin.copy_, run_underlying ht, Builtin.lenOf, Builtin.firstCells, hz, hm, hm', hld, hr']
      simp [execOp, resolve, invoke, builtin, ha.eval hx, ha.eval hy, Sem.run_bind, h0, goInt]
/-- A part of a row, loaded whole. -/
theorem Val.loadRowPart {gd : Option (Nat × Bool)} {dst : Option Nat} {i t e sz n m q : Nat} {xs vs : List Value} (hA : ∀ w, (isAgg t).run P w = .ok true w) (hs : ∀ w, (sizeOf t).run P w = .ok m w) (hx : ev E x = some (.pointer (some ⟨rowB v, q, none⟩))) (hi : H[i]? = some (rowR v e sz n xs)) (hl : vs.length = m)
    (hc : ∀ j u, vs[j]? = some u → xs[q + j]? = some u) : Val P Γ E H ⟨dst, .load t x, ty, pos, after, gd⟩ (.agg vs.toArray) := fun a w ha hw => by
  have hld := run_loadCells_list (P := P) w ⟨rowB v, q, none⟩ vs (fun j u hj => by rw [Addr.add_off]; exact row_cell (hw.all _ (List.mem_of_getElem? hi)) (hc j u hj))
  rw [hl] at hld
  simp only [execOp, ha.eval hx, Instr.loadAt, Instr.sureAddr, loadVar, Sem.run_bind, Sem.run_pure, Result.andThen_ok, hA, if_true, hs, hld]
/-- A span of a row of spans. -/
theorem Val.loadRowS {gd : Option (Nat × Bool)} {dst : Option Nat} {i t e j : Nat} {l : List (Int × Int)} {c : Int × Int} (hA : ∀ w, (isAgg t).run P w = .ok true w) (hs : ∀ w, (sizeOf t).run P w = .ok 2 w) (hx : ev E x = some (.pointer (some ⟨rowB v, j * 2, none⟩))) (hi : H[i]? = some (rowR v e 2 l.length (prS l))) (hj : l[j]? = some c) :
    Val P Γ E H ⟨dst, .load t x, ty, pos, after, gd⟩ (.agg #[.int .i64 c.1, .int .i64 c.2]) :=
  Val.loadRowPart (vs := [.int .i64 c.1, .int .i64 c.2]) hA hs hx hi rfl (fun q u hq => by
    have := prS_at hj
    match q, hq with
    | 0, hq => (obtain rfl := Option.some.inj hq; exact this.1)
    | 1, hq => (obtain rfl := Option.some.inj hq; exact this.2))
/-- Three answers, all of them plain. -/
theorem At.ret3 {fn : Func} {R : Ending → World → Prop} {e : Exit} {r s q : Nat} {t : Value} (he : e = .ret ∨ e = .normal) (hr : fn.results = #[.tmp r, .tmp s, .tmp q]) (hD : Γ.D = []) (h : ResOf P Γ E H (.tmp r) v) (h' : ResOf P Γ E H (.tmp s) u) (h'' : ResOf P Γ E H (.tmp q) t) (k : ∀ w, Rep Γ.w0 Γ.S H w → R (.returned (.tuple #[v, u, t])) w) : At Γ E H (bodyPost P fn R e) := fun a w ha hw => by
  have h1 := resOne_run h ha hw
  have h2 := resOne_run h' ha hw
  have h3 := resOne_run h'' ha hw
  simp only [ResAt] at h1 h2 h3
  have : a.defers = [] ∧ ∃ v, (results fn a.tmps).run P w = .ok v w ∧ R (.returned v) w := ⟨ha.defers.trans hD, _, by simp [results, hr, h1, h2, h3], k w hw⟩
  rcases he with rfl | rfl <;> exact this
end
theorem Tab.modS {w w' : World} {S : Nat → Prop} (h : Tab w) (hm : Mod S w w') (h0 : ¬ S 0) : Tab w' := fun i hi => by
  have hc := h i hi
  have := hm.old 0 (block_lt_of_cell hc) h0
  unfold World.cell? at *
  rw [this]; exact hc
theorem Tab.old {w : World} (h : Tab w) : 0 < w.heap.size := block_lt_of_cell (h 0 (by decide))
end Go.Wk
set_option linter.unusedVariables false
set_option linter.unusedSimpArgs false
namespace Go.Wk
open Go
/-- The word of eight bytes from a place on. -/
def wdA (l : List UInt8) (a : Nat) : BitVec 64 := BitVec.ofNat 64 (num l a 8)
theorem num_lt64 (l : List UInt8) (a : Nat) : num l a 8 < 18446744073709551616 := num_lt a 8
theorem wdA_nat (l : List UInt8) (a : Nat) : (wdA l a).toNat = num l a 8 := by
  unfold wdA; rw [BitVec.toNat_ofNat, Nat.mod_eq_of_lt (num_lt64 l a)]
theorem wdA_val (l : List UInt8) (a : Nat) : Value.int .u64 ((num l a 8 : Nat) : Int) = b64 (wdA l a) := by unfold b64; rw [wdA_nat]
theorem or_low {V c : Nat} (hV : V < 72057594037927936) (hc : c < 256) : ib .or .u64 (IntKind.u64.wrap ((V : Int) * 2 ^ min (8 : Int).toNat IntKind.u64.bits)) (c : Int) = ((V * 256 + c : Nat) : Int) := by
  have e1 : IntKind.u64.wrap ((V : Int) * 2 ^ min (8 : Int).toNat IntKind.u64.bits) = ((V * 256 : Nat) : Int) := by
    rw [show ((V : Int) * 2 ^ min (8 : Int).toNat IntKind.u64.bits) = ((V * 256 : Nat) : Int) by rw [show min (8 : Int).toNat IntKind.u64.bits = 8 from rfl]; omega]
    exact wrap_u64 (by omega) (by omega)
  rw [e1]
  show IntKind.u64.wrap ((BitVec.ofInt 64 ((V * 256 : Nat) : Int) ||| BitVec.ofInt 64 (c : Int)).toNat : Int) = _
  have t : ∀ n : Nat, n < 18446744073709551616 → (BitVec.ofInt 64 (n : Int)).toNat = n := fun n hn => by
    rw [BitVec.toNat_ofInt, show ((n : Int) % ((2 ^ 64 : Nat) : Int)) = n from Int.emod_eq_of_lt (by omega) (by omega)]; omega
  rw [BitVec.toNat_or, t _ (by omega), t _ (by omega)]
  have : V * 256 ||| c = V * 256 + c := by
    have := Nat.two_pow_add_eq_or_of_lt (i := 8) (show c < 2 ^ 8 by omega) V
    rw [show 2 ^ 8 * V = V * 256 from by omega] at this
    exact this.symm
  rw [this]
  exact wrap_u64 (by omega) (by omega)
theorem shr_byte (x : BitVec 64) {i : Nat} (h : i < 8) : (x.toNat : Int).fdiv (2 ^ min (8 * (i : Int)).toNat IntKind.u64.bits) = ((x.toNat / 256 ^ i : Nat) : Int) := by
  have e : min (8 * (i : Int)).toNat IntKind.u64.bits = 8 * i := by rw [show IntKind.u64.bits = 64 from rfl]; omega
  rw [e, show (256 : Nat) ^ i = 2 ^ (8 * i) from by rw [Nat.pow_mul]]
  rw [Int.fdiv_eq_ediv_of_nonneg _ (Int.pow_nonneg (by decide))]
  norm_cast
abbrev le8 (x : BitVec 64) : List UInt8 := le 8 x.toNat
end Go.Wk
set_option linter.unusedVariables false
set_option linter.unusedSimpArgs false
namespace Go.Proofs.YthhkbbodhghmcaaGreatDoor
open Go Go.Wk
def isSizeB (n : Int) : Bool := decide (512 ≤ n ∧ n ≤ 524288 ∧ n % 512 = 0)
def hasB (σ : Ds) (a n : Int) : Bool := decide (0 ≤ a ∧ 0 ≤ n ∧ a ≤ 8 * (σ.ws.length : Int) ∧ n ≤ 8 * (σ.ws.length : Int) - a)
def placeE (σ : Ds) (a : Int) : Int := if 0 ≤ a ∧ a < 8 * (σ.ws.length : Int) then (if a % 8 = 0 then 0 else 12) else 11
def deadB (σ : Ds) : Bool := σ.armed && decide (σ.left = 0)
def stepD (σ : Ds) : Ds := { σ with steps := σ.steps + 1, left := if σ.armed then σ.left - 1 else σ.left }
def nowW (w : Wd) : BitVec 64 := w.news.getLast?.getD w.old
def zWd : Wd := ⟨0, [], 0⟩
def wz (n : Nat) : List Wd := List.replicate n zWd
def zeroD (n : Nat) : Ds := ⟨wz n, 0, false, 0⟩
theorem dgood_step {σ : Ds} (h : Dgood σ) (hs : σ.steps + 1 ≤ 1099511627776) : Dgood (stepD σ) :=
  ⟨h.pos, h.len, h.lines, hs, by have := h.left; unfold stepD; simp only; split <;> omega, fun w hw => ⟨(h.word w hw).1, by have := (h.word w hw).2; show _ ≤ σ.steps + 1; omega⟩⟩
theorem isSize_p (n : Int) (w : World) :
    PureC Tryz.prog 12 [.int .i64 n] (.bool (isSizeB n)) w := by
 refine enter0 Tryz.func12 rfl Tryz.ntmps12 rfl ?_
 simp only [envOf]
 refine tR ?_
 refine tA rfl rfl ?_
 refine tE ?_
 refine tR ?_
 refine tM rfl rfl ?_
 refine At.weaken [(0, _), (2, _), (3, _)] (Sub.cons rfl (Sub.cons rfl (Sub.cons rfl Sub.nil))) ?_
 refine At.boolMeet 10 13 (isSizeB n) ?_ ?_
 ·skip
  simp only [List.take_succ_cons, List.take_zero]
  refine At.val (Val.bin rfl rfl rfl) rfl rfl rfl ?_
  refine tM rfl rfl ?_
  refine At.split (t := 5) rfl (fun h1 => ?_) (fun h1 => ?_)
  ·skip
   try simp only [hasB, isSizeB, Bool.not_eq_true', Bool.not_eq_false', bne_iff_ne, ne_eq, bne_eq_false_iff_eq, beq_iff_eq, beq_eq_false_iff_ne, decide_eq_true_eq, decide_eq_false_iff_not, gt_iff_lt, ge_iff_le] at h1
   refine At.yes rfl rfl ?_
   refine tM rfl rfl ?_
   refine At.yes rfl rfl ?_
   refine At.val (Val.bin rfl rfl rfl) rfl rfl rfl ?_
   refine At.val (Val.pickT rfl rfl) rfl rfl rfl ?_
   refine tM rfl rfl ?_
   refine At.split (t := 9) rfl (fun h2 => ?_) (fun h2 => ?_)
   ·skip
    try simp only [hasB, isSizeB, Bool.not_eq_true', Bool.not_eq_false', bne_iff_ne, ne_eq, bne_eq_false_iff_eq, beq_iff_eq, beq_eq_false_iff_ne, decide_eq_true_eq, decide_eq_false_iff_not, gt_iff_lt, ge_iff_le] at h2
    refine At.yes rfl rfl ?_
    refine tM rfl rfl ?_
    refine At.yes rfl rfl ?_
    first | refine At.val (Val.remI rfl rfl (by omega) (by decide)) rfl rfl rfl ?_ | refine At.val (Val.rem rfl rfl (by decide)) rfl rfl rfl ?_
    refine At.yes rfl rfl ?_
    refine At.val (Val.bin rfl rfl rfl) rfl rfl rfl ?_
    refine At.val (Val.pickT rfl rfl) rfl rfl rfl ?_
    refine At.nil ?_
    exact At.boolEnd rfl (by unfold isSizeB; exact (by first | exact (decide_eq_true (by omega)).symm | exact (decide_eq_false (by omega)).symm | (apply Bool.eq_iff_iff.2; simp only [decide_eq_true_eq, beq_iff_eq, bne_iff_ne, ne_eq, Bool.not_eq_true', decide_eq_false_iff_not]; omega) | rfl | (simp_all; done) | (simp_all; omega))) (by repeat (first | exact Sub.nil | refine Sub.cons rfl ?_))
   ·skip
    try simp only [hasB, isSizeB, Bool.not_eq_true', Bool.not_eq_false', bne_iff_ne, ne_eq, bne_eq_false_iff_eq, beq_iff_eq, beq_eq_false_iff_ne, decide_eq_true_eq, decide_eq_false_iff_not, gt_iff_lt, ge_iff_le] at h2
    refine At.no rfl rfl rfl rfl ?_
    refine At.no rfl rfl rfl rfl ?_
    refine At.no rfl rfl rfl rfl ?_
    refine At.val (Val.pickF rfl rfl) rfl rfl rfl ?_
    refine At.nil ?_
    exact At.boolEnd rfl (by unfold isSizeB; exact (by first | exact (decide_eq_true (by omega)).symm | exact (decide_eq_false (by omega)).symm | (apply Bool.eq_iff_iff.2; simp only [decide_eq_true_eq, beq_iff_eq, bne_iff_ne, ne_eq, Bool.not_eq_true', decide_eq_false_iff_not]; omega) | rfl | (simp_all; done) | (simp_all; omega))) (by repeat (first | exact Sub.nil | refine Sub.cons rfl ?_))
  ·skip
   try simp only [hasB, isSizeB, Bool.not_eq_true', Bool.not_eq_false', bne_iff_ne, ne_eq, bne_eq_false_iff_eq, beq_iff_eq, beq_eq_false_iff_ne, decide_eq_true_eq, decide_eq_false_iff_not, gt_iff_lt, ge_iff_le] at h1
   refine At.no rfl rfl rfl rfl ?_
   refine At.no rfl rfl rfl rfl ?_
   refine At.val (Val.pickF rfl rfl) rfl rfl rfl ?_
   refine tM rfl rfl ?_
   refine At.no rfl rfl rfl rfl ?_
   refine At.no rfl rfl rfl rfl ?_
   refine At.no rfl rfl rfl rfl ?_
   refine At.val (Val.pickF rfl rfl) rfl rfl rfl ?_
   refine At.nil ?_
   exact At.boolEnd rfl (by unfold isSizeB; exact (by first | exact (decide_eq_true (by omega)).symm | exact (decide_eq_false (by omega)).symm | (apply Bool.eq_iff_iff.2; simp only [decide_eq_true_eq, beq_iff_eq, bne_iff_ne, ne_eq, Bool.not_eq_true', decide_eq_false_iff_not]; omega) | rfl | (simp_all; done) | (simp_all; omega))) (by repeat (first | exact Sub.nil | refine Sub.cons rfl ?_))
 ·skip
  simp only [List.drop_succ_cons, List.drop_zero]
  refine tA rfl rfl ?_
  refine tE ?_
  refine At.retC ?_
  refine At.ret1 (.inl rfl) rfl rfl rfl (fun w hw => ?_)
  exact ⟨rfl, hw.mod⟩
theorem size_k (p : Nat) (γ : Gh) (σ : Ds) (w : World) (hd : (Dev p γ σ).holds w) :
    Upd Tryz.prog 28 [.pointer (some ⟨p, 0, none⟩)] (Dev p γ σ) (.int .i64 (8 * (σ.ws.length : Int))) (Dev p γ σ) w := by
 refine enterV hd Tryz.func28 rfl Tryz.ntmps28 rfl ?_
 unfold devL
 have hgd := Dev.good hd
 have hln := hgd.len
 have hol := olds_length σ.ws
 simp only [envOf]
 refine tR ?_
 refine tA rfl rfl ?_
 refine tE ?_
 refine tR ?_
 refine tM rfl rfl ?_
 refine At.val (Val.nilCheck rfl) rfl rfl rfl ?_
 refine At.val (Val.field 0 rfl fo_47_0 rfl) rfl rfl rfl ?_
 refine At.val (Val.load (i := 0) Tryz.isAgg44 rfl rfl rfl) rfl rfl rfl ?_
 refine At.val (Val.lenRow (i := 1) Tryz.underlying44 rfl rfl) rfl rfl rfl ?_
 first | refine At.val (Val.mulI rfl rfl (by omega) (by omega)) rfl rfl rfl ?_ | refine At.val (Val.bin rfl rfl rfl) rfl rfl rfl ?_
 refine tA rfl rfl ?_
 refine tE ?_
 refine At.retC ?_
 refine At.ret1 (.inl rfl) rfl rfl rfl (fun w hw => ?_)
 exact ⟨congrArg (fun z => Ending.returned (Value.int .i64 z)) (by omega), retK (F := []) hw⟩
theorem has_k (p : Nat) (γ : Gh) (σ : Ds) (a n : Int) (w : World) (hd : (Dev p γ σ).holds w) :
    Upd Tryz.prog 77 [.pointer (some ⟨p, 0, none⟩), .int .i64 a, .int .i64 n] (Dev p γ σ) (.bool (hasB σ a n)) (Dev p γ σ) w := by
 refine enterVc hd Tryz.func77 rfl Tryz.ntmps77 rfl ?_
 have hgd := Dev.good hd
 have hln := hgd.len
 simp only [envOf]
 refine tR ?_
 refine tA rfl rfl ?_
 refine tE ?_
 refine tR ?_
 refine tM rfl rfl ?_
 refine At.weaken [(0, _), (1, _), (2, _), (6, _), (7, _)] (Sub.cons rfl (Sub.cons rfl (Sub.cons rfl (Sub.cons rfl (Sub.cons rfl Sub.nil))))) ?_
 refine At.boolMeet 19 26 (hasB σ a n) ?_ ?_
 ·skip
  simp only [List.take_succ_cons, List.take_zero]
  refine At.val (Val.bin rfl rfl rfl) rfl rfl rfl ?_
  refine tM rfl rfl ?_
  refine At.split (t := 9) rfl (fun h1 => ?_) (fun h1 => ?_)
  ·skip
   try simp only [hasB, isSizeB, Bool.not_eq_true', Bool.not_eq_false', bne_iff_ne, ne_eq, bne_eq_false_iff_eq, beq_iff_eq, beq_eq_false_iff_ne, decide_eq_true_eq, decide_eq_false_iff_not, gt_iff_lt, ge_iff_le] at h1
   refine At.yes rfl rfl ?_
   refine tM rfl rfl ?_
   refine At.yes rfl rfl ?_
   refine At.val (Val.bin rfl rfl rfl) rfl rfl rfl ?_
   refine At.val (Val.pickT rfl rfl) rfl rfl rfl ?_
   refine tM rfl rfl ?_
   refine At.split (t := 13) rfl (fun h2 => ?_) (fun h2 => ?_)
   ·skip
    try simp only [hasB, isSizeB, Bool.not_eq_true', Bool.not_eq_false', bne_iff_ne, ne_eq, bne_eq_false_iff_eq, beq_iff_eq, beq_eq_false_iff_ne, decide_eq_true_eq, decide_eq_false_iff_not, gt_iff_lt, ge_iff_le] at h2
    refine At.yes rfl rfl ?_
    refine tM rfl rfl ?_
    refine At.yes rfl rfl ?_
    refine tM rfl rfl ?_
    refine At.yes rfl rfl ?_
    refine At.callK 0 rfl (fun w hw hr => size_k _ _ _ w hr) Tryz.call28 rfl rfl ?_
    refine At.yes rfl rfl ?_
    refine At.val (Val.bin rfl rfl rfl) rfl rfl rfl ?_
    refine At.val (Val.pickT rfl rfl) rfl rfl rfl ?_
    refine tM rfl rfl ?_
    refine At.split (t := 19) rfl (fun h3 => ?_) (fun h3 => ?_)
    ·skip
     try simp only [hasB, isSizeB, Bool.not_eq_true', Bool.not_eq_false', bne_iff_ne, ne_eq, bne_eq_false_iff_eq, beq_iff_eq, beq_eq_false_iff_ne, decide_eq_true_eq, decide_eq_false_iff_not, gt_iff_lt, ge_iff_le] at h3
     refine At.yes rfl rfl ?_
     refine tM rfl rfl ?_
     refine At.yes rfl rfl ?_
     refine tM rfl rfl ?_
     refine At.yes rfl rfl ?_
     refine At.callK 0 rfl (fun w hw hr => size_k _ _ _ w hr) Tryz.call28 rfl rfl ?_
     refine At.yes rfl rfl ?_
     refine tM rfl rfl ?_
     refine At.yes rfl rfl ?_
     first | refine At.val (Val.subI rfl rfl (by omega) (by omega)) rfl rfl rfl ?_ | refine At.val (Val.bin rfl rfl rfl) rfl rfl rfl ?_
     refine At.yes rfl rfl ?_
     refine At.val (Val.bin rfl rfl rfl) rfl rfl rfl ?_
     refine At.val (Val.pickT rfl rfl) rfl rfl rfl ?_
     refine At.nil ?_
     exact At.boolEnd rfl (by unfold hasB; exact (by first | exact (decide_eq_true (by omega)).symm | exact (decide_eq_false (by omega)).symm | (apply Bool.eq_iff_iff.2; simp only [decide_eq_true_eq, beq_iff_eq, bne_iff_ne, ne_eq, Bool.not_eq_true', decide_eq_false_iff_not]; omega) | rfl | (simp_all; done) | (simp_all; omega))) (by repeat (first | exact Sub.nil | refine Sub.cons rfl ?_))
    ·skip
     try simp only [hasB, isSizeB, Bool.not_eq_true', Bool.not_eq_false', bne_iff_ne, ne_eq, bne_eq_false_iff_eq, beq_iff_eq, beq_eq_false_iff_ne, decide_eq_true_eq, decide_eq_false_iff_not, gt_iff_lt, ge_iff_le] at h3
     refine At.no rfl rfl rfl rfl ?_
     refine At.no rfl rfl rfl rfl ?_
     refine At.no rfl rfl rfl rfl ?_
     refine At.no rfl rfl rfl rfl ?_
     refine At.no rfl rfl rfl rfl ?_
     refine At.no rfl rfl rfl rfl ?_
     refine At.val (Val.pickF rfl rfl) rfl rfl rfl ?_
     refine At.nil ?_
     exact At.boolEnd rfl (by unfold hasB; exact (by first | exact (decide_eq_true (by omega)).symm | exact (decide_eq_false (by omega)).symm | (apply Bool.eq_iff_iff.2; simp only [decide_eq_true_eq, beq_iff_eq, bne_iff_ne, ne_eq, Bool.not_eq_true', decide_eq_false_iff_not]; omega) | rfl | (simp_all; done) | (simp_all; omega))) (by repeat (first | exact Sub.nil | refine Sub.cons rfl ?_))
   ·skip
    try simp only [hasB, isSizeB, Bool.not_eq_true', Bool.not_eq_false', bne_iff_ne, ne_eq, bne_eq_false_iff_eq, beq_iff_eq, beq_eq_false_iff_ne, decide_eq_true_eq, decide_eq_false_iff_not, gt_iff_lt, ge_iff_le] at h2
    refine At.no rfl rfl rfl rfl ?_
    refine At.no rfl rfl rfl rfl ?_
    refine At.no rfl rfl rfl rfl ?_
    refine At.no rfl rfl rfl rfl ?_
    refine At.val (Val.pickF rfl rfl) rfl rfl rfl ?_
    refine tM rfl rfl ?_
    refine At.no rfl rfl rfl rfl ?_
    refine At.no rfl rfl rfl rfl ?_
    refine At.no rfl rfl rfl rfl ?_
    refine At.no rfl rfl rfl rfl ?_
    refine At.no rfl rfl rfl rfl ?_
    refine At.no rfl rfl rfl rfl ?_
    refine At.val (Val.pickF rfl rfl) rfl rfl rfl ?_
    refine At.nil ?_
    exact At.boolEnd rfl (by unfold hasB; exact (by first | exact (decide_eq_true (by omega)).symm | exact (decide_eq_false (by omega)).symm | (apply Bool.eq_iff_iff.2; simp only [decide_eq_true_eq, beq_iff_eq, bne_iff_ne, ne_eq, Bool.not_eq_true', decide_eq_false_iff_not]; omega) | rfl | (simp_all; done) | (simp_all; omega))) (by repeat (first | exact Sub.nil | refine Sub.cons rfl ?_))
  ·skip
   try simp only [hasB, isSizeB, Bool.not_eq_true', Bool.not_eq_false', bne_iff_ne, ne_eq, bne_eq_false_iff_eq, beq_iff_eq, beq_eq_false_iff_ne, decide_eq_true_eq, decide_eq_false_iff_not, gt_iff_lt, ge_iff_le] at h1
   refine At.no rfl rfl rfl rfl ?_
   refine At.no rfl rfl rfl rfl ?_
   refine At.val (Val.pickF rfl rfl) rfl rfl rfl ?_
   refine tM rfl rfl ?_
   refine At.no rfl rfl rfl rfl ?_
   refine At.no rfl rfl rfl rfl ?_
   refine At.no rfl rfl rfl rfl ?_
   refine At.no rfl rfl rfl rfl ?_
   refine At.val (Val.pickF rfl rfl) rfl rfl rfl ?_
   refine tM rfl rfl ?_
   refine At.no rfl rfl rfl rfl ?_
   refine At.no rfl rfl rfl rfl ?_
   refine At.no rfl rfl rfl rfl ?_
   refine At.no rfl rfl rfl rfl ?_
   refine At.no rfl rfl rfl rfl ?_
   refine At.no rfl rfl rfl rfl ?_
   refine At.val (Val.pickF rfl rfl) rfl rfl rfl ?_
   refine At.nil ?_
   exact At.boolEnd rfl (by unfold hasB; exact (by first | exact (decide_eq_true (by omega)).symm | exact (decide_eq_false (by omega)).symm | (apply Bool.eq_iff_iff.2; simp only [decide_eq_true_eq, beq_iff_eq, bne_iff_ne, ne_eq, Bool.not_eq_true', decide_eq_false_iff_not]; omega) | rfl | (simp_all; done) | (simp_all; omega))) (by repeat (first | exact Sub.nil | refine Sub.cons rfl ?_))
 ·skip
  simp only [List.drop_succ_cons, List.drop_zero]
  refine tA rfl rfl ?_
  refine tE ?_
  refine At.retC ?_
  refine At.ret1 (.inl rfl) rfl rfl rfl (fun w hw => ?_)
  exact ⟨rfl, hw⟩
theorem dead_k (p : Nat) (γ : Gh) (σ : Ds) (w : World) (hd : (Dev p γ σ).holds w) :
    Upd Tryz.prog 44 [.pointer (some ⟨p, 0, none⟩)] (Dev p γ σ) (.bool (deadB σ)) (Dev p γ σ) w := by
 refine enterV hd Tryz.func44 rfl Tryz.ntmps44 rfl ?_
 unfold devL
 have hgd := Dev.good hd
 simp only [envOf]
 refine tR ?_
 refine tA rfl rfl ?_
 refine tE ?_
 refine tR ?_
 refine tM rfl rfl ?_
 refine At.val (Val.nilCheck rfl) rfl rfl rfl ?_
 refine At.val (Val.field 3 rfl fo_47_3 rfl) rfl rfl rfl ?_
 refine At.val (Val.load (i := 0) Tryz.isAgg4 rfl rfl rfl) rfl rfl rfl ?_
 refine At.weaken [(0, _), (2, _), (6, _)] (Sub.cons rfl (Sub.cons rfl (Sub.cons rfl Sub.nil))) ?_
 refine At.boolMeet 7 13 (deadB σ) ?_ ?_
 ·skip
  simp only [List.take_succ_cons, List.take_zero]
  refine tM rfl rfl ?_
  refine At.split (t := 7) rfl (fun h1 => ?_) (fun h1 => ?_)
  ·skip
   try simp only [hasB, isSizeB, Bool.not_eq_true', Bool.not_eq_false', bne_iff_ne, ne_eq, bne_eq_false_iff_eq, beq_iff_eq, beq_eq_false_iff_ne, decide_eq_true_eq, decide_eq_false_iff_not, gt_iff_lt, ge_iff_le] at h1
   refine At.yes rfl rfl ?_
   refine tM rfl rfl ?_
   refine At.yes rfl rfl ?_
   refine At.val (Val.nilCheck rfl) rfl rfl rfl ?_
   refine At.yes rfl rfl ?_
   refine At.val (Val.field 4 rfl fo_47_4 rfl) rfl rfl rfl ?_
   refine At.yes rfl rfl ?_
   refine At.val (Val.load (i := 0) Tryz.isAgg3 rfl rfl rfl) rfl rfl rfl ?_
   refine At.yes rfl rfl ?_
   refine At.val (Val.bin rfl rfl rfl) rfl rfl rfl ?_
   refine At.val (Val.pickT rfl rfl) rfl rfl rfl ?_
   refine At.nil ?_
   exact At.boolEnd rfl (by unfold deadB; first | (rw [show σ.armed = true from by assumption]; simp only [Bool.true_and]; apply Bool.eq_iff_iff.2; simp only [beq_iff_eq, decide_eq_true_eq]; omega) | (rw [show σ.armed = false from by assumption]; rfl)) (by repeat (first | exact Sub.nil | refine Sub.cons rfl ?_))
  ·skip
   try simp only [hasB, isSizeB, Bool.not_eq_true', Bool.not_eq_false', bne_iff_ne, ne_eq, bne_eq_false_iff_eq, beq_iff_eq, beq_eq_false_iff_ne, decide_eq_true_eq, decide_eq_false_iff_not, gt_iff_lt, ge_iff_le] at h1
   refine At.no rfl rfl rfl rfl ?_
   refine At.no rfl rfl rfl rfl ?_
   refine At.no rfl rfl rfl rfl ?_
   refine At.no rfl rfl rfl rfl ?_
   refine At.no rfl rfl rfl rfl ?_
   refine At.val (Val.pickF rfl rfl) rfl rfl rfl ?_
   refine At.nil ?_
   exact At.boolEnd rfl (by unfold deadB; first | (rw [show σ.armed = true from by assumption]; simp only [Bool.true_and]; apply Bool.eq_iff_iff.2; simp only [beq_iff_eq, decide_eq_true_eq]; omega) | (rw [show σ.armed = false from by assumption]; rfl)) (by repeat (first | exact Sub.nil | refine Sub.cons rfl ?_))
 ·skip
  simp only [List.drop_succ_cons, List.drop_zero]
  refine tA rfl rfl ?_
  refine tE ?_
  refine At.retC ?_
  refine At.ret1 (.inl rfl) rfl rfl rfl (fun w hw => ?_)
  exact ⟨rfl, retK (F := []) hw⟩
theorem steps_k (p : Nat) (γ : Gh) (σ : Ds) (w : World) (hd : (Dev p γ σ).holds w) :
    Upd Tryz.prog 42 [.pointer (some ⟨p, 0, none⟩)] (Dev p γ σ) (.int .i64 (σ.steps : Int)) (Dev p γ σ) w := by
 refine enterV hd Tryz.func42 rfl Tryz.ntmps42 rfl ?_
 unfold devL
 have hgd := Dev.good hd
 simp only [envOf]
 refine tR ?_
 refine tA rfl rfl ?_
 refine tE ?_
 refine tR ?_
 refine tM rfl rfl ?_
 refine At.val (Val.nilCheck rfl) rfl rfl rfl ?_
 refine At.val (Val.field 2 rfl fo_47_2 rfl) rfl rfl rfl ?_
 refine At.val (Val.load (i := 0) Tryz.isAgg3 rfl rfl rfl) rfl rfl rfl ?_
 refine tA rfl rfl ?_
 refine tE ?_
 refine At.retC ?_
 refine At.ret1 (.inl rfl) rfl rfl rfl (fun w hw => ?_)
 exact ⟨rfl, retK (F := []) hw⟩
theorem place_k (p : Nat) (γ : Gh) (σ : Ds) (a : Int) (w : World) (hd : (Dev p γ σ).holds w) :
    Upd Tryz.prog 73 [.pointer (some ⟨p, 0, none⟩), .int .i64 a] (Dev p γ σ) (.int .i64 (placeE σ a)) (Dev p γ σ) w := by
 refine enterVc hd Tryz.func73 rfl Tryz.ntmps73 rfl ?_
 have hgd := Dev.good hd
 have hln := hgd.len
 simp only [envOf]
 refine tR ?_
 refine tA rfl rfl ?_
 refine tE ?_
 refine At.seq ?_
 refine tR ?_
 refine tM rfl rfl ?_
 refine tM rfl rfl ?_
 refine At.callK 0 rfl (fun w hw hr => has_k _ _ _ _ _ w hr) Tryz.call77 rfl rfl ?_
 refine At.val (Val.not rfl) rfl rfl rfl ?_
 refine tE ?_
 refine At.cond rfl (fun h1 => ?_) (fun h1 => ?_)
 ·skip
  try simp only [hasB, isSizeB, Bool.not_eq_true', Bool.not_eq_false', bne_iff_ne, ne_eq, bne_eq_false_iff_eq, beq_iff_eq, beq_eq_false_iff_ne, decide_eq_true_eq, decide_eq_false_iff_not, gt_iff_lt, ge_iff_le] at h1
  refine tR ?_
  refine tA rfl rfl ?_
  refine tE ?_
  refine At.retC ?_
  refine At.thenR ?_
  refine At.ret1 (.inl rfl) rfl rfl rfl (fun w hw => ?_)
  exact ⟨congrArg (fun z => Ending.returned (Value.int .i64 z)) (by unfold placeE; (repeat' split) <;> omega), hw⟩
 ·skip
  try simp only [hasB, isSizeB, Bool.not_eq_true', Bool.not_eq_false', bne_iff_ne, ne_eq, bne_eq_false_iff_eq, beq_iff_eq, beq_eq_false_iff_ne, decide_eq_true_eq, decide_eq_false_iff_not, gt_iff_lt, ge_iff_le] at h1
  refine At.skipC ?_
  refine At.thenN ?_
  refine At.seq ?_
  refine tR ?_
  refine tM rfl rfl ?_
  first | refine At.val (Val.remI rfl rfl (by omega) (by decide)) rfl rfl rfl ?_ | refine At.val (Val.rem rfl rfl (by decide)) rfl rfl rfl ?_
  refine At.val (Val.bin rfl rfl rfl) rfl rfl rfl ?_
  refine tE ?_
  refine At.cond rfl (fun h2 => ?_) (fun h2 => ?_)
  ·skip
   try simp only [hasB, isSizeB, Bool.not_eq_true', Bool.not_eq_false', bne_iff_ne, ne_eq, bne_eq_false_iff_eq, beq_iff_eq, beq_eq_false_iff_ne, decide_eq_true_eq, decide_eq_false_iff_not, gt_iff_lt, ge_iff_le] at h2
   refine tR ?_
   refine tA rfl rfl ?_
   refine tE ?_
   refine At.retC ?_
   refine At.thenR ?_
   refine At.ret1 (.inl rfl) rfl rfl rfl (fun w hw => ?_)
   exact ⟨congrArg (fun z => Ending.returned (Value.int .i64 z)) (by unfold placeE; (repeat' split) <;> omega), hw⟩
  ·skip
   try simp only [hasB, isSizeB, Bool.not_eq_true', Bool.not_eq_false', bne_iff_ne, ne_eq, bne_eq_false_iff_eq, beq_iff_eq, beq_eq_false_iff_ne, decide_eq_true_eq, decide_eq_false_iff_not, gt_iff_lt, ge_iff_le] at h2
   refine At.skipC ?_
   refine At.thenN ?_
   refine tR ?_
   refine tA rfl rfl ?_
   refine tE ?_
   refine At.retC ?_
   refine At.ret1 (.inl rfl) rfl rfl rfl (fun w hw => ?_)
   exact ⟨congrArg (fun z => Ending.returned (Value.int .i64 z)) (by unfold placeE; (repeat' split) <;> omega), hw⟩
theorem step_d (p : Nat) (γ : Gh) (σ : Ds) (w : World) (hs : σ.steps + 1 ≤ 1099511627776) (hno : deadB σ = false) (hd : (Dev p γ σ).holds w) :
    DevU Tryz.prog 74 [.pointer (some ⟨p, 0, none⟩)] p γ σ (.int .i64 0) (stepD σ) w := by
 refine enterVc hd Tryz.func74 rfl Tryz.ntmps74 rfl ?_
 have hgd := Dev.good hd
 have hln := hgd.len
 have hlf := hgd.left
 simp only [envOf]
 refine tR ?_
 refine tA rfl rfl ?_
 refine tE ?_
 refine At.seq ?_
 refine tR ?_
 refine tM rfl rfl ?_
 refine At.callK 0 rfl (fun w hw hr => dead_k _ _ _ w hr) Tryz.call44 rfl rfl ?_
 refine tE ?_
 refine At.cond rfl (fun h1 => ?_) (fun h1 => ?_)
 ·skip
  try simp only [hasB, isSizeB, Bool.not_eq_true', Bool.not_eq_false', bne_iff_ne, ne_eq, bne_eq_false_iff_eq, beq_iff_eq, beq_eq_false_iff_ne, decide_eq_true_eq, decide_eq_false_iff_not, gt_iff_lt, ge_iff_le] at h1
  rw [hno] at h1; cases h1
 ·skip
  try simp only [hasB, isSizeB, Bool.not_eq_true', Bool.not_eq_false', bne_iff_ne, ne_eq, bne_eq_false_iff_eq, beq_iff_eq, beq_eq_false_iff_ne, decide_eq_true_eq, decide_eq_false_iff_not, gt_iff_lt, ge_iff_le] at h1
  refine At.skipC ?_
  refine At.thenN ?_
  refine At.seq ?_
  refine At.openS 0 rfl ?_
  simp only [devL, List.cons_append, List.nil_append, ec0, ecS]
  refine At.region ?_
  refine tM rfl rfl ?_
  refine At.val (Val.nilCheck rfl) rfl rfl rfl ?_
  refine At.val (Val.field 2 rfl fo_47_2 rfl) rfl rfl rfl ?_
  refine At.val (Val.load (i := 0) Tryz.isAgg3 rfl rfl rfl) rfl rfl rfl ?_
  first | refine At.val (Val.addI rfl rfl (by omega) (by omega)) rfl rfl rfl ?_ | refine At.val (Val.bin rfl rfl rfl) rfl rfl rfl ?_
  refine At.val (Val.nilCheck rfl) rfl rfl rfl ?_
  refine At.val (Val.field 2 rfl fo_47_2 rfl) rfl rfl rfl ?_
  refine At.store (i := 0) Tryz.sizeOf3 rfl rfl rfl rfl (by first | decide | simp) ?_
  simp only [sc0, scS]
  refine tE ?_
  refine At.seq ?_
  refine tR ?_
  refine tM rfl rfl ?_
  refine At.val (Val.nilCheck rfl) rfl rfl rfl ?_
  refine At.val (Val.field 3 rfl fo_47_3 rfl) rfl rfl rfl ?_
  refine At.val (Val.load (i := 0) Tryz.isAgg4 rfl rfl rfl) rfl rfl rfl ?_
  refine tE ?_
  refine At.cond rfl (fun h2 => ?_) (fun h2 => ?_)
  ·skip
   try simp only [hasB, isSizeB, Bool.not_eq_true', Bool.not_eq_false', bne_iff_ne, ne_eq, bne_eq_false_iff_eq, beq_iff_eq, beq_eq_false_iff_ne, decide_eq_true_eq, decide_eq_false_iff_not, gt_iff_lt, ge_iff_le] at h2
   have hlp : 1 ≤ σ.left := by rcases Nat.eq_zero_or_pos σ.left with h0 | h0; exact absurd hno (by unfold deadB; simp [h0, h2]); exact h0
   refine At.region ?_
   refine tM rfl rfl ?_
   refine At.val (Val.nilCheck rfl) rfl rfl rfl ?_
   refine At.val (Val.field 4 rfl fo_47_4 rfl) rfl rfl rfl ?_
   refine At.val (Val.load (i := 0) Tryz.isAgg3 rfl rfl rfl) rfl rfl rfl ?_
   first | refine At.val (Val.subI rfl rfl (by omega) (by omega)) rfl rfl rfl ?_ | refine At.val (Val.bin rfl rfl rfl) rfl rfl rfl ?_
   refine At.val (Val.nilCheck rfl) rfl rfl rfl ?_
   refine At.val (Val.field 4 rfl fo_47_4 rfl) rfl rfl rfl ?_
   refine At.store (i := 0) Tryz.sizeOf3 rfl rfl rfl rfl (by first | decide | simp) ?_
   simp only [sc0, scS]
   refine tE ?_
   refine tR ?_
   refine tA rfl rfl ?_
   refine tE ?_
   refine At.retC ?_
   refine At.ret1 (.inl rfl) rfl rfl rfl (fun w hw => ?_)
   exact ⟨γ, rfl, toDev (F := []) (dgood_step hgd hs) (hw.drop (show List.Sublist [_, _, _, _] _ from (List.Sublist.refl _ |>.cons _ |>.cons_cons _ |>.cons_cons _ |>.cons_cons _ |>.cons_cons _))) (by congr 1; simp [stepD, *]; try omega) rfl rfl rfl⟩
  ·skip
   try simp only [hasB, isSizeB, Bool.not_eq_true', Bool.not_eq_false', bne_iff_ne, ne_eq, bne_eq_false_iff_eq, beq_iff_eq, beq_eq_false_iff_ne, decide_eq_true_eq, decide_eq_false_iff_not, gt_iff_lt, ge_iff_le] at h2
   refine At.skipC ?_
   refine At.thenN ?_
   refine tR ?_
   refine tA rfl rfl ?_
   refine tE ?_
   refine At.retC ?_
   refine At.ret1 (.inl rfl) rfl rfl rfl (fun w hw => ?_)
   exact ⟨γ, rfl, toDev (F := []) (dgood_step hgd hs) (hw.drop (show List.Sublist [_, _, _, _] _ from (List.Sublist.refl _ |>.cons _ |>.cons_cons _ |>.cons_cons _ |>.cons_cons _ |>.cons_cons _))) (by congr 1; simp [stepD, *]; try omega) rfl rfl rfl⟩
theorem step_0 (p : Nat) (γ : Gh) (σ : Ds) (w : World) (hno : deadB σ = true) (hd : (Dev p γ σ).holds w) :
    Upd Tryz.prog 74 [.pointer (some ⟨p, 0, none⟩)] (Dev p γ σ) (.int .i64 13) (Dev p γ σ) w := by
 refine enterVc hd Tryz.func74 rfl Tryz.ntmps74 rfl ?_
 have hgd := Dev.good hd
 simp only [envOf]
 refine tR ?_
 refine tA rfl rfl ?_
 refine tE ?_
 refine At.seq ?_
 refine tR ?_
 refine tM rfl rfl ?_
 refine At.callK 0 rfl (fun w hw hr => dead_k _ _ _ w hr) Tryz.call44 rfl rfl ?_
 refine tE ?_
 refine At.cond rfl (fun h1 => ?_) (fun h1 => ?_)
 ·skip
  try simp only [hasB, isSizeB, Bool.not_eq_true', Bool.not_eq_false', bne_iff_ne, ne_eq, bne_eq_false_iff_eq, beq_iff_eq, beq_eq_false_iff_ne, decide_eq_true_eq, decide_eq_false_iff_not, gt_iff_lt, ge_iff_le] at h1
  refine tR ?_
  refine tA rfl rfl ?_
  refine tE ?_
  refine At.retC ?_
  refine At.thenR ?_
  refine At.ret1 (.inl rfl) rfl rfl rfl (fun w hw => ?_)
  exact ⟨rfl, hw⟩
 ·skip
  try simp only [hasB, isSizeB, Bool.not_eq_true', Bool.not_eq_false', bne_iff_ne, ne_eq, bne_eq_false_iff_eq, beq_iff_eq, beq_eq_false_iff_ne, decide_eq_true_eq, decide_eq_false_iff_not, gt_iff_lt, ge_iff_le] at h1
  rw [hno] at h1; cases h1
end Go.Proofs.YthhkbbodhghmcaaGreatDoor
set_option linter.unusedVariables false
set_option linter.unusedSimpArgs false
namespace Go.Wk
open Go
section
variable {P : Program} {Γ : Ctx} {E : Env} {H L F : List Res} {ops : Array Oper} {Q : Exit → Act → World → Prop} {rest : List Oper} {w0 w w' : World} {S : Nat → Prop} {φ : Act → World → Prop} {ψ : Act → Prop}
  {d : Nat} {dst : Option Tmp} {gd : Option (Nat × Bool)} {ty : TypeId} {pos : String} {after : Array Edge} {x y z : Operand} {v u : Value} {ws : List Wd} {g : Nat → Nat × Value}
theorem Rep.famNil {I : Nat → Option Res} (hI : ∀ k, I k = none) (h : Rep w0 S H w) : Rep w0 S (fam I :: H) w :=
  ⟨List.pairwise_cons.2 ⟨fun s _ b ⟨k, r, hk, _⟩ _ => (by rw [hI k] at hk; cases hk), h.sep⟩, fun r hr => by
    rcases List.mem_cons.1 hr with rfl | h1
    · exact ⟨fun k r hk => (by rw [hI k] at hk; cases hk), fun k k' r r' hk => (by rw [hI k] at hk; cases hk)⟩
    · exact h.all r h1, fun r hr b hb => by
    rcases List.mem_cons.1 hr with rfl | h1
    · obtain ⟨k, r, hk, _⟩ := hb; rw [hI k] at hk; cases hk
    · exact h.mine r h1 b hb, h.mod⟩
theorem dI_calm (h : ∀ w ∈ ws, w.news = []) (k : Nat) : dI ws g k = none := by
  cases hk : ws[k]? with
  | none => unfold dI; rw [hk]
  | some wd => exact dI_none hk (h wd (List.mem_of_getElem? hk))
theorem dI_calm' {ws' : List Wd} {g' : Nat → Nat × Value} (h : ∀ w ∈ ws, w.news = []) (h' : ∀ w ∈ ws', w.news = []) : dI ws g = dI ws' g' := funext fun k => by rw [dI_calm h, dI_calm h']
theorem mk_calm (h : ∀ w ∈ ws, w.news = []) : mk ws g = fun _ => none := by
  funext q
  unfold mk
  split
  · cases hk : ws[(q / 8).toNat]? with
    | none => unfold mkN; rw [hk]
    | some wd => exact mkN_none hk (h wd (List.mem_of_getElem? hk))
  · rfl
theorem made_w (n : Nat) : (madeCells #[Value.int .u64 0] (n * 1)).toList = (List.replicate n (0 : BitVec 64)).map b64 := by
  rw [Nat.mul_one]
  apply List.ext_getElem
  · simp [madeCells]
  · intro i h1 h2
    simp [madeCells, Nat.mod_one]
theorem At.makeRowW {t e n : Nat} {ti : TypeInfo} (ht : P.underlying t = some (.slice e)) (hti : P.info? e = some ti) (hz : ti.zero = some (.int .u64 0)) (hsize : ti.size = 1) (hb : ti.bytes = 8)
    (hx : ev E x = some (.int .i64 (n : Int))) (hy : ev E y = some (.int .i64 (n : Int))) (h63 : n ≤ 1073741824) (hn : Nat.blt d Γ.n = true)
    (k : ∀ v, At Γ ((d, v) :: E) (wrow e v (List.replicate n 0) :: H) (wpList P ops Q rest)) :
    At Γ E H (wpList P ops Q ({ dst := some d, op := .makeSlice t x y, type := ty, pos, after, guard := none } :: rest)) :=
  At.makeRow ht hti hz hsize (made_w n) hx hy (by rw [hb]; omega) (by omega) hn fun v => by
    have := k v
    unfold wrow at this
    rwa [List.length_replicate] at this
theorem now_last {wd : Wd} (hn : wd.news ≠ []) {y : BitVec 64} (hy : y = wd.news.getLast?.getD wd.old) : wd.news[wd.news.length - 1]? = some y := by
  rw [hy, ← List.getLast?_eq_getElem?]
  cases h : wd.news.getLast? with
  | none => rw [List.getLast?_eq_none_iff] at h; exact absurd h hn
  | some z => rfl
theorem Rep.modF (h : Rep w0 (feet []) H w) : Mod (fun _ => False) w0 w := h.mod.mono (fun b hb => by simp [feet] at hb)
/-- A closure that captured several values. -/
theorem run_callV {n : Nat} {D : List Deferred} {a : Act} (ha : Agrees n D E a) {f : FuncId} {fx : Operand} {caps : List Value} {l : List Operand} {vs : List Value} {at_ : Array TypeId} (hf : ev E fx = some (.func (.func f) #[] caps.toArray)) (hc : ∀ args w, (callFunc f args).run P w = .ok (.enter f args) w) (hv : evs E l = some vs) (w : World) :
    (execOp a.eval { dst := dst, op := .call { callee := .value fx, args := l.toArray, argTypes := at_ }, type := ty, pos, after, guard := gd }).run P w = .ok (.enter f (vs ++ caps).toArray) w := by
  have hev := ha.evals hv
  simp [execOp, resolve, ha.eval hf, Deferred.ofValue, Sem.run_bind, invoke, hev, hc]
theorem QAt.callVKS (L : List Res) {F : List Res} {f : FuncId} {fx : Operand} {caps : List Value} {l : List Operand} {vs : List Value} {at_ : Array TypeId} (hL : H = L ++ F) (hf : ev E fx = some (.func (.func f) #[] caps.toArray)) (h : ∀ w, Rep Γ.w0 Γ.S H w → (star L).holds w → Upd P f (vs ++ caps) (star L) v (star L) w)
    (hc : ∀ args w, (callFunc f args).run P w = .ok (.enter f args) w) (hv : evs E l = some vs) (hn : Nat.blt d Γ.n = true)
    (c : QAt P Γ ops ((d, v) :: E) H rest ψ) : QAt P Γ ops E H ({ dst := some d, op := .call { callee := .value fx, args := l.toArray, argTypes := at_ }, type := ty, pos, after, guard := none } :: rest) ψ := by
  subst hL
  intro a ha
  unfold wpQuiet
  rw [if_pos (by simp [Region.wanted])]
  refine ⟨v, fun w hw => ?_, c _ (ha.put d v hn)⟩
  unfold Oper.quietAt
  rw [run_callV ha hf hc hv w]
  exact ⟨rfl, (h w hw (hw.shutS.all _ (List.mem_cons_self ..))).mono fun e w' ⟨he, hm⟩ => ⟨he, hw.keptS hm⟩⟩
theorem At.winNil (e : Nat) (k : At Γ E (winR (.slice none 0 0) e [] :: H) φ) : At Γ E H φ := fun a w ha hw =>
  k a w ha (hw.new (r' := winR (.slice none 0 0) e []) (Mod.refl _ _) (.inl ⟨rfl, rfl⟩) (fun b hb => by simp [winR, Value.ownBlock] at hb))
theorem At.bornD0 {k b : Nat} {v' : Value} {wo wd : Wd} (hm : wd.mark = 0) (hk : ws[k]? = some wo) (ho : wo.news = []) (hn : wd.news ≠ []) (c : At Γ E (fam (dI (ws.set k wd) (upd g k (b, v'))) :: H) φ) : At Γ E (blk b tDb [v', .int .i64 0] :: winR v' tW (wd.news.map b64) :: fam (dI ws g) :: H) φ := by
  have := At.bornD (Γ := Γ) (E := E) (H := H) (φ := φ) (g := g) (b := b) (v' := v') hk ho hn c
  rwa [hm] at this
theorem At.unfocusZ {k b : Nat} {v' : Value} {wd : Wd} (hm : wd.mark = 0) (hk : k < ws.length) (hn : wd.news ≠ []) (c : At Γ E (fam (dI (ws.set k wd) (upd g k (b, v'))) :: H) φ) : At Γ E (blk b tDb [v', .int .i64 0] :: winR v' tW (wd.news.map b64) :: fam (upd (dI ws g) k none) :: H) φ := by
  have := At.unfocusD (Γ := Γ) (E := E) (H := H) (φ := φ) (g := g) (b := b) (v' := v') hk hn c
  rwa [hm] at this
theorem At.dbtCap {k : Nat} {wd : Wd} {b o n c : Nat} (i : Nat) (hi : H[i]? = some (fam (dI ws g))) (hk : ws[k]? = some wd) (hn : wd.news ≠ []) (hv : (g k).2 = .slice (some ⟨b, o, none⟩) n c) (q : wd.news.length ≤ c → At Γ E H φ) : At Γ E H φ := fun a w ha hw => by
  have h := (fam_dbt (hw.all _ (List.mem_of_getElem? hi)) hk hn).2
  rw [hv] at h
  rcases h with ⟨h1, _⟩ | ⟨b', o', c', cur, h1, _, h2, _⟩
  · cases h1
  · simp only [Value.slice.injEq] at h1
    obtain ⟨_, _, rfl⟩ := h1
    rw [List.length_map] at h2
    exact q h2 a w ha hw
theorem At.winOne (i : Nat) {e : Nat} {xs : List Value} (hi : H[i]? = some (winR v e xs)) (k : v.oneCell' = true → At Γ E H φ) : At Γ E H φ := fun a w ha hw => by
  have h : Win w v e xs := hw.all _ (List.mem_of_getElem? hi)
  rcases h with ⟨rfl, rfl⟩ | ⟨b, o, c, cur, rfl, _⟩ <;> exact k rfl a w ha hw
theorem At.bring (i : Nat) {r : Res} (hi : H[i]? = some r) (k : At Γ E (r :: H.eraseIdx i) φ) : At Γ E H φ := fun a w ha hw => k a w ha (hw.perm (erase_perm H i r hi))
theorem At.rew {H' : List Res} (h : H = H') (k : At Γ E H' φ) : At Γ E H φ := by subst h; exact k
/-- One part of a list is laid over. -/
def putK (l : List UInt8) (o : Nat) (x : BitVec 64) (k : Nat) : List UInt8 := l.take o ++ (le8 x).take k ++ l.drop (o + k)
abbrev put8 (l : List UInt8) (o : Nat) (x : BitVec 64) : List UInt8 := putK l o x 8
theorem putK_zero (l : List UInt8) (o : Nat) (x : BitVec 64) : putK l o x 0 = l := by simp [putK]
theorem putK_length {l : List UInt8} {o k : Nat} (x : BitVec 64) (h : o + k ≤ l.length) (hk : k ≤ 8) : (putK l o x k).length = l.length := by
  unfold putK; simp [le_length]; omega
theorem putK_step {l : List UInt8} {o k : Nat} (x : BitVec 64) (h : o + k < l.length) (hk : k < 8) : (putK l o x k).set (o + k) (UInt8.ofNat (x.toNat / 256 ^ k)) = putK l o x (k + 1) := by
  unfold putK
  rw [le_take_succ 8 _ k hk]
  have e : (l.take o ++ (le8 x).take k).length = o + k := by simp [le_length]; omega
  rw [List.set_append_right _ _ (by omega), e, Nat.sub_self, List.drop_eq_getElem_cons h, List.set_cons_zero]
  simp [Nat.add_assoc]
end
end Go.Wk
set_option linter.unusedVariables false
set_option linter.unusedSimpArgs false
namespace Go.Proofs.YthhkbbodhghmcaaGreatDoor
open Go Go.Wk
theorem wz_calm (n : Nat) : ∀ w ∈ wz n, w.news = [] := fun w hw => by rw [(List.mem_replicate.1 hw).2]; rfl
theorem olds_wz (n : Nat) : olds (wz n) = List.replicate n 0 := by simp [olds, wz, zWd]
theorem zeroD_good {n : Nat} (h : isSizeB (8 * (n : Int)) = true) : Dgood (zeroD n) := by
  unfold isSizeB at h
  rw [decide_eq_true_eq] at h
  have e : (zeroD n).ws.length = n := by simp [zeroD, wz]
  exact ⟨by rw [e]; omega, by rw [e]; omega, by rw [e]; omega, by simp [zeroD], by simp [zeroD], fun w hw => by
    have := (List.mem_replicate.1 hw).2
    subst this; exact ⟨Nat.le_refl _, Nat.le_refl _⟩⟩
theorem now_old {wd : Wd} (h : wd.news = []) : nowW wd = wd.old := by unfold nowW; rw [h]; rfl
theorem bld_dev (a : Option Addr) (n c m : Nat) (w : World) : (Instr.build 47 #[(0, .slice a n c), (1, .map (some m))]).run Tryz.prog w = .ok (.agg #[.slice a n c, .map (some m), .int .i64 0, .bool false, .int .i64 0]) w := by kernel_rfl
theorem wordOf_p (v : Value) (l : List UInt8) (w : World) (hv : RdB w v l) (h8 : 8 ≤ l.length) :
    PureC Tryz.prog 81 [v] (b64 (wdA l 0)) w := by
 refine enter0 Tryz.func81 rfl Tryz.ntmps81 rfl ?_
 simp only [envOf]
 refine tR ?_
 refine tA rfl rfl ?_
 refine tE ?_
 refine tR ?_
 refine tA rfl rfl ?_
 refine tE ?_
 refine At.seq ?_
 refine tR ?_
 refine tA rfl rfl ?_
 refine tE ?_
 refine At.block ?_
 skip
 refine At.loop (σ := Nat) (fun k => k ≤ 8) (fun k => [(0, v), (3, .int .u64 ((num l k (8 - k) : Nat) : Int)), (4, .int .i64 ((k : Int) - 1))]) (fun k => []) (fun k => k) 8 (Nat.le_refl _) (Sub.cons rfl (Sub.cons (congrArg (fun z => some (Value.int IntKind.u64 z)) (by rw [Nat.sub_self, num_zero]; rfl)) (Sub.cons rfl Sub.nil))) (List.Perm.refl _) ?_
 intro k hs
 refine At.seq ?_
 refine tR ?_
 refine tM rfl rfl ?_
 refine At.val (Val.bin rfl rfl rfl) rfl rfl rfl ?_
 refine tE ?_
 refine At.cond rfl (fun h1 => ?_) (fun h1 => ?_)
 ·skip
  try simp only [hasB, isSizeB, Bool.not_eq_true', Bool.not_eq_false', bne_iff_ne, ne_eq, bne_eq_false_iff_eq, beq_iff_eq, beq_eq_false_iff_ne, decide_eq_true_eq, decide_eq_false_iff_not, gt_iff_lt, ge_iff_le] at h1
  have hk : 1 ≤ k := by omega
  refine At.skipC ?_
  refine At.thenN ?_
  refine At.seq ?_
  refine At.block ?_
  refine At.region ?_
  refine tM rfl rfl ?_
  refine At.val (Val.shl rfl rfl (by decide)) rfl rfl rfl ?_
  refine tM rfl rfl ?_
  refine tM rfl rfl ?_
  refine At.idxB hv Tryz.underlying59 Tryz.sizeOf5 rfl rfl (by omega) (by omega) rfl rfl (fun b2 o3 q4 hq5 hl6 hc7 => ?_)
  refine At.val (Val.loadOld Tryz.isAgg5 rfl hc7 (fun h => h)) rfl rfl rfl ?_
  refine At.val (Val.toU Tryz.underlying5 Tryz.underlying32 rfl (by omega) (by omega)) rfl rfl rfl ?_
  have hq8 := hq5
  have e1 : ((k : Int) - 1).toNat = k - 1 := by omega
  rw [e1] at hq8
  have hlt := num_lt (l := l) k (8 - k)
  have hlt' : num l k (8 - k) < 72057594037927936 := Nat.lt_of_lt_of_le hlt (Nat.pow_le_pow_right (n := 256) (i := 8 - k) (j := 7) (by decide) (by omega))
  refine At.val (Val.bin rfl rfl rfl) rfl rfl rfl ?_
  rw [or_low hlt' (UInt8.toNat_lt _)]
  refine tA rfl rfl ?_
  refine At.nil ?_
  refine At.blkN ?_
  refine At.thenN ?_
  refine At.region ?_
  refine tM rfl rfl ?_
  first | refine At.val (Val.subI rfl rfl (by omega) (by omega)) rfl rfl rfl ?_ | refine At.val (Val.bin rfl rfl rfl) rfl rfl rfl ?_
  refine tA rfl rfl ?_
  refine tE ?_
  exact At.again (k - 1) (show k - 1 ≤ 8 by omega) (show k - 1 < k by omega) (Sub.cons rfl (Sub.cons (congrArg (fun z => some (Value.int IntKind.u64 z)) (by rw [show 8 - (k - 1) = 8 - k + 1 by omega, num_cons hq8, show k - 1 + 1 = k by omega])) (Sub.cons (congrArg (fun z => some (Value.int IntKind.i64 z)) (by omega)) Sub.nil))) (List.Perm.refl _)
 ·skip
  try simp only [hasB, isSizeB, Bool.not_eq_true', Bool.not_eq_false', bne_iff_ne, ne_eq, bne_eq_false_iff_eq, beq_iff_eq, beq_eq_false_iff_ne, decide_eq_true_eq, decide_eq_false_iff_not, gt_iff_lt, ge_iff_le] at h1
  obtain rfl : k = 0 := by omega
  refine At.exitC ?_
  refine At.thenX ?_
  refine At.thenX ?_
  refine At.blkX ?_
  refine At.thenN ?_
  refine tR ?_
  refine tM rfl rfl ?_
  refine tA rfl rfl ?_
  refine tE ?_
  refine At.retC ?_
  refine At.ret1 (.inl rfl) rfl rfl rfl (fun w hw => ?_)
  exact ⟨congrArg Ending.returned (wdA_val l 0), hw.mod⟩
theorem putW_r (b o m cc n c : Nat) (l : List UInt8) (x : BitVec 64) (w : World) (h8 : 8 ≤ m) (ho8 : o + 8 ≤ l.length) (hr : (brow 5 (.slice (some ⟨b, 0, none⟩) n c) l).holds w) :
    Upd Tryz.prog 107 [.slice (some ⟨b, o, none⟩) m cc, b64 x] (brow 5 (.slice (some ⟨b, 0, none⟩) n c) l) (.tuple #[]) (brow 5 (.slice (some ⟨b, 0, none⟩) n c) (put8 l o x)) w := by
 refine enter (feet [brow 5 (.slice (some ⟨b, 0, none⟩) n c) l]) [brow 5 (.slice (some ⟨b, 0, none⟩) n c) l] Tryz.func107 rfl Tryz.ntmps107 rfl (Rep.one hr) ?_
 simp only [envOf]
 refine tR ?_
 refine tM rfl rfl ?_
 refine tE ?_
 refine At.block ?_
 skip
 refine At.loop (σ := Nat) (fun k => k ≤ 8) (fun k => [(0, .slice (some ⟨b, o, none⟩) m cc), (1, b64 x), (5, .int .i64 (k : Int))]) (fun k => [brow 5 (.slice (some ⟨b, 0, none⟩) n c) (putK l o x k)]) (fun k => 8 - k) 0 (Nat.zero_le _) (Sub.cons rfl (Sub.cons rfl (Sub.cons rfl Sub.nil))) (by rw [putK_zero]) ?_
 intro k hs
 refine tR ?_
 refine At.val (Val.bin rfl rfl rfl) rfl rfl rfl ?_
 refine tE ?_
 refine At.seq ?_
 refine At.cond rfl (fun h1 => ?_) (fun h1 => ?_)
 ·skip
  try simp only [hasB, isSizeB, Bool.not_eq_true', Bool.not_eq_false', bne_iff_ne, ne_eq, bne_eq_false_iff_eq, beq_iff_eq, beq_eq_false_iff_ne, decide_eq_true_eq, decide_eq_false_iff_not, gt_iff_lt, ge_iff_le] at h1
  have hk : k < 8 := by omega
  refine At.skipC ?_
  refine At.thenN ?_
  refine At.seq ?_
  refine At.block ?_
  refine tR ?_
  refine tM rfl rfl ?_
  refine tA rfl rfl ?_
  refine tE ?_
  refine At.region ?_
  refine tM rfl rfl ?_
  refine tM rfl rfl ?_
  refine tM rfl rfl ?_
  refine tM rfl rfl ?_
  refine At.val (Val.mulI rfl rfl (by omega) (by omega)) rfl rfl rfl ?_
  refine At.val (Val.shr rfl rfl (by omega)) rfl rfl rfl ?_
  rw [shr_byte x hk]
  refine At.val (Val.toB Tryz.underlying32 Tryz.underlying5 rfl (Int.natCast_nonneg _)) rfl rfl rfl ?_
  rw [Int.toNat_natCast]
  refine At.val (Val.indexSl (o + k) (by omega) Tryz.underlying59 Tryz.sizeOf5 rfl rfl (by omega) (by omega)) rfl rfl rfl ?_
  have hpl := putK_length (l := l) (o := o) (k := k) x (by omega) (by omega)
  refine At.storeRowB (i := 0) Tryz.sizeOf5 rfl rfl rfl (by omega) ?_
  simp only [sc0, scS]
  rw [putK_step x (by omega) hk]
  refine At.nil ?_
  refine At.blkN ?_
  refine At.thenN ?_
  refine At.region ?_
  first | refine At.val (Val.addI rfl rfl (by omega) (by omega)) rfl rfl rfl ?_ | refine At.val (Val.bin rfl rfl rfl) rfl rfl rfl ?_
  refine tM rfl rfl ?_
  refine tE ?_
  exact At.again (k + 1) (show k + 1 ≤ 8 by omega) (by omega) (Sub.cons rfl (Sub.cons rfl (Sub.cons (congrArg (fun z => some (Value.int IntKind.i64 z)) (by omega)) Sub.nil))) (List.Perm.refl _)
 ·skip
  try simp only [hasB, isSizeB, Bool.not_eq_true', Bool.not_eq_false', bne_iff_ne, ne_eq, bne_eq_false_iff_eq, beq_iff_eq, beq_eq_false_iff_ne, decide_eq_true_eq, decide_eq_false_iff_not, gt_iff_lt, ge_iff_le] at h1
  obtain rfl : k = 8 := by omega
  refine At.exitC ?_
  refine At.thenX ?_
  refine At.thenX ?_
  refine At.blkX ?_
  refine At.ret0 (.inr rfl) rfl rfl  (fun w hw => ?_)
  exact ⟨rfl, hw⟩
theorem now_k (p : Nat) (γ : Gh) (σ : Ds) (k : Nat) (wd : Wd) (w : World) (hk : σ.ws[k]? = some wd) (hd : (Dev p γ σ).holds w) :
    Upd Tryz.prog 90 [.pointer (some ⟨p, 0, none⟩), .int .i64 (8 * (k : Int))] (Dev p γ σ) (b64 (nowW wd)) (Dev p γ σ) w := by
 refine enterV hd Tryz.func90 rfl Tryz.ntmps90 rfl ?_
 unfold devL
 have hgd := Dev.good hd
 have hln := hgd.len
 have hkl := (List.getElem?_eq_some_iff.1 hk).1
 have hst := hgd.steps
 have hwd := hgd.word wd (List.mem_of_getElem? hk)
 simp only [envOf]
 refine tR ?_
 refine tA rfl rfl ?_
 refine tE ?_
 refine At.seq ?_
 refine tR ?_
 refine tM rfl rfl ?_
 refine At.val (Val.nilCheck rfl) rfl rfl rfl ?_
 refine At.val (Val.field 1 rfl fo_47_1 rfl) rfl rfl rfl ?_
 refine At.val (Val.load (i := 0) Tryz.isAgg45 rfl rfl rfl) rfl rfl rfl ?_
 refine tM rfl rfl ?_
 refine At.val (Val.look (i := 2) Tryz.underlying45 Tryz.underlying3 Tryz.zeroValue111 rfl rfl rfl) rfl rfl rfl ?_
 by_cases hn : wd.news = []
 ·skip
  rw [mk_at, mkN_none hk hn]
  refine tA rfl rfl ?_
  refine tE ?_
  refine tR ?_
  refine tM rfl rfl ?_
  refine At.val (Val.neNil (t := 111) (by kernel_rfl) rfl) rfl rfl rfl ?_
  refine tE ?_
  refine At.condF rfl ?_
  refine At.skipC ?_
  refine At.thenN ?_
  refine tR ?_
  refine tM rfl rfl ?_
  refine At.val (Val.nilCheck rfl) rfl rfl rfl ?_
  refine At.val (Val.field 0 rfl fo_47_0 rfl) rfl rfl rfl ?_
  refine At.val (Val.load (i := 0) Tryz.isAgg44 rfl rfl rfl) rfl rfl rfl ?_
  refine tM rfl rfl ?_
  refine At.val (Val.quoI rfl rfl (by omega) (by omega) (by decide)) rfl rfl rfl ?_
  rw [show 8 * (k : Int) / 8 = (k : Int) from by omega]
  refine At.val (Val.indexRow (i := 1) k (by omega) Tryz.underlying44 Tryz.sizeOf32 rfl rfl rfl (by omega) (by rw [olds_length]; omega)) rfl rfl rfl ?_
  refine At.val (Val.loadRow (i := 1) Tryz.isAgg32 rfl rfl (by rw [List.getElem?_map, olds_at hk]; rfl)) rfl rfl rfl ?_
  refine tA rfl rfl ?_
  refine tE ?_
  refine At.retC ?_
  refine At.ret1 (.inl rfl) rfl rfl rfl (fun w hw => ?_)
  exact ⟨congrArg (fun z => Ending.returned (b64 z)) (now_old hn).symm, retK (F := []) hw⟩
 ·skip
  rw [mk_at, mkN_some hk hn]
  have hpos := List.length_pos_iff.2 hn
  refine tA rfl rfl ?_
  refine tE ?_
  refine tR ?_
  refine tM rfl rfl ?_
  refine At.val (Val.neNil (t := 111) (by kernel_rfl) rfl) rfl rfl rfl ?_
  refine tE ?_
  refine At.condT rfl ?_
  refine At.seq ?_
  refine At.dbtSome 3 rfl hk hn (fun b o c hv => ?_)
  refine At.quiet rfl (by decide +kernel) ?_
  refine qM rfl rfl ?_
  refine QAt.val (Val.nilCheck rfl) rfl rfl rfl ?_
  refine QAt.val (Val.field 0 rfl fo_113_0 rfl) rfl rfl rfl ?_
  refine QAt.val (Val.loadDbt (i := 3) Tryz.isAgg44 rfl rfl hk hn rfl) rfl rfl rfl ?_
  refine qM rfl rfl ?_
  refine QAt.val (Val.nilCheck rfl) rfl rfl rfl ?_
  refine QAt.val (Val.field 0 rfl fo_113_0 rfl) rfl rfl rfl ?_
  refine QAt.val (Val.loadDbt (i := 3) Tryz.isAgg44 rfl rfl hk hn rfl) rfl rfl rfl ?_
  refine QAt.val (Val.lenDbt (i := 3) rfl hk hn Tryz.underlying44 rfl) rfl rfl rfl ?_
  refine QAt.val (Val.subI rfl rfl (by omega) (by omega)) rfl rfl rfl ?_
  rw [hv]
  refine QAt.val (Val.indexSl (o + (wd.news.length - 1)) (by omega) Tryz.underlying44 Tryz.sizeOf32 rfl rfl (by omega) (by omega)) rfl rfl rfl ?_
  refine QAt.val (Val.loadNews (i := 3) Tryz.isAgg32 rfl rfl hk hn hv rfl (now_last hn (y := nowW wd) rfl)) rfl rfl rfl ?_
  refine QAt.val (Val.assign rfl) rfl rfl rfl ?_
  refine QAt.fin ?_
  refine At.thenN ?_
  refine At.retC ?_
  refine At.thenR ?_
  refine At.ret1 (.inl rfl) rfl rfl rfl (fun w hw => ?_)
  exact ⟨rfl, retK (F := []) hw⟩
end Go.Proofs.YthhkbbodhghmcaaGreatDoor
set_option linter.unusedVariables false
set_option linter.unusedSimpArgs false
namespace Go.Proofs.YthhkbbodhghmcaaGreatDoor
open Go Go.Wk
def loadWs (l : List UInt8) : List Wd := (List.range (l.length / 8)).map fun i => ⟨wdA l (8 * i), [], 0⟩
def loadD (l : List UInt8) : Ds := ⟨loadWs l, 0, false, 0⟩
theorem loadWs_length (l : List UInt8) : (loadWs l).length = l.length / 8 := by simp [loadWs]
theorem loadWs_calm (l : List UInt8) : ∀ w ∈ loadWs l, w.news = [] := fun w hw => by
  obtain ⟨i, _, rfl⟩ := List.mem_map.1 hw; rfl
theorem loadD_good {l : List UInt8} (h : isSizeB (l.length : Int) = true) : Dgood (loadD l) := by
  unfold isSizeB at h
  rw [decide_eq_true_eq] at h
  have e : (loadD l).ws.length = l.length / 8 := loadWs_length l
  exact ⟨by rw [e]; omega, by rw [e]; omega, by rw [e]; omega, by simp [loadD], by simp [loadD], fun w hw => by
    obtain ⟨i, _, rfl⟩ := List.mem_map.1 hw
    exact ⟨Nat.le_refl _, Nat.le_refl _⟩⟩
def fillW (l : List UInt8) (k : Nat) : List (BitVec 64) := ((List.range k).map fun i => wdA l (8 * i)) ++ List.replicate (l.length / 8 - k) 0
theorem fillW_length {l : List UInt8} {k : Nat} (h : k ≤ l.length / 8) : (fillW l k).length = l.length / 8 := by unfold fillW; simp; omega
theorem fillW_step {l : List UInt8} {k : Nat} (h : k < l.length / 8) : (fillW l k).set k (wdA l (8 * k)) = fillW l (k + 1) := by
  unfold fillW
  rw [List.set_append_right _ _ (by simp), List.length_map, List.length_range, Nat.sub_self, List.range_succ, List.map_append]
  obtain ⟨m, hm⟩ : ∃ m, l.length / 8 - k = m + 1 := ⟨l.length / 8 - k - 1, by omega⟩
  rw [hm, List.replicate_succ, List.set_cons_zero, show l.length / 8 - (k + 1) = m from by omega]
  simp
theorem fillW_all (l : List UInt8) : fillW l (l.length / 8) = olds (loadD l).ws := by
  unfold fillW olds loadD loadWs
  simp [Function.comp_def]
theorem wdA_drop (l : List UInt8) (a : Nat) : wdA (l.drop a) 0 = wdA l a := by unfold wdA num; rw [List.drop_zero]
def armD (σ : Ds) (m : Nat) : Ds := { σ with armed := true, left := m }
theorem armD_good {σ : Ds} {m : Nat} (h : Dgood σ) (hm : m ≤ 9223372036854775807) : Dgood (armD σ m) := ⟨h.pos, h.len, h.lines, h.steps, hm, h.word⟩
theorem place_at {σ : Ds} {k : Nat} (h : k < σ.ws.length) : placeE σ (8 * (k : Int)) = 0 := by unfold placeE; rw [if_pos (by omega), if_pos (by omega)]
theorem place_inv {σ : Ds} {a : Int} (h : placeE σ a = 0) : ∃ k : Nat, a = 8 * (k : Int) ∧ k < σ.ws.length := by
  unfold placeE at h
  split at h
  · split at h
    · exact ⟨(a / 8).toNat, by omega, by omega⟩
    · omega
  · omega
theorem rot3p {a b c f : Res} : List.Perm [f, a, b, c] [a, c, b, f] := by
  refine (List.perm_middle (l₁ := [a, b, c]) (l₂ := [])).symm.trans ?_
  exact ((List.Perm.swap c b [f])).cons a
theorem new_d (N : Nat) (w : World) (hn : isSizeB (8 * (N : Int)) = true) :
    NewDev Tryz.prog 7 [.int .i64 (8 * (N : Int))] (zeroD N) w := by
 refine enter (feet []) [] Tryz.func7 rfl Tryz.ntmps7 rfl ⟨by simp, by simp, by simp, Mod.refl _ _⟩ ?_
 have hnn := hn
 unfold isSizeB at hnn
 rw [decide_eq_true_eq] at hnn
 simp only [envOf]
 refine tR ?_
 refine tA rfl rfl ?_
 refine tA rfl rfl ?_
 refine tE ?_
 refine At.seq ?_
 refine tR ?_
 refine tM rfl rfl ?_
 refine At.callP (fun w hw => isSize_p _ w) Tryz.call12 rfl rfl ?_
 refine At.val (Val.not rfl) rfl rfl rfl ?_
 refine tE ?_
 refine At.cond rfl (fun h1 => ?_) (fun h1 => ?_)
 ·skip
  try simp only [hasB, isSizeB, Bool.not_eq_true', Bool.not_eq_false', bne_iff_ne, ne_eq, bne_eq_false_iff_eq, beq_iff_eq, beq_eq_false_iff_ne, decide_eq_true_eq, decide_eq_false_iff_not, gt_iff_lt, ge_iff_le] at h1
  omega
 ·skip
  try simp only [hasB, isSizeB, Bool.not_eq_true', Bool.not_eq_false', bne_iff_ne, ne_eq, bne_eq_false_iff_eq, beq_iff_eq, beq_eq_false_iff_ne, decide_eq_true_eq, decide_eq_false_iff_not, gt_iff_lt, ge_iff_le] at h1
  refine At.skipC ?_
  refine At.thenN ?_
  refine tR ?_
  refine tM rfl rfl ?_
  refine At.val (Val.quoI rfl rfl (by omega) (by omega) (by decide)) rfl rfl rfl ?_
  rw [show 8 * (N : Int) / 8 = (N : Int) from by omega]
  refine At.makeRowW Tryz.underlying44 info_32 rfl rfl rfl rfl rfl (by omega) rfl (fun v2 => ?_)
  refine At.makeMap rfl (fun mb3 => ?_)
  refine At.rowIs (i := 1) rfl (fun A4 c5 hv => ?_)
  subst hv
  refine At.val (Val.build (fun a ha => by simp only [List.map_toArray, List.map_cons, List.map_nil, ha.eval (x := (.tmp 9)) rfl, ha.eval (x := (.tmp 10)) rfl] <;> rfl) (bld_dev _ _ _ _)) rfl rfl rfl ?_
  refine At.box rfl rfl rfl (fun b6 => ?_)
  refine tA rfl rfl ?_
  refine tA rfl rfl ?_
  refine tE ?_
  refine At.retC ?_
  refine At.ret2 (.inl rfl) rfl rfl rfl rfl (fun w hw => ?_)
  have hgz := zeroD_good hn
  exact ⟨b6, ⟨(.slice A4 ((List.replicate N (0 : BitVec 64)).length) c5), mb3, fun _ => (0, .slice none 0 0)⟩, rfl, toDev (F := []) hgz (Rep.famNil (I := dI (zeroD N).ws (fun _ => (0, .slice none 0 0))) (dI_calm (wz_calm _)) hw |>.perm (rot3p)) rfl (by rw [show olds (zeroD N).ws = List.replicate N 0 from olds_wz N]) (by rw [mk_calm (ws := (zeroD N).ws) (wz_calm _)]) rfl⟩
theorem new_n (n : Int) (w : World) (hn : isSizeB n = true) (N : Nat) (hN : 8 * (N : Int) = n) : NewDev Tryz.prog 7 [.int .i64 n] (zeroD N) w := by
  subst hN; exact new_d N w hn
theorem word_k (p : Nat) (γ : Gh) (σ : Ds) (k : Nat) (wd : Wd) (w : World) (hk : σ.ws[k]? = some wd) (hd : (Dev p γ σ).holds w) :
    Upd Tryz.prog 50 [.pointer (some ⟨p, 0, none⟩), .int .i64 (8 * (k : Int))] (Dev p γ σ) (.tuple #[b64 (nowW wd), .int .i64 0]) (Dev p γ σ) w := by
 refine enterVc hd Tryz.func50 rfl Tryz.ntmps50 rfl ?_
 have hgd := Dev.good hd
 have hkl := (List.getElem?_eq_some_iff.1 hk).1
 have hpl := place_at hkl
 simp only [envOf]
 refine tR ?_
 refine tA rfl rfl ?_
 refine tA rfl rfl ?_
 refine tE ?_
 refine At.seq ?_
 refine tR ?_
 refine tM rfl rfl ?_
 refine tM rfl rfl ?_
 refine At.callK 0 rfl (fun w hw hr => place_k _ _ _ _ w hr) Tryz.call73 rfl rfl ?_
 refine tA rfl rfl ?_
 refine tE ?_
 refine tR ?_
 refine tM rfl rfl ?_
 refine At.val (Val.bin rfl rfl rfl) rfl rfl rfl ?_
 refine tE ?_
 refine At.cond rfl (fun h1 => ?_) (fun h1 => ?_)
 ·skip
  try simp only [hasB, isSizeB, Bool.not_eq_true', Bool.not_eq_false', bne_iff_ne, ne_eq, bne_eq_false_iff_eq, beq_iff_eq, beq_eq_false_iff_ne, decide_eq_true_eq, decide_eq_false_iff_not, gt_iff_lt, ge_iff_le] at h1
  omega
 ·skip
  try simp only [hasB, isSizeB, Bool.not_eq_true', Bool.not_eq_false', bne_iff_ne, ne_eq, bne_eq_false_iff_eq, beq_iff_eq, beq_eq_false_iff_ne, decide_eq_true_eq, decide_eq_false_iff_not, gt_iff_lt, ge_iff_le] at h1
  refine At.skipC ?_
  refine At.thenN ?_
  refine tR ?_
  refine tM rfl rfl ?_
  refine tM rfl rfl ?_
  refine At.callK 0 rfl (fun w hw hr => now_k _ _ _ _ _ w hk hr) Tryz.call90 rfl rfl ?_
  refine tA rfl rfl ?_
  refine tA rfl rfl ?_
  refine tE ?_
  refine At.retC ?_
  refine At.ret2 (.inl rfl) rfl rfl rfl rfl (fun w hw => ?_)
  exact ⟨rfl, hw⟩
theorem arm_d (p : Nat) (γ : Gh) (σ : Ds) (m : Nat) (w : World) (hm : m ≤ 9223372036854775807) (hno : deadB σ = false) (hd : (Dev p γ σ).holds w) :
    DevU Tryz.prog 33 [.pointer (some ⟨p, 0, none⟩), .int .i64 (m : Int)] p γ σ (.int .i64 0) (armD σ m) w := by
 refine enterVc hd Tryz.func33 rfl Tryz.ntmps33 rfl ?_
 have hgd := Dev.good hd
 simp only [envOf]
 refine tR ?_
 refine tA rfl rfl ?_
 refine tE ?_
 refine At.seq ?_
 refine tR ?_
 refine tM rfl rfl ?_
 refine At.val (Val.bin rfl rfl rfl) rfl rfl rfl ?_
 refine tE ?_
 refine At.cond rfl (fun h1 => ?_) (fun h1 => ?_)
 ·skip
  try simp only [hasB, isSizeB, Bool.not_eq_true', Bool.not_eq_false', bne_iff_ne, ne_eq, bne_eq_false_iff_eq, beq_iff_eq, beq_eq_false_iff_ne, decide_eq_true_eq, decide_eq_false_iff_not, gt_iff_lt, ge_iff_le] at h1
  omega
 ·skip
  try simp only [hasB, isSizeB, Bool.not_eq_true', Bool.not_eq_false', bne_iff_ne, ne_eq, bne_eq_false_iff_eq, beq_iff_eq, beq_eq_false_iff_ne, decide_eq_true_eq, decide_eq_false_iff_not, gt_iff_lt, ge_iff_le] at h1
  refine At.skipC ?_
  refine At.thenN ?_
  refine At.seq ?_
  refine tR ?_
  refine tM rfl rfl ?_
  refine At.callK 0 rfl (fun w hw hr => dead_k _ _ _ w hr) Tryz.call44 rfl rfl ?_
  refine tE ?_
  refine At.cond rfl (fun h2 => ?_) (fun h2 => ?_)
  ·skip
   try simp only [hasB, isSizeB, Bool.not_eq_true', Bool.not_eq_false', bne_iff_ne, ne_eq, bne_eq_false_iff_eq, beq_iff_eq, beq_eq_false_iff_ne, decide_eq_true_eq, decide_eq_false_iff_not, gt_iff_lt, ge_iff_le] at h2
   rw [hno] at h2; cases h2
  ·skip
   try simp only [hasB, isSizeB, Bool.not_eq_true', Bool.not_eq_false', bne_iff_ne, ne_eq, bne_eq_false_iff_eq, beq_iff_eq, beq_eq_false_iff_ne, decide_eq_true_eq, decide_eq_false_iff_not, gt_iff_lt, ge_iff_le] at h2
   refine At.skipC ?_
   refine At.thenN ?_
   refine At.seq ?_
   refine At.openS 0 rfl ?_
   simp only [devL, List.cons_append, List.nil_append, ec0, ecS]
   refine At.region ?_
   refine tM rfl rfl ?_
   refine tM rfl rfl ?_
   refine tM rfl rfl ?_
   refine At.val (Val.nilCheck rfl) rfl rfl rfl ?_
   refine At.val (Val.field 3 rfl fo_47_3 rfl) rfl rfl rfl ?_
   refine At.store (i := 0) Tryz.sizeOf4 rfl rfl rfl rfl (by first | decide | simp) ?_
   simp only [sc0, scS]
   refine At.val (Val.nilCheck rfl) rfl rfl rfl ?_
   refine At.val (Val.field 4 rfl fo_47_4 rfl) rfl rfl rfl ?_
   refine At.store (i := 0) Tryz.sizeOf3 rfl rfl rfl rfl (by first | decide | simp) ?_
   simp only [sc0, scS]
   refine tE ?_
   refine tR ?_
   refine tA rfl rfl ?_
   refine tE ?_
   refine At.retC ?_
   refine At.ret1 (.inl rfl) rfl rfl rfl (fun w hw => ?_)
   exact ⟨γ, rfl, toDev (F := []) (armD_good hgd hm) (hw.drop (show List.Sublist [_, _, _, _] _ from (List.Sublist.refl _ |>.cons _ |>.cons_cons _ |>.cons_cons _ |>.cons_cons _ |>.cons_cons _))) rfl rfl rfl rfl⟩
theorem arm_neg (p : Nat) (γ : Gh) (σ : Ds) (m : Int) (w : World) (hm : m < 0) (hd : (Dev p γ σ).holds w) :
    Upd Tryz.prog 33 [.pointer (some ⟨p, 0, none⟩), .int .i64 m] (Dev p γ σ) (.int .i64 14) (Dev p γ σ) w := by
 refine enterVc hd Tryz.func33 rfl Tryz.ntmps33 rfl ?_
 have hgd := Dev.good hd
 simp only [envOf]
 refine tR ?_
 refine tA rfl rfl ?_
 refine tE ?_
 refine At.seq ?_
 refine tR ?_
 refine tM rfl rfl ?_
 refine At.val (Val.bin rfl rfl rfl) rfl rfl rfl ?_
 refine tE ?_
 refine At.cond rfl (fun h1 => ?_) (fun h1 => ?_)
 ·skip
  try simp only [hasB, isSizeB, Bool.not_eq_true', Bool.not_eq_false', bne_iff_ne, ne_eq, bne_eq_false_iff_eq, beq_iff_eq, beq_eq_false_iff_ne, decide_eq_true_eq, decide_eq_false_iff_not, gt_iff_lt, ge_iff_le] at h1
  refine tR ?_
  refine tA rfl rfl ?_
  refine tE ?_
  refine At.retC ?_
  refine At.thenR ?_
  refine At.ret1 (.inl rfl) rfl rfl rfl (fun w hw => ?_)
  exact ⟨rfl, hw⟩
 ·skip
  try simp only [hasB, isSizeB, Bool.not_eq_true', Bool.not_eq_false', bne_iff_ne, ne_eq, bne_eq_false_iff_eq, beq_iff_eq, beq_eq_false_iff_ne, decide_eq_true_eq, decide_eq_false_iff_not, gt_iff_lt, ge_iff_le] at h1
  omega
theorem arm_dead (p : Nat) (γ : Gh) (σ : Ds) (m : Int) (w : World) (hm : 0 ≤ m) (hno : deadB σ = true) (hd : (Dev p γ σ).holds w) :
    Upd Tryz.prog 33 [.pointer (some ⟨p, 0, none⟩), .int .i64 m] (Dev p γ σ) (.int .i64 13) (Dev p γ σ) w := by
 refine enterVc hd Tryz.func33 rfl Tryz.ntmps33 rfl ?_
 have hgd := Dev.good hd
 simp only [envOf]
 refine tR ?_
 refine tA rfl rfl ?_
 refine tE ?_
 refine At.seq ?_
 refine tR ?_
 refine tM rfl rfl ?_
 refine At.val (Val.bin rfl rfl rfl) rfl rfl rfl ?_
 refine tE ?_
 refine At.cond rfl (fun h1 => ?_) (fun h1 => ?_)
 ·skip
  try simp only [hasB, isSizeB, Bool.not_eq_true', Bool.not_eq_false', bne_iff_ne, ne_eq, bne_eq_false_iff_eq, beq_iff_eq, beq_eq_false_iff_ne, decide_eq_true_eq, decide_eq_false_iff_not, gt_iff_lt, ge_iff_le] at h1
  omega
 ·skip
  try simp only [hasB, isSizeB, Bool.not_eq_true', Bool.not_eq_false', bne_iff_ne, ne_eq, bne_eq_false_iff_eq, beq_iff_eq, beq_eq_false_iff_ne, decide_eq_true_eq, decide_eq_false_iff_not, gt_iff_lt, ge_iff_le] at h1
  refine At.skipC ?_
  refine At.thenN ?_
  refine At.seq ?_
  refine tR ?_
  refine tM rfl rfl ?_
  refine At.callK 0 rfl (fun w hw hr => dead_k _ _ _ w hr) Tryz.call44 rfl rfl ?_
  refine tE ?_
  refine At.cond rfl (fun h2 => ?_) (fun h2 => ?_)
  ·skip
   try simp only [hasB, isSizeB, Bool.not_eq_true', Bool.not_eq_false', bne_iff_ne, ne_eq, bne_eq_false_iff_eq, beq_iff_eq, beq_eq_false_iff_ne, decide_eq_true_eq, decide_eq_false_iff_not, gt_iff_lt, ge_iff_le] at h2
   refine tR ?_
   refine tA rfl rfl ?_
   refine tE ?_
   refine At.retC ?_
   refine At.thenR ?_
   refine At.ret1 (.inl rfl) rfl rfl rfl (fun w hw => ?_)
   exact ⟨rfl, hw⟩
  ·skip
   try simp only [hasB, isSizeB, Bool.not_eq_true', Bool.not_eq_false', bne_iff_ne, ne_eq, bne_eq_false_iff_eq, beq_iff_eq, beq_eq_false_iff_ne, decide_eq_true_eq, decide_eq_false_iff_not, gt_iff_lt, ge_iff_le] at h2
   rw [hno] at h2; cases h2
theorem load_d (v : Value) (l : List UInt8) (w : World) (hv : RdB w v l) (hn : isSizeB (l.length : Int) = true) :
    NewDev Tryz.prog 35 [v] (loadD l) w := by
 refine enter (feet []) [] Tryz.func35 rfl Tryz.ntmps35 rfl ⟨by simp, by simp, by simp, Mod.refl _ _⟩ ?_
 have hnn := hn
 unfold isSizeB at hnn
 rw [decide_eq_true_eq] at hnn
 have hlz : (((olds (zeroD (l.length / 8)).ws).length : Nat) : Int) = ((l.length / 8 : Nat) : Int) := by rw [olds_length]; simp [zeroD, wz]
 have hf0 : fillW l 0 = olds (zeroD (l.length / 8)).ws := by rw [show olds (zeroD (l.length / 8)).ws = List.replicate (l.length / 8) 0 from olds_wz _]; unfold fillW; simp
 simp only [envOf]
 refine tR ?_
 refine tA rfl rfl ?_
 refine tA rfl rfl ?_
 refine tE ?_
 refine tR ?_
 refine tM rfl rfl ?_
 refine At.val (Val.lenRd hv Tryz.underlying59 rfl) rfl rfl rfl ?_
 refine At.callND (fun w hw => new_n _ w hn (l.length / 8) (by omega)) Tryz.call7 rfl rfl (fun p1 y2 => ?_)
 refine tM rfl rfl ?_
 refine At.val (Val.extract rfl rfl) rfl rfl rfl ?_
 refine At.val (Val.extract rfl rfl) rfl rfl rfl ?_
 refine tA rfl rfl ?_
 refine tA rfl rfl ?_
 refine tE ?_
 refine At.seq ?_
 refine tR ?_
 refine tM rfl rfl ?_
 refine At.val (Val.bin rfl rfl rfl) rfl rfl rfl ?_
 refine tE ?_
 refine At.cond rfl (fun h3 => ?_) (fun h3 => ?_)
 ·skip
  try simp only [hasB, isSizeB, Bool.not_eq_true', Bool.not_eq_false', bne_iff_ne, ne_eq, bne_eq_false_iff_eq, beq_iff_eq, beq_eq_false_iff_ne, decide_eq_true_eq, decide_eq_false_iff_not, gt_iff_lt, ge_iff_le] at h3
  simp at h3
 ·skip
  try simp only [hasB, isSizeB, Bool.not_eq_true', Bool.not_eq_false', bne_iff_ne, ne_eq, bne_eq_false_iff_eq, beq_iff_eq, beq_eq_false_iff_ne, decide_eq_true_eq, decide_eq_false_iff_not, gt_iff_lt, ge_iff_le] at h3
  refine At.skipC ?_
  refine At.thenN ?_
  refine At.seq ?_
  refine At.seq ?_
  refine At.openS 0 rfl ?_
  simp only [devL, List.cons_append, List.nil_append, ec0, ecS]
  refine At.region ?_
  refine tM rfl rfl ?_
  refine At.val (Val.nilCheck rfl) rfl rfl rfl ?_
  refine At.val (Val.field 0 rfl fo_47_0 rfl) rfl rfl rfl ?_
  refine At.val (Val.load (i := 0) Tryz.isAgg44 rfl rfl rfl) rfl rfl rfl ?_
  refine At.val (Val.lenRow (i := 1) Tryz.underlying44 rfl rfl) rfl rfl rfl ?_
  refine tM rfl rfl ?_
  refine tE ?_
  refine At.block ?_
  skip
  refine At.loop (σ := Nat) (fun k => k ≤ l.length / 8) (fun k => [(0, v), (4, .pointer (some ⟨p1, 0, none⟩)), (20, .int .i64 ((l.length / 8 : Nat) : Int)), (21, .int .i64 (k : Int))]) (fun k => [blk p1 tDv [y2.vo, .map (some y2.mb), .int .i64 0, .bool false, .int .i64 0], wrow tW y2.vo (fillW l k), mapR y2.mb (mk (zeroD (l.length / 8)).ws y2.g), fam (dI (zeroD (l.length / 8)).ws y2.g), factR (Dgood (zeroD (l.length / 8)))]) (fun k => l.length / 8 - k) 0 (Nat.zero_le _) (Sub.cons rfl (Sub.cons rfl (Sub.cons (congrArg (fun z => some (Value.int IntKind.i64 z)) hlz) (Sub.cons rfl Sub.nil)))) (by rw [show fillW l 0 = olds (zeroD (l.length / 8)).ws from hf0]; exact List.Perm.refl _) ?_
  intro k hs
  have hkl8 : 8 * k ≤ l.length := by omega
  have hfl := fillW_length hs
  refine tR ?_
  refine At.val (Val.bin rfl rfl rfl) rfl rfl rfl ?_
  refine tE ?_
  refine At.seq ?_
  refine At.cond rfl (fun h4 => ?_) (fun h4 => ?_)
  ·skip
   try simp only [hasB, isSizeB, Bool.not_eq_true', Bool.not_eq_false', bne_iff_ne, ne_eq, bne_eq_false_iff_eq, beq_iff_eq, beq_eq_false_iff_ne, decide_eq_true_eq, decide_eq_false_iff_not, gt_iff_lt, ge_iff_le] at h4
   have hk : k < l.length / 8 := by omega
   have hk8 : 8 * k + 8 ≤ l.length := by omega
   refine At.skipC ?_
   refine At.thenN ?_
   refine At.seq ?_
   refine At.block ?_
   refine tR ?_
   refine tM rfl rfl ?_
   refine tA rfl rfl ?_
   refine tE ?_
   refine At.tail 11 rfl (by decide +kernel) ?_
   simp only [List.take_succ_cons, List.take_zero, List.drop_succ_cons, List.drop_zero]
   refine qM rfl rfl ?_
   refine QAt.val (Val.nilCheck rfl) rfl rfl rfl ?_
   refine QAt.val (Val.field 0 rfl fo_47_0 rfl) rfl rfl rfl ?_
   refine QAt.val (Val.load (i := 0) Tryz.isAgg44 rfl rfl rfl) rfl rfl rfl ?_
   refine qM rfl rfl ?_
   refine qM rfl rfl ?_
   refine qM rfl rfl ?_
   refine QAt.val (Val.mulI rfl rfl (by omega) (by omega)) rfl rfl rfl ?_
   rw [show (k : Int) * 8 = ((8 * k : Nat) : Int) from by omega]
   refine QAt.cutB (8 * k) (l.length) hv Tryz.underlying59 Tryz.sizeOf5 rfl ⟨_, _, rfl, by omega, by omega⟩ rfl (by omega) (by omega) rfl rfl (fun v5 hv6 => ?_)
   refine QAt.callP (fun w hw => wordOf_p _ _ w (hv6.mod hw.modF) (by rw [List.length_take, List.length_drop]; omega)) Tryz.call81 rfl rfl ?_
   refine QAt.val (Val.indexRow (i := 1) k (by omega) Tryz.underlying44 Tryz.sizeOf32 rfl rfl rfl (by omega) (by omega)) rfl rfl rfl ?_
   refine QAt.fin ?_
   rw [show wdA ((l.drop (8 * k)).take (l.length - 8 * k)) 0 = wdA l (8 * k) from by rw [List.take_of_length_le (by rw [List.length_drop]; omega), wdA_drop]]
   refine At.storeRow (i := 1) Tryz.sizeOf32 rfl rfl rfl rfl (by rw [List.length_map]; omega) ?_
   simp only [sc0, scS]
   rw [← List.map_set, fillW_step hk, show (fillW l k).length = (fillW l (k + 1)).length from by rw [hfl, fillW_length (by omega)]]
   refine At.nil ?_
   refine At.blkN ?_
   refine At.thenN ?_
   refine At.region ?_
   first | refine At.val (Val.addI rfl rfl (by omega) (by omega)) rfl rfl rfl ?_ | refine At.val (Val.bin rfl rfl rfl) rfl rfl rfl ?_
   refine tM rfl rfl ?_
   refine tE ?_
   exact At.again (k + 1) (show k + 1 ≤ _ by omega) (by omega) (Sub.cons rfl (Sub.cons rfl (Sub.cons rfl (Sub.cons (congrArg (fun z => some (Value.int IntKind.i64 z)) (by omega)) Sub.nil)))) (List.Perm.refl _)
  ·skip
   try simp only [hasB, isSizeB, Bool.not_eq_true', Bool.not_eq_false', bne_iff_ne, ne_eq, bne_eq_false_iff_eq, beq_iff_eq, beq_eq_false_iff_ne, decide_eq_true_eq, decide_eq_false_iff_not, gt_iff_lt, ge_iff_le] at h4
   obtain rfl : k = l.length / 8 := by omega
   refine At.exitC ?_
   refine At.thenX ?_
   refine At.thenX ?_
   refine At.blkX ?_
   refine At.thenN ?_
   refine tR ?_
   refine tM rfl rfl ?_
   refine tA rfl rfl ?_
   refine tA rfl rfl ?_
   refine tE ?_
   refine At.retC ?_
   refine At.ret2 (.inl rfl) rfl rfl rfl rfl (fun w hw => ?_)
   exact ⟨p1, ⟨y2.vo, y2.mb, y2.g⟩, rfl, toDev (F := []) (loadD_good hn) (hw.drop (show List.Sublist [_, _, _, _] _ from (List.Sublist.refl _ |>.cons _ |>.cons_cons _ |>.cons_cons _ |>.cons_cons _ |>.cons_cons _))) rfl (by rw [fillW_all]) (by rw [mk_calm (ws := (zeroD (l.length / 8)).ws) (wz_calm _)]; exact congrArg (mapR _) (mk_calm (ws := (loadD l).ws) (loadWs_calm l)).symm) (congrArg fam (dI_calm' (ws := (zeroD (l.length / 8)).ws) (ws' := (loadD l).ws) (wz_calm _) (loadWs_calm l)))⟩
end Go.Proofs.YthhkbbodhghmcaaGreatDoor
set_option linter.unusedVariables false
set_option linter.unusedSimpArgs false
namespace Go.Proofs.YthhkbbodhghmcaaGreatDoor
open Go Go.Wk
def pushW (w : Wd) (x : BitVec 64) : Wd := { w with news := w.news ++ [x] }
def markW (w : Wd) : Wd := { w with mark := w.news.length }
def setD (σ : Ds) (k : Nat) (w : Wd) : Ds := { σ with ws := σ.ws.set k w }
theorem mem_set_or {ws : List Wd} {k : Nat} {a w : Wd} (h : w ∈ ws.set k a) : w = a ∨ w ∈ ws := by
  rcases List.mem_or_eq_of_mem_set h with h | h
  · exact .inr h
  · exact .inl h
theorem push_good {σ : Ds} {k : Nat} {wd : Wd} {x : BitVec 64} (hg : Dgood σ) (hk : σ.ws[k]? = some wd) (hs : σ.steps + 1 ≤ 1099511627776) : Dgood (setD (stepD σ) k (pushW wd x)) := by
  have h1 := dgood_step hg hs
  have hw := hg.word wd (List.mem_of_getElem? hk)
  refine ⟨by simpa [setD] using h1.pos, by simpa [setD] using h1.len, by simpa [setD] using h1.lines, h1.steps, h1.left, fun w hm => ?_⟩
  rcases mem_set_or hm with rfl | h2
  · simp only [pushW, setD, stepD, List.length_append, List.length_singleton]; omega
  · exact h1.word w h2
theorem mark_good {σ : Ds} {k : Nat} {wd : Wd} (hg : Dgood σ) (hk : σ.ws[k]? = some wd) : Dgood (setD σ k (markW wd)) := by
  have hw := hg.word wd (List.mem_of_getElem? hk)
  refine ⟨by simpa [setD] using hg.pos, by simpa [setD] using hg.len, by simpa [setD] using hg.lines, hg.steps, hg.left, fun w hm => ?_⟩
  rcases mem_set_or hm with rfl | h2
  · exact ⟨Nat.le_refl _, hw.2⟩
  · exact hg.word w h2
/-- The first j words from f on are marked. -/
def flushK (σ : Ds) (f : Nat) : Nat → Ds
  | 0 => σ
  | j + 1 => match (flushK σ f j).ws[f + j]? with | some w => setD (flushK σ f j) (f + j) (markW w) | none => flushK σ f j
theorem flushK_rest (σ : Ds) (f : Nat) : ∀ j, (flushK σ f j).steps = σ.steps ∧ (flushK σ f j).armed = σ.armed ∧ (flushK σ f j).left = σ.left ∧ (flushK σ f j).ws.length = σ.ws.length ∧ olds (flushK σ f j).ws = olds σ.ws
  | 0 => ⟨rfl, rfl, rfl, rfl, rfl⟩
  | j + 1 => by
    obtain ⟨h1, h2, h3, h4, h5⟩ := flushK_rest σ f j
    unfold flushK
    split
    · rename_i w hw
      exact ⟨h1, h2, h3, by simpa [setD] using h4, (olds_same (wd' := markW w) hw rfl).trans h5⟩
    · exact ⟨h1, h2, h3, h4, h5⟩
theorem flushK_good {σ : Ds} (f : Nat) (hg : Dgood σ) : ∀ j, Dgood (flushK σ f j)
  | 0 => hg
  | j + 1 => by
    unfold flushK
    split
    · rename_i w hw; exact mark_good (flushK_good f hg j) hw
    · exact flushK_good f hg j
theorem flushK_succ {σ : Ds} {f j : Nat} {w : Wd} (h : (flushK σ f j).ws[f + j]? = some w) : flushK σ f (j + 1) = setD (flushK σ f j) (f + j) (markW w) := by
  conv => lhs; unfold flushK
  rw [h]
theorem set_get {ws : List Wd} {k : Nat} {w : Wd} (h : ws[k]? = some w) : ws.set k w = ws := set_same h
theorem flushK_nil {σ : Ds} {f j : Nat} {w : Wd} (hg : Dgood σ) (h : (flushK σ f j).ws[f + j]? = some w) (hn : w.news = []) : flushK σ f (j + 1) = flushK σ f j := by
  rw [flushK_succ h]
  have hw := ((flushK_good f hg j).word w (List.mem_of_getElem? h)).1
  have : markW w = w := by cases w; simp only [markW] at *; subst hn; simp at hw ⊢; omega
  unfold setD
  rw [this, set_get h]
theorem store_d (p : Nat) (γ : Gh) (σ : Ds) (k : Nat) (wd : Wd) (x : BitVec 64) (w : World) (hk : σ.ws[k]? = some wd) (hs : σ.steps + 1 ≤ 1099511627776) (hno : deadB σ = false) (hd : (Dev p γ σ).holds w) :
    DevU Tryz.prog 25 [.pointer (some ⟨p, 0, none⟩), .int .i64 (8 * (k : Int)), b64 x] p γ σ (.int .i64 0) (setD (stepD σ) k (pushW wd x)) w := by
 refine enterVc hd Tryz.func25 rfl Tryz.ntmps25 rfl ?_
 have hgd := Dev.good hd
 have hkl := (List.getElem?_eq_some_iff.1 hk).1
 have hk1 : (stepD σ).ws[k]? = some wd := hk
 have hkl1 : k < (stepD σ).ws.length := hkl
 have hwd := hgd.word wd (List.mem_of_getElem? hk)
 have hpn : (pushW wd x).news ≠ [] := by simp [pushW]
 simp only [envOf]
 refine tR ?_
 refine tA rfl rfl ?_
 refine tE ?_
 refine At.seq ?_
 refine tR ?_
 refine tM rfl rfl ?_
 refine tM rfl rfl ?_
 refine At.callK 0 rfl (fun w hw hr => (place_at (σ := σ) hkl) ▸ place_k _ _ _ _ w hr) Tryz.call73 rfl rfl ?_
 refine tA rfl rfl ?_
 refine tE ?_
 refine tR ?_
 refine tM rfl rfl ?_
 refine At.val (Val.bin rfl rfl rfl) rfl rfl rfl ?_
 refine tE ?_
 refine At.condF rfl ?_
 refine At.skipC ?_
 refine At.thenN ?_
 refine At.seq ?_
 refine tR ?_
 refine tM rfl rfl ?_
 refine At.callD 0 rfl (fun w hw hr => step_d _ _ _ w hs hno hr) Tryz.call74 rfl rfl (fun y1 => ?_)
 simp only [sc0, scS]
 refine tA rfl rfl ?_
 refine tE ?_
 refine tR ?_
 refine tM rfl rfl ?_
 refine At.val (Val.bin rfl rfl rfl) rfl rfl rfl ?_
 refine tE ?_
 refine At.condF rfl ?_
 refine At.skipC ?_
 refine At.thenN ?_
 refine At.seq ?_
 refine At.openS 0 rfl ?_
 simp only [devL, List.cons_append, List.nil_append, ec0, ecS]
 refine At.region ?_
 refine tM rfl rfl ?_
 refine At.val (Val.nilCheck rfl) rfl rfl rfl ?_
 refine At.val (Val.field 1 rfl fo_47_1 rfl) rfl rfl rfl ?_
 refine At.val (Val.load (i := 0) Tryz.isAgg45 rfl rfl rfl) rfl rfl rfl ?_
 refine tM rfl rfl ?_
 refine At.val (Val.look (i := 2) Tryz.underlying45 Tryz.underlying3 Tryz.zeroValue111 rfl rfl rfl) rfl rfl rfl ?_
 by_cases hn : wd.news = []
 ·skip
  rw [mk_at, mkN_none hk1 hn]
  refine tA rfl rfl ?_
  refine tE ?_
  refine At.seq ?_
  refine tR ?_
  refine tM rfl rfl ?_
  refine At.val (Val.eqNil (t := 111) (by kernel_rfl) rfl) rfl rfl rfl ?_
  refine tE ?_
  refine At.condT rfl ?_
  refine tR ?_
  refine At.val (Val.build (fun a ha => by simp only [List.map_toArray, List.map_cons, List.map_nil] <;> rfl) (bld_113_)) rfl rfl rfl ?_
  refine At.box rfl rfl rfl (fun b2 => ?_)
  refine tA rfl rfl ?_
  refine tE ?_
  refine At.region ?_
  refine tM rfl rfl ?_
  refine At.val (Val.nilCheck rfl) rfl rfl rfl ?_
  refine At.val (Val.field 1 rfl fo_47_1 rfl) rfl rfl rfl ?_
  refine At.val (Val.load (i := 1) Tryz.isAgg45 rfl rfl rfl) rfl rfl rfl ?_
  refine tM rfl rfl ?_
  refine tM rfl rfl ?_
  refine At.mapSet (i := 3) Tryz.underlying45 Tryz.underlying3 rfl rfl rfl rfl (by rw [mk_at, mkN_none hk1 hn]) ?_
  simp only [sc0, scS]
  refine tE ?_
  refine At.seq ?_
  refine At.winNil tW ?_
  have hwl : ([] : List Value).length = 0 := rfl
  refine At.region ?_
  refine tM rfl rfl ?_
  refine tM rfl rfl ?_
  refine At.val (Val.nilCheck rfl) rfl rfl rfl ?_
  refine At.val (Val.field 0 rfl fo_113_0 rfl) rfl rfl rfl ?_
  refine At.val (Val.load (i := 1) Tryz.isAgg44 rfl rfl rfl) rfl rfl rfl ?_
  refine tM rfl rfl ?_
  refine At.buildSl (fun a ha => by simp only [List.map_toArray, List.map_cons, List.map_nil, ha.eval (x := (.tmp 42)) rfl]; try rfl) (bs_44_1 _ ) rfl (fun b3 => ?_)
  refine At.appendWin1 (i := 1) (j := 0) (by_ := 8) Tryz.underlying44 info_32 rfl rfl rfl rfl rfl rfl rfl rfl rfl (by rw [hwl]; omega) (by rw [hwl]; omega) rfl (fun v4 => ?_)
  simp only [sc0, scS]
  refine At.drop 0 ?_
  simp only [ec0, ecS]
  refine At.val (Val.nilCheck rfl) rfl rfl rfl ?_
  refine At.val (Val.field 0 rfl fo_113_0 rfl) rfl rfl rfl ?_
  refine At.winOne 0 rfl (fun ho => ?_)
  refine At.store (i := 1) Tryz.sizeOf44 rfl rfl ho rfl (by simp) ?_
  simp only [sc0, scS]
  refine At.nil ?_
  refine At.bring 5 rfl ?_
  simp only [ec0, ecS]
  refine At.bring 1 rfl ?_
  simp only [ec0, ecS]
  refine At.bring 2 rfl ?_
  simp only [ec0, ecS]
  rw [show ([] : List Value) ++ [b64 x] = (pushW wd x).news.map b64 from by simp [pushW, hn]]
  refine At.bornD0 (wd := pushW wd x) (by have := hwd.1; rw [hn] at this; simpa [pushW] using this) hk1 hn hpn ?_
  refine At.rot3 ?_
  refine At.thenN ?_
  refine tR ?_
  refine tA rfl rfl ?_
  refine tE ?_
  refine At.retC ?_
  refine At.ret1 (.inl rfl) rfl rfl rfl (fun w hw => ?_)
  exact ⟨⟨y1.vo, y1.mb, upd y1.g k (b2, v4)⟩, rfl, toDev (F := []) (push_good hgd hk hs) (hw.drop (show List.Sublist [_, _, _, _] _ from (List.Sublist.refl _ |>.cons _ |>.cons_cons _ |>.cons_cons _ |>.cons_cons _ |>.cons_cons _))) rfl (congrArg (wrow tW y1.vo) (olds_same (ws := (stepD σ).ws) (wd' := pushW wd x) hk1 rfl).symm) (congrArg (mapR y1.mb) (mk_push hkl1 hpn).symm) rfl⟩
 ·skip
  rw [mk_at, mkN_some hk1 hn]
  refine tA rfl rfl ?_
  refine tE ?_
  refine At.seq ?_
  refine At.seq ?_
  refine At.focusD 3 rfl hk1 hn ?_
  simp only [ec0, ecS]
  refine At.region ?_
  refine tM rfl rfl ?_
  refine At.val (Val.eqNil (t := 111) (by kernel_rfl) rfl) rfl rfl rfl ?_
  refine tE ?_
  refine At.condF rfl ?_
  refine At.skipC ?_
  refine At.thenN ?_
  refine At.seq ?_
  have hwl : (wd.news.map b64).length = wd.news.length := List.length_map ..
  refine At.region ?_
  refine tM rfl rfl ?_
  refine tM rfl rfl ?_
  refine At.val (Val.nilCheck rfl) rfl rfl rfl ?_
  refine At.val (Val.field 0 rfl fo_113_0 rfl) rfl rfl rfl ?_
  refine At.val (Val.load (i := 0) Tryz.isAgg44 rfl rfl rfl) rfl rfl rfl ?_
  refine tM rfl rfl ?_
  refine At.buildSl (fun a ha => by simp only [List.map_toArray, List.map_cons, List.map_nil, ha.eval (x := (.tmp 42)) rfl]; try rfl) (bs_44_1 _ ) rfl (fun b5 => ?_)
  refine At.appendWin1 (i := 2) (j := 0) (by_ := 8) Tryz.underlying44 info_32 rfl rfl rfl rfl rfl rfl rfl rfl rfl (by rw [hwl]; omega) (by rw [hwl]; omega) rfl (fun v6 => ?_)
  simp only [sc0, scS]
  refine At.drop 0 ?_
  simp only [ec0, ecS]
  refine At.val (Val.nilCheck rfl) rfl rfl rfl ?_
  refine At.val (Val.field 0 rfl fo_113_0 rfl) rfl rfl rfl ?_
  refine At.winOne 1 rfl (fun ho => ?_)
  refine At.store (i := 0) Tryz.sizeOf44 rfl rfl ho rfl (by simp) ?_
  simp only [sc0, scS]
  refine At.nil ?_
  refine At.bring 2 rfl ?_
  simp only [ec0, ecS]
  refine At.bring 2 rfl ?_
  simp only [ec0, ecS]
  refine At.bring 2 rfl ?_
  simp only [ec0, ecS]
  rw [show wd.news.map b64 ++ [b64 x] = (pushW wd x).news.map b64 from by simp [pushW]]
  refine At.unfocusD (wd := pushW wd x) hkl1 hpn ?_
  refine At.rot3 ?_
  refine At.thenN ?_
  refine tR ?_
  refine tA rfl rfl ?_
  refine tE ?_
  refine At.retC ?_
  refine At.ret1 (.inl rfl) rfl rfl rfl (fun w hw => ?_)
  exact ⟨⟨y1.vo, y1.mb, upd y1.g k ((y1.g k).1, v6)⟩, rfl, toDev (F := []) (push_good hgd hk hs) (hw.drop (show List.Sublist [_, _, _, _] _ from (List.Sublist.refl _ |>.cons _ |>.cons_cons _ |>.cons_cons _ |>.cons_cons _ |>.cons_cons _))) rfl (congrArg (wrow tW y1.vo) (olds_same (ws := (stepD σ).ws) (wd' := pushW wd x) hk1 rfl).symm) (congrArg (mapR y1.mb) (mk_keep hk1 hn hpn).symm) rfl⟩
theorem store_no (p : Nat) (γ : Gh) (σ : Ds) (a : Int) (x : BitVec 64) (w : World) (ha : placeE σ a ≠ 0) (hd : (Dev p γ σ).holds w) :
    Upd Tryz.prog 25 [.pointer (some ⟨p, 0, none⟩), .int .i64 a, b64 x] (Dev p γ σ) (.int .i64 (placeE σ a)) (Dev p γ σ) w := by
 refine enterVc hd Tryz.func25 rfl Tryz.ntmps25 rfl ?_
 have hgd := Dev.good hd
 simp only [envOf]
 refine tR ?_
 refine tA rfl rfl ?_
 refine tE ?_
 refine At.seq ?_
 refine tR ?_
 refine tM rfl rfl ?_
 refine tM rfl rfl ?_
 refine At.callK 0 rfl (fun w hw hr => place_k _ _ _ _ w hr) Tryz.call73 rfl rfl ?_
 refine tA rfl rfl ?_
 refine tE ?_
 refine tR ?_
 refine tM rfl rfl ?_
 refine At.val (Val.bin rfl rfl rfl) rfl rfl rfl ?_
 refine tE ?_
 refine At.cond rfl (fun h1 => ?_) (fun h1 => ?_)
 ·skip
  try simp only [hasB, isSizeB, Bool.not_eq_true', Bool.not_eq_false', bne_iff_ne, ne_eq, bne_eq_false_iff_eq, beq_iff_eq, beq_eq_false_iff_ne, decide_eq_true_eq, decide_eq_false_iff_not, gt_iff_lt, ge_iff_le] at h1
  refine tR ?_
  refine tM rfl rfl ?_
  refine tA rfl rfl ?_
  refine tE ?_
  refine At.retC ?_
  refine At.thenR ?_
  refine At.ret1 (.inl rfl) rfl rfl rfl (fun w hw => ?_)
  exact ⟨rfl, hw⟩
 ·skip
  try simp only [hasB, isSizeB, Bool.not_eq_true', Bool.not_eq_false', bne_iff_ne, ne_eq, bne_eq_false_iff_eq, beq_iff_eq, beq_eq_false_iff_ne, decide_eq_true_eq, decide_eq_false_iff_not, gt_iff_lt, ge_iff_le] at h1
  omega
theorem store_0 (p : Nat) (γ : Gh) (σ : Ds) (a : Int) (x : BitVec 64) (w : World) (ha : placeE σ a = 0) (hno : deadB σ = true) (hd : (Dev p γ σ).holds w) :
    Upd Tryz.prog 25 [.pointer (some ⟨p, 0, none⟩), .int .i64 a, b64 x] (Dev p γ σ) (.int .i64 13) (Dev p γ σ) w := by
 refine enterVc hd Tryz.func25 rfl Tryz.ntmps25 rfl ?_
 have hgd := Dev.good hd
 simp only [envOf]
 refine tR ?_
 refine tA rfl rfl ?_
 refine tE ?_
 refine At.seq ?_
 refine tR ?_
 refine tM rfl rfl ?_
 refine tM rfl rfl ?_
 refine At.callK 0 rfl (fun w hw hr => place_k _ _ _ _ w hr) Tryz.call73 rfl rfl ?_
 refine tA rfl rfl ?_
 refine tE ?_
 refine tR ?_
 refine tM rfl rfl ?_
 refine At.val (Val.bin rfl rfl rfl) rfl rfl rfl ?_
 refine tE ?_
 refine At.cond rfl (fun h1 => ?_) (fun h1 => ?_)
 ·skip
  try simp only [hasB, isSizeB, Bool.not_eq_true', Bool.not_eq_false', bne_iff_ne, ne_eq, bne_eq_false_iff_eq, beq_iff_eq, beq_eq_false_iff_ne, decide_eq_true_eq, decide_eq_false_iff_not, gt_iff_lt, ge_iff_le] at h1
  omega
 ·skip
  try simp only [hasB, isSizeB, Bool.not_eq_true', Bool.not_eq_false', bne_iff_ne, ne_eq, bne_eq_false_iff_eq, beq_iff_eq, beq_eq_false_iff_ne, decide_eq_true_eq, decide_eq_false_iff_not, gt_iff_lt, ge_iff_le] at h1
  refine At.skipC ?_
  refine At.thenN ?_
  refine At.seq ?_
  refine tR ?_
  refine tM rfl rfl ?_
  refine At.callK 0 rfl (fun w hw hr => step_0 _ _ _ w hno hr) Tryz.call74 rfl rfl ?_
  refine tA rfl rfl ?_
  refine tE ?_
  refine tR ?_
  refine tM rfl rfl ?_
  refine At.val (Val.bin rfl rfl rfl) rfl rfl rfl ?_
  refine tE ?_
  refine At.condT rfl ?_
  refine tR ?_
  refine tM rfl rfl ?_
  refine tA rfl rfl ?_
  refine tE ?_
  refine At.retC ?_
  refine At.thenR ?_
  refine At.ret1 (.inl rfl) rfl rfl rfl (fun w hw => ?_)
  exact ⟨rfl, hw⟩
end Go.Proofs.YthhkbbodhghmcaaGreatDoor
set_option linter.unusedVariables false
set_option linter.unusedSimpArgs false
namespace Go.Proofs.YthhkbbodhghmcaaGreatDoor
open Go Go.Wk
def fenceW (w : Wd) : Wd := if w.mark = 0 then w else ⟨(w.news[w.mark - 1]?).getD w.old, w.news.drop w.mark, 0⟩
def fenceD (σ : Ds) : Ds := { σ with ws := σ.ws.map fenceW }
theorem fenceW_calm {w : Wd} (h : w.mark = 0) : fenceW w = w := if_pos h
theorem fence_good {σ : Ds} (hg : Dgood σ) : Dgood (fenceD σ) :=
  ⟨by simpa [fenceD] using hg.pos, by simpa [fenceD] using hg.len, by simpa [fenceD] using hg.lines, hg.steps, hg.left, fun w hm => by
    obtain ⟨u, hu, rfl⟩ := List.mem_map.1 hm
    have := hg.word u hu
    unfold fenceW
    split
    · exact this
    · simp only [List.length_drop, fenceD]; omega⟩
/-- Which words a fence has settled. -/
def FInv (W ws : List Wd) (left : Int → Bool) : Prop := ws.length = W.length ∧ ∀ (k : Nat) w, W[k]? = some w → ws[k]? = some (if left (8 * (k : Int)) then w else fenceW w)
theorem finv_start {σ : Ds} (hg : Dgood σ) (g : Nat → Nat × Value) : FInv σ.ws σ.ws (fun k => (mk σ.ws g k).isSome) := ⟨rfl, fun k w hk => by
  rw [hk]
  congr 1
  show w = if (mk σ.ws g (8 * (k : Int))).isSome = true then w else fenceW w
  rw [mk_at]
  by_cases hn : w.news = []
  · rw [mkN_none hk hn]
    have := (hg.word w (List.mem_of_getElem? hk)).1
    rw [hn] at this
    exact (fenceW_calm (by simpa using this)).symm
  · rw [mkN_some hk hn]; rfl⟩
theorem finv_step {W ws : List Wd} {left left' : Int → Bool} {k : Nat} {wd : Wd} (h : FInv W ws left) (hl : left (8 * (k : Int)) = true) (hk : ws[k]? = some wd) (h1 : left' (8 * (k : Int)) = false) (h2 : ∀ q, q ≠ 8 * (k : Int) → left' q = left q) : FInv W (ws.set k (fenceW wd)) left' := ⟨by simpa using h.1, fun j w hj => by
  by_cases e : j = k
  · subst e
    have := h.2 j w hj
    rw [hl, if_pos rfl, hk] at this
    have := Option.some.inj this
    subst this
    rw [h1, if_neg (by simp), List.getElem?_set_self (List.getElem?_eq_some_iff.1 hk).1]
  · rw [List.getElem?_set_ne (Ne.symm e), h2 _ (by omega)]
    exact h.2 j w hj⟩
theorem finv_end {W ws : List Wd} {left : Int → Bool} (h : FInv W ws left) (hl : ∀ k, left k = false) : ws = W.map fenceW := by
  apply List.ext_getElem?
  intro j
  rw [List.getElem?_map]
  cases hj : W[j]? with
  | none => rw [List.getElem?_eq_none (by have := List.getElem?_eq_none_iff.1 hj; rw [h.1]; exact this)]; rfl
  | some w => rw [h.2 j w hj, hl, if_neg (by simp)]; rfl
theorem finv_word {W ws : List Wd} {left : Int → Bool} {k : Nat} {wd : Wd} (h : FInv W ws left) (hl : left (8 * (k : Int)) = true) (hk : ws[k]? = some wd) : W[k]? = some wd := by
  cases hj : W[k]? with
  | none =>
    have h1 := List.getElem?_eq_none_iff.1 hj
    have h2 := (List.getElem?_eq_some_iff.1 hk).1
    rw [h.1] at h2; omega
  | some w =>
    have := h.2 k w hj
    rw [hl, if_pos rfl, hk] at this
    exact this.symm
theorem flush_d (p : Nat) (γ : Gh) (σ : Ds) (a : Int) (f : Nat) (w : World) (h0 : 0 ≤ a) (hl : a < 8 * (σ.ws.length : Int)) (hf : 8 * (f : Int) = a - a % 64) (hs : σ.steps + 1 ≤ 1099511627776) (hno : deadB σ = false) (hd : (Dev p γ σ).holds w) :
    DevU Tryz.prog 78 [.pointer (some ⟨p, 0, none⟩), .int .i64 a] p γ σ (.int .i64 0) (flushK (stepD σ) f 8) w := by
 refine enterVc hd Tryz.func78 rfl Tryz.ntmps78 rfl ?_
 have hgd := Dev.good hd
 have hln := hgd.len
 have hll := hgd.lines
 have hg1 := dgood_step hgd hs
 have hsl : (stepD σ).ws.length = σ.ws.length := rfl
 have hf8 : f % 8 = 0 := by omega
 simp only [envOf]
 refine tR ?_
 refine tA rfl rfl ?_
 refine tE ?_
 refine At.seq ?_
 refine tR ?_
 refine tM rfl rfl ?_
 refine tM rfl rfl ?_
 refine At.callK 0 rfl (fun w hw hr => has_k _ _ _ _ _ w hr) Tryz.call77 rfl rfl ?_
 refine At.val (Val.not rfl) rfl rfl rfl ?_
 refine tE ?_
 refine At.cond rfl (fun h1 => ?_) (fun h1 => ?_)
 ·skip
  try simp only [hasB, isSizeB, Bool.not_eq_true', Bool.not_eq_false', bne_iff_ne, ne_eq, bne_eq_false_iff_eq, beq_iff_eq, beq_eq_false_iff_ne, decide_eq_true_eq, decide_eq_false_iff_not, gt_iff_lt, ge_iff_le] at h1
  omega
 ·skip
  try simp only [hasB, isSizeB, Bool.not_eq_true', Bool.not_eq_false', bne_iff_ne, ne_eq, bne_eq_false_iff_eq, beq_iff_eq, beq_eq_false_iff_ne, decide_eq_true_eq, decide_eq_false_iff_not, gt_iff_lt, ge_iff_le] at h1
  refine At.skipC ?_
  refine At.thenN ?_
  refine At.seq ?_
  refine tR ?_
  refine tM rfl rfl ?_
  refine At.callD 0 rfl (fun w hw hr => step_d _ _ _ w hs hno hr) Tryz.call74 rfl rfl (fun y2 => ?_)
  simp only [sc0, scS]
  refine tA rfl rfl ?_
  refine tE ?_
  refine tR ?_
  refine tM rfl rfl ?_
  refine At.val (Val.bin rfl rfl rfl) rfl rfl rfl ?_
  refine tE ?_
  refine At.condF rfl ?_
  refine At.skipC ?_
  refine At.thenN ?_
  refine tR ?_
  refine tM rfl rfl ?_
  refine tM rfl rfl ?_
  refine At.val (Val.remI rfl rfl (by omega) (by decide)) rfl rfl rfl ?_
  refine At.val (Val.subI rfl rfl (by omega) (by omega)) rfl rfl rfl ?_
  rw [← hf]
  refine tA rfl rfl ?_
  refine tE ?_
  refine At.seq ?_
  refine At.seq ?_
  refine At.openS 0 rfl ?_
  simp only [devL, List.cons_append, List.nil_append, ec0, ecS]
  refine At.region ?_
  refine tM rfl rfl ?_
  refine tA rfl rfl ?_
  refine tE ?_
  refine At.block ?_
  skip
  refine At.loop (σ := Nat) (fun j => j ≤ 8) (fun j => [(0, .pointer (some ⟨p, 0, none⟩)), (6, .int .i64 (8 * (f : Int))), (7, .int .i64 (8 * ((f + j : Nat) : Int)))]) (fun j => [blk p tDv [y2.vo, .map (some y2.mb), .int .i64 ((stepD σ).steps : Int), .bool (stepD σ).armed, .int .i64 ((stepD σ).left : Int)], wrow tW y2.vo (olds (stepD σ).ws), mapR y2.mb (mk (flushK (stepD σ) f j).ws y2.g), fam (dI (flushK (stepD σ) f j).ws y2.g), factR (Dgood (stepD σ))]) (fun j => 8 - j) 0 (Nat.zero_le _) (Sub.cons rfl (Sub.cons rfl (Sub.cons rfl Sub.nil))) (List.Perm.refl _) ?_
  intro j hs
  have hfr := flushK_rest (stepD σ) f j
  refine At.seq ?_
  refine tR ?_
  refine tM rfl rfl ?_
  refine tM rfl rfl ?_
  first | refine At.val (Val.addI rfl rfl (by omega) (by omega)) rfl rfl rfl ?_ | refine At.val (Val.bin rfl rfl rfl) rfl rfl rfl ?_
  refine At.val (Val.bin rfl rfl rfl) rfl rfl rfl ?_
  refine tE ?_
  refine At.cond rfl (fun h3 => ?_) (fun h3 => ?_)
  ·skip
   try simp only [hasB, isSizeB, Bool.not_eq_true', Bool.not_eq_false', bne_iff_ne, ne_eq, bne_eq_false_iff_eq, beq_iff_eq, beq_eq_false_iff_ne, decide_eq_true_eq, decide_eq_false_iff_not, gt_iff_lt, ge_iff_le] at h3
   have hj : j < 8 := by omega
   have hfj : f + j < (stepD σ).ws.length := by omega
   refine At.skipC ?_
   refine At.thenN ?_
   refine At.seq ?_
   refine At.block ?_
   refine tR ?_
   refine tM rfl rfl ?_
   refine At.val (Val.nilCheck rfl) rfl rfl rfl ?_
   refine At.val (Val.field 1 rfl fo_47_1 rfl) rfl rfl rfl ?_
   refine At.val (Val.load (i := 0) Tryz.isAgg45 rfl rfl rfl) rfl rfl rfl ?_
   refine tM rfl rfl ?_
   refine At.val (Val.look (i := 2) Tryz.underlying45 Tryz.underlying3 Tryz.zeroValue111 rfl rfl rfl) rfl rfl rfl ?_
   obtain ⟨wd, hkw⟩ : ∃ wd, (flushK (stepD σ) f j).ws[f + j]? = some wd := ⟨_, List.getElem?_eq_getElem (by rw [hfr.2.2.2.1]; exact hfj)⟩
   by_cases hn : wd.news = []
   ·skip
    rw [mk_at, mkN_none hkw hn]
    refine tA rfl rfl ?_
    refine tE ?_
    refine tR ?_
    refine tM rfl rfl ?_
    refine At.val (Val.neNil (t := 111) (by kernel_rfl) rfl) rfl rfl rfl ?_
    refine tE ?_
    refine At.condF rfl ?_
    refine At.skipC ?_
    refine At.blkN ?_
    refine At.thenN ?_
    refine At.region ?_
    refine tM rfl rfl ?_
    first | refine At.val (Val.addI rfl rfl (by omega) (by omega)) rfl rfl rfl ?_ | refine At.val (Val.bin rfl rfl rfl) rfl rfl rfl ?_
    refine tA rfl rfl ?_
    refine tE ?_
    exact At.again (j + 1) (show j + 1 ≤ 8 by omega) (by omega) (Sub.cons rfl (Sub.cons rfl (Sub.cons (congrArg (fun z => some (Value.int IntKind.i64 z)) (by omega)) Sub.nil))) (by rw [flushK_nil hg1 hkw hn])
   ·skip
    rw [mk_at, mkN_some hkw hn]
    refine tA rfl rfl ?_
    refine tE ?_
    refine tR ?_
    refine tM rfl rfl ?_
    refine At.val (Val.neNil (t := 111) (by kernel_rfl) rfl) rfl rfl rfl ?_
    refine tE ?_
    refine At.condT rfl ?_
    refine At.focusD 3 rfl hkw hn ?_
    simp only [ec0, ecS]
    refine At.region ?_
    refine tM rfl rfl ?_
    refine tM rfl rfl ?_
    refine At.val (Val.nilCheck rfl) rfl rfl rfl ?_
    refine At.val (Val.field 0 rfl fo_113_0 rfl) rfl rfl rfl ?_
    refine At.val (Val.load (i := 0) Tryz.isAgg44 rfl rfl rfl) rfl rfl rfl ?_
    refine At.val (Val.lenWin (i := 1) rfl Tryz.underlying44 rfl) rfl rfl rfl ?_
    refine At.val (Val.nilCheck rfl) rfl rfl rfl ?_
    refine At.val (Val.field 1 rfl fo_113_1 rfl) rfl rfl rfl ?_
    refine At.store (i := 0) Tryz.sizeOf3 rfl rfl rfl rfl (by first | decide | simp) ?_
    simp only [sc0, scS]
    refine At.nil ?_
    rw [List.length_map]
    refine At.unfocusD (wd := markW wd) (List.getElem?_eq_some_iff.1 hkw).1 hn ?_
    refine At.rot3 ?_
    rw [← mk_keep (v' := (y2.g (f + j)).2) (wd' := markW wd) hkw hn hn, show upd y2.g (f + j) ((y2.g (f + j)).1, (y2.g (f + j)).2) = y2.g from upd_same _ _, show (flushK (stepD σ) f j).ws.set (f + j) (markW wd) = (flushK (stepD σ) f (j + 1)).ws from by rw [flushK_succ hkw]; rfl]
    refine At.blkN ?_
    refine At.thenN ?_
    refine At.region ?_
    refine tM rfl rfl ?_
    first | refine At.val (Val.addI rfl rfl (by omega) (by omega)) rfl rfl rfl ?_ | refine At.val (Val.bin rfl rfl rfl) rfl rfl rfl ?_
    refine tA rfl rfl ?_
    refine tE ?_
    exact At.again (j + 1) (show j + 1 ≤ 8 by omega) (by omega) (Sub.cons rfl (Sub.cons rfl (Sub.cons (congrArg (fun z => some (Value.int IntKind.i64 z)) (by omega)) Sub.nil))) (List.Perm.refl _)
  ·skip
   try simp only [hasB, isSizeB, Bool.not_eq_true', Bool.not_eq_false', bne_iff_ne, ne_eq, bne_eq_false_iff_eq, beq_iff_eq, beq_eq_false_iff_ne, decide_eq_true_eq, decide_eq_false_iff_not, gt_iff_lt, ge_iff_le] at h3
   obtain rfl : j = 8 := by omega
   refine At.exitC ?_
   refine At.thenX ?_
   refine At.thenX ?_
   refine At.blkX ?_
   refine At.thenN ?_
   refine tR ?_
   refine tA rfl rfl ?_
   refine tE ?_
   refine At.retC ?_
   refine At.ret1 (.inl rfl) rfl rfl rfl (fun w hw => ?_)
   obtain ⟨e1, e2, e3, _, e5⟩ := flushK_rest (stepD σ) f 8
   exact ⟨⟨y2.vo, y2.mb, y2.g⟩, rfl, toDev (F := []) (flushK_good f hg1 8) (hw.drop (show List.Sublist [_, _, _, _] _ from (List.Sublist.refl _ |>.cons _ |>.cons_cons _ |>.cons_cons _ |>.cons_cons _ |>.cons_cons _))) (by rw [e1, e2, e3]) (by rw [e5]) rfl rfl⟩
theorem flush_0 (p : Nat) (γ : Gh) (σ : Ds) (a : Int) (w : World) (h0 : 0 ≤ a) (hl : a < 8 * (σ.ws.length : Int)) (hno : deadB σ = true) (hd : (Dev p γ σ).holds w) :
    Upd Tryz.prog 78 [.pointer (some ⟨p, 0, none⟩), .int .i64 a] (Dev p γ σ) (.int .i64 13) (Dev p γ σ) w := by
 refine enterVc hd Tryz.func78 rfl Tryz.ntmps78 rfl ?_
 have hgd := Dev.good hd
 simp only [envOf]
 refine tR ?_
 refine tA rfl rfl ?_
 refine tE ?_
 refine At.seq ?_
 refine tR ?_
 refine tM rfl rfl ?_
 refine tM rfl rfl ?_
 refine At.callK 0 rfl (fun w hw hr => has_k _ _ _ _ _ w hr) Tryz.call77 rfl rfl ?_
 refine At.val (Val.not rfl) rfl rfl rfl ?_
 refine tE ?_
 refine At.cond rfl (fun h1 => ?_) (fun h1 => ?_)
 ·skip
  try simp only [hasB, isSizeB, Bool.not_eq_true', Bool.not_eq_false', bne_iff_ne, ne_eq, bne_eq_false_iff_eq, beq_iff_eq, beq_eq_false_iff_ne, decide_eq_true_eq, decide_eq_false_iff_not, gt_iff_lt, ge_iff_le] at h1
  omega
 ·skip
  try simp only [hasB, isSizeB, Bool.not_eq_true', Bool.not_eq_false', bne_iff_ne, ne_eq, bne_eq_false_iff_eq, beq_iff_eq, beq_eq_false_iff_ne, decide_eq_true_eq, decide_eq_false_iff_not, gt_iff_lt, ge_iff_le] at h1
  refine At.skipC ?_
  refine At.thenN ?_
  refine At.seq ?_
  refine tR ?_
  refine tM rfl rfl ?_
  refine At.callK 0 rfl (fun w hw hr => step_0 _ _ _ w hno hr) Tryz.call74 rfl rfl ?_
  refine tA rfl rfl ?_
  refine tE ?_
  refine tR ?_
  refine tM rfl rfl ?_
  refine At.val (Val.bin rfl rfl rfl) rfl rfl rfl ?_
  refine tE ?_
  refine At.condT rfl ?_
  refine tR ?_
  refine tM rfl rfl ?_
  refine tA rfl rfl ?_
  refine tE ?_
  refine At.retC ?_
  refine At.thenR ?_
  refine At.ret1 (.inl rfl) rfl rfl rfl (fun w hw => ?_)
  exact ⟨rfl, hw⟩
end Go.Proofs.YthhkbbodhghmcaaGreatDoor
set_option linter.unusedVariables false
set_option linter.unusedSimpArgs false
namespace Go.Proofs.YthhkbbodhghmcaaGreatDoor
open Go Go.Wk
theorem fence_d (p : Nat) (γ : Gh) (σ : Ds) (w : World) (hs : σ.steps + 1 ≤ 1099511627776) (hno : deadB σ = false) (hd : (Dev p γ σ).holds w) :
    DevU Tryz.prog 29 [.pointer (some ⟨p, 0, none⟩)] p γ σ (.int .i64 0) (fenceD (stepD σ)) w := by
 refine enterVc hd Tryz.func29 rfl Tryz.ntmps29 rfl ?_
 have hgd := Dev.good hd
 have hln := hgd.len
 have hg1 := dgood_step hgd hs
 have hstp := hg1.steps
 simp only [envOf]
 refine tR ?_
 refine tA rfl rfl ?_
 refine tE ?_
 refine At.seq ?_
 refine tR ?_
 refine tM rfl rfl ?_
 refine At.callD 0 rfl (fun w hw hr => step_d _ _ _ w hs hno hr) Tryz.call74 rfl rfl (fun y1 => ?_)
 simp only [sc0, scS]
 refine tA rfl rfl ?_
 refine tE ?_
 refine tR ?_
 refine tM rfl rfl ?_
 refine At.val (Val.bin rfl rfl rfl) rfl rfl rfl ?_
 refine tE ?_
 refine At.condF rfl ?_
 refine At.skipC ?_
 refine At.thenN ?_
 refine At.seq ?_
 refine At.seq ?_
 refine At.openS 0 rfl ?_
 simp only [devL, List.cons_append, List.nil_append, ec0, ecS]
 refine At.region ?_
 refine tM rfl rfl ?_
 refine At.val (Val.nilCheck rfl) rfl rfl rfl ?_
 refine At.val (Val.field 1 rfl fo_47_1 rfl) rfl rfl rfl ?_
 refine At.val (Val.load (i := 0) Tryz.isAgg45 rfl rfl rfl) rfl rfl rfl ?_
 refine At.range (i := 2) Tryz.underlying45 rfl rfl rfl (fun r2 cnt3 => ?_)
 simp only [sc0, scS]
 refine tE ?_
 refine At.block ?_
 skip
 refine At.loop (σ := (List Wd × (Nat → Nat × Value)) × (Int → Bool) × Option (Int × Value) × Nat) (fun s => FInv (stepD σ).ws s.1.1 s.2.1) (fun s => [(0, .pointer (some ⟨p, 0, none⟩)), (15, .pointer (some ⟨r2, 0, none⟩))]) (fun s => [blk p tDv [y1.vo, .map (some y1.mb), .int .i64 ((stepD σ).steps : Int), .bool (stepD σ).armed, .int .i64 ((stepD σ).left : Int)], wrow tW y1.vo (olds s.1.1), iterR y1.mb r2 (mk s.1.1 s.1.2) s.2.1 s.2.2.1 s.2.2.2, fam (dI s.1.1 s.1.2), factR (Dgood (stepD σ))]) (fun s => s.2.2.2) (((stepD σ).ws, y1.g), (fun k => (mk (stepD σ).ws y1.g k).isSome), none, cnt3) (finv_start hg1 _) (Sub.cons rfl (Sub.cons rfl Sub.nil)) (List.Perm.refl _) ?_
 intro s hs
 obtain ⟨⟨ws, g⟩, left, cur, cnt⟩ := s
 dsimp only at hs ⊢
 refine tR ?_
 refine At.next (i := 2) rfl rfl rfl (fun hl => ?_) (fun x v cn hl hf hcn => ?_)
 skip
 ·skip
  refine At.val (Val.extract rfl rfl) rfl rfl rfl ?_
  refine tE ?_
  refine At.seq ?_
  refine At.condF rfl ?_
  refine At.exitC ?_
  refine At.thenX ?_
  refine At.thenX ?_
  refine At.blkX ?_
  refine At.thenN ?_
  refine At.seq ?_
  refine At.iterEnd 2 rfl ?_
  simp only [sc0, scS]
  refine At.region ?_
  refine tA rfl rfl ?_
  refine tE ?_
  refine At.retC ?_
  refine At.ret1 (.inl rfl) rfl rfl rfl (fun w hw => ?_)
  exact ⟨⟨y1.vo, y1.mb, g⟩, rfl, toDev (F := []) (fence_good hg1) (hw.drop (show List.Sublist [_, _, _, _] _ from (List.Sublist.refl _ |>.cons _ |>.cons_cons _ |>.cons_cons _ |>.cons_cons _ |>.cons_cons _))) rfl (by rw [finv_end hs hl]; rfl) (by rw [finv_end hs hl]; rfl) (by rw [finv_end hs hl]; rfl)⟩
 ·skip
  simp only [sc0, scS]
  obtain ⟨k, wd, rfl, hk, hn, rfl⟩ := mk_inv hf
  have hwk := finv_word hs hl hk
  have hwd := hg1.word wd (List.mem_of_getElem? hwk)
  have hkl := (List.getElem?_eq_some_iff.1 hk).1
  have hlen := hs.1
  have hsl : (stepD σ).ws.length = σ.ws.length := rfl
  refine At.val (Val.extract rfl rfl) rfl rfl rfl ?_
  refine tE ?_
  refine At.seq ?_
  refine At.condT rfl ?_
  refine At.skipC ?_
  refine At.thenN ?_
  refine At.block ?_
  refine tR ?_
  refine At.val (Val.entry (i := 2) rfl rfl) rfl rfl rfl ?_
  refine At.val (Val.extract rfl rfl) rfl rfl rfl ?_
  refine At.val (Val.extract rfl rfl) rfl rfl rfl ?_
  refine tA rfl rfl ?_
  refine tA rfl rfl ?_
  refine tE ?_
  refine At.seq ?_
  refine tR ?_
  refine tM rfl rfl ?_
  refine At.val (Val.nilCheck rfl) rfl rfl rfl ?_
  refine At.val (Val.field 1 rfl fo_113_1 rfl) rfl rfl rfl ?_
  refine At.val (Val.loadDbt (i := 3) (q := 1) Tryz.isAgg3 rfl rfl hk hn rfl) rfl rfl rfl ?_
  refine At.val (Val.bin rfl rfl rfl) rfl rfl rfl ?_
  refine tE ?_
  refine At.cond rfl (fun h4 => ?_) (fun h4 => ?_)
  ·skip
   try simp only [hasB, isSizeB, Bool.not_eq_true', Bool.not_eq_false', bne_iff_ne, ne_eq, bne_eq_false_iff_eq, beq_iff_eq, beq_eq_false_iff_ne, decide_eq_true_eq, decide_eq_false_iff_not, gt_iff_lt, ge_iff_le] at h4
   have fz : ws.set k (fenceW wd) = ws := by rw [fenceW_calm (by omega)]; exact set_get hk
   refine At.exitC ?_
   refine At.thenX ?_
   refine At.blkX ?_
   refine At.thenN ?_
   exact At.again ((ws.set k (fenceW wd), g), (fun q => left q && q != 8 * (k : Int)), some (8 * (k : Int), .pointer (some ⟨(g k).1, 0, none⟩)), cn) (finv_step hs hl hk (by simp) (fun q hq => by simp [hq])) (show cn < cnt by omega) (Sub.cons rfl (Sub.cons rfl Sub.nil)) (by rw [fz])
  ·skip
   try simp only [hasB, isSizeB, Bool.not_eq_true', Bool.not_eq_false', bne_iff_ne, ne_eq, bne_eq_false_iff_eq, beq_iff_eq, beq_eq_false_iff_ne, decide_eq_true_eq, decide_eq_false_iff_not, gt_iff_lt, ge_iff_le] at h4
   refine At.skipC ?_
   refine At.thenN ?_
   refine At.seq ?_
   have fz : fenceW wd = ⟨(wd.news[wd.mark - 1]?).getD wd.old, wd.news.drop wd.mark, 0⟩ := if_neg (by omega)
   obtain ⟨z, hz⟩ : ∃ z, wd.news[wd.mark - 1]? = some z := ⟨_, List.getElem?_eq_getElem (by omega)⟩
   rw [hz, Option.getD_some] at fz
   refine At.dbtSome 3 rfl hk hn (fun b o c hv => ?_)
   refine At.dbtCap 3 rfl hk hn hv (fun hcap => ?_)
   refine At.tail 18 rfl (by decide +kernel) ?_
   simp only [List.take_succ_cons, List.take_zero, List.drop_succ_cons, List.drop_zero]
   refine qM rfl rfl ?_
   refine QAt.val (Val.nilCheck rfl) rfl rfl rfl ?_
   refine QAt.val (Val.field 0 rfl fo_47_0 rfl) rfl rfl rfl ?_
   refine QAt.val (Val.load (i := 0) Tryz.isAgg44 rfl rfl rfl) rfl rfl rfl ?_
   refine qM rfl rfl ?_
   refine QAt.val (Val.quoI rfl rfl (by omega) (by omega) (by decide)) rfl rfl rfl ?_
   rw [show 8 * (k : Int) / 8 = (k : Int) from by omega]
   refine qM rfl rfl ?_
   refine QAt.val (Val.nilCheck rfl) rfl rfl rfl ?_
   refine QAt.val (Val.field 0 rfl fo_113_0 rfl) rfl rfl rfl ?_
   refine QAt.val (Val.loadDbt (i := 3) (q := 0) Tryz.isAgg44 rfl rfl hk hn rfl) rfl rfl rfl ?_
   refine qM rfl rfl ?_
   refine QAt.val (Val.nilCheck rfl) rfl rfl rfl ?_
   refine QAt.val (Val.field 1 rfl fo_113_1 rfl) rfl rfl rfl ?_
   refine QAt.val (Val.loadDbt (i := 3) (q := 1) Tryz.isAgg3 rfl rfl hk hn rfl) rfl rfl rfl ?_
   refine QAt.val (Val.subI rfl rfl (by omega) (by omega)) rfl rfl rfl ?_
   rw [hv]
   refine QAt.val (Val.indexSl (o + (wd.mark - 1)) (by omega) Tryz.underlying44 Tryz.sizeOf32 rfl rfl (by omega) (by omega)) rfl rfl rfl ?_
   refine QAt.val (Val.loadNews (i := 3) Tryz.isAgg32 rfl rfl hk hn hv rfl hz) rfl rfl rfl ?_
   refine QAt.val (Val.indexRow (i := 1) k (by omega) Tryz.underlying44 Tryz.sizeOf32 rfl rfl rfl (by omega) (by rw [olds_length]; omega)) rfl rfl rfl ?_
   refine QAt.fin ?_
   refine At.storeRow (i := 1) Tryz.sizeOf32 rfl rfl rfl rfl (by rw [List.length_map, olds_length]; exact hkl) ?_
   simp only [sc0, scS]
   rw [← List.map_set, show (olds ws).set k z = olds (ws.set k (fenceW wd)) from by rw [olds_set, fz], show (olds ws).length = (olds (ws.set k (fenceW wd))).length from by rw [olds_length, olds_length, List.length_set]]
   refine tE ?_
   refine At.seq ?_
   refine At.focusD 3 rfl hk hn ?_
   simp only [ec0, ecS]
   rw [hv]
   refine At.tail 12 rfl (by decide +kernel) ?_
   simp only [List.take_succ_cons, List.take_zero, List.drop_succ_cons, List.drop_zero]
   refine qM rfl rfl ?_
   refine qM rfl rfl ?_
   refine QAt.val (Val.nilCheck rfl) rfl rfl rfl ?_
   refine QAt.val (Val.field 0 rfl fo_113_0 rfl) rfl rfl rfl ?_
   refine QAt.val (Val.load (i := 0) Tryz.isAgg44 rfl rfl rfl) rfl rfl rfl ?_
   refine qM rfl rfl ?_
   refine QAt.val (Val.nilCheck rfl) rfl rfl rfl ?_
   refine QAt.val (Val.field 1 rfl fo_113_1 rfl) rfl rfl rfl ?_
   refine QAt.val (Val.load (i := 0) Tryz.isAgg3 rfl rfl rfl) rfl rfl rfl ?_
   refine QAt.val (Val.cutSl wd.mark wd.news.length _ _ _ Tryz.underlying44 Tryz.sizeOf32 rfl ⟨_, _, rfl, by omega, by omega⟩ rfl (by omega) hcap rfl rfl rfl) rfl rfl rfl ?_
   refine QAt.val (Val.nilCheck rfl) rfl rfl rfl ?_
   refine QAt.val (Val.field 0 rfl fo_113_0 rfl) rfl rfl rfl ?_
   refine QAt.fin ?_
   refine At.store (i := 0) Tryz.sizeOf44 rfl rfl rfl rfl (by simp) ?_
   simp only [sc0, scS]
   refine At.nil ?_
   refine At.winCut 1 wd.mark rfl (by rw [List.length_map]; omega) ?_
   simp only [sc0, scS]
   rw [← List.map_drop]
   refine At.thenN ?_
   refine tR ?_
   refine tM rfl rfl ?_
   refine At.val (Val.nilCheck rfl) rfl rfl rfl ?_
   refine At.val (Val.field 1 rfl fo_113_1 rfl) rfl rfl rfl ?_
   refine At.store (i := 0) Tryz.sizeOf3 rfl rfl rfl rfl (by simp) ?_
   simp only [sc0, scS]
   refine tE ?_
   refine tR ?_
   refine tM rfl rfl ?_
   refine At.val (Val.nilCheck rfl) rfl rfl rfl ?_
   refine At.val (Val.field 0 rfl fo_113_0 rfl) rfl rfl rfl ?_
   refine At.val (Val.load (i := 0) Tryz.isAgg44 rfl rfl rfl) rfl rfl rfl ?_
   refine At.val (Val.len (bt := #[]) Tryz.underlying44 rfl) rfl rfl rfl ?_
   refine At.val (Val.bin rfl rfl rfl) rfl rfl rfl ?_
   refine tE ?_
   refine At.cond rfl (fun h5 => ?_) (fun h5 => ?_)
   ·skip
    try simp only [hasB, isSizeB, Bool.not_eq_true', Bool.not_eq_false', bne_iff_ne, ne_eq, bne_eq_false_iff_eq, beq_iff_eq, beq_eq_false_iff_ne, decide_eq_true_eq, decide_eq_false_iff_not, gt_iff_lt, ge_iff_le] at h5
    refine At.region ?_
    refine tM rfl rfl ?_
    refine At.val (Val.nilCheck rfl) rfl rfl rfl ?_
    refine At.val (Val.field 1 rfl fo_47_1 rfl) rfl rfl rfl ?_
    refine At.val (Val.load (i := 3) Tryz.isAgg45 rfl rfl rfl) rfl rfl rfl ?_
    refine tM rfl rfl ?_
    refine At.delIt (i := 5) Tryz.underlying45 Tryz.underlying3 rfl rfl rfl (fun cn6 hc7 => ?_)
    simp only [sc0, scS]
    refine At.nil ?_
    have hdn : (fenceW wd).news = [] := by rw [fz]; exact List.drop_eq_nil_of_le (by omega)
    refine At.dropD (wd := fenceW wd) hkl hdn ?_
    refine At.rot3 ?_
    rw [← mk_drop (g := g) hkl hdn]
    refine At.blkN ?_
    refine At.thenN ?_
    exact At.again ((ws.set k (fenceW wd), g), (fun q => (left q && q != 8 * (k : Int)) && q != 8 * (k : Int)), none, cn6) (finv_step hs hl hk (by simp) (fun q hq => by simp [hq])) (show cn6 < cnt by omega) (Sub.cons rfl (Sub.cons rfl Sub.nil)) (List.Perm.refl _)
   ·skip
    try simp only [hasB, isSizeB, Bool.not_eq_true', Bool.not_eq_false', bne_iff_ne, ne_eq, bne_eq_false_iff_eq, beq_iff_eq, beq_eq_false_iff_ne, decide_eq_true_eq, decide_eq_false_iff_not, gt_iff_lt, ge_iff_le] at h5
    have hdn : (fenceW wd).news ≠ [] := by rw [fz]; exact fun e => by have := congrArg List.length e; simp at this; omega
    rw [show wd.news.drop wd.mark = (fenceW wd).news from by rw [fz]]
    refine At.unfocusZ (wd := fenceW wd) (by rw [fz]) hkl hdn ?_
    refine At.rot3 ?_
    rw [← mk_keep (v' := .slice (some ⟨b, if c = wd.mark then o else o + wd.mark * 1, none⟩) (wd.news.length - wd.mark) (c - wd.mark)) hk hn hdn]
    refine At.skipC ?_
    refine At.blkN ?_
    refine At.thenN ?_
    exact At.again ((ws.set k (fenceW wd), upd g k ((g k).1, (.slice (some ⟨b, if c = wd.mark then o else o + wd.mark * 1, none⟩) (wd.news.length - wd.mark) (c - wd.mark)))), (fun q => left q && q != 8 * (k : Int)), some (8 * (k : Int), .pointer (some ⟨(g k).1, 0, none⟩)), cn) (finv_step hs hl hk (by simp) (fun q hq => by simp [hq])) (show cn < cnt by omega) (Sub.cons rfl (Sub.cons rfl Sub.nil)) (List.Perm.refl _)
theorem fence_0 (p : Nat) (γ : Gh) (σ : Ds) (w : World) (hno : deadB σ = true) (hd : (Dev p γ σ).holds w) :
    Upd Tryz.prog 29 [.pointer (some ⟨p, 0, none⟩)] (Dev p γ σ) (.int .i64 13) (Dev p γ σ) w := by
 refine enterVc hd Tryz.func29 rfl Tryz.ntmps29 rfl ?_
 have hgd := Dev.good hd
 simp only [envOf]
 refine tR ?_
 refine tA rfl rfl ?_
 refine tE ?_
 refine At.seq ?_
 refine tR ?_
 refine tM rfl rfl ?_
 refine At.callK 0 rfl (fun w hw hr => step_0 _ _ _ w hno hr) Tryz.call74 rfl rfl ?_
 refine tA rfl rfl ?_
 refine tE ?_
 refine tR ?_
 refine tM rfl rfl ?_
 refine At.val (Val.bin rfl rfl rfl) rfl rfl rfl ?_
 refine tE ?_
 refine At.condT rfl ?_
 refine tR ?_
 refine tM rfl rfl ?_
 refine tA rfl rfl ?_
 refine tE ?_
 refine At.retC ?_
 refine At.thenR ?_
 refine At.ret1 (.inl rfl) rfl rfl rfl (fun w hw => ?_)
 exact ⟨rfl, hw⟩
end Go.Proofs.YthhkbbodhghmcaaGreatDoor
set_option linter.unusedVariables false
set_option linter.unusedSimpArgs false
namespace Go.Proofs.YthhkbbodhghmcaaGreatDoor
open Go Go.Wk
/-- The flush of a line; the lines from l on, rising, until the device dies. -/
def lineD (σ : Ds) (l : Nat) : Ds := flushK (stepD σ) (8 * l) 8
def linesE : Nat → Ds → Nat → Int × Ds
  | _, σ, 0 => (0, σ)
  | l, σ, k + 1 => if deadB σ = true then (13, σ) else linesE (l + 1) (lineD σ l) k
theorem linesE_dead {l k : Nat} {σ : Ds} (h : deadB σ = true) : linesE l σ (k + 1) = (13, σ) := by unfold linesE; rw [if_pos h]
theorem linesE_live {l k : Nat} {σ : Ds} (h : deadB σ = false) : linesE l σ (k + 1) = linesE (l + 1) (lineD σ l) k := by
  show (if deadB σ = true then (13, σ) else linesE (l + 1) (lineD σ l) k) = _
  rw [if_neg (by rw [h]; simp)]
theorem lineD_rest (σ : Ds) (l : Nat) : (lineD σ l).steps = σ.steps + 1 ∧ (lineD σ l).armed = σ.armed ∧ (lineD σ l).ws.length = σ.ws.length := by
  obtain ⟨h1, h2, _, h4, _⟩ := flushK_rest (stepD σ) (8 * l) 8
  exact ⟨h1, h2, h4⟩
/-- A store; the stores from the word k on, rising, until the device dies. -/
def storeD (σ : Ds) (k : Nat) (x : BitVec 64) : Ds := match σ.ws[k]? with | some w => setD (stepD σ) k (pushW w x) | none => σ
def storesE : Nat → Ds → List (BitVec 64) → Int × Ds
  | _, σ, [] => (0, σ)
  | k, σ, x :: l => if deadB σ = true then (13, σ) else storesE (k + 1) (storeD σ k x) l
theorem storesE_dead {k : Nat} {σ : Ds} {x : BitVec 64} {l : List (BitVec 64)} (h : deadB σ = true) : storesE k σ (x :: l) = (13, σ) := by unfold storesE; rw [if_pos h]
theorem storesE_live {k : Nat} {σ : Ds} {x : BitVec 64} {l : List (BitVec 64)} (h : deadB σ = false) : storesE k σ (x :: l) = storesE (k + 1) (storeD σ k x) l := by
  show (if deadB σ = true then (13, σ) else storesE (k + 1) (storeD σ k x) l) = _
  rw [if_neg (by rw [h]; simp)]
theorem storeD_some {σ : Ds} {k : Nat} {x : BitVec 64} {w : Wd} (h : σ.ws[k]? = some w) : storeD σ k x = setD (stepD σ) k (pushW w x) := by unfold storeD; rw [h]
theorem storeD_rest {σ : Ds} {k : Nat} (x : BitVec 64) (h : k < σ.ws.length) : (storeD σ k x).steps = σ.steps + 1 ∧ (storeD σ k x).armed = σ.armed ∧ (storeD σ k x).ws.length = σ.ws.length := by
  rw [storeD_some (List.getElem?_eq_getElem h)]
  exact ⟨rfl, rfl, by simp [setD, stepD]⟩
def cntP (a n cnt : Nat) : Prop := (n = 0 → cnt = 0) ∧ (0 < n → cnt = (a + n - 1) / 64 + 1 - a / 64)
def cntL (a n : Nat) : Nat := if n = 0 then 0 else (a + n - 1) / 64 + 1 - a / 64
theorem cntL_P (a n : Nat) : cntP a n (cntL a n) := ⟨fun h => by unfold cntL; rw [if_pos h], fun h => by unfold cntL; rw [if_neg (by omega)]⟩
theorem drop_cons {l : List (BitVec 64)} {j : Nat} {x : BitVec 64} (h : l[j]? = some x) : l.drop j = x :: l.drop (j + 1) := by
  have hj := List.getElem?_eq_some_iff.1 h
  rw [List.drop_eq_getElem_cons hj.1, hj.2]
theorem place_at' {σ : Ds} {a : Int} (h0 : 0 ≤ a) (h1 : a < 8 * (σ.ws.length : Int)) (h8 : a % 8 = 0) : placeE σ a = 0 := by
  obtain ⟨k, rfl⟩ : ∃ k : Nat, a = 8 * (k : Int) := ⟨(a / 8).toNat, by omega⟩
  exact place_at (by omega)
theorem flushAll_d (p : Nat) (γ : Gh) (σ : Ds) (a n cnt : Nat) (w : World) (han : a + n ≤ 8 * σ.ws.length) (hct : cntP a n cnt) (hst : σ.steps + cnt ≤ 1099511627776) (hd : (Dev p γ σ).holds w) :
    DevU Tryz.prog 27 [.pointer (some ⟨p, 0, none⟩), .int .i64 (a : Int), .int .i64 (n : Int)] p γ σ (.int .i64 (linesE (a / 64) σ cnt).1) (linesE (a / 64) σ cnt).2 w := by
 refine enterVc hd Tryz.func27 rfl Tryz.ntmps27 rfl ?_
 have hgd := Dev.good hd
 have hln := hgd.len
 obtain ⟨hc0, hc1⟩ := hct
 simp only [envOf]
 refine tR ?_
 refine tA rfl rfl ?_
 refine tE ?_
 refine At.seq ?_
 refine tR ?_
 refine tM rfl rfl ?_
 refine tM rfl rfl ?_
 refine tM rfl rfl ?_
 refine At.callK 0 rfl (fun w hw hr => has_k _ _ _ _ _ w hr) Tryz.call77 rfl rfl ?_
 refine At.val (Val.not rfl) rfl rfl rfl ?_
 refine tE ?_
 refine At.cond rfl (fun h1 => ?_) (fun h1 => ?_)
 ·skip
  try simp only [hasB, isSizeB, Bool.not_eq_true', Bool.not_eq_false', bne_iff_ne, ne_eq, bne_eq_false_iff_eq, beq_iff_eq, beq_eq_false_iff_ne, decide_eq_true_eq, decide_eq_false_iff_not, gt_iff_lt, ge_iff_le] at h1
  omega
 ·skip
  try simp only [hasB, isSizeB, Bool.not_eq_true', Bool.not_eq_false', bne_iff_ne, ne_eq, bne_eq_false_iff_eq, beq_iff_eq, beq_eq_false_iff_ne, decide_eq_true_eq, decide_eq_false_iff_not, gt_iff_lt, ge_iff_le] at h1
  refine At.skipC ?_
  refine At.thenN ?_
  refine At.seq ?_
  refine tR ?_
  refine tM rfl rfl ?_
  refine tM rfl rfl ?_
  first | refine At.val (Val.remI rfl rfl (by omega) (by decide)) rfl rfl rfl ?_ | refine At.val (Val.rem rfl rfl (by decide)) rfl rfl rfl ?_
  first | refine At.val (Val.subI rfl rfl (by omega) (by omega)) rfl rfl rfl ?_ | refine At.val (Val.bin rfl rfl rfl) rfl rfl rfl ?_
  refine tA rfl rfl ?_
  refine tE ?_
  refine At.block ?_
  skip
  refine At.loop (σ := (Nat × Ds) × Gh) (fun s => s.1.1 ≤ cnt ∧ linesE (a / 64) σ cnt = linesE (a / 64 + s.1.1) s.1.2 (cnt - s.1.1) ∧ s.1.2.ws.length = σ.ws.length ∧ s.1.2.steps = σ.steps + s.1.1) (fun s => [(0, .pointer (some ⟨p, 0, none⟩)), (1, .int .i64 (a : Int)), (2, .int .i64 (n : Int)), (7, .int .i64 (64 * (((a / 64 : Nat) : Int) + (s.1.1 : Int))))]) (fun s => [Dev p s.2 s.1.2]) (fun s => cnt - s.1.1) ((0, σ), γ) ⟨Nat.zero_le _, rfl, rfl, rfl⟩ (Sub.cons rfl (Sub.cons rfl (Sub.cons rfl (Sub.cons (congrArg (fun z => some (Value.int IntKind.i64 z)) (by dsimp only; omega)) Sub.nil)))) (List.Perm.refl _) ?_
  intro s hs
  obtain ⟨⟨j, σ1⟩, γ1⟩ := s
  dsimp only at hs ⊢
  obtain ⟨hj, he, hl1, hs1⟩ := hs
  refine At.seq ?_
  refine tR ?_
  refine tM rfl rfl ?_
  refine tM rfl rfl ?_
  refine tM rfl rfl ?_
  first | refine At.val (Val.addI rfl rfl (by omega) (by omega)) rfl rfl rfl ?_ | refine At.val (Val.bin rfl rfl rfl) rfl rfl rfl ?_
  refine At.val (Val.bin rfl rfl rfl) rfl rfl rfl ?_
  refine At.weaken [(0, _), (1, _), (2, _), (7, _), (22, _)] (Sub.cons rfl (Sub.cons rfl (Sub.cons rfl (Sub.cons rfl (Sub.cons rfl Sub.nil))))) ?_
  refine At.boolMeet 4 26 (decide (j < cnt)) ?_ ?_
  ·skip
   simp only [List.take_succ_cons, List.take_zero]
   refine tM rfl rfl ?_
   refine At.split (t := 23) rfl (fun h2 => ?_) (fun h2 => ?_)
   ·skip
    try simp only [hasB, isSizeB, Bool.not_eq_true', Bool.not_eq_false', bne_iff_ne, ne_eq, bne_eq_false_iff_eq, beq_iff_eq, beq_eq_false_iff_ne, decide_eq_true_eq, decide_eq_false_iff_not, gt_iff_lt, ge_iff_le] at h2
    refine At.yes rfl rfl ?_
    refine tM rfl rfl ?_
    refine At.yes rfl rfl ?_
    refine At.val (Val.bin rfl rfl rfl) rfl rfl rfl ?_
    refine At.val (Val.pickT rfl rfl) rfl rfl rfl ?_
    refine At.nil ?_
    exact At.boolEnd rfl (by apply Bool.eq_iff_iff.2; (simp only [decide_eq_true_eq, Bool.false_eq_true, false_iff, true_iff, gt_iff_lt, ge_iff_le]) <;> omega) (by repeat (first | exact Sub.nil | refine Sub.cons rfl ?_))
   ·skip
    try simp only [hasB, isSizeB, Bool.not_eq_true', Bool.not_eq_false', bne_iff_ne, ne_eq, bne_eq_false_iff_eq, beq_iff_eq, beq_eq_false_iff_ne, decide_eq_true_eq, decide_eq_false_iff_not, gt_iff_lt, ge_iff_le] at h2
    refine At.no rfl rfl rfl rfl ?_
    refine At.no rfl rfl rfl rfl ?_
    refine At.val (Val.pickF rfl rfl) rfl rfl rfl ?_
    refine At.nil ?_
    exact At.boolEnd rfl (by apply Bool.eq_iff_iff.2; (simp only [decide_eq_true_eq, Bool.false_eq_true, false_iff, true_iff, gt_iff_lt, ge_iff_le]) <;> omega) (by repeat (first | exact Sub.nil | refine Sub.cons rfl ?_))
  ·skip
   simp only [List.drop_succ_cons, List.drop_zero]
   refine tE ?_
   refine At.cond rfl (fun h3 => ?_) (fun h3 => ?_)
   ·skip
    try simp only [hasB, isSizeB, Bool.not_eq_true', Bool.not_eq_false', bne_iff_ne, ne_eq, bne_eq_false_iff_eq, beq_iff_eq, beq_eq_false_iff_ne, decide_eq_true_eq, decide_eq_false_iff_not, gt_iff_lt, ge_iff_le] at h3
    refine At.skipC ?_
    refine At.thenN ?_
    refine At.seq ?_
    refine At.block ?_
    refine tR ?_
    refine tM rfl rfl ?_
    refine tM rfl rfl ?_
    cases hdb : deadB σ1
    ·skip
     refine At.callD 0 rfl (fun w hw hr => flush_d _ _ _ (64 * ((a / 64 : Nat) + j)) (8 * (a / 64 + j)) w (by omega) (by omega) (by omega) (by omega) hdb hr) Tryz.call78 rfl rfl (fun y4 => ?_)
     simp only [sc0, scS]
     refine tA rfl rfl ?_
     refine tE ?_
     refine tR ?_
     refine tM rfl rfl ?_
     refine At.val (Val.bin rfl rfl rfl) rfl rfl rfl ?_
     refine tE ?_
     refine At.condF rfl ?_
     refine At.skipC ?_
     refine At.blkN ?_
     refine At.thenN ?_
     refine At.region ?_
     refine tM rfl rfl ?_
     first | refine At.val (Val.addI rfl rfl (by omega) (by omega)) rfl rfl rfl ?_ | refine At.val (Val.bin rfl rfl rfl) rfl rfl rfl ?_
     refine tA rfl rfl ?_
     refine tE ?_
     exact At.again ((j + 1, lineD σ1 (a / 64 + j)), y4) ⟨(show j + 1 ≤ cnt by omega), (by rw [he, show cnt - j = (cnt - (j + 1)) + 1 by omega, linesE_live hdb]; rfl), (lineD_rest σ1 _).2.2.trans hl1, (show (lineD σ1 (a / 64 + j)).steps = σ.steps + (j + 1) by have := (lineD_rest σ1 (a / 64 + j)).1; omega)⟩ (by dsimp only; omega) (Sub.cons rfl (Sub.cons rfl (Sub.cons rfl (Sub.cons (congrArg (fun z => some (Value.int IntKind.i64 z)) (by dsimp only; omega)) Sub.nil)))) (List.Perm.refl _)
    ·skip
     refine At.callK 0 rfl (fun w hw hr => flush_0 _ _ _ _ w (by omega) (by omega) hdb hr) Tryz.call78 rfl rfl ?_
     refine tA rfl rfl ?_
     refine tE ?_
     refine tR ?_
     refine tM rfl rfl ?_
     refine At.val (Val.bin rfl rfl rfl) rfl rfl rfl ?_
     refine tE ?_
     refine At.condT rfl ?_
     refine tR ?_
     refine tM rfl rfl ?_
     refine tA rfl rfl ?_
     refine tE ?_
     refine At.retC ?_
     refine At.blkR ?_
     refine At.thenR ?_
     refine At.thenR ?_
     refine At.blkR ?_
     refine At.thenR ?_
     refine At.ret1 (.inl rfl) rfl rfl rfl (fun w hw => ?_)
     rw [he, show cnt - j = (cnt - j - 1) + 1 by omega, linesE_dead hdb]
     exact ⟨_, rfl, hw⟩
   ·skip
    try simp only [hasB, isSizeB, Bool.not_eq_true', Bool.not_eq_false', bne_iff_ne, ne_eq, bne_eq_false_iff_eq, beq_iff_eq, beq_eq_false_iff_ne, decide_eq_true_eq, decide_eq_false_iff_not, gt_iff_lt, ge_iff_le] at h3
    refine At.exitC ?_
    refine At.thenX ?_
    refine At.thenX ?_
    refine At.blkX ?_
    refine At.thenN ?_
    refine tR ?_
    refine tA rfl rfl ?_
    refine tE ?_
    refine At.retC ?_
    refine At.ret1 (.inl rfl) rfl rfl rfl (fun w hw => ?_)
    rw [he, show cnt - j = 0 by omega]
    exact ⟨_, rfl, hw⟩
theorem flushAll_no (p : Nat) (γ : Gh) (σ : Ds) (a n : Int) (w : World) (ha : hasB σ a n = false) (hd : (Dev p γ σ).holds w) :
    Upd Tryz.prog 27 [.pointer (some ⟨p, 0, none⟩), .int .i64 a, .int .i64 n] (Dev p γ σ) (.int .i64 11) (Dev p γ σ) w := by
 refine enterVc hd Tryz.func27 rfl Tryz.ntmps27 rfl ?_
 have hgd := Dev.good hd
 simp only [envOf]
 refine tR ?_
 refine tA rfl rfl ?_
 refine tE ?_
 refine At.seq ?_
 refine tR ?_
 refine tM rfl rfl ?_
 refine tM rfl rfl ?_
 refine tM rfl rfl ?_
 refine At.callK 0 rfl (fun w hw hr => has_k _ _ _ _ _ w hr) Tryz.call77 rfl rfl ?_
 refine At.val (Val.not rfl) rfl rfl rfl ?_
 refine tE ?_
 refine At.cond rfl (fun h1 => ?_) (fun h1 => ?_)
 ·skip
  refine tR ?_
  refine tA rfl rfl ?_
  refine tE ?_
  refine At.retC ?_
  refine At.thenR ?_
  refine At.ret1 (.inl rfl) rfl rfl rfl (fun w hw => ?_)
  exact ⟨rfl, hw⟩
 ·skip
  rw [ha] at h1; cases h1
end Go.Proofs.YthhkbbodhghmcaaGreatDoor
namespace Go.Proofs.YthhkbbodhghmcaaGreatDoor
open Go Go.Shelf Go.Sort Go.RowKit Go.Proofs
def sort_ren : Go.Shelf.Ren := ⟨fun | 125 => 124 | 128 => 134 | 129 => 135 | 189 => 106 | 215 => 141 | 216 => 131 | 257 => 123 | 294 => 125 | 295 => 126 | 296 => 127 | 297 => 128 | 298 => 129 | 299 => 130 | 300 => 132 | 301 => 133 | 328 => 136 | 329 => 137 | 330 => 138 | 331 => 139 | 332 => 140 | 343 => 142 | n => n, fun | 0 => 0 | 3 => 3 | 4 => 4 | 5 => 5 | 9 => 9 | 28 => 36 | 46 => 123 | 51 => 76 | 53 => 32 | 131 => 172 | 182 => 167 | 183 => 168 | 218 => 176 | 222 => 180 | 228 => 182 | 229 => 183 | n => n, fun n => n⟩
theorem sort_lays : Lays.n189 Tryz.prog sort_ren := {
  mixed := by kernel_rfl
  f125 := Tryz.func124.trans (congrArg some (by kernel_rfl))
  f128 := Tryz.func134.trans (congrArg some (by kernel_rfl))
  f129 := Tryz.func135.trans (congrArg some (by kernel_rfl))
  f189 := Tryz.func106.trans (congrArg some (by kernel_rfl))
  f215 := Tryz.func141.trans (congrArg some (by kernel_rfl))
  f216 := Tryz.func131.trans (congrArg some (by kernel_rfl))
  f257 := Tryz.func123.trans (congrArg some (by kernel_rfl))
  f294 := Tryz.func125.trans (congrArg some (by kernel_rfl))
  f295 := Tryz.func126.trans (congrArg some (by kernel_rfl))
  f296 := Tryz.func127.trans (congrArg some (by kernel_rfl))
  f297 := Tryz.func128.trans (congrArg some (by kernel_rfl))
  f298 := Tryz.func129.trans (congrArg some (by kernel_rfl))
  f299 := Tryz.func130.trans (congrArg some (by kernel_rfl))
  f300 := Tryz.func132.trans (congrArg some (by kernel_rfl))
  f301 := Tryz.func133.trans (congrArg some (by kernel_rfl))
  f328 := Tryz.func136.trans (congrArg some (by kernel_rfl))
  f329 := Tryz.func137.trans (congrArg some (by kernel_rfl))
  f330 := Tryz.func138.trans (congrArg some (by kernel_rfl))
  f331 := Tryz.func139.trans (congrArg some (by kernel_rfl))
  f332 := Tryz.func140.trans (congrArg some (by kernel_rfl))
  f343 := Tryz.func142.trans (congrArg some (by kernel_rfl))
  t0 := Tryz.underlying0
  a0 := Tryz.isAgg0
  z0 := Tryz.sizeOf0
  v0 := Tryz.zeroValue0
  t3 := Tryz.underlying3
  a3 := Tryz.isAgg3
  z3 := Tryz.sizeOf3
  v3 := Tryz.zeroValue3
  t4 := Tryz.underlying4
  a4 := Tryz.isAgg4
  z4 := Tryz.sizeOf4
  v4 := Tryz.zeroValue4
  t5 := Tryz.underlying5
  a5 := Tryz.isAgg5
  z5 := Tryz.sizeOf5
  v5 := Tryz.zeroValue5
  t9 := Tryz.underlying9
  a9 := Tryz.isAgg9
  z9 := Tryz.sizeOf9
  v9 := Tryz.zeroValue9
  t28 := Tryz.underlying36
  a28 := Tryz.isAgg36
  z28 := Tryz.sizeOf36
  v28 := Tryz.zeroValue36
  t46 := Tryz.underlying123
  a46 := Tryz.isAgg123
  z46 := Tryz.sizeOf123
  v46 := Tryz.zeroValue123
  t51 := Tryz.underlying76
  a51 := Tryz.isAgg76
  z51 := Tryz.sizeOf76
  v51 := Tryz.zeroValue76
  t53 := Tryz.underlying32
  a53 := Tryz.isAgg32
  z53 := Tryz.sizeOf32
  v53 := Tryz.zeroValue32
  t131 := Tryz.underlying172
  a131 := Tryz.isAgg172
  z131 := Tryz.sizeOf172
  v131 := Tryz.zeroValue172
  t182 := Tryz.underlying167
  a182 := Tryz.isAgg167
  z182 := Tryz.sizeOf167
  v182 := Tryz.zeroValue167
  t183 := Tryz.underlying168
  a183 := Tryz.isAgg168
  z183 := Tryz.sizeOf168
  v183 := Tryz.zeroValue168
  t218 := Tryz.underlying176
  a218 := Tryz.isAgg176
  z218 := Tryz.sizeOf176
  v218 := Tryz.zeroValue176
  t222 := Tryz.underlying180
  a222 := Tryz.isAgg180
  z222 := Tryz.sizeOf180
  v222 := Tryz.zeroValue180
  t228 := Tryz.underlying182
  a228 := Tryz.isAgg182
  z228 := Tryz.sizeOf182
  v228 := Tryz.zeroValue182
  t229 := Tryz.underlying183
  a229 := Tryz.isAgg183
  z229 := Tryz.sizeOf183
  v229 := Tryz.zeroValue183 }
theorem sort_ints (blk off cap : Nat) (zs : List Int) (w : World) (hH : Holds (Value.int .i64) w blk off zs.toArray) (hblk : blk < w.heap.size) (hsz : zs.length < 4611686018427387904) :
    Calls Tryz.prog 106 #[.slice (some ⟨blk, off, none⟩) zs.length cap] w fun e w' =>
      e = .returned (.tuple #[]) ∧ ∃ n os, w' = grow (putRow (Value.int .i64) (Sort.ahead w n) blk off (zs.mergeSort fun x y => decide (x ≤ y)).toArray) os :=
  Any.slices_Sort_int sort_lays blk off cap zs w hH hblk hsz
theorem bits_len (x : Int) (w : World) (h0 : 0 ≤ x) (h1 : x ≤ 18446744073709551615) : Calls Tryz.prog 124 #[.int .u64 x] w fun e w' => e = .returned (.int .i64 (Lib.bitLen x.toNat)) ∧ w' = w :=
  Go.calls_of_every_depth fun D => AnyS.bits_LenIn { sort_lays with } D x w h0 h1
end Go.Proofs.YthhkbbodhghmcaaGreatDoor
