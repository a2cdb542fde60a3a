/- Lines spoilt; good values made. -/
import Derived.Test.YtoiebgnmknbkjaaDoorB18
import Derived.Test.YtoiebgnmknbkjaaDoorB12
import Derived.Test.YtoiebgnmknbkjaaDoorB11
import Derived.Test.YtoiebgnmknbkjaaDoorB3
import Derived.Test.YtoiebgnmknbkjaaDoorPa
import Derived.Test.YtoiebgnmknbkjaaDoorWv
set_option linter.unusedVariables false
set_option linter.unusedSimpArgs false
namespace Go.Proofs.YtoiebgnmknbkjaaDoor
open Go Go.Wk
theorem spoilt_n (v : Value) (l : List UInt8) (p : Int) (F : BitVec 32) (lo hi : Int) (w : World) (hv : RdB w v l) (hlen : l.length ≤ 1000000) (h0 : 0 ≤ lo) (h1 : lo + 32 ≤ hi) (h2 : hi ≤ 8 * l.length) :
    NewRow Tryd.prog 39 [v, .agg #[.int .i64 p, b32 F], .int .i64 lo, .int .i64 hi] 5 1 (spoilL l (lo + p % (hi - 32 - lo + 1)).toNat F.toNat).length ((spoilL l (lo + p % (hi - 32 - lo + 1)).toNat F.toNat).map bv) w := by
  refine enter (feet []) [] Tryd.func39 rfl Tryd.ntmps39 rfl ⟨by simp, by simp, by simp, Mod.refl _ _⟩ ?_
  have hm0 := Int.emod_nonneg p (show hi - 32 - lo + 1 ≠ 0 by omega)
  have hm1 := Int.emod_lt_of_pos p (show 0 < hi - 32 - lo + 1 by omega)
  obtain ⟨a, ha⟩ : ∃ a : Nat, lo + p % (hi - 32 - lo + 1) = (a : Int) := ⟨(lo + p % (hi - 32 - lo + 1)).toNat, by omega⟩
  rw [show (lo + p % (hi - 32 - lo + 1)).toNat = a from by rw [ha]; rfl]
  simp only [envOf]
  refine At.seq ?_
  refine At.region ?_
  refine At.box rfl rfl rfl (fun b1 => ?_)
  refine At.val (Val.assign rfl) rfl rfl rfl ?_
  refine At.nil ?_
  refine At.thenN ?_
  refine At.seq ?_
  refine At.region ?_
  refine At.val (Val.move rfl) rfl rfl rfl ?_
  refine At.callN (fun w hw => copyBytes_n v l w (hv.mod (hw.mod.mono (fun b hb => by simp [feet] at hb))) (by omega)) Tryd.call33 rfl rfl (fun v2 => ?_)
  refine At.val (Val.assign rfl) rfl rfl rfl ?_
  refine At.nil ?_
  refine At.thenN ?_
  refine At.seq ?_
  refine At.region ?_
  refine At.val (Val.move rfl) rfl rfl rfl ?_
  refine At.val (Val.field 0 rfl fo_50_0 rfl) rfl rfl rfl ?_
  refine At.val (Val.load (i := 1) Tryd.isAgg3 rfl rfl rfl) rfl rfl rfl ?_
  refine At.val (Val.move rfl) rfl rfl rfl ?_
  first | refine At.val (Val.subI rfl rfl (by omega) (by omega)) rfl rfl rfl ?_ | refine At.val (Val.bin rfl rfl rfl) rfl rfl rfl ?_
  refine At.val (Val.move rfl) rfl rfl rfl ?_
  first | refine At.val (Val.subI rfl rfl (by omega) (by omega)) rfl rfl rfl ?_ | refine At.val (Val.bin rfl rfl rfl) rfl rfl rfl ?_
  first | refine At.val (Val.addI rfl rfl (by omega) (by omega)) rfl rfl rfl ?_ | refine At.val (Val.bin rfl rfl rfl) rfl rfl rfl ?_
  refine At.callP (fun w hw => mod_p _ _ w (by omega) (by omega)) Tryd.call32 rfl rfl ?_
  first | refine At.val (Val.addI rfl rfl (by omega) (by omega)) rfl rfl rfl ?_ | refine At.val (Val.bin rfl rfl rfl) rfl rfl rfl ?_
  refine At.val (Val.assign rfl) rfl rfl rfl ?_
  refine At.nil ?_
  rw [ha]
  refine At.thenN ?_
  refine At.seq ?_
  refine At.seq ?_
  refine At.region ?_
  refine At.val (Val.assign rfl) rfl rfl rfl ?_
  refine At.nil ?_
  refine At.thenN ?_
  refine At.block ?_
  skip
  refine At.loop (σ := Nat) (fun i => i ≤ 32) (fun i => [(5, .pointer (some ⟨b1, 0, none⟩)), (9, v2), (10, .int .i64 (a : Int)), (11, .int .i64 (i : Int))]) (fun i => [rowR v2 5 1 ((spoilL l a (F.toNat % 2 ^ i)).length) ((spoilL l a (F.toNat % 2 ^ i)).map bv), blk b1 50 ([.int .i64 p, b32 F])]) (fun i => 32 - i) 0 (by omega) (Sub.cons rfl (Sub.cons rfl (Sub.cons rfl (Sub.cons rfl Sub.nil)))) (by rw [spoil_none]) ?_
  intro i hs
  refine At.seq ?_
  refine At.seq ?_
  refine At.region ?_
  refine At.val (Val.move rfl) rfl rfl rfl ?_
  refine At.val (Val.bin rfl rfl rfl) rfl rfl rfl ?_
  refine At.nil ?_
  refine At.thenN ?_
  refine At.cond rfl (fun h3 => ?_) (fun h3 => ?_)
  · skip
    try simp only [vN_T, vN_F, nmE_T, nmE_F, wI_T, wI_F, data_T, data_F, ino_T, ino_F, notT, notF, bneT, bneF, beqT, beqF, decT, decF] at h3
    have hi32 : i < 32 := by omega
    have hsl := spoilL_length l a (F.toNat % 2 ^ i)
    have e8 : (((a : Int) + (i : Int)) / 8).toNat = (a + i) / 8 := by omega
    refine At.skipC ?_
    refine At.thenN ?_
    refine At.seq ?_
    refine At.block ?_
    refine At.seq ?_
    refine At.region ?_
    refine At.val (Val.field 1 rfl fo_50_1 rfl) rfl rfl rfl ?_
    refine At.val (Val.load (i := 1) Tryd.isAgg48 rfl rfl rfl) rfl rfl rfl ?_
    refine At.val (Val.move rfl) rfl rfl rfl ?_
    first | refine At.val (Val.toU Tryd.underlying3 Tryd.underlying52 rfl (by omega) (by omega)) rfl rfl rfl ?_ | refine At.val (Val.conv Tryd.underlying3 Tryd.underlying52 rfl) rfl rfl rfl ?_
    refine At.val (Val.shr rfl rfl (by omega)) rfl rfl rfl ?_
    rw [show ((F.toNat : Nat) : Int).fdiv (2 ^ min ((i : Nat) : Int).toNat IntKind.u32.bits) = ((F >>> i).toNat : Int) from by rw [Int.toNat_natCast]; exact shr32 F i (by omega)]
    refine At.val (Val.bin rfl rfl rfl) rfl rfl rfl ?_
    rw [and1]
    refine At.val (Val.bin rfl rfl rfl) rfl rfl rfl ?_
    refine At.nil ?_
    refine At.thenN ?_
    refine At.cond rfl (fun h4 => ?_) (fun h4 => ?_)
    · skip
      try simp only [vN_T, vN_F, nmE_T, nmE_F, wI_T, wI_F, data_T, data_F, ino_T, ino_F, notT, notF, bneT, bneF, beqT, beqF, decT, decF] at h4
      have hb : F.toNat.testBit i = true := (bit_at F).1 h4
      refine At.region ?_
      refine At.val (Val.move rfl) rfl rfl rfl ?_
      refine At.val (Val.move rfl) rfl rfl rfl ?_
      refine At.val (Val.move rfl) rfl rfl rfl ?_
      first | refine At.val (Val.addI rfl rfl (by omega) (by omega)) rfl rfl rfl ?_ | refine At.val (Val.bin rfl rfl rfl) rfl rfl rfl ?_
      first | refine At.val (Val.quoI rfl rfl (by omega) (by omega) (by decide)) rfl rfl rfl ?_ | refine At.val (Val.quo rfl rfl (by decide)) rfl rfl rfl ?_
      refine At.idxRowB (i := 0) rfl Tryd.underlying54 Tryd.sizeOf5 rfl rfl (by omega) (by omega) rfl rfl (fun q5 hq6 hl7 => ?_)
      refine At.val (Val.loadRowB (i := 0) Tryd.isAgg5 rfl rfl hq6) rfl rfl rfl ?_
      refine At.val (Val.move rfl) rfl rfl rfl ?_
      refine At.val (Val.move rfl) rfl rfl rfl ?_
      first | refine At.val (Val.addI rfl rfl (by omega) (by omega)) rfl rfl rfl ?_ | refine At.val (Val.bin rfl rfl rfl) rfl rfl rfl ?_
      first | refine At.val (Val.remI rfl rfl (by omega) (by decide)) rfl rfl rfl ?_ | refine At.val (Val.rem rfl rfl (by decide)) rfl rfl rfl ?_
      first | refine At.val (Val.toU Tryd.underlying3 Tryd.underlying52 rfl (by omega) (by omega)) rfl rfl rfl ?_ | refine At.val (Val.conv Tryd.underlying3 Tryd.underlying52 rfl) rfl rfl rfl ?_
      refine At.val (Val.shl rfl rfl (by omega)) rfl rfl rfl ?_
      refine At.val (Val.bin rfl rfl rfl) rfl rfl rfl ?_
      rw [show ib .xor .u8 (q5.toNat : Int) (IntKind.u8.wrap (1 * 2 ^ min ((((a : Int) + (i : Int)) % 8).toNat) IntKind.u8.bits)) = ((UInt8.ofNat (q5.toNat ^^^ (1 <<< ((a + i) % 8)))).toNat : Int) from by rw [show (((a : Int) + (i : Int)) % 8).toNat = (a + i) % 8 from by omega]; exact flip_byte q5 (by omega)]
      refine At.idxRowB (i := 0) rfl Tryd.underlying54 Tryd.sizeOf5 rfl rfl (by omega) (by omega) rfl rfl (fun q8 hq9 hl10 => ?_)
      refine At.storeRowB (i := 0) Tryd.sizeOf5 rfl rfl rfl (by omega) ?_
      simp only [List.set_cons_zero, List.set_cons_succ]
      have hq' := hq6
      rw [e8] at hq'
      rw [e8, spoil_step1 hb hq']
      refine At.nil ?_
      refine At.blkN ?_
      refine At.thenN ?_
      refine At.region ?_
      refine At.val (Val.move rfl) rfl rfl rfl ?_
      first | refine At.val (Val.addI rfl rfl (by omega) (by omega)) rfl rfl rfl ?_ | refine At.val (Val.bin rfl rfl rfl) rfl rfl rfl ?_
      refine At.val (Val.assign rfl) rfl rfl rfl ?_
      refine At.nil ?_
      refine At.thenN ?_
      exact At.again (i + 1) (by omega) (by omega) (Sub.cons rfl (Sub.cons rfl (Sub.cons rfl (Sub.cons (congrArg (fun z => some (Value.int IntKind.i64 z)) (by omega)) Sub.nil)))) (List.Perm.refl _)
    · skip
      try simp only [vN_T, vN_F, nmE_T, nmE_F, wI_T, wI_F, data_T, data_F, ino_T, ino_F, notT, notF, bneT, bneF, beqT, beqF, decT, decF] at h4
      have hb : F.toNat.testBit i = false := by rw [← Bool.not_eq_true, ← bit_at]; exact h4
      refine At.skipC ?_
      refine At.blkN ?_
      refine At.thenN ?_
      refine At.region ?_
      refine At.val (Val.move rfl) rfl rfl rfl ?_
      first | refine At.val (Val.addI rfl rfl (by omega) (by omega)) rfl rfl rfl ?_ | refine At.val (Val.bin rfl rfl rfl) rfl rfl rfl ?_
      refine At.val (Val.assign rfl) rfl rfl rfl ?_
      refine At.nil ?_
      refine At.thenN ?_
      exact At.again (i + 1) (by omega) (by omega) (Sub.cons rfl (Sub.cons rfl (Sub.cons rfl (Sub.cons (congrArg (fun z => some (Value.int IntKind.i64 z)) (by omega)) Sub.nil)))) (by rw [spoil_step0 hb])
  · skip
    try simp only [vN_T, vN_F, nmE_T, nmE_F, wI_T, wI_F, data_T, data_F, ino_T, ino_F, notT, notF, bneT, bneF, beqT, beqF, decT, decF] at h3
    obtain rfl : i = 32 := by omega
    rw [spoil_done F.isLt]
    refine At.exitC ?_
    refine At.thenX ?_
    refine At.thenX ?_
    refine At.blkX ?_
    refine At.thenN ?_
    refine At.seq ?_
    refine At.region ?_
    refine At.val (Val.move rfl) rfl rfl rfl ?_
    refine At.val (Val.assign rfl) rfl rfl rfl ?_
    refine At.nil ?_
    refine At.thenN ?_
    refine At.retC ?_
    refine At.ret1 (.inl rfl) rfl rfl rfl (fun w hw => ?_)
    exact ⟨_, rfl, hw.drop (List.singleton_sublist.2 (List.mem_of_getElem? (i := 0) rfl))⟩

theorem bytesOf_n (l : List UInt8) (w : World) (hl : l.length = 64) :
    NewRow Tryd.prog 38 [.agg (l.map bv).toArray] 5 1 l.length (l.map bv) w := by
  refine enter (feet []) [] Tryd.func38 rfl Tryd.ntmps38 rfl ⟨by simp, by simp, by simp, Mod.refl _ _⟩ ?_
  simp only [envOf]
  refine At.seq ?_
  refine At.region ?_
  refine At.box rfl rfl rfl (fun b1 => ?_)
  refine At.val (Val.assign rfl) rfl rfl rfl ?_
  refine At.nil ?_
  refine At.thenN ?_
  refine At.seq ?_
  refine At.region ?_
  refine At.val (Val.assign rfl) rfl rfl rfl ?_
  refine At.nil ?_
  refine At.rowNilB 5 ?_
  refine At.thenN ?_
  refine At.seq ?_
  refine At.seq ?_
  refine At.region ?_
  refine At.val (Val.assign rfl) rfl rfl rfl ?_
  refine At.nil ?_
  refine At.thenN ?_
  refine At.block ?_
  skip
  refine At.loop (σ := Nat × Value) (fun s => s.1 ≤ 64) (fun s => [(1, .pointer (some ⟨b1, 0, none⟩)), (3, s.2), (4, .int .i64 (s.1 : Int))]) (fun s => [brow 5 s.2 (l.take s.1), blk b1 30 (l.map bv)]) (fun s => 64 - s.1) (0, .slice none 0 0) (Nat.zero_le _) (Sub.cons rfl (Sub.cons rfl (Sub.cons rfl Sub.nil))) (by rw [List.take_zero]) ?_
  intro s hs
  obtain ⟨k, vk⟩ := s
  dsimp only at hs ⊢
  refine At.seq ?_
  refine At.seq ?_
  refine At.region ?_
  refine At.val (Val.move rfl) rfl rfl rfl ?_
  refine At.val (Val.bin rfl rfl rfl) rfl rfl rfl ?_
  refine At.nil ?_
  refine At.thenN ?_
  refine At.cond rfl (fun h2 => ?_) (fun h2 => ?_)
  · skip
    try simp only [vN_T, vN_F, nmE_T, nmE_F, wI_T, wI_F, data_T, data_F, ino_T, ino_F, notT, notF, bneT, bneF, beqT, beqF, decT, decF] at h2
    have hk : k < 64 := by omega
    obtain ⟨c, hc⟩ : ∃ c, l[k]? = some c := ⟨_, List.getElem?_eq_getElem (by omega)⟩
    have hkl : (l.take k).length = k := by rw [List.length_take]; omega
    refine At.skipC ?_
    refine At.thenN ?_
    refine At.seq ?_
    refine At.block ?_
    refine At.region ?_
    refine At.val (Val.move rfl) rfl rfl rfl ?_
    refine At.val (Val.move rfl) rfl rfl rfl ?_
    refine At.val (Val.indexArr k (by omega) Tryd.underlying30 Tryd.sizeOf5 rfl rfl (by omega) (by omega)) rfl rfl rfl ?_
    refine At.val (Val.load (i := 1) (v := bv c) Tryd.isAgg5 rfl rfl (by rw [List.getElem?_map, hc]; rfl)) rfl rfl rfl ?_
    refine At.buildSl (fun a ha => by simp only [List.map_toArray, List.map_cons, List.map_nil, ha.eval (x := (.tmp 12)) rfl]; try rfl) (bs_54_1 _ ) rfl (fun b3 => ?_)
    refine At.appendB1 (i := 1) (j := 0) (by_ := 1) Tryd.underlying54 info_5 rfl rfl rfl rfl rfl rfl rfl rfl (by omega) (by omega) rfl (fun v4 => ?_)
    simp only [List.set_cons_zero, List.set_cons_succ]
    refine At.drop 0 ?_
    simp only [List.eraseIdx_cons_zero, List.eraseIdx_cons_succ]
    refine At.val (Val.assign rfl) rfl rfl rfl ?_
    refine At.nil ?_
    refine At.blkN ?_
    refine At.thenN ?_
    refine At.region ?_
    refine At.val (Val.move rfl) rfl rfl rfl ?_
    first | refine At.val (Val.addI rfl rfl (by omega) (by omega)) rfl rfl rfl ?_ | refine At.val (Val.bin rfl rfl rfl) rfl rfl rfl ?_
    refine At.val (Val.assign rfl) rfl rfl rfl ?_
    refine At.nil ?_
    refine At.thenN ?_
    exact At.again (k + 1, v4) (show k + 1 ≤ 64 by omega) (by dsimp only; omega) (Sub.cons rfl (Sub.cons rfl (Sub.cons (congrArg (fun z => some (Value.int IntKind.i64 z)) (by omega)) Sub.nil))) (by rw [List.take_succ_of_get hc])
  · skip
    try simp only [vN_T, vN_F, nmE_T, nmE_F, wI_T, wI_F, data_T, data_F, ino_T, ino_F, notT, notF, bneT, bneF, beqT, beqF, decT, decF] at h2
    obtain rfl : k = 64 := by omega
    rw [List.take_of_length_le (by omega)]
    refine At.exitC ?_
    refine At.thenX ?_
    refine At.thenX ?_
    refine At.blkX ?_
    refine At.thenN ?_
    refine At.seq ?_
    refine At.region ?_
    refine At.val (Val.move rfl) rfl rfl rfl ?_
    refine At.val (Val.assign rfl) rfl rfl rfl ?_
    refine At.nil ?_
    refine At.thenN ?_
    refine At.retC ?_
    refine At.ret1 (.inl rfl) rfl rfl rfl (fun w hw => ?_)
    exact ⟨vk, rfl, hw.drop (List.singleton_sublist.2 (List.mem_of_getElem? (i := 0) rfl))⟩

theorem lineOf_p (v : Value) (l : List UInt8) (w : World) (hv : RdB w v l) (hl : l.length = 64) :
    PureC Tryd.prog 58 [v] (.agg (l.map bv).toArray) w := by
  refine enter0 Tryd.func58 rfl Tryd.ntmps58 rfl ?_
  simp only [envOf]
  refine At.seq ?_
  refine At.region ?_
  refine At.alloc zero_30 zc_30 rfl (fun b1 => ?_)
  refine At.nil ?_
  refine At.thenN ?_
  refine At.seq ?_
  refine At.region ?_
  refine At.alloc zero_30 zc_30 rfl (fun b2 => ?_)
  refine At.nil ?_
  refine At.thenN ?_
  refine At.seq ?_
  refine At.seq ?_
  refine At.region ?_
  refine At.val (Val.assign rfl) rfl rfl rfl ?_
  refine At.nil ?_
  refine At.thenN ?_
  refine At.block ?_
  skip
  refine At.loop (σ := Nat) (fun i => i ≤ 64) (fun i => [(0, v), (2, .pointer (some ⟨b1, 0, none⟩)), (3, .pointer (some ⟨b2, 0, none⟩)), (4, .int .i64 (i : Int))]) (fun i => [blk b2 30 ((fillTo l (zs 64) i).map bv), blk b1 30 (List.replicate 64 (Value.int .u8 0))]) (fun i => 64 - i) 0 (by omega) (Sub.cons rfl (Sub.cons rfl (Sub.cons rfl (Sub.cons rfl Sub.nil)))) (by rw [fillTo_zero, zs_bv]) ?_
  intro i hs
  refine At.seq ?_
  refine At.seq ?_
  refine At.region ?_
  refine At.val (Val.move rfl) rfl rfl rfl ?_
  refine At.val (Val.bin rfl rfl rfl) rfl rfl rfl ?_
  refine At.val (Val.move rfl) rfl rfl rfl ?_
  refine At.split (t := 7) rfl (fun h3 => ?_) (fun h3 => ?_)
  · skip
    try simp only [vN_T, vN_F, nmE_T, nmE_F, wI_T, wI_F, data_T, data_F, ino_T, ino_F, notT, notF, bneT, bneF, beqT, beqF, decT, decF] at h3
    refine At.yes rfl rfl ?_
    refine At.val (Val.move rfl) rfl rfl rfl ?_
    refine At.yes rfl rfl ?_
    refine At.val (Val.move rfl) rfl rfl rfl ?_
    refine At.yes rfl rfl ?_
    refine At.val (Val.lenRd hv Tryd.underlying54 rfl) rfl rfl rfl ?_
    refine At.yes rfl rfl ?_
    refine At.val (Val.bin rfl rfl rfl) rfl rfl rfl ?_
    refine At.val (Val.pickT rfl rfl) rfl rfl rfl ?_
    refine At.nil ?_
    refine At.thenN ?_
    refine At.cond rfl (fun h4 => ?_) (fun h4 => ?_)
    · skip
      try simp only [vN_T, vN_F, nmE_T, nmE_F, wI_T, wI_F, data_T, data_F, ino_T, ino_F, notT, notF, bneT, bneF, beqT, beqF, decT, decF] at h4
      have hk : i < 64 := by omega
      refine At.skipC ?_
      refine At.thenN ?_
      refine At.seq ?_
      refine At.block ?_
      refine At.region ?_
      refine At.val (Val.move rfl) rfl rfl rfl ?_
      refine At.val (Val.move rfl) rfl rfl rfl ?_
      refine At.val (Val.move rfl) rfl rfl rfl ?_
      refine At.idxB hv Tryd.underlying54 Tryd.sizeOf5 rfl rfl (by omega) (by omega) rfl rfl (fun b5 o6 q7 hq8 hl9 hc10 => ?_)
      refine At.val (Val.loadOld Tryd.isAgg5 rfl hc10 (fun h => h)) rfl rfl rfl ?_
      refine At.val (Val.indexArr i (by omega) Tryd.underlying30 Tryd.sizeOf5 rfl rfl (by omega) (by omega)) rfl rfl rfl ?_
      refine At.store (i := 0) (v := bv q7) Tryd.sizeOf5 rfl rfl rfl rfl (by rw [fill_len (by rw [hl, zs_length]), hl]; exact hk) ?_
      simp only [List.set_cons_zero, List.set_cons_succ]
      rw [fill_step (by have := hq8; rwa [Int.toNat_natCast] at this) (by rw [hl, zs_length])]
      refine At.nil ?_
      refine At.blkN ?_
      refine At.thenN ?_
      refine At.region ?_
      refine At.val (Val.move rfl) rfl rfl rfl ?_
      first | refine At.val (Val.addI rfl rfl (by omega) (by omega)) rfl rfl rfl ?_ | refine At.val (Val.bin rfl rfl rfl) rfl rfl rfl ?_
      refine At.val (Val.assign rfl) rfl rfl rfl ?_
      refine At.nil ?_
      refine At.thenN ?_
      exact At.again (i + 1) (by omega) (by omega) (Sub.cons rfl (Sub.cons rfl (Sub.cons rfl (Sub.cons (congrArg (fun z => some (Value.int IntKind.i64 z)) (by omega)) Sub.nil)))) (List.Perm.refl _)
    · skip
      try simp only [vN_T, vN_F, nmE_T, nmE_F, wI_T, wI_F, data_T, data_F, ino_T, ino_F, notT, notF, bneT, bneF, beqT, beqF, decT, decF] at h4
      obtain rfl : i = 64 := by omega
      rw [fillTo_all hl (zs_length 64)]
      refine At.exitC ?_
      refine At.thenX ?_
      refine At.thenX ?_
      refine At.blkX ?_
      refine At.thenN ?_
      refine At.seq ?_
      refine At.region ?_
      refine At.val (Val.loadAll (i := 0) Tryd.isAgg30 Tryd.sizeOf30 rfl rfl (by rw [List.length_map]; exact hl)) rfl rfl rfl ?_
      refine At.storeAll (i := 1) Tryd.sizeOf30 rfl rfl (by rw [List.length_map]; exact hl) (by simp [Value.oneCell']) rfl (by simp) ?_
      simp only [List.set_cons_zero, List.set_cons_succ]
      refine At.nil ?_
      refine At.thenN ?_
      refine At.retC ?_
      refine At.ret1 (.inl rfl) rfl rfl (ResOf.all (i := 1) Tryd.isAgg30 Tryd.sizeOf30 rfl rfl (by rw [List.length_map]; exact hl)) (fun w hw => ?_)
      exact ⟨rfl, hw.mod⟩
  · skip
    try simp only [vN_T, vN_F, nmE_T, nmE_F, wI_T, wI_F, data_T, data_F, ino_T, ino_F, notT, notF, bneT, bneF, beqT, beqF, decT, decF] at h3
    obtain rfl : i = 64 := by omega
    rw [fillTo_all hl (zs_length 64)]
    refine At.no rfl rfl rfl rfl ?_
    refine At.no rfl rfl rfl rfl ?_
    refine At.no rfl rfl rfl rfl ?_
    refine At.no rfl rfl rfl rfl ?_
    refine At.val (Val.pickF rfl rfl) rfl rfl rfl ?_
    refine At.nil ?_
    refine At.thenN ?_
    refine At.condF rfl ?_
    refine At.exitC ?_
    refine At.thenX ?_
    refine At.thenX ?_
    refine At.blkX ?_
    refine At.thenN ?_
    refine At.seq ?_
    refine At.region ?_
    refine At.val (Val.loadAll (i := 0) Tryd.isAgg30 Tryd.sizeOf30 rfl rfl (by rw [List.length_map]; exact hl)) rfl rfl rfl ?_
    refine At.storeAll (i := 1) Tryd.sizeOf30 rfl rfl (by rw [List.length_map]; exact hl) (by simp [Value.oneCell']) rfl (by simp) ?_
    simp only [List.set_cons_zero, List.set_cons_succ]
    refine At.nil ?_
    refine At.thenN ?_
    refine At.retC ?_
    refine At.ret1 (.inl rfl) rfl rfl (ResOf.all (i := 1) Tryd.isAgg30 Tryd.sizeOf30 rfl rfl (by rw [List.length_map]; exact hl)) (fun w hw => ?_)
    exact ⟨rfl, hw.mod⟩


def supI (i : Int) : Int := 8 + 8 * (i % 32)
def supC (c : Int) : Int := 1 + c % 8
def supL (i : Int) : Int := if 12 + supI i / 8 < 24 then 24 else 12 + supI i / 8
def supP (p i : Int) : Int := supL i + p % (1024 - supL i + 1)
theorem supL_T {i : Int} (h : 12 + supI i / 8 < 24) : supL i = 24 := if_pos h
theorem supL_F {i : Int} (h : ¬ 12 + supI i / 8 < 24) : supL i = 12 + supI i / 8 := if_neg h
theorem supI_bd (i : Int) : 8 ≤ supI i ∧ supI i ≤ 256 ∧ supI i % 8 = 0 := by unfold supI; omega
theorem supL_bd (i : Int) : 24 ≤ supL i ∧ supL i ≤ 44 ∧ 12 + supI i / 8 ≤ supL i := by have := supI_bd i; unfold supL; split <;> omega
theorem supP_bd (p i : Int) : supL i ≤ supP p i ∧ supP p i ≤ 1024 := by
  have := supL_bd i
  have h0 := Int.emod_nonneg p (show 1024 - supL i + 1 ≠ 0 by omega)
  have h1 := Int.emod_lt_of_pos p (show 0 < 1024 - supL i + 1 by omega)
  unfold supP; omega
theorem sup_good (p i c : Int) : GoodSup (supP p i) (supI i) (supC c) := by
  have := supI_bd i
  have := supL_bd i
  have := supP_bd p i
  unfold GoodSup supC; omega
def slK (k : Int) : Int := 1 + k % 2
def slL (k l : Int) : Int := if slK k = 1 then 1 + l % 100 else 1
def slH (h : Int) (e : Bool) : Int := if e then 0 else 5 + h % 1019
def slT (p q : Int) (e : Bool) : Int := if e then 0 else 512 * (5 + p % 1019) + 128 + 64 * (q % 7)
theorem slot_good (k l h p q : Int) (e : Bool) : GoodU (slK k) (slL k l) (slH h e) (slT p q e) := by
  have hk : slK k = 1 ∨ slK k = 2 := by unfold slK; omega
  have hl : (slK k = 1 → 1 ≤ slL k l ∧ slL k l ≤ 100) ∧ (slK k = 2 → slL k l = 1) := by
    constructor
    · intro h; unfold slL; rw [if_pos h]; omega
    · intro h; unfold slL; rw [if_neg (by omega)]
  cases e
  · have hh : slH h false = 5 + h % 1019 := rfl
    have ht : slT p q false = 512 * (5 + p % 1019) + 128 + 64 * (q % 7) := rfl
    unfold GoodU GoodT
    rw [hh, ht]
    omega
  · have hh : slH h true = 0 := rfl
    have ht : slT p q true = 0 := rfl
    unfold GoodU
    rw [hh, ht]
    omega

theorem super_p (p i c : Int) (w : World) :
    PureC Tryd.prog 37 [.int .i64 p, .int .i64 i, .int .i64 c] (.agg #[.int .i64 (supP p i), .int .i64 (supI i), .int .i64 (supC c)]) w := by
  refine enter0 Tryd.func37 rfl Tryd.ntmps37 rfl ?_
  have hI := supI_bd i
  have hL := supL_bd i
  have hi0 : supI i = 8 + 8 * (i % 32) := rfl
  have hc0 : supC c = 1 + c % 8 := rfl
  have hp0 : supP p i = supL i + p % (1024 - supL i + 1) := rfl
  have hP := supP_bd p i
  simp only [envOf]
  refine At.seq ?_
  refine At.region ?_
  refine At.alloc Tryd.zeroValue23 rfl rfl (fun b1 => ?_)
  refine At.nil ?_
  refine At.thenN ?_
  refine At.seq ?_
  refine At.region ?_
  refine At.val (Val.move rfl) rfl rfl rfl ?_
  refine At.callP (fun w hw => mod_p _ _ w (by omega) (by omega)) Tryd.call32 rfl rfl ?_
  first | refine At.val (Val.mulI rfl rfl (by omega) (by omega)) rfl rfl rfl ?_ | refine At.val (Val.bin rfl rfl rfl) rfl rfl rfl ?_
  first | refine At.val (Val.addI rfl rfl (by omega) (by omega)) rfl rfl rfl ?_ | refine At.val (Val.bin rfl rfl rfl) rfl rfl rfl ?_
  refine At.val (Val.move rfl) rfl rfl rfl ?_
  refine At.callP (fun w hw => mod_p _ _ w (by omega) (by omega)) Tryd.call32 rfl rfl ?_
  first | refine At.val (Val.addI rfl rfl (by omega) (by omega)) rfl rfl rfl ?_ | refine At.val (Val.bin rfl rfl rfl) rfl rfl rfl ?_
  refine At.val (Val.build (fun a ha => by simp only [List.map_toArray, List.map_cons, List.map_nil, ha.eval (x := (.tmp 12)) rfl, ha.eval (x := (.tmp 15)) rfl] <;> rfl) (bld_23_1_2 _ _ )) rfl rfl rfl ?_
  refine At.alloc Tryd.zeroValue23 rfl rfl (fun b2 => ?_)
  refine At.storeAll (i := 0) Tryd.sizeOf23 rfl rfl rfl (by simp [Value.oneCell']) rfl rfl ?_
  simp only [List.set_cons_zero, List.set_cons_succ]
  refine At.nil ?_
  rw [← hi0, ← hc0]
  refine At.thenN ?_
  refine At.seq ?_
  refine At.region ?_
  refine At.val (Val.field 1 rfl fo_23_1 rfl) rfl rfl rfl ?_
  refine At.val (Val.load (i := 0) Tryd.isAgg3 rfl rfl rfl) rfl rfl rfl ?_
  first | refine At.val (Val.quoI rfl rfl (by omega) (by omega) (by decide)) rfl rfl rfl ?_ | refine At.val (Val.quo rfl rfl (by decide)) rfl rfl rfl ?_
  first | refine At.val (Val.addI rfl rfl (by omega) (by omega)) rfl rfl rfl ?_ | refine At.val (Val.bin rfl rfl rfl) rfl rfl rfl ?_
  refine At.val (Val.assign rfl) rfl rfl rfl ?_
  refine At.nil ?_
  refine At.thenN ?_
  refine At.seq ?_
  refine At.seq ?_
  refine At.region ?_
  refine At.val (Val.move rfl) rfl rfl rfl ?_
  refine At.val (Val.bin rfl rfl rfl) rfl rfl rfl ?_
  refine At.nil ?_
  refine At.thenN ?_
  refine At.cond rfl (fun h3 => ?_) (fun h3 => ?_)
  · skip
    try simp only [vN_T, vN_F, nmE_T, nmE_F, wI_T, wI_F, data_T, data_F, ino_T, ino_F, notT, notF, bneT, bneF, beqT, beqF, decT, decF] at h3
    have hl0 : (24 : Int) = supL i := (supL_T (by omega)).symm
    refine At.region ?_
    refine At.val (Val.assign rfl) rfl rfl rfl ?_
    refine At.nil ?_
    refine At.thenN ?_
    refine At.seq ?_
    refine At.region ?_
    refine At.val (Val.move rfl) rfl rfl rfl ?_
    rw [hl0]
    refine At.val (Val.move rfl) rfl rfl rfl ?_
    refine At.val (Val.move rfl) rfl rfl rfl ?_
    try rw [hl0]
    first | refine At.val (Val.subI rfl rfl (by omega) (by omega)) rfl rfl rfl ?_ | refine At.val (Val.bin rfl rfl rfl) rfl rfl rfl ?_
    first | refine At.val (Val.addI rfl rfl (by omega) (by omega)) rfl rfl rfl ?_ | refine At.val (Val.bin rfl rfl rfl) rfl rfl rfl ?_
    refine At.callP (fun w hw => mod_p _ _ w (by omega) (by omega)) Tryd.call32 rfl rfl ?_
    refine At.val (Val.addI rfl rfl (by omega) (by omega)) rfl rfl rfl ?_
    rw [← hp0]
    refine At.val (Val.field 0 rfl fo_23_0 rfl) rfl rfl rfl ?_
    refine At.store (i := 0) Tryd.sizeOf3 rfl rfl rfl rfl (by first | decide | simp) ?_
    simp only [List.set_cons_zero, List.set_cons_succ]
    refine At.nil ?_
    refine At.thenN ?_
    refine At.seq ?_
    refine At.region ?_
    refine At.val (Val.loadAll (i := 0) Tryd.isAgg23 Tryd.sizeOf23 rfl rfl rfl) rfl rfl rfl ?_
    refine At.storeAll (i := 1) Tryd.sizeOf23 rfl rfl rfl (by simp [Value.oneCell']) rfl rfl ?_
    simp only [List.set_cons_zero, List.set_cons_succ]
    refine At.nil ?_
    refine At.thenN ?_
    refine At.retC ?_
    refine At.ret1 (.inl rfl) rfl rfl (ResOf.all (i := 1) Tryd.isAgg23 Tryd.sizeOf23 rfl rfl rfl) (fun w hw => ?_)
    exact ⟨rfl, hw.mod⟩
  · skip
    try simp only [vN_T, vN_F, nmE_T, nmE_F, wI_T, wI_F, data_T, data_F, ino_T, ino_F, notT, notF, bneT, bneF, beqT, beqF, decT, decF] at h3
    have hl0 : 12 + supI i / 8 = supL i := (supL_F (by omega)).symm
    refine At.skipC ?_
    refine At.thenN ?_
    refine At.seq ?_
    refine At.region ?_
    refine At.val (Val.move rfl) rfl rfl rfl ?_
    rw [hl0]
    refine At.val (Val.move rfl) rfl rfl rfl ?_
    refine At.val (Val.move rfl) rfl rfl rfl ?_
    try rw [hl0]
    first | refine At.val (Val.subI rfl rfl (by omega) (by omega)) rfl rfl rfl ?_ | refine At.val (Val.bin rfl rfl rfl) rfl rfl rfl ?_
    first | refine At.val (Val.addI rfl rfl (by omega) (by omega)) rfl rfl rfl ?_ | refine At.val (Val.bin rfl rfl rfl) rfl rfl rfl ?_
    refine At.callP (fun w hw => mod_p _ _ w (by omega) (by omega)) Tryd.call32 rfl rfl ?_
    refine At.val (Val.addI rfl rfl (by omega) (by omega)) rfl rfl rfl ?_
    rw [← hp0]
    refine At.val (Val.field 0 rfl fo_23_0 rfl) rfl rfl rfl ?_
    refine At.store (i := 0) Tryd.sizeOf3 rfl rfl rfl rfl (by first | decide | simp) ?_
    simp only [List.set_cons_zero, List.set_cons_succ]
    refine At.nil ?_
    refine At.thenN ?_
    refine At.seq ?_
    refine At.region ?_
    refine At.val (Val.loadAll (i := 0) Tryd.isAgg23 Tryd.sizeOf23 rfl rfl rfl) rfl rfl rfl ?_
    refine At.storeAll (i := 1) Tryd.sizeOf23 rfl rfl rfl (by simp [Value.oneCell']) rfl rfl ?_
    simp only [List.set_cons_zero, List.set_cons_succ]
    refine At.nil ?_
    refine At.thenN ?_
    refine At.retC ?_
    refine At.ret1 (.inl rfl) rfl rfl (ResOf.all (i := 1) Tryd.isAgg23 Tryd.sizeOf23 rfl rfl rfl) (fun w hw => ?_)
    exact ⟨rfl, hw.mod⟩

end Go.Proofs.YtoiebgnmknbkjaaDoor
