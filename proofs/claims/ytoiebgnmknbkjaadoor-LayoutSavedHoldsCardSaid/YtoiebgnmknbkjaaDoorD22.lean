/- Bytes spoilt. -/
import Derived.Test.YtoiebgnmknbkjaaDoorD18
import Derived.Test.YtoiebgnmknbkjaaDoorB11
import Derived.Test.YtoiebgnmknbkjaaDoorB3
import Derived.Test.YtoiebgnmknbkjaaDoorPa
import Derived.Test.YtoiebgnmknbkjaaDoorWv
set_option linter.unusedVariables false
set_option linter.unusedSimpArgs false
namespace Go.Proofs.YtoiebgnmknbkjaaDoor
open Go Go.Wk
theorem spoilt_n (v : Value) (l : List UInt8) (p : Int) (F : BitVec 32) (lo hi : Int) (w : World) (hv : RdB w v l) (hlen : l.length ≤ 1000000) (h0 : 0 ≤ lo) (h1 : lo + 32 ≤ hi) (h2 : hi ≤ 8 * l.length) :
    NewRow Tryd.prog 39 [v, .agg #[.int .i64 p, b32 F], .int .i64 lo, .int .i64 hi] 5 1 (spoilL l (lo + p % (hi - 32 - lo + 1)).toNat F.toNat).length ((spoilL l (lo + p % (hi - 32 - lo + 1)).toNat F.toNat).map bv) w := by
  refine enter (feet []) [] Tryd.func39 rfl Tryd.ntmps39 rfl ⟨by simp, by simp, by simp, Mod.refl _ _⟩ ?_
  have hm0 := Int.emod_nonneg p (show hi - 32 - lo + 1 ≠ 0 by omega)
  have hm1 := Int.emod_lt_of_pos p (show 0 < hi - 32 - lo + 1 by omega)
  obtain ⟨a, ha⟩ : ∃ a : Nat, lo + p % (hi - 32 - lo + 1) = (a : Int) := ⟨(lo + p % (hi - 32 - lo + 1)).toNat, by omega⟩
  rw [show (lo + p % (hi - 32 - lo + 1)).toNat = a from by rw [ha]; rfl]
  simp only [envOf]
  refine At.seq ?_
  refine At.region ?_
  refine At.box rfl rfl rfl (fun b1 => ?_)
  refine At.val (Val.assign rfl) rfl rfl rfl ?_
  refine At.nil ?_
  refine At.thenN ?_
  refine At.seq ?_
  refine At.region ?_
  refine At.val (Val.move rfl) rfl rfl rfl ?_
  refine At.callN (fun w hw => copyBytes_n v l w (hv.mod (hw.mod.mono (fun b hb => by simp [feet] at hb))) (by omega)) Tryd.call33 rfl rfl (fun v2 => ?_)
  refine At.val (Val.assign rfl) rfl rfl rfl ?_
  refine At.nil ?_
  refine At.thenN ?_
  refine At.seq ?_
  refine At.region ?_
  refine At.val (Val.move rfl) rfl rfl rfl ?_
  refine At.val (Val.field 0 rfl fo_50_0 rfl) rfl rfl rfl ?_
  refine At.val (Val.load (i := 1) Tryd.isAgg3 rfl rfl rfl) rfl rfl rfl ?_
  refine At.val (Val.move rfl) rfl rfl rfl ?_
  first | refine At.val (Val.subI rfl rfl (by omega) (by omega)) rfl rfl rfl ?_ | refine At.val (Val.bin rfl rfl rfl) rfl rfl rfl ?_
  refine At.val (Val.move rfl) rfl rfl rfl ?_
  first | refine At.val (Val.subI rfl rfl (by omega) (by omega)) rfl rfl rfl ?_ | refine At.val (Val.bin rfl rfl rfl) rfl rfl rfl ?_
  first | refine At.val (Val.addI rfl rfl (by omega) (by omega)) rfl rfl rfl ?_ | refine At.val (Val.bin rfl rfl rfl) rfl rfl rfl ?_
  refine At.callP (fun w hw => mod_p _ _ w (by omega) (by omega)) Tryd.call32 rfl rfl ?_
  first | refine At.val (Val.addI rfl rfl (by omega) (by omega)) rfl rfl rfl ?_ | refine At.val (Val.bin rfl rfl rfl) rfl rfl rfl ?_
  refine At.val (Val.assign rfl) rfl rfl rfl ?_
  refine At.nil ?_
  rw [ha]
  refine At.thenN ?_
  refine At.seq ?_
  refine At.seq ?_
  refine At.region ?_
  refine At.val (Val.assign rfl) rfl rfl rfl ?_
  refine At.nil ?_
  refine At.thenN ?_
  refine At.block ?_
  skip
  refine At.loop (σ := Nat) (fun i => i ≤ 32) (fun i => [(5, .pointer (some ⟨b1, 0, none⟩)), (9, v2), (10, .int .i64 (a : Int)), (11, .int .i64 (i : Int))]) (fun i => [rowR v2 5 1 ((spoilL l a (F.toNat % 2 ^ i)).length) ((spoilL l a (F.toNat % 2 ^ i)).map bv), blk b1 50 ([.int .i64 p, b32 F])]) (fun i => 32 - i) 0 (by omega) (Sub.cons rfl (Sub.cons rfl (Sub.cons rfl (Sub.cons rfl Sub.nil)))) (by rw [spoil_none]) ?_
  intro i hs
  refine At.seq ?_
  refine At.seq ?_
  refine At.region ?_
  refine At.val (Val.move rfl) rfl rfl rfl ?_
  refine At.val (Val.bin rfl rfl rfl) rfl rfl rfl ?_
  refine At.nil ?_
  refine At.thenN ?_
  refine At.cond rfl (fun h3 => ?_) (fun h3 => ?_)
  · skip
    try simp only [vN_T, vN_F, nmE_T, nmE_F, wI_T, wI_F, data_T, data_F, ino_T, ino_F, notT, notF, bneT, bneF, beqT, beqF, decT, decF] at h3
    have hi32 : i < 32 := by omega
    have hsl := spoilL_length l a (F.toNat % 2 ^ i)
    have e8 : (((a : Int) + (i : Int)) / 8).toNat = (a + i) / 8 := by omega
    refine At.skipC ?_
    refine At.thenN ?_
    refine At.seq ?_
    refine At.block ?_
    refine At.seq ?_
    refine At.region ?_
    refine At.val (Val.field 1 rfl fo_50_1 rfl) rfl rfl rfl ?_
    refine At.val (Val.load (i := 1) Tryd.isAgg48 rfl rfl rfl) rfl rfl rfl ?_
    refine At.val (Val.move rfl) rfl rfl rfl ?_
    first | refine At.val (Val.toU Tryd.underlying3 Tryd.underlying52 rfl (by omega) (by omega)) rfl rfl rfl ?_ | refine At.val (Val.conv Tryd.underlying3 Tryd.underlying52 rfl) rfl rfl rfl ?_
    refine At.val (Val.shr rfl rfl (by omega)) rfl rfl rfl ?_
    rw [show ((F.toNat : Nat) : Int).fdiv (2 ^ min ((i : Nat) : Int).toNat IntKind.u32.bits) = ((F >>> i).toNat : Int) from by rw [Int.toNat_natCast]; exact shr32 F i (by omega)]
    refine At.val (Val.bin rfl rfl rfl) rfl rfl rfl ?_
    rw [and1]
    refine At.val (Val.bin rfl rfl rfl) rfl rfl rfl ?_
    refine At.nil ?_
    refine At.thenN ?_
    refine At.cond rfl (fun h4 => ?_) (fun h4 => ?_)
    · skip
      try simp only [vN_T, vN_F, nmE_T, nmE_F, wI_T, wI_F, data_T, data_F, ino_T, ino_F, notT, notF, bneT, bneF, beqT, beqF, decT, decF] at h4
      have hb : F.toNat.testBit i = true := (bit_at F).1 h4
      refine At.region ?_
      refine At.val (Val.move rfl) rfl rfl rfl ?_
      refine At.val (Val.move rfl) rfl rfl rfl ?_
      refine At.val (Val.move rfl) rfl rfl rfl ?_
      first | refine At.val (Val.addI rfl rfl (by omega) (by omega)) rfl rfl rfl ?_ | refine At.val (Val.bin rfl rfl rfl) rfl rfl rfl ?_
      first | refine At.val (Val.quoI rfl rfl (by omega) (by omega) (by decide)) rfl rfl rfl ?_ | refine At.val (Val.quo rfl rfl (by decide)) rfl rfl rfl ?_
      refine At.idxRowB (i := 0) rfl Tryd.underlying54 Tryd.sizeOf5 rfl rfl (by omega) (by omega) rfl rfl (fun q5 hq6 hl7 => ?_)
      refine At.val (Val.loadRowB (i := 0) Tryd.isAgg5 rfl rfl hq6) rfl rfl rfl ?_
      refine At.val (Val.move rfl) rfl rfl rfl ?_
      refine At.val (Val.move rfl) rfl rfl rfl ?_
      first | refine At.val (Val.addI rfl rfl (by omega) (by omega)) rfl rfl rfl ?_ | refine At.val (Val.bin rfl rfl rfl) rfl rfl rfl ?_
      first | refine At.val (Val.remI rfl rfl (by omega) (by decide)) rfl rfl rfl ?_ | refine At.val (Val.rem rfl rfl (by decide)) rfl rfl rfl ?_
      first | refine At.val (Val.toU Tryd.underlying3 Tryd.underlying52 rfl (by omega) (by omega)) rfl rfl rfl ?_ | refine At.val (Val.conv Tryd.underlying3 Tryd.underlying52 rfl) rfl rfl rfl ?_
      refine At.val (Val.shl rfl rfl (by omega)) rfl rfl rfl ?_
      refine At.val (Val.bin rfl rfl rfl) rfl rfl rfl ?_
      rw [show ib .xor .u8 (q5.toNat : Int) (IntKind.u8.wrap (1 * 2 ^ min ((((a : Int) + (i : Int)) % 8).toNat) IntKind.u8.bits)) = ((UInt8.ofNat (q5.toNat ^^^ (1 <<< ((a + i) % 8)))).toNat : Int) from by rw [show (((a : Int) + (i : Int)) % 8).toNat = (a + i) % 8 from by omega]; exact flip_byte q5 (by omega)]
      refine At.idxRowB (i := 0) rfl Tryd.underlying54 Tryd.sizeOf5 rfl rfl (by omega) (by omega) rfl rfl (fun q8 hq9 hl10 => ?_)
      refine At.storeRowB (i := 0) Tryd.sizeOf5 rfl rfl rfl (by omega) ?_
      simp only [List.set_cons_zero, List.set_cons_succ]
      have hq' := hq6
      rw [e8] at hq'
      rw [e8, spoil_step1 hb hq']
      refine At.nil ?_
      refine At.blkN ?_
      refine At.thenN ?_
      refine At.region ?_
      refine At.val (Val.move rfl) rfl rfl rfl ?_
      first | refine At.val (Val.addI rfl rfl (by omega) (by omega)) rfl rfl rfl ?_ | refine At.val (Val.bin rfl rfl rfl) rfl rfl rfl ?_
      refine At.val (Val.assign rfl) rfl rfl rfl ?_
      refine At.nil ?_
      refine At.thenN ?_
      exact At.again (i + 1) (by omega) (by omega) (Sub.cons rfl (Sub.cons rfl (Sub.cons rfl (Sub.cons (congrArg (fun z => some (Value.int IntKind.i64 z)) (by omega)) Sub.nil)))) (List.Perm.refl _)
    · skip
      try simp only [vN_T, vN_F, nmE_T, nmE_F, wI_T, wI_F, data_T, data_F, ino_T, ino_F, notT, notF, bneT, bneF, beqT, beqF, decT, decF] at h4
      have hb : F.toNat.testBit i = false := by rw [← Bool.not_eq_true, ← bit_at]; exact h4
      refine At.skipC ?_
      refine At.blkN ?_
      refine At.thenN ?_
      refine At.region ?_
      refine At.val (Val.move rfl) rfl rfl rfl ?_
      first | refine At.val (Val.addI rfl rfl (by omega) (by omega)) rfl rfl rfl ?_ | refine At.val (Val.bin rfl rfl rfl) rfl rfl rfl ?_
      refine At.val (Val.assign rfl) rfl rfl rfl ?_
      refine At.nil ?_
      refine At.thenN ?_
      exact At.again (i + 1) (by omega) (by omega) (Sub.cons rfl (Sub.cons rfl (Sub.cons rfl (Sub.cons (congrArg (fun z => some (Value.int IntKind.i64 z)) (by omega)) Sub.nil)))) (by rw [spoil_step0 hb])
  · skip
    try simp only [vN_T, vN_F, nmE_T, nmE_F, wI_T, wI_F, data_T, data_F, ino_T, ino_F, notT, notF, bneT, bneF, beqT, beqF, decT, decF] at h3
    obtain rfl : i = 32 := by omega
    rw [spoil_done F.isLt]
    refine At.exitC ?_
    refine At.thenX ?_
    refine At.thenX ?_
    refine At.blkX ?_
    refine At.thenN ?_
    refine At.seq ?_
    refine At.region ?_
    refine At.val (Val.move rfl) rfl rfl rfl ?_
    refine At.val (Val.assign rfl) rfl rfl rfl ?_
    refine At.nil ?_
    refine At.thenN ?_
    refine At.retC ?_
    refine At.ret1 (.inl rfl) rfl rfl rfl (fun w hw => ?_)
    exact ⟨_, rfl, hw.drop (List.singleton_sublist.2 (List.mem_of_getElem? (i := 0) rfl))⟩

end Go.Proofs.YtoiebgnmknbkjaaDoor
