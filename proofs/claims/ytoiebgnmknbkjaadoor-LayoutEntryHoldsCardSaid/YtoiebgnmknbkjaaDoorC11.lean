/- LayoutEntryHolds, walked. -/
import Derived.Test.YtoiebgnmknbkjaaDoorB23
set_option linter.unusedVariables false
set_option linter.unusedSimpArgs false
namespace Go.Proofs.YtoiebgnmknbkjaaDoor
open Go Go.Wk

theorem packEnt_good {k q o c p z i : Int} {s : ByteArray} (g : GoodE k q o c p z i s) : packEntV k q o c p z i s = .tuple #[.agg ((goodLine k q o c p z i s).map bv).toArray, .int .i64 0] := packEnt_yes g

theorem lawEntryHolds_p (n0 n1 n2 n3 n4 at' : Int) (X : BitVec 64) (s : ByteArray) (F : BitVec 32) (l : List UInt8) (w : World) (ht : Tab w) (hl : l.length = 64) (hlen : s.size ≤ 9223372036854775807) :
    PureC Tryd.prog 14 [.agg #[.int .i64 n0, .int .i64 n1, .int .i64 n2, .int .i64 n3, .int .i64 n4, b64 X, .string s, .int .i64 at', b32 F], .agg (l.map bv).toArray] (.bool true) w := by
  refine enter0 Tryd.func14 rfl Tryd.ntmps14 rfl ?_
  have hm0 := Int.emod_nonneg at' (show (512 : Int) - 32 - 0 + 1 ≠ 0 by omega)
  have hm1 := Int.emod_lt_of_pos at' (show (0 : Int) < 512 - 32 - 0 + 1 by omega)
  simp only [envOf]
  refine At.seq ?_
  refine At.region ?_
  refine At.box rfl rfl rfl (fun b1 => ?_)
  refine At.box rfl rfl rfl (fun b2 => ?_)
  refine At.val (Val.assign rfl) rfl rfl rfl ?_
  refine At.nil ?_
  refine At.thenN ?_
  refine At.seq ?_
  refine At.region ?_
  refine At.val (Val.loadAll (i := 1) Tryd.isAgg98 Tryd.sizeOf98 rfl rfl rfl) rfl rfl rfl ?_
  refine At.callX (fun w hw => entry_x n0 n1 n2 n3 n4 at' X s F w hlen) Tryd.call57 rfl rfl (fun v2 hv3 => ?_)
  obtain ⟨k, q, o, c, p, z, i, t, rfl, hg⟩ := hv3
  obtain ⟨hL, hOk, hV⟩ := ent_ok hg
  have hwh := ent_whole hL hOk
  have hgs := hg.size
  have hg' := hg
  unfold GoodE at hg'
  refine At.alloc Tryd.zeroValue92 rfl rfl (fun b4 => ?_)
  refine At.storeAll (i := 0) Tryd.sizeOf92 rfl rfl rfl (by simp [Value.oneCell']) rfl rfl ?_
  simp only [List.set_cons_zero, List.set_cons_succ]
  refine At.nil ?_
  refine At.thenN ?_
  refine At.seq ?_
  refine At.region ?_
  refine At.val (Val.loadAll (i := 0) Tryd.isAgg92 Tryd.sizeOf92 rfl rfl rfl) rfl rfl rfl ?_
  refine At.callP (fun w hw => (by have := packEnt_p k q o c p z i t w (ht.mod hw.mod) (by omega) (by omega); rwa [packEnt_good hg] at this)) Tryd.call53 rfl rfl ?_
  refine At.val (Val.move rfl) rfl rfl rfl ?_
  refine At.val (Val.extract rfl rfl) rfl rfl rfl ?_
  refine At.val (Val.extract rfl rfl) rfl rfl rfl ?_
  refine At.alloc zero_30 zc_30 rfl (fun b5 => ?_)
  refine At.storeAll (i := 0) Tryd.sizeOf30 rfl rfl (by rw [List.length_map]; exact hL) (by simp [Value.oneCell']) rfl (by simp) ?_
  simp only [List.set_cons_zero, List.set_cons_succ]
  refine At.val (Val.assign rfl) rfl rfl rfl ?_
  refine At.nil ?_
  refine At.thenN ?_
  refine At.seq ?_
  refine At.seq ?_
  refine At.region ?_
  refine At.val (Val.move rfl) rfl rfl rfl ?_
  refine At.val (Val.bin rfl rfl rfl) rfl rfl rfl ?_
  refine At.nil ?_
  refine At.thenN ?_
  refine At.condF rfl ?_
  refine At.skipC ?_
  refine At.thenN ?_
  refine At.seq ?_
  refine At.region ?_
  refine At.val (Val.loadAll (i := 0) Tryd.isAgg30 Tryd.sizeOf30 rfl rfl (by rw [List.length_map]; exact hL)) rfl rfl rfl ?_
  refine At.callP (fun w hw => (by have := openEnt_p (goodLine k q o c p z i t) w (ht.mod hw.mod) hL; rwa [openEnt_yes hOk, hV] at this)) Tryd.call55 rfl rfl ?_
  refine At.val (Val.move rfl) rfl rfl rfl ?_
  refine At.val (Val.extract rfl rfl) rfl rfl rfl ?_
  refine At.val (Val.extract rfl rfl) rfl rfl rfl ?_
  refine At.alloc Tryd.zeroValue92 rfl rfl (fun b6 => ?_)
  refine At.storeAll (i := 0) Tryd.sizeOf92 rfl rfl rfl (by simp [Value.oneCell']) rfl rfl ?_
  simp only [List.set_cons_zero, List.set_cons_succ]
  refine At.val (Val.assign rfl) rfl rfl rfl ?_
  refine At.nil ?_
  refine At.thenN ?_
  refine At.seq ?_
  refine At.seq ?_
  refine At.region ?_
  refine At.val (Val.move rfl) rfl rfl rfl ?_
  refine At.val (Val.bin rfl rfl rfl) rfl rfl rfl ?_
  refine At.val (Val.move rfl) rfl rfl rfl ?_
  refine At.yes rfl rfl ?_
  refine At.val (Val.loadAll (i := 0) Tryd.isAgg92 Tryd.sizeOf92 rfl rfl rfl) rfl rfl rfl ?_
  refine At.yes rfl rfl ?_
  refine At.val (Val.loadAll (i := 2) Tryd.isAgg92 Tryd.sizeOf92 rfl rfl rfl) rfl rfl rfl ?_
  refine At.yes rfl rfl ?_
  refine At.val (Val.neAgg (b := true) Tryd.eqGuardType92 (fun w => by simpa using eq_92 k q o c p z i t k q o c p z i t w) rfl rfl) rfl rfl rfl ?_
  refine At.val (Val.pickF rfl rfl) rfl rfl rfl ?_
  refine At.nil ?_
  refine At.thenN ?_
  refine At.condF rfl ?_
  refine At.skipC ?_
  refine At.thenN ?_
  refine At.join (σ := Unit) (fun _ => True) (fun _ => [(3, .pointer (some ⟨b2, 0, none⟩))]) (fun _ => [blk b2 30 (l.map bv)]) ?_ ?_
  · skip
    refine At.seq ?_
    refine At.region ?_
    refine At.val (Val.field 7 rfl fo_98_7 rfl) rfl rfl rfl ?_
    refine At.val (Val.field 8 rfl fo_50_1 rfl) rfl rfl rfl ?_
    refine At.val (Val.load (i := 4) Tryd.isAgg48 rfl rfl rfl) rfl rfl rfl ?_
    refine At.val (Val.bin rfl rfl rfl) rfl rfl rfl ?_
    refine At.nil ?_
    refine At.thenN ?_
    refine At.cond rfl (fun h7 => ?_) (fun h7 => ?_)
    · skip
      try simp only [vN_T, vN_F, nmE_T, nmE_F, wI_T, wI_F, data_T, data_F, ino_T, ino_F, notT, notF, bneT, bneF, beqT, beqF, decT, decF] at h7
      have hF : F.toNat ≠ 0 := by omega
      refine At.seq ?_
      refine At.region ?_
      refine At.val (Val.loadAll (i := 1) Tryd.isAgg30 Tryd.sizeOf30 rfl rfl (by rw [List.length_map]; exact hL)) rfl rfl rfl ?_
      refine At.callN (fun w hw => bytesOf_n (goodLine k q o c p z i t) w hL) Tryd.call38 rfl rfl (fun v8 => ?_)
      refine At.val (Val.assign rfl) rfl rfl rfl ?_
      refine At.nil ?_
      refine At.thenN ?_
      refine At.seq ?_
      refine At.region ?_
      refine At.val (Val.move rfl) rfl rfl rfl ?_
      refine At.val (Val.field 7 rfl fo_98_7 rfl) rfl rfl rfl ?_
      refine At.val (Val.loadPart (i := 5) Tryd.isAgg50 Tryd.sizeOf50 rfl rfl rfl rfl) rfl rfl rfl ?_
      refine At.callN (fun w hw => spoilt_n _ (goodLine k q o c p z i t) at' F 0 512 w (row_rd (hw.row (i := 0) rfl) (by decide)) (by omega) (by decide) (by decide) (by omega)) Tryd.call39 rfl rfl (fun v9 => ?_)
      refine At.val (Val.assign rfl) rfl rfl rfl ?_
      refine At.nil ?_
      have hsl : (spoilL (goodLine k q o c p z i t) (0 + at' % (512 - 32 - 0 + 1)).toNat F.toNat).length = 64 := by rw [spoilL_length, hL]
      have hno : ¬ OkE (spoilL (goodLine k q o c p z i t) (0 + at' % (512 - 32 - 0 + 1)).toNat F.toNat) := fun h => by have h1 := ent_whole hsl h; rw [spoil_told hL hwh hF F.isLt (by omega)] at h1; cases h1
      refine At.thenN ?_
      refine At.seq ?_
      refine At.region ?_
      refine At.val (Val.move rfl) rfl rfl rfl ?_
      refine At.callP (fun w hw => lineOf_p _ (spoilL (goodLine k q o c p z i t) (0 + at' % (512 - 32 - 0 + 1)).toNat F.toNat) w (row_rd (hw.row (i := 0) rfl) (by decide)) hsl) Tryd.call58 rfl rfl ?_
      refine At.callP (fun w hw => (by have := openEnt_p (spoilL (goodLine k q o c p z i t) (0 + at' % (512 - 32 - 0 + 1)).toNat F.toNat) w (ht.mod hw.mod) hsl; rwa [openEnt_no hno, noEntV] at this)) Tryd.call55 rfl rfl ?_
      refine At.val (Val.move rfl) rfl rfl rfl ?_
      refine At.val (Val.extract rfl rfl) rfl rfl rfl ?_
      refine At.val (Val.extract rfl rfl) rfl rfl rfl ?_
      refine At.alloc Tryd.zeroValue92 rfl rfl (fun b10 => ?_)
      refine At.storeAll (i := 0) Tryd.sizeOf92 rfl rfl rfl (by simp [Value.oneCell']) rfl rfl ?_
      simp only [List.set_cons_zero, List.set_cons_succ]
      refine At.val (Val.assign rfl) rfl rfl rfl ?_
      refine At.nil ?_
      refine At.thenN ?_
      refine At.seq ?_
      refine At.region ?_
      refine At.val (Val.move rfl) rfl rfl rfl ?_
      refine At.val (Val.bin rfl rfl rfl) rfl rfl rfl ?_
      refine At.val (Val.move rfl) rfl rfl rfl ?_
      refine At.yes rfl rfl ?_
      refine At.val (Val.loadAll (i := 0) Tryd.isAgg92 Tryd.sizeOf92 rfl rfl rfl) rfl rfl rfl ?_
      refine At.yes rfl rfl ?_
      refine At.val (Val.build (fun a ha => by simp only [List.map_toArray, List.map_cons, List.map_nil] <;> rfl) (bld_92_)) rfl rfl rfl ?_
      refine At.yes rfl rfl ?_
      refine At.val (Val.neAgg (b := true) Tryd.eqGuardType92 (fun w => by simpa using eq_92 0 0 0 0 0 0 0 (ByteArray.mk #[]) 0 0 0 0 0 0 0 (ByteArray.mk #[]) w) rfl rfl) rfl rfl rfl ?_
      refine At.val (Val.pickF rfl rfl) rfl rfl rfl ?_
      refine At.nil ?_
      refine At.thenN ?_
      refine At.condF rfl ?_
      refine At.skipC ?_
      refine At.thenN ?_
      refine At.drop 7 ?_
      simp only [List.eraseIdx_cons_zero, List.eraseIdx_cons_succ]
      refine At.drop 5 ?_
      simp only [List.eraseIdx_cons_zero, List.eraseIdx_cons_succ]
      refine At.drop 4 ?_
      simp only [List.eraseIdx_cons_zero, List.eraseIdx_cons_succ]
      refine At.drop 3 ?_
      simp only [List.eraseIdx_cons_zero, List.eraseIdx_cons_succ]
      refine At.drop 2 ?_
      simp only [List.eraseIdx_cons_zero, List.eraseIdx_cons_succ]
      refine At.drop 1 ?_
      simp only [List.eraseIdx_cons_zero, List.eraseIdx_cons_succ]
      refine At.drop 0 ?_
      simp only [List.eraseIdx_cons_zero, List.eraseIdx_cons_succ]
      exact At.meets () trivial (Sub.cons rfl Sub.nil) (List.Perm.refl _)
    · skip
      try simp only [vN_T, vN_F, nmE_T, nmE_F, wI_T, wI_F, data_T, data_F, ino_T, ino_F, notT, notF, bneT, bneF, beqT, beqF, decT, decF] at h7
      refine At.skipC ?_
      refine At.thenN ?_
      refine At.drop 4 ?_
      simp only [List.eraseIdx_cons_zero, List.eraseIdx_cons_succ]
      refine At.drop 2 ?_
      simp only [List.eraseIdx_cons_zero, List.eraseIdx_cons_succ]
      refine At.drop 1 ?_
      simp only [List.eraseIdx_cons_zero, List.eraseIdx_cons_succ]
      refine At.drop 0 ?_
      simp only [List.eraseIdx_cons_zero, List.eraseIdx_cons_succ]
      exact At.meets () trivial (Sub.cons rfl Sub.nil) (List.Perm.refl _)
  · skip
    intro _ hs
    refine At.seq ?_
    refine At.region ?_
    refine At.val (Val.loadAll (i := 0) Tryd.isAgg30 Tryd.sizeOf30 rfl rfl (by rw [List.length_map]; exact hl)) rfl rfl rfl ?_
    refine At.callP (fun w hw => openEnt_p l w (ht.mod hw.mod) hl) Tryd.call55 rfl rfl ?_
    by_cases ho : OkE l
    · skip
      rw [openEnt_yes ho, entV]
      have hline := (entL_line hl ho.1).2 ho.2.2
      have hNs := entN_size hl ho.1
      have hn28 := ho.1
      refine At.val (Val.move rfl) rfl rfl rfl ?_
      refine At.val (Val.extract rfl rfl) rfl rfl rfl ?_
      refine At.val (Val.extract rfl rfl) rfl rfl rfl ?_
      refine At.alloc Tryd.zeroValue92 rfl rfl (fun b11 => ?_)
      refine At.storeAll (i := 0) Tryd.sizeOf92 rfl rfl rfl (by simp [Value.oneCell']) rfl rfl ?_
      simp only [List.set_cons_zero, List.set_cons_succ]
      refine At.val (Val.assign rfl) rfl rfl rfl ?_
      refine At.nil ?_
      refine At.thenN ?_
      refine At.seq ?_
      refine At.seq ?_
      refine At.region ?_
      refine At.val (Val.move rfl) rfl rfl rfl ?_
      refine At.val (Val.bin rfl rfl rfl) rfl rfl rfl ?_
      refine At.nil ?_
      refine At.thenN ?_
      refine At.condF rfl ?_
      refine At.skipC ?_
      refine At.thenN ?_
      refine At.seq ?_
      refine At.region ?_
      refine At.val (Val.loadAll (i := 0) Tryd.isAgg92 Tryd.sizeOf92 rfl rfl rfl) rfl rfl rfl ?_
      refine At.callP (fun w hw => (by have := packEnt_p (num l 0 1 : Nat) (num l 8 8 : Nat) (entO l) (num l 20 4 : Nat) (num l 24 4 : Nat) (num l 28 4 : Nat) (entI l) (entN l) w (ht.mod hw.mod) (by omega) (by omega); rw [packEnt_yes ho.2.1, lineV, hline] at this; exact this)) Tryd.call53 rfl rfl ?_
      refine At.val (Val.move rfl) rfl rfl rfl ?_
      refine At.val (Val.extract rfl rfl) rfl rfl rfl ?_
      refine At.val (Val.extract rfl rfl) rfl rfl rfl ?_
      refine At.alloc zero_30 zc_30 rfl (fun b12 => ?_)
      refine At.storeAll (i := 0) Tryd.sizeOf30 rfl rfl (by rw [List.length_map]; exact hl) (by simp [Value.oneCell']) rfl (by simp) ?_
      simp only [List.set_cons_zero, List.set_cons_succ]
      refine At.val (Val.assign rfl) rfl rfl rfl ?_
      refine At.nil ?_
      refine At.thenN ?_
      refine At.seq ?_
      refine At.region ?_
      refine At.val (Val.move rfl) rfl rfl rfl ?_
      refine At.val (Val.bin rfl rfl rfl) rfl rfl rfl ?_
      refine At.val (Val.move rfl) rfl rfl rfl ?_
      refine At.yes rfl rfl ?_
      refine At.val (Val.loadAll (i := 0) Tryd.isAgg30 Tryd.sizeOf30 rfl rfl (by rw [List.length_map]; exact hl)) rfl rfl rfl ?_
      refine At.yes rfl rfl ?_
      refine At.val (Val.loadAll (i := 2) Tryd.isAgg30 Tryd.sizeOf30 rfl rfl (by rw [List.length_map]; exact hl)) rfl rfl rfl ?_
      refine At.yes rfl rfl ?_
      refine At.val (Val.eqAgg (b := true) Tryd.eqGuardType30 (fun w => by simpa using run_equal_bytes Tryd.underlying30 Tryd.underlying5 Tryd.isAgg5 Tryd.sizeOf5 l l hl hl w) rfl rfl) rfl rfl rfl ?_
      refine At.val (Val.pickT rfl rfl) rfl rfl rfl ?_
      refine At.val (Val.assign rfl) rfl rfl rfl ?_
      refine At.nil ?_
      refine At.thenN ?_
      refine At.retC ?_
      refine At.ret1 (.inl rfl) rfl rfl rfl (fun w hw => ?_)
      exact ⟨rfl, hw.mod⟩
    · skip
      rw [openEnt_no ho, noEntV]
      refine At.val (Val.move rfl) rfl rfl rfl ?_
      refine At.val (Val.extract rfl rfl) rfl rfl rfl ?_
      refine At.val (Val.extract rfl rfl) rfl rfl rfl ?_
      refine At.alloc Tryd.zeroValue92 rfl rfl (fun b13 => ?_)
      refine At.storeAll (i := 0) Tryd.sizeOf92 rfl rfl rfl (by simp [Value.oneCell']) rfl rfl ?_
      simp only [List.set_cons_zero, List.set_cons_succ]
      refine At.val (Val.assign rfl) rfl rfl rfl ?_
      refine At.nil ?_
      refine At.thenN ?_
      refine At.seq ?_
      refine At.seq ?_
      refine At.region ?_
      refine At.val (Val.move rfl) rfl rfl rfl ?_
      refine At.val (Val.bin rfl rfl rfl) rfl rfl rfl ?_
      refine At.nil ?_
      refine At.thenN ?_
      refine At.condT rfl ?_
      refine At.seq ?_
      refine At.region ?_
      refine At.val (Val.move rfl) rfl rfl rfl ?_
      refine At.val (Val.bin rfl rfl rfl) rfl rfl rfl ?_
      refine At.val (Val.move rfl) rfl rfl rfl ?_
      refine At.yes rfl rfl ?_
      refine At.val (Val.loadAll (i := 0) Tryd.isAgg92 Tryd.sizeOf92 rfl rfl rfl) rfl rfl rfl ?_
      refine At.yes rfl rfl ?_
      refine At.val (Val.build (fun a ha => by simp only [List.map_toArray, List.map_cons, List.map_nil] <;> rfl) (bld_92_)) rfl rfl rfl ?_
      refine At.yes rfl rfl ?_
      refine At.val (Val.eqAgg (b := true) Tryd.eqGuardType92 (fun w => by simpa using eq_92 0 0 0 0 0 0 0 (ByteArray.mk #[]) 0 0 0 0 0 0 0 (ByteArray.mk #[]) w) rfl rfl) rfl rfl rfl ?_
      refine At.val (Val.pickT rfl rfl) rfl rfl rfl ?_
      refine At.val (Val.assign rfl) rfl rfl rfl ?_
      refine At.nil ?_
      refine At.thenN ?_
      refine At.retC ?_
      refine At.thenR ?_
      refine At.ret1 (.inl rfl) rfl rfl rfl (fun w hw => ?_)
      exact ⟨rfl, hw.mod⟩

end Go.Proofs.YtoiebgnmknbkjaaDoor
