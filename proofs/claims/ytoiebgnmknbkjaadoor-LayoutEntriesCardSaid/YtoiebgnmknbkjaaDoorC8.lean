/- LayoutEntries, walked. -/
import Derived.Test.YtoiebgnmknbkjaaDoorB21
set_option linter.unusedVariables false
set_option linter.unusedSimpArgs false
namespace Go.Proofs.YtoiebgnmknbkjaaDoor
open Go Go.Wk

theorem zline_zs : zline = .agg ((zs 64).map bv).toArray := rfl
theorem packEnt_shape (k q o c p z i : Int) (s : ByteArray) : ∃ (L : List UInt8) (e : Int), L.length = 64 ∧ packEntV k q o c p z i s = .tuple #[.agg (L.map bv).toArray, .int .i64 e] := by
  by_cases h : GoodE k q o c p z i s
  · exact ⟨_, _, lineL_length (by have := h.size; rw [entB_length, size_len]; omega), packEnt_yes h⟩
  · exact ⟨_, _, zs_length 64, packEnt_no h⟩
theorem openEnt_shape (l : List UInt8) : ∃ (a0 a1 a2 a3 a4 a5 a6 : Int) (t : ByteArray) (e : Int), openEntV l = .tuple #[.agg #[.int .i64 a0, .int .u64 a1, .int .i64 a2, .int .i64 a3, .int .i64 a4, .int .i64 a5, .int .i64 a6, .string t], .int .i64 e] := by
  by_cases h : OkE l
  · exact ⟨_, _, _, _, _, _, _, _, _, openEnt_yes h⟩
  · exact ⟨_, _, _, _, _, _, _, _, _, openEnt_no h⟩

theorem lawEntries_p (k q o c p z i : Int) (s : ByteArray) (l : List UInt8) (w : World) (ht : Tab w) (hl : l.length = 64) (hlen : s.size ≤ 9223372036854775807) (hq : 0 ≤ q) (hpp : -9223372036854775808 ≤ p ∧ p ≤ 9223372036854775807) :
    PureC Tryd.prog 13 [.agg #[.int .i64 k, .int .u64 q, .int .i64 o, .int .i64 c, .int .i64 p, .int .i64 z, .int .i64 i, .string s], .agg (l.map bv).toArray] (.bool true) w := by
  refine enter0 Tryd.func13 rfl Tryd.ntmps13 rfl ?_
  obtain ⟨L, e, hL, hP⟩ := packEnt_shape k q o c p z i s
  obtain ⟨a0, a1, a2, a3, a4, a5, a6, t, f, hO⟩ := openEnt_shape l
  simp only [envOf]
  refine At.seq ?_
  refine At.region ?_
  refine At.box rfl rfl rfl (fun b1 => ?_)
  refine At.box rfl rfl rfl (fun bl => ?_)
  refine At.val (Val.assign rfl) rfl rfl rfl ?_
  refine At.nil ?_
  refine At.thenN ?_
  refine At.seq ?_
  refine At.region ?_
  refine At.val (Val.loadAll (i := 1) Tryd.isAgg92 Tryd.sizeOf92 rfl rfl rfl) rfl rfl rfl ?_
  refine At.callP (fun w hw => (by have := packEnt_p k q o c p z i s w (ht.mod hw.mod) hlen hq; rwa [hP] at this)) Tryd.call53 rfl rfl ?_
  refine At.val (Val.move rfl) rfl rfl rfl ?_
  refine At.val (Val.extract rfl rfl) rfl rfl rfl ?_
  refine At.val (Val.extract rfl rfl) rfl rfl rfl ?_
  refine At.alloc zero_30 zc_30 rfl (fun b2 => ?_)
  refine At.storeAll (i := 0) Tryd.sizeOf30 rfl rfl (by rw [List.length_map]; exact hL) (by simp [Value.oneCell']) rfl (by simp) ?_
  simp only [List.set_cons_zero, List.set_cons_succ]
  refine At.val (Val.assign rfl) rfl rfl rfl ?_
  refine At.nil ?_
  refine At.thenN ?_
  refine At.seq ?_
  refine At.region ?_
  refine At.val (Val.loadAll (i := 2) Tryd.isAgg92 Tryd.sizeOf92 rfl rfl rfl) rfl rfl rfl ?_
  refine At.callP (fun w hw => (by have := packEntR_p k q o c p z i s w hlen hq hpp; rwa [hP] at this)) Tryd.call54 rfl rfl ?_
  refine At.val (Val.move rfl) rfl rfl rfl ?_
  refine At.val (Val.extract rfl rfl) rfl rfl rfl ?_
  refine At.val (Val.extract rfl rfl) rfl rfl rfl ?_
  refine At.alloc zero_30 zc_30 rfl (fun b3 => ?_)
  refine At.storeAll (i := 0) Tryd.sizeOf30 rfl rfl (by rw [List.length_map]; exact hL) (by simp [Value.oneCell']) rfl (by simp) ?_
  simp only [List.set_cons_zero, List.set_cons_succ]
  refine At.val (Val.assign rfl) rfl rfl rfl ?_
  refine At.nil ?_
  refine At.thenN ?_
  refine At.seq ?_
  refine At.seq ?_
  refine At.region ?_
  refine At.val (Val.loadAll (i := 1) Tryd.isAgg30 Tryd.sizeOf30 rfl rfl (by rw [List.length_map]; exact hL)) rfl rfl rfl ?_
  refine At.val (Val.loadAll (i := 0) Tryd.isAgg30 Tryd.sizeOf30 rfl rfl (by rw [List.length_map]; exact hL)) rfl rfl rfl ?_
  refine At.val (Val.neAgg (b := true) Tryd.eqGuardType30 (fun w => by simpa using run_equal_bytes Tryd.underlying30 Tryd.underlying5 Tryd.isAgg5 Tryd.sizeOf5 L L hL hL w) rfl rfl) rfl rfl rfl ?_
  refine At.val (Val.move rfl) rfl rfl rfl ?_
  refine At.yes rfl rfl ?_
  refine At.val (Val.move rfl) rfl rfl rfl ?_
  refine At.yes rfl rfl ?_
  refine At.val (Val.move rfl) rfl rfl rfl ?_
  refine At.yes rfl rfl ?_
  refine At.val (Val.bin rfl rfl rfl) rfl rfl rfl ?_
  refine At.val (Val.pickF rfl rfl) rfl rfl rfl ?_
  refine At.nil ?_
  refine At.thenN ?_
  refine At.cond rfl (fun h4 => ?_) (fun h4 => ?_)
  · skip
    try simp only [vN_T, vN_F, nmE_T, nmE_F, wI_T, wI_F, data_T, data_F, ino_T, ino_F, notT, notF, bneT, bneF, beqT, beqF, decT, decF] at h4
    exact absurd rfl h4
  · skip
    try simp only [vN_T, vN_F, nmE_T, nmE_F, wI_T, wI_F, data_T, data_F, ino_T, ino_F, notT, notF, bneT, bneF, beqT, beqF, decT, decF] at h4
    refine At.skipC ?_
    refine At.thenN ?_
    refine At.seq ?_
    refine At.region ?_
    refine At.val (Val.loadAll (i := 2) Tryd.isAgg30 Tryd.sizeOf30 rfl rfl (by rw [List.length_map]; exact hl)) rfl rfl rfl ?_
    refine At.callP (fun w hw => (by have := openEnt_p l w (ht.mod hw.mod) hl; rwa [hO] at this)) Tryd.call55 rfl rfl ?_
    refine At.val (Val.move rfl) rfl rfl rfl ?_
    refine At.val (Val.extract rfl rfl) rfl rfl rfl ?_
    refine At.val (Val.extract rfl rfl) rfl rfl rfl ?_
    refine At.alloc Tryd.zeroValue92 rfl rfl (fun b5 => ?_)
    refine At.storeAll (i := 0) Tryd.sizeOf92 rfl rfl rfl (by simp [Value.oneCell']) rfl rfl ?_
    simp only [List.set_cons_zero, List.set_cons_succ]
    refine At.val (Val.assign rfl) rfl rfl rfl ?_
    refine At.nil ?_
    refine At.thenN ?_
    refine At.seq ?_
    refine At.region ?_
    refine At.val (Val.loadAll (i := 3) Tryd.isAgg30 Tryd.sizeOf30 rfl rfl (by rw [List.length_map]; exact hl)) rfl rfl rfl ?_
    refine At.callP (fun w hw => (by have := openEntR_p l w hl; rwa [hO] at this)) Tryd.call56 rfl rfl ?_
    refine At.val (Val.move rfl) rfl rfl rfl ?_
    refine At.val (Val.extract rfl rfl) rfl rfl rfl ?_
    refine At.val (Val.extract rfl rfl) rfl rfl rfl ?_
    refine At.alloc Tryd.zeroValue92 rfl rfl (fun b6 => ?_)
    refine At.storeAll (i := 0) Tryd.sizeOf92 rfl rfl rfl (by simp [Value.oneCell']) rfl rfl ?_
    simp only [List.set_cons_zero, List.set_cons_succ]
    refine At.val (Val.assign rfl) rfl rfl rfl ?_
    refine At.nil ?_
    refine At.thenN ?_
    refine At.seq ?_
    refine At.region ?_
    refine At.val (Val.loadAll (i := 1) Tryd.isAgg92 Tryd.sizeOf92 rfl rfl rfl) rfl rfl rfl ?_
    refine At.val (Val.loadAll (i := 0) Tryd.isAgg92 Tryd.sizeOf92 rfl rfl rfl) rfl rfl rfl ?_
    refine At.val (Val.eqAgg (b := true) Tryd.eqGuardType92 (fun w => by simpa using eq_92 a0 a1 a2 a3 a4 a5 a6 t a0 a1 a2 a3 a4 a5 a6 t w) rfl rfl) rfl rfl rfl ?_
    refine At.val (Val.move rfl) rfl rfl rfl ?_
    refine At.yes rfl rfl ?_
    refine At.val (Val.move rfl) rfl rfl rfl ?_
    refine At.yes rfl rfl ?_
    refine At.val (Val.move rfl) rfl rfl rfl ?_
    refine At.yes rfl rfl ?_
    refine At.val (Val.bin rfl rfl rfl) rfl rfl rfl ?_
    refine At.val (Val.pickT rfl rfl) rfl rfl rfl ?_
    refine At.val (Val.assign rfl) rfl rfl rfl ?_
    refine At.nil ?_
    refine At.thenN ?_
    refine At.retC ?_
    refine At.ret1 (.inl rfl) rfl rfl rfl (fun w hw => ?_)
    exact ⟨retB (by simp), hw.mod⟩

end Go.Proofs.YtoiebgnmknbkjaaDoor
