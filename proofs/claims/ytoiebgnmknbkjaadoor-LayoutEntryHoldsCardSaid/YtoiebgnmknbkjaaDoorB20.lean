/- Entries packed. -/
import Derived.Test.YtoiebgnmknbkjaaDoorB19
import Derived.Test.YtoiebgnmknbkjaaDoorB5
set_option linter.unusedVariables false
set_option linter.unusedSimpArgs false
namespace Go.Proofs.YtoiebgnmknbkjaaDoor
open Go Go.Wk
theorem packEnt_p (k q o c p z i : Int) (s : ByteArray) (w : World) (ht : Tab w) (hlen : s.size ≤ 9223372036854775807) (hq : 0 ≤ q) :
    PureC Tryd.prog 53 [.agg #[.int .i64 k, .int .u64 q, .int .i64 o, .int .i64 c, .int .i64 p, .int .i64 z, .int .i64 i, .string s]] (packEntV k q o c p z i s) w := by
  refine enter0 Tryd.func53 rfl Tryd.ntmps53 rfl ?_
  obtain ⟨qn, rfl⟩ : ∃ n : Nat, q = n := ⟨q.toNat, by omega⟩
  simp only [envOf]
  refine At.seq ?_
  refine At.region ?_
  refine At.box rfl rfl rfl (fun b1 => ?_)
  refine At.alloc zero_30 zc_30 rfl (fun b2 => ?_)
  refine At.val (Val.assign rfl) rfl rfl rfl ?_
  refine At.nil ?_
  refine At.thenN ?_
  refine At.seq ?_
  refine At.seq ?_
  refine At.region ?_
  refine At.val (Val.loadAll (i := 1) Tryd.isAgg92 Tryd.sizeOf92 rfl rfl rfl) rfl rfl rfl ?_
  refine At.callP (fun w hw => goodEnt_p _ _ _ _ _ _ _ s w hlen (by omega)) Tryd.call110 rfl rfl ?_
  refine At.val (Val.not rfl) rfl rfl rfl ?_
  refine At.nil ?_
  refine At.thenN ?_
  refine At.cond rfl (fun h3 => ?_) (fun h3 => ?_)
  · skip
    try simp only [vN_T, vN_F, nmE_T, nmE_F, wI_T, wI_F, data_T, data_F, ino_T, ino_F, notT, notF, bneT, bneF, beqT, beqF, decT, decF] at h3
    have hg : ¬ GoodE k (qn : Nat) o c p z i s := by simpa using h3
    refine At.seq ?_
    refine At.region ?_
    refine At.val (Val.build (fun a ha => by simp only [List.map_toArray, List.map_cons, List.map_nil] <;> rfl) (bld_30_)) rfl rfl rfl ?_
    refine At.storeAll (i := 0) Tryd.sizeOf30 rfl rfl rfl (by simp [Value.oneCell']) rfl (by simp) ?_
    simp only [List.set_cons_zero, List.set_cons_succ]
    refine At.val (Val.assign rfl) rfl rfl rfl ?_
    refine At.nil ?_
    refine At.thenN ?_
    refine At.retC ?_
    refine At.thenR ?_
    refine At.ret2 (.inl rfl) rfl rfl (ResOf.all (i := 0) Tryd.isAgg30 Tryd.sizeOf30 rfl rfl (by simp)) rfl (fun w hw => ?_)
    exact ⟨by rw [packEnt_no hg]; rfl, hw.mod⟩
  · skip
    try simp only [vN_T, vN_F, nmE_T, nmE_F, wI_T, wI_F, data_T, data_F, ino_T, ino_F, notT, notF, bneT, bneF, beqT, beqF, decT, decF] at h3
    have hg : GoodE k (qn : Nat) o c p z i s := by simpa using h3
    have hsz := hg.size
    have hg' := hg
    unfold GoodE at hg'
    have hss : s.data.toList.length = s.size := size_len s
    refine At.skipC ?_
    refine At.thenN ?_
    refine At.seq ?_
    refine At.region ?_
    refine At.val (Val.build (fun a ha => by simp only [List.map_toArray, List.map_cons, List.map_nil] <;> rfl) (bld_127_)) rfl rfl rfl ?_
    refine At.alloc zero_127 zc_127 rfl (fun b4 => ?_)
    refine At.storeAll (i := 0) Tryd.sizeOf127 rfl rfl rfl (by simp [Value.oneCell']) rfl (by simp) ?_
    simp only [List.set_cons_zero, List.set_cons_succ]
    refine At.nil ?_
    rw [← penC_nil]
    refine At.thenN ?_
    refine At.seq ?_
    refine At.region ?_
    refine At.val (Val.field 0 rfl fo_92_0 rfl) rfl rfl rfl ?_
    refine At.val (Val.load (i := 2) Tryd.isAgg3 rfl rfl rfl) rfl rfl rfl ?_
    refine At.val (Val.conv Tryd.underlying3 Tryd.underlying40 rfl) rfl rfl rfl ?_
    rw [toU64 (n := k) (by omega) (by omega)]
    refine At.call1 0 rfl (fun w hw hr => penNumber_p _ [] (k.toNat) 1 w hr (by simp [le_length]) (by omega) (by decide)) Tryd.call76 rfl rfl ?_
    simp only [List.set_cons_zero, List.set_cons_succ]
    refine At.nil ?_
    refine At.thenN ?_
    refine At.seq ?_
    refine At.region ?_
    refine At.val (Val.field 7 rfl fo_92_7 rfl) rfl rfl rfl ?_
    refine At.val (Val.load (i := 2) Tryd.isAgg9 rfl rfl rfl) rfl rfl rfl ?_
    refine At.val (Val.lenStr Tryd.underlying9 rfl) rfl rfl rfl ?_
    first | refine At.val (Val.toU Tryd.underlying3 Tryd.underlying40 rfl (by omega) (by omega)) rfl rfl rfl ?_ | refine At.val (Val.conv Tryd.underlying3 Tryd.underlying40 rfl) rfl rfl rfl ?_
    refine At.call1 0 rfl (fun w hw hr => penNumber_p _ ([] ++ le 1 k.toNat) (s.size) 7 w hr (by simp [le_length]) (by omega) (by decide)) Tryd.call76 rfl rfl ?_
    simp only [List.set_cons_zero, List.set_cons_succ]
    refine At.nil ?_
    refine At.thenN ?_
    refine At.seq ?_
    refine At.region ?_
    refine At.val (Val.field 1 rfl fo_92_1 rfl) rfl rfl rfl ?_
    refine At.val (Val.load (i := 2) Tryd.isAgg40 rfl rfl rfl) rfl rfl rfl ?_
    refine At.call1 0 rfl (fun w hw hr => penNumber_p _ (([] ++ le 1 k.toNat) ++ le 7 s.size) (qn) 8 w hr (by simp [le_length]) (by omega) (by decide)) Tryd.call76 rfl rfl ?_
    simp only [List.set_cons_zero, List.set_cons_succ]
    refine At.nil ?_
    refine At.thenN ?_
    refine At.seq ?_
    refine At.region ?_
    refine At.val (Val.field 2 rfl fo_92_2 rfl) rfl rfl rfl ?_
    refine At.val (Val.load (i := 2) Tryd.isAgg3 rfl rfl rfl) rfl rfl rfl ?_
    refine At.val (Val.field 6 rfl fo_92_6 rfl) rfl rfl rfl ?_
    refine At.val (Val.load (i := 2) Tryd.isAgg3 rfl rfl rfl) rfl rfl rfl ?_
    refine At.val (Val.bin rfl rfl rfl) rfl rfl rfl ?_
    rw [or_one (o := o) (i := i) (by omega) (by omega) (by omega) (by omega) (by omega)]
    refine At.val (Val.conv Tryd.underlying3 Tryd.underlying40 rfl) rfl rfl rfl ?_
    rw [toU64 (n := o + i) (by omega) (by omega)]
    refine At.call1 0 rfl (fun w hw hr => penNumber_p _ ((([] ++ le 1 k.toNat) ++ le 7 s.size) ++ le 8 qn) ((o + i).toNat) 4 w hr (by simp [le_length]) (by omega) (by decide)) Tryd.call76 rfl rfl ?_
    simp only [List.set_cons_zero, List.set_cons_succ]
    refine At.nil ?_
    refine At.thenN ?_
    refine At.seq ?_
    refine At.region ?_
    refine At.val (Val.field 3 rfl fo_92_3 rfl) rfl rfl rfl ?_
    refine At.val (Val.load (i := 2) Tryd.isAgg3 rfl rfl rfl) rfl rfl rfl ?_
    refine At.val (Val.conv Tryd.underlying3 Tryd.underlying40 rfl) rfl rfl rfl ?_
    rw [toU64 (n := c) (by omega) (by omega)]
    refine At.call1 0 rfl (fun w hw hr => penNumber_p _ (((([] ++ le 1 k.toNat) ++ le 7 s.size) ++ le 8 qn) ++ le 4 (o + i).toNat) (c.toNat) 4 w hr (by simp [le_length]) (by omega) (by decide)) Tryd.call76 rfl rfl ?_
    simp only [List.set_cons_zero, List.set_cons_succ]
    refine At.nil ?_
    refine At.thenN ?_
    refine At.seq ?_
    refine At.region ?_
    refine At.val (Val.field 4 rfl fo_92_4 rfl) rfl rfl rfl ?_
    refine At.val (Val.load (i := 2) Tryd.isAgg3 rfl rfl rfl) rfl rfl rfl ?_
    refine At.val (Val.conv Tryd.underlying3 Tryd.underlying40 rfl) rfl rfl rfl ?_
    rw [toU64 (n := p) (by omega) (by omega)]
    refine At.call1 0 rfl (fun w hw hr => penNumber_p _ ((((([] ++ le 1 k.toNat) ++ le 7 s.size) ++ le 8 qn) ++ le 4 (o + i).toNat) ++ le 4 c.toNat) (p.toNat) 4 w hr (by simp [le_length]) (by omega) (by decide)) Tryd.call76 rfl rfl ?_
    simp only [List.set_cons_zero, List.set_cons_succ]
    refine At.nil ?_
    refine At.thenN ?_
    refine At.seq ?_
    refine At.region ?_
    refine At.val (Val.field 5 rfl fo_92_5 rfl) rfl rfl rfl ?_
    refine At.val (Val.load (i := 2) Tryd.isAgg3 rfl rfl rfl) rfl rfl rfl ?_
    refine At.val (Val.conv Tryd.underlying3 Tryd.underlying40 rfl) rfl rfl rfl ?_
    rw [toU64 (n := z) (by omega) (by omega)]
    refine At.call1 0 rfl (fun w hw hr => penNumber_p _ (((((([] ++ le 1 k.toNat) ++ le 7 s.size) ++ le 8 qn) ++ le 4 (o + i).toNat) ++ le 4 c.toNat) ++ le 4 p.toNat) (z.toNat) 4 w hr (by simp [le_length]) (by omega) (by decide)) Tryd.call76 rfl rfl ?_
    simp only [List.set_cons_zero, List.set_cons_succ]
    refine At.nil ?_
    refine At.thenN ?_
    refine At.seq ?_
    refine At.region ?_
    refine At.val (Val.field 7 rfl fo_92_7 rfl) rfl rfl rfl ?_
    refine At.val (Val.load (i := 2) Tryd.isAgg9 rfl rfl rfl) rfl rfl rfl ?_
    refine At.call1 0 rfl (fun w hw hr => penText_p _ ((((((([] ++ le 1 k.toNat) ++ le 7 s.size) ++ le 8 qn) ++ le 4 (o + i).toNat) ++ le 4 c.toNat) ++ le 4 p.toNat) ++ le 4 z.toNat) s w hr (by simp only [List.length_append, le_length, List.length_nil]; omega)) Tryd.call75 rfl rfl ?_
    simp only [List.set_cons_zero, List.set_cons_succ]
    refine At.nil ?_
    rw [show ((((((((([] : List UInt8) ++ le 1 k.toNat) ++ le 7 s.size) ++ le 8 qn) ++ le 4 (o + i).toNat) ++ le 4 c.toNat) ++ le 4 p.toNat) ++ le 4 z.toNat) ++ s.data.toList) = (entB k.toNat s.size qn (o + i).toNat c.toNat p.toNat z.toNat s.data.toList) from rfl]
    refine At.thenN ?_
    refine At.seq ?_
    refine At.region ?_
    refine At.val (Val.field 0 rfl fo_127_0 rfl) rfl rfl rfl ?_
    refine At.val (Val.loadPart (i := 0) Tryd.isAgg30 Tryd.sizeOf30 rfl rfl (penC_line (by rw [entB_length, hss]; omega)) (by rw [List.length_map, List.length_append, zs_length, entB_length, hss]; omega)) rfl rfl rfl ?_
    refine At.callP (fun w hw => close_p _ w (by rw [List.length_append, zs_length, entB_length, hss]; omega) (ht.mod hw.mod)) Tryd.call77 rfl rfl ?_
    refine At.storeAll (i := 1) Tryd.sizeOf30 rfl rfl (lineV_length (by rw [entB_length, hss]; omega)) (by simp [Value.oneCell']) rfl (by simp) ?_
    simp only [List.set_cons_zero, List.set_cons_succ]
    refine At.val (Val.assign rfl) rfl rfl rfl ?_
    refine At.nil ?_
    refine At.thenN ?_
    refine At.retC ?_
    refine At.ret2 (.inl rfl) rfl rfl (ResOf.all (i := 1) Tryd.isAgg30 Tryd.sizeOf30 rfl rfl (lineV_length (by rw [entB_length, hss]; omega))) rfl (fun w hw => ?_)
    exact ⟨by rw [packEnt_yes hg]; rfl, hw.mod⟩

theorem packEntR_p (k q o c p z i : Int) (s : ByteArray) (w : World) (hlen : s.size ≤ 9223372036854775807) (hq : 0 ≤ q) (hpp : -9223372036854775808 ≤ p ∧ p ≤ 9223372036854775807) :
    PureC Tryd.prog 54 [.agg #[.int .i64 k, .int .u64 q, .int .i64 o, .int .i64 c, .int .i64 p, .int .i64 z, .int .i64 i, .string s]] (packEntV k q o c p z i s) w := by
  refine enter0 Tryd.func54 rfl Tryd.ntmps54 rfl ?_
  obtain ⟨qn, rfl⟩ : ∃ n : Nat, q = n := ⟨q.toNat, by omega⟩
  simp only [envOf]
  refine At.seq ?_
  refine At.region ?_
  refine At.box rfl rfl rfl (fun b1 => ?_)
  refine At.alloc zero_30 zc_30 rfl (fun b2 => ?_)
  refine At.val (Val.assign rfl) rfl rfl rfl ?_
  refine At.nil ?_
  refine At.thenN ?_
  refine At.seq ?_
  refine At.region ?_
  refine At.val (Val.loadAll (i := 1) Tryd.isAgg92 Tryd.sizeOf92 rfl rfl rfl) rfl rfl rfl ?_
  refine At.callP (fun w hw => goodEntR_p _ _ _ _ _ _ _ s w hlen (by omega) hpp) Tryd.call111 rfl rfl ?_
  refine At.val (Val.assign rfl) rfl rfl rfl ?_
  refine At.nil ?_
  refine At.thenN ?_
  refine At.seq ?_
  refine At.seq ?_
  refine At.region ?_
  refine At.val (Val.move rfl) rfl rfl rfl ?_
  refine At.val (Val.not rfl) rfl rfl rfl ?_
  refine At.nil ?_
  refine At.thenN ?_
  refine At.cond rfl (fun h3 => ?_) (fun h3 => ?_)
  · skip
    try simp only [vN_T, vN_F, nmE_T, nmE_F, wI_T, wI_F, data_T, data_F, ino_T, ino_F, notT, notF, bneT, bneF, beqT, beqF, decT, decF] at h3
    have hg : ¬ GoodE k (qn : Nat) o c p z i s := by simpa using h3
    refine At.seq ?_
    refine At.region ?_
    refine At.val (Val.build (fun a ha => by simp only [List.map_toArray, List.map_cons, List.map_nil] <;> rfl) (bld_30_)) rfl rfl rfl ?_
    refine At.storeAll (i := 0) Tryd.sizeOf30 rfl rfl rfl (by simp [Value.oneCell']) rfl (by simp) ?_
    simp only [List.set_cons_zero, List.set_cons_succ]
    refine At.val (Val.assign rfl) rfl rfl rfl ?_
    refine At.nil ?_
    refine At.thenN ?_
    refine At.retC ?_
    refine At.thenR ?_
    refine At.ret2 (.inl rfl) rfl rfl (ResOf.all (i := 0) Tryd.isAgg30 Tryd.sizeOf30 rfl rfl (by simp)) rfl (fun w hw => ?_)
    exact ⟨by rw [packEnt_no hg]; rfl, hw.mod⟩
  · skip
    try simp only [vN_T, vN_F, nmE_T, nmE_F, wI_T, wI_F, data_T, data_F, ino_T, ino_F, notT, notF, bneT, bneF, beqT, beqF, decT, decF] at h3
    have hg : GoodE k (qn : Nat) o c p z i s := by simpa using h3
    have hsz := hg.size
    have hg' := hg
    unfold GoodE at hg'
    have hss : s.data.toList.length = s.size := size_len s
    refine At.skipC ?_
    refine At.thenN ?_
    refine At.seq ?_
    refine At.region ?_
    refine At.val (Val.field 2 rfl fo_92_2 rfl) rfl rfl rfl ?_
    refine At.val (Val.load (i := 1) Tryd.isAgg3 rfl rfl rfl) rfl rfl rfl ?_
    refine At.val (Val.assign rfl) rfl rfl rfl ?_
    refine At.nil ?_
    refine At.thenN ?_
    refine At.seq ?_
    refine At.seq ?_
    refine At.region ?_
    refine At.val (Val.field 0 rfl fo_92_0 rfl) rfl rfl rfl ?_
    refine At.val (Val.load (i := 1) Tryd.isAgg3 rfl rfl rfl) rfl rfl rfl ?_
    refine At.val (Val.bin rfl rfl rfl) rfl rfl rfl ?_
    refine At.nil ?_
    refine At.thenN ?_
    refine At.cond rfl (fun h4 => ?_) (fun h4 => ?_)
    · skip
      try simp only [vN_T, vN_F, nmE_T, nmE_F, wI_T, wI_F, data_T, data_F, ino_T, ino_F, notT, notF, bneT, bneF, beqT, beqF, decT, decF] at h4
      have hoi : i.toNat = (o + i).toNat := by omega
      refine At.region ?_
      refine At.val (Val.field 6 rfl fo_92_6 rfl) rfl rfl rfl ?_
      refine At.val (Val.load (i := 1) Tryd.isAgg3 rfl rfl rfl) rfl rfl rfl ?_
      refine At.val (Val.assign rfl) rfl rfl rfl ?_
      refine At.nil ?_
      refine At.thenN ?_
      refine At.seq ?_
      refine At.region ?_
      refine At.val (Val.field 0 rfl fo_92_0 rfl) rfl rfl rfl ?_
      refine At.val (Val.load (i := 1) Tryd.isAgg3 rfl rfl rfl) rfl rfl rfl ?_
      refine At.val (Val.toB Tryd.underlying3 Tryd.underlying5 rfl (by omega)) rfl rfl rfl ?_
      refine At.val (Val.field 7 rfl fo_92_7 rfl) rfl rfl rfl ?_
      refine At.val (Val.load (i := 1) Tryd.isAgg9 rfl rfl rfl) rfl rfl rfl ?_
      refine At.val (Val.lenStr Tryd.underlying9 rfl) rfl rfl rfl ?_
      refine At.val (Val.toB Tryd.underlying3 Tryd.underlying5 rfl (by omega)) rfl rfl rfl ?_
      rw [show ((s.size : Nat) : Int).toNat = s.size from Int.toNat_natCast _]
      refine At.buildRow (fun a ha => by simp only [List.map_toArray, List.map_cons, List.map_nil, ha.eval (x := (.tmp 22)) rfl, ha.eval (x := (.tmp 26)) rfl, ha.eval (x := (.const (.int .u8 (0)))) rfl, ha.eval (x := (.const (.int .u8 (0)))) rfl, ha.eval (x := (.const (.int .u8 (0)))) rfl, ha.eval (x := (.const (.int .u8 (0)))) rfl, ha.eval (x := (.const (.int .u8 (0)))) rfl, ha.eval (x := (.const (.int .u8 (0)))) rfl]; try rfl) (bs_54_8 _ _ _ _ _ _ _ _ ) 1 rfl (by decide) rfl (fun v5 => ?_)
      change At _ _ (brow 5 v5 ([UInt8.ofNat k.toNat, UInt8.ofNat s.size, 0, 0, 0, 0, 0, 0]) :: _) _
      rw [← ent_head (k := k.toNat) (n := s.size) (by omega)]
      refine At.val (Val.assign rfl) rfl rfl rfl ?_
      refine At.nil ?_
      refine At.thenN ?_
      refine At.seq ?_
      refine At.region ?_
      refine At.val (Val.move rfl) rfl rfl rfl ?_
      refine At.val (Val.field 1 rfl fo_92_1 rfl) rfl rfl rfl ?_
      refine At.val (Val.load (i := 2) Tryd.isAgg40 rfl rfl rfl) rfl rfl rfl ?_
      refine At.callR 0 rfl (fun w hw hr => rlay_p _ (le 1 k.toNat ++ le 7 s.size) (qn) 8 w hr (by omega) (by decide) (by simp [le_length])) Tryd.call79 rfl rfl (fun v6 => ?_)
      simp only [List.set_cons_zero, List.set_cons_succ]
      refine At.val (Val.assign rfl) rfl rfl rfl ?_
      refine At.nil ?_
      refine At.thenN ?_
      refine At.seq ?_
      refine At.region ?_
      refine At.val (Val.move rfl) rfl rfl rfl ?_
      refine At.val (Val.move rfl) rfl rfl rfl ?_
      refine At.val (Val.conv Tryd.underlying3 Tryd.underlying40 rfl) rfl rfl rfl ?_
      first | rw [toU64 (n := i) (by omega) (by omega), hoi] | rw [toU64 (n := o) (by omega) (by omega), hoi]
      refine At.callR 0 rfl (fun w hw hr => rlay_p _ ((le 1 k.toNat ++ le 7 s.size) ++ le 8 qn) ((o + i).toNat) 4 w hr (by omega) (by decide) (by simp [le_length])) Tryd.call79 rfl rfl (fun v7 => ?_)
      simp only [List.set_cons_zero, List.set_cons_succ]
      refine At.val (Val.assign rfl) rfl rfl rfl ?_
      refine At.nil ?_
      refine At.thenN ?_
      refine At.seq ?_
      refine At.region ?_
      refine At.val (Val.move rfl) rfl rfl rfl ?_
      refine At.val (Val.field 3 rfl fo_92_3 rfl) rfl rfl rfl ?_
      refine At.val (Val.load (i := 2) Tryd.isAgg3 rfl rfl rfl) rfl rfl rfl ?_
      refine At.val (Val.conv Tryd.underlying3 Tryd.underlying40 rfl) rfl rfl rfl ?_
      rw [toU64 (n := c) (by omega) (by omega)]
      refine At.callR 0 rfl (fun w hw hr => rlay_p _ (((le 1 k.toNat ++ le 7 s.size) ++ le 8 qn) ++ le 4 (o + i).toNat) (c.toNat) 4 w hr (by omega) (by decide) (by simp [le_length])) Tryd.call79 rfl rfl (fun v8 => ?_)
      simp only [List.set_cons_zero, List.set_cons_succ]
      refine At.val (Val.assign rfl) rfl rfl rfl ?_
      refine At.nil ?_
      refine At.thenN ?_
      refine At.seq ?_
      refine At.region ?_
      refine At.val (Val.move rfl) rfl rfl rfl ?_
      refine At.val (Val.field 4 rfl fo_92_4 rfl) rfl rfl rfl ?_
      refine At.val (Val.load (i := 2) Tryd.isAgg3 rfl rfl rfl) rfl rfl rfl ?_
      refine At.val (Val.conv Tryd.underlying3 Tryd.underlying40 rfl) rfl rfl rfl ?_
      rw [toU64 (n := p) (by omega) (by omega)]
      refine At.callR 0 rfl (fun w hw hr => rlay_p _ ((((le 1 k.toNat ++ le 7 s.size) ++ le 8 qn) ++ le 4 (o + i).toNat) ++ le 4 c.toNat) (p.toNat) 4 w hr (by omega) (by decide) (by simp [le_length])) Tryd.call79 rfl rfl (fun v9 => ?_)
      simp only [List.set_cons_zero, List.set_cons_succ]
      refine At.val (Val.assign rfl) rfl rfl rfl ?_
      refine At.nil ?_
      refine At.thenN ?_
      refine At.seq ?_
      refine At.region ?_
      refine At.val (Val.move rfl) rfl rfl rfl ?_
      refine At.val (Val.field 5 rfl fo_92_5 rfl) rfl rfl rfl ?_
      refine At.val (Val.load (i := 2) Tryd.isAgg3 rfl rfl rfl) rfl rfl rfl ?_
      refine At.val (Val.conv Tryd.underlying3 Tryd.underlying40 rfl) rfl rfl rfl ?_
      rw [toU64 (n := z) (by omega) (by omega)]
      refine At.callR 0 rfl (fun w hw hr => rlay_p _ (((((le 1 k.toNat ++ le 7 s.size) ++ le 8 qn) ++ le 4 (o + i).toNat) ++ le 4 c.toNat) ++ le 4 p.toNat) (z.toNat) 4 w hr (by omega) (by decide) (by simp [le_length])) Tryd.call79 rfl rfl (fun v10 => ?_)
      simp only [List.set_cons_zero, List.set_cons_succ]
      refine At.val (Val.assign rfl) rfl rfl rfl ?_
      refine At.nil ?_
      refine At.thenN ?_
      refine At.seq ?_
      refine At.region ?_
      refine At.val (Val.move rfl) rfl rfl rfl ?_
      refine At.val (Val.field 7 rfl fo_92_7 rfl) rfl rfl rfl ?_
      refine At.val (Val.load (i := 2) Tryd.isAgg9 rfl rfl rfl) rfl rfl rfl ?_
      refine At.callR 0 rfl (fun w hw hr => letters_p _ ((((((le 1 k.toNat ++ le 7 s.size) ++ le 8 qn) ++ le 4 (o + i).toNat) ++ le 4 c.toNat) ++ le 4 p.toNat) ++ le 4 z.toNat) s w hr (by simp only [List.length_append, le_length]; omega)) Tryd.call78 rfl rfl (fun v11 => ?_)
      simp only [List.set_cons_zero, List.set_cons_succ]
      refine At.val (Val.assign rfl) rfl rfl rfl ?_
      refine At.nil ?_
      refine At.thenN ?_
      refine At.seq ?_
      refine At.region ?_
      refine At.val (Val.move rfl) rfl rfl rfl ?_
      refine At.callU 0 rfl (fun w hw hr => line_p _ (entB k.toNat s.size qn (o + i).toNat c.toNat p.toNat z.toNat s.data.toList) w hr (by rw [entB_length, hss]; omega)) Tryd.call80 rfl rfl ?_
      simp only [List.eraseIdx_cons_zero, List.eraseIdx_cons_succ]
      refine At.alloc zero_30 zc_30 rfl (fun b12 => ?_)
      refine At.storeAll (i := 0) Tryd.sizeOf30 rfl rfl (lineV_length (by rw [entB_length, hss]; omega)) (by simp [Value.oneCell']) rfl (by simp) ?_
      simp only [List.set_cons_zero, List.set_cons_succ]
      refine At.nil ?_
      refine At.thenN ?_
      refine At.seq ?_
      refine At.region ?_
      refine At.val (Val.loadAll (i := 0) Tryd.isAgg30 Tryd.sizeOf30 rfl rfl (lineV_length (by rw [entB_length, hss]; omega))) rfl rfl rfl ?_
      refine At.storeAll (i := 1) Tryd.sizeOf30 rfl rfl (lineV_length (by rw [entB_length, hss]; omega)) (by simp [Value.oneCell']) rfl (by simp) ?_
      simp only [List.set_cons_zero, List.set_cons_succ]
      refine At.val (Val.assign rfl) rfl rfl rfl ?_
      refine At.nil ?_
      refine At.thenN ?_
      refine At.retC ?_
      refine At.ret2 (.inl rfl) rfl rfl (ResOf.all (i := 1) Tryd.isAgg30 Tryd.sizeOf30 rfl rfl (lineV_length (by rw [entB_length, hss]; omega))) rfl (fun w hw => ?_)
      exact ⟨by rw [packEnt_yes hg]; rfl, hw.mod⟩
    · skip
      try simp only [vN_T, vN_F, nmE_T, nmE_F, wI_T, wI_F, data_T, data_F, ino_T, ino_F, notT, notF, bneT, bneF, beqT, beqF, decT, decF] at h4
      have hoi : o.toNat = (o + i).toNat := by omega
      refine At.skipC ?_
      refine At.thenN ?_
      refine At.seq ?_
      refine At.region ?_
      refine At.val (Val.field 0 rfl fo_92_0 rfl) rfl rfl rfl ?_
      refine At.val (Val.load (i := 1) Tryd.isAgg3 rfl rfl rfl) rfl rfl rfl ?_
      refine At.val (Val.toB Tryd.underlying3 Tryd.underlying5 rfl (by omega)) rfl rfl rfl ?_
      refine At.val (Val.field 7 rfl fo_92_7 rfl) rfl rfl rfl ?_
      refine At.val (Val.load (i := 1) Tryd.isAgg9 rfl rfl rfl) rfl rfl rfl ?_
      refine At.val (Val.lenStr Tryd.underlying9 rfl) rfl rfl rfl ?_
      refine At.val (Val.toB Tryd.underlying3 Tryd.underlying5 rfl (by omega)) rfl rfl rfl ?_
      rw [show ((s.size : Nat) : Int).toNat = s.size from Int.toNat_natCast _]
      refine At.buildRow (fun a ha => by simp only [List.map_toArray, List.map_cons, List.map_nil, ha.eval (x := (.tmp 22)) rfl, ha.eval (x := (.tmp 26)) rfl, ha.eval (x := (.const (.int .u8 (0)))) rfl, ha.eval (x := (.const (.int .u8 (0)))) rfl, ha.eval (x := (.const (.int .u8 (0)))) rfl, ha.eval (x := (.const (.int .u8 (0)))) rfl, ha.eval (x := (.const (.int .u8 (0)))) rfl, ha.eval (x := (.const (.int .u8 (0)))) rfl]; try rfl) (bs_54_8 _ _ _ _ _ _ _ _ ) 1 rfl (by decide) rfl (fun v13 => ?_)
      change At _ _ (brow 5 v13 ([UInt8.ofNat k.toNat, UInt8.ofNat s.size, 0, 0, 0, 0, 0, 0]) :: _) _
      rw [← ent_head (k := k.toNat) (n := s.size) (by omega)]
      refine At.val (Val.assign rfl) rfl rfl rfl ?_
      refine At.nil ?_
      refine At.thenN ?_
      refine At.seq ?_
      refine At.region ?_
      refine At.val (Val.move rfl) rfl rfl rfl ?_
      refine At.val (Val.field 1 rfl fo_92_1 rfl) rfl rfl rfl ?_
      refine At.val (Val.load (i := 2) Tryd.isAgg40 rfl rfl rfl) rfl rfl rfl ?_
      refine At.callR 0 rfl (fun w hw hr => rlay_p _ (le 1 k.toNat ++ le 7 s.size) (qn) 8 w hr (by omega) (by decide) (by simp [le_length])) Tryd.call79 rfl rfl (fun v14 => ?_)
      simp only [List.set_cons_zero, List.set_cons_succ]
      refine At.val (Val.assign rfl) rfl rfl rfl ?_
      refine At.nil ?_
      refine At.thenN ?_
      refine At.seq ?_
      refine At.region ?_
      refine At.val (Val.move rfl) rfl rfl rfl ?_
      refine At.val (Val.move rfl) rfl rfl rfl ?_
      refine At.val (Val.conv Tryd.underlying3 Tryd.underlying40 rfl) rfl rfl rfl ?_
      first | rw [toU64 (n := i) (by omega) (by omega), hoi] | rw [toU64 (n := o) (by omega) (by omega), hoi]
      refine At.callR 0 rfl (fun w hw hr => rlay_p _ ((le 1 k.toNat ++ le 7 s.size) ++ le 8 qn) ((o + i).toNat) 4 w hr (by omega) (by decide) (by simp [le_length])) Tryd.call79 rfl rfl (fun v15 => ?_)
      simp only [List.set_cons_zero, List.set_cons_succ]
      refine At.val (Val.assign rfl) rfl rfl rfl ?_
      refine At.nil ?_
      refine At.thenN ?_
      refine At.seq ?_
      refine At.region ?_
      refine At.val (Val.move rfl) rfl rfl rfl ?_
      refine At.val (Val.field 3 rfl fo_92_3 rfl) rfl rfl rfl ?_
      refine At.val (Val.load (i := 2) Tryd.isAgg3 rfl rfl rfl) rfl rfl rfl ?_
      refine At.val (Val.conv Tryd.underlying3 Tryd.underlying40 rfl) rfl rfl rfl ?_
      rw [toU64 (n := c) (by omega) (by omega)]
      refine At.callR 0 rfl (fun w hw hr => rlay_p _ (((le 1 k.toNat ++ le 7 s.size) ++ le 8 qn) ++ le 4 (o + i).toNat) (c.toNat) 4 w hr (by omega) (by decide) (by simp [le_length])) Tryd.call79 rfl rfl (fun v16 => ?_)
      simp only [List.set_cons_zero, List.set_cons_succ]
      refine At.val (Val.assign rfl) rfl rfl rfl ?_
      refine At.nil ?_
      refine At.thenN ?_
      refine At.seq ?_
      refine At.region ?_
      refine At.val (Val.move rfl) rfl rfl rfl ?_
      refine At.val (Val.field 4 rfl fo_92_4 rfl) rfl rfl rfl ?_
      refine At.val (Val.load (i := 2) Tryd.isAgg3 rfl rfl rfl) rfl rfl rfl ?_
      refine At.val (Val.conv Tryd.underlying3 Tryd.underlying40 rfl) rfl rfl rfl ?_
      rw [toU64 (n := p) (by omega) (by omega)]
      refine At.callR 0 rfl (fun w hw hr => rlay_p _ ((((le 1 k.toNat ++ le 7 s.size) ++ le 8 qn) ++ le 4 (o + i).toNat) ++ le 4 c.toNat) (p.toNat) 4 w hr (by omega) (by decide) (by simp [le_length])) Tryd.call79 rfl rfl (fun v17 => ?_)
      simp only [List.set_cons_zero, List.set_cons_succ]
      refine At.val (Val.assign rfl) rfl rfl rfl ?_
      refine At.nil ?_
      refine At.thenN ?_
      refine At.seq ?_
      refine At.region ?_
      refine At.val (Val.move rfl) rfl rfl rfl ?_
      refine At.val (Val.field 5 rfl fo_92_5 rfl) rfl rfl rfl ?_
      refine At.val (Val.load (i := 2) Tryd.isAgg3 rfl rfl rfl) rfl rfl rfl ?_
      refine At.val (Val.conv Tryd.underlying3 Tryd.underlying40 rfl) rfl rfl rfl ?_
      rw [toU64 (n := z) (by omega) (by omega)]
      refine At.callR 0 rfl (fun w hw hr => rlay_p _ (((((le 1 k.toNat ++ le 7 s.size) ++ le 8 qn) ++ le 4 (o + i).toNat) ++ le 4 c.toNat) ++ le 4 p.toNat) (z.toNat) 4 w hr (by omega) (by decide) (by simp [le_length])) Tryd.call79 rfl rfl (fun v18 => ?_)
      simp only [List.set_cons_zero, List.set_cons_succ]
      refine At.val (Val.assign rfl) rfl rfl rfl ?_
      refine At.nil ?_
      refine At.thenN ?_
      refine At.seq ?_
      refine At.region ?_
      refine At.val (Val.move rfl) rfl rfl rfl ?_
      refine At.val (Val.field 7 rfl fo_92_7 rfl) rfl rfl rfl ?_
      refine At.val (Val.load (i := 2) Tryd.isAgg9 rfl rfl rfl) rfl rfl rfl ?_
      refine At.callR 0 rfl (fun w hw hr => letters_p _ ((((((le 1 k.toNat ++ le 7 s.size) ++ le 8 qn) ++ le 4 (o + i).toNat) ++ le 4 c.toNat) ++ le 4 p.toNat) ++ le 4 z.toNat) s w hr (by simp only [List.length_append, le_length]; omega)) Tryd.call78 rfl rfl (fun v19 => ?_)
      simp only [List.set_cons_zero, List.set_cons_succ]
      refine At.val (Val.assign rfl) rfl rfl rfl ?_
      refine At.nil ?_
      refine At.thenN ?_
      refine At.seq ?_
      refine At.region ?_
      refine At.val (Val.move rfl) rfl rfl rfl ?_
      refine At.callU 0 rfl (fun w hw hr => line_p _ (entB k.toNat s.size qn (o + i).toNat c.toNat p.toNat z.toNat s.data.toList) w hr (by rw [entB_length, hss]; omega)) Tryd.call80 rfl rfl ?_
      simp only [List.eraseIdx_cons_zero, List.eraseIdx_cons_succ]
      refine At.alloc zero_30 zc_30 rfl (fun b20 => ?_)
      refine At.storeAll (i := 0) Tryd.sizeOf30 rfl rfl (lineV_length (by rw [entB_length, hss]; omega)) (by simp [Value.oneCell']) rfl (by simp) ?_
      simp only [List.set_cons_zero, List.set_cons_succ]
      refine At.nil ?_
      refine At.thenN ?_
      refine At.seq ?_
      refine At.region ?_
      refine At.val (Val.loadAll (i := 0) Tryd.isAgg30 Tryd.sizeOf30 rfl rfl (lineV_length (by rw [entB_length, hss]; omega))) rfl rfl rfl ?_
      refine At.storeAll (i := 1) Tryd.sizeOf30 rfl rfl (lineV_length (by rw [entB_length, hss]; omega)) (by simp [Value.oneCell']) rfl (by simp) ?_
      simp only [List.set_cons_zero, List.set_cons_succ]
      refine At.val (Val.assign rfl) rfl rfl rfl ?_
      refine At.nil ?_
      refine At.thenN ?_
      refine At.retC ?_
      refine At.ret2 (.inl rfl) rfl rfl (ResOf.all (i := 1) Tryd.isAgg30 Tryd.sizeOf30 rfl rfl (lineV_length (by rw [entB_length, hss]; omega))) rfl (fun w hw => ?_)
      exact ⟨by rw [packEnt_yes hg]; rfl, hw.mod⟩

end Go.Proofs.YtoiebgnmknbkjaaDoor
