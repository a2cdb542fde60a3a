/- The sealed words and the lines of the codec. -/
import Derived.Test.YtoiebgnmknbkjaaDoorA2
import Derived.Test.YtoiebgnmknbkjaaDoorWa
set_option linter.unusedVariables false
set_option linter.unusedSimpArgs false
namespace Go.Proofs.YtoiebgnmknbkjaaDoor
open Go Go.Wk
theorem lay_p (x : BitVec 64) (w : World) :
    PureC Tryd.prog 125 [b64 x] (.agg ((le 8 x.toNat).map bv).toArray) w := by
  refine enter0 Tryd.func125 rfl Tryd.ntmps125 rfl ?_
  simp only [envOf]
  refine At.seq ?_
  refine At.region ?_
  refine At.alloc zero_181 zc_181 rfl (fun b1 => ?_)
  refine At.nil ?_
  refine At.thenN ?_
  refine At.seq ?_
  refine At.region ?_
  refine At.alloc zero_181 zc_181 rfl (fun b2 => ?_)
  refine At.nil ?_
  refine At.thenN ?_
  refine At.seq ?_
  refine At.seq ?_
  refine At.region ?_
  refine At.val (Val.move rfl) rfl rfl rfl ?_
  refine At.nil ?_
  refine At.thenN ?_
  refine At.block ?_
  skip
  refine At.loop (σ := Nat) (fun k => k ≤ 8) (fun k => [(0, b64 x), (2, .pointer (some ⟨b1, 0, none⟩)), (3, .pointer (some ⟨b2, 0, none⟩)), (5, .int .i64 k)]) (fun k => [blk b2 181 ((fillTo (le 8 x.toNat) (zs 8) k).map bv), blk b1 181 (List.replicate 8 (Value.int .u8 0))]) (fun k => 8 - k) 0 (by omega) (Sub.cons rfl (Sub.cons rfl (Sub.cons rfl (Sub.cons rfl Sub.nil)))) (List.Perm.refl _) ?_
  intro k hs
  refine At.seq ?_
  refine At.region ?_
  refine At.val (Val.bin rfl rfl rfl) rfl rfl rfl ?_
  refine At.nil ?_
  refine At.thenN ?_
  refine At.seq ?_
  refine At.cond rfl (fun h3 => ?_) (fun h3 => ?_)
  · skip
    have hk : k < 8 := by have := h3; simp at this; omega
    have e8 : (8 * (k : Int)).toNat = 8 * k := by omega
    have hc := le_get 8 x.toNat k hk
    refine At.skipC ?_
    refine At.thenN ?_
    refine At.seq ?_
    refine At.block ?_
    refine At.seq ?_
    refine At.region ?_
    refine At.val (Val.move rfl) rfl rfl rfl ?_
    refine At.val (Val.assign rfl) rfl rfl rfl ?_
    refine At.nil ?_
    refine At.thenN ?_
    refine At.region ?_
    refine At.val (Val.move rfl) rfl rfl rfl ?_
    refine At.val (Val.move rfl) rfl rfl rfl ?_
    refine At.val (Val.move rfl) rfl rfl rfl ?_
    refine At.val (Val.bin rfl rfl rfl) rfl rfl rfl ?_
    refine At.val (Val.shr rfl rfl (by rw [wrap_i64 (by omega) (by omega)]; omega)) rfl rfl rfl ?_
    refine At.val (Val.conv Tryd.underlying40 Tryd.underlying5 rfl) rfl rfl rfl ?_
    refine At.val (Val.indexArr k (by simp) Tryd.underlying181 Tryd.sizeOf5 rfl rfl (by omega) (by omega)) rfl rfl rfl ?_
    refine At.store (i := 0) (v := bv (UInt8.ofNat (x.toNat / 256 ^ k))) Tryd.sizeOf5 rfl (congrArg (fun z => some (Value.int IntKind.u8 z)) (by rw [show IntKind.i64.wrap (8 * (k : Int)) = ((8 * k : Nat) : Int) from by rw [wrap_i64 (by omega) (by omega)]; omega, Int.toNat_natCast, show IntKind.u64.bits = 64 from rfl, shr64 x (8 * k) (by omega), wrap_u8_nat, bit_shift_div, pow_256])) rfl rfl (by rw [fill_len (by simp [le_length, zs_length]), le_length]; exact hk) ?_
    simp only [List.set_cons_zero, List.set_cons_succ]
    rw [fill_step hc (by simp [le_length, zs_length])]
    refine At.nil ?_
    refine At.blkN ?_
    refine At.thenN ?_
    refine At.region ?_
    refine At.val (Val.bin rfl rfl rfl) rfl rfl rfl ?_
    refine At.val (Val.move rfl) rfl rfl rfl ?_
    refine At.nil ?_
    refine At.thenN ?_
    exact At.again (k + 1) (by omega) (by omega) (Sub.cons rfl (Sub.cons rfl (Sub.cons rfl (Sub.cons (congrArg (fun z => some (Value.int IntKind.i64 z)) (wrap_i64 (by omega) (by omega))) Sub.nil)))) (List.Perm.refl _)
  · skip
    have hk : k = 8 := by have := h3; simp at this; omega
    refine At.exitC ?_
    refine At.thenX ?_
    refine At.thenX ?_
    refine At.blkX ?_
    refine At.thenN ?_
    refine At.seq ?_
    refine At.region ?_
    refine At.val (Val.loadAll (i := 0) Tryd.isAgg181 Tryd.sizeOf181 rfl rfl (by rw [fill_len (by simp [le_length, zs_length]), le_length])) rfl rfl rfl ?_
    refine At.storeAll (i := 1) Tryd.sizeOf181 rfl rfl (by rw [fill_len (by simp [le_length, zs_length]), le_length]) (by simp [Value.oneCell']) rfl (by simp) ?_
    simp only [List.set_cons_zero, List.set_cons_succ]
    refine At.nil ?_
    refine At.thenN ?_
    refine At.retC ?_
    refine At.ret1 (.inl rfl) rfl rfl (ResOf.all (i := 1) Tryd.isAgg181 Tryd.sizeOf181 rfl rfl (by rw [fill_len (by simp [le_length, zs_length]), le_length])) (fun w hw => ?_)
    exact ⟨by rw [hk, fillTo_all (le_length 8 _) (zs_length 8)], hw.mod⟩

theorem check_p (a : Int) (v : BitVec 32) (w : World) (ht : Tab w) :
    PureC Tryd.prog 122 [.int .i64 a, b32 v] (b32 (checkW (BitVec.ofInt 64 a) v)) w := by
  refine enter0 Tryd.func122 rfl Tryd.ntmps122 rfl ?_
  simp only [envOf]
  refine At.seq ?_
  refine At.region ?_
  refine At.val (Val.assign rfl) rfl rfl rfl ?_
  refine At.nil ?_
  refine At.weaken [(0, .int .i64 a), (1, b32 v), (4, .int .u32 0)] (Sub.cons rfl (Sub.cons rfl (Sub.cons rfl Sub.nil))) ?_
  refine At.thenN ?_
  refine At.seq ?_
  refine At.region ?_
  refine At.val (Val.move rfl) rfl rfl rfl ?_
  refine At.val (Val.conv Tryd.underlying3 Tryd.underlying40 rfl) rfl rfl rfl ?_
  rw [wrap_u64_int]
  refine At.callP (fun w hw => lay_p (BitVec.ofInt 64 a) w) Tryd.call125 rfl rfl ?_
  refine At.alloc zero_181 zc_181 rfl (fun b1 => ?_)
  refine At.storeAll (i := 0) Tryd.sizeOf181 rfl rfl (by simp [le_length]) (by simp [Value.oneCell']) rfl (by simp) ?_
  simp only [List.set_cons_zero, List.set_cons_succ]
  refine At.nil ?_
  refine At.thenN ?_
  refine At.seq ?_
  refine At.region ?_
  refine At.val (Val.move rfl) rfl rfl rfl ?_
  refine At.val (Val.conv Tryd.underlying48 Tryd.underlying40 rfl) rfl rfl rfl ?_
  rw [u64_of32]
  refine At.callP (fun w hw => lay_p _ w) Tryd.call125 rfl rfl ?_
  refine At.alloc zero_181 zc_181 rfl (fun b2 => ?_)
  refine At.storeAll (i := 0) Tryd.sizeOf181 rfl rfl (by simp [le_length]) (by simp [Value.oneCell']) rfl (by simp) ?_
  simp only [List.set_cons_zero, List.set_cons_succ]
  refine At.nil ?_
  refine At.thenN ?_
  refine At.seq ?_
  refine At.quiet rfl (by decide +kernel) ?_
  refine QAt.val (Val.cutArr 0 8 0 8 8 Tryd.underlying181 Tryd.sizeOf5 rfl rfl rfl (by decide) (by decide) rfl rfl rfl) rfl rfl rfl ?_
  refine QAt.callP (fun w hw => sum_n _ (le 8 (BitVec.ofInt 64 a).toNat) 8 8 w (le_length ..) (hw.blk (i := 1) rfl).bytes' (ht.mod hw.mod) (by decide)) Tryd.call115 rfl rfl ?_
  refine QAt.val (Val.cutArr 0 4 0 4 8 Tryd.underlying181 Tryd.sizeOf5 rfl rfl ⟨_, _, rfl, by decide, rfl⟩ (by decide) (by decide) rfl rfl rfl) rfl rfl rfl ?_
  refine QAt.callP (fun w hw => sumOn_n _ _ (le 4 v.toNat) 4 8 w (le_length ..) (by have := ((hw.blk (i := 0) rfl).bytes').take 4; rw [le_take (by decide), BitVec.toNat_setWidth, Nat.mod_eq_of_lt (by have := v.isLt; omega)] at this; exact this) (ht.mod hw.mod) (by decide)) Tryd.call126 rfl rfl ?_
  refine QAt.val (Val.assign rfl) rfl rfl rfl ?_
  refine QAt.fin ?_
  refine At.thenN ?_
  refine At.retC ?_
  refine At.ret1 (.inl rfl) rfl rfl rfl (fun w hw => ?_)
  exact ⟨by rw [sumOn_append]; rfl, hw.mod⟩

theorem seal_p (a : Int) (v : BitVec 32) (w : World) (ht : Tab w) :
    PureC Tryd.prog 91 [.int .i64 a, b32 v] (b64 (sealW (BitVec.ofInt 64 a) v)) w := by
  refine enter0 Tryd.func91 rfl Tryd.ntmps91 rfl ?_
  simp only [envOf]
  refine At.seq ?_
  refine At.region ?_
  refine At.val (Val.assign rfl) rfl rfl rfl ?_
  refine At.nil ?_
  refine At.thenN ?_
  refine At.seq ?_
  refine At.seq ?_
  refine At.region ?_
  refine At.val (Val.move rfl) rfl rfl rfl ?_
  refine At.val (Val.bin rfl rfl rfl) rfl rfl rfl ?_
  refine At.nil ?_
  refine At.thenN ?_
  refine At.cond rfl (fun h1 => ?_) (fun h1 => ?_)
  · skip
    refine At.seq ?_
    refine At.region ?_
    refine At.val (Val.assign rfl) rfl rfl rfl ?_
    refine At.nil ?_
    refine At.thenN ?_
    refine At.retC ?_
    refine At.thenR ?_
    refine At.ret1 (.inl rfl) rfl rfl rfl (fun w hw => ?_)
    exact ⟨by rw [seal_zero (by have := h1; simp at this; exact BitVec.eq_of_toNat_eq (by simpa using this))]; rfl, hw.mod⟩
  · skip
    refine At.skipC ?_
    refine At.thenN ?_
    refine At.seq ?_
    refine At.region ?_
    refine At.val (Val.move rfl) rfl rfl rfl ?_
    refine At.val (Val.move rfl) rfl rfl rfl ?_
    refine At.callP (fun w hw => check_p _ _ w (ht.mod hw.mod)) Tryd.call122 rfl rfl ?_
    refine At.val (Val.conv Tryd.underlying48 Tryd.underlying40 rfl) rfl rfl rfl ?_
    rw [u64_of32]
    refine At.val (Val.shl rfl rfl (by decide)) rfl rfl rfl ?_
    rw [show IntKind.u64.wrap ((((checkW (BitVec.ofInt 64 a) v).setWidth 64).toNat : Int) * 2 ^ min (32 : Int).toNat IntKind.u64.bits) = ((((checkW (BitVec.ofInt 64 a) v).setWidth 64) <<< 32).toNat : Int) from shl64 _ 32 (by decide)]
    refine At.val (Val.move rfl) rfl rfl rfl ?_
    refine At.val (Val.conv Tryd.underlying48 Tryd.underlying40 rfl) rfl rfl rfl ?_
    rw [u64_of32]
    refine At.val (Val.bin rfl rfl rfl) rfl rfl rfl ?_
    rw [or64]
    refine At.val (Val.assign rfl) rfl rfl rfl ?_
    refine At.nil ?_
    refine At.thenN ?_
    refine At.retC ?_
    refine At.ret1 (.inl rfl) rfl rfl rfl (fun w hw => ?_)
    exact ⟨by rw [seal_some (by intro e; subst e; simp at h1)], hw.mod⟩

theorem unseal_p (a : Int) (x : BitVec 64) (w : World) (ht : Tab w) :
    PureC Tryd.prog 123 [.int .i64 a, b64 x] (unsealV (BitVec.ofInt 64 a) x) w := by
  refine enter0 Tryd.func123 rfl Tryd.ntmps123 rfl ?_
  simp only [envOf]
  refine At.seq ?_
  refine At.region ?_
  refine At.val (Val.assign rfl) rfl rfl rfl ?_
  refine At.val (Val.assign rfl) rfl rfl rfl ?_
  refine At.nil ?_
  refine At.thenN ?_
  refine At.seq ?_
  refine At.region ?_
  refine At.val (Val.move rfl) rfl rfl rfl ?_
  refine At.val (Val.conv Tryd.underlying40 Tryd.underlying48 rfl) rfl rfl rfl ?_
  rw [conv_u32_64]
  refine At.val (Val.assign rfl) rfl rfl rfl ?_
  refine At.nil ?_
  refine At.thenN ?_
  refine At.seq ?_
  refine At.seq ?_
  refine At.region ?_
  refine At.val (Val.move rfl) rfl rfl rfl ?_
  refine At.val (Val.move rfl) rfl rfl rfl ?_
  refine At.callP (fun w hw => seal_p _ _ w (ht.mod hw.mod)) Tryd.call91 rfl rfl ?_
  refine At.val (Val.move rfl) rfl rfl rfl ?_
  refine At.val (Val.bin rfl rfl rfl) rfl rfl rfl ?_
  refine At.nil ?_
  refine At.thenN ?_
  refine At.cond rfl (fun h1 => ?_) (fun h1 => ?_)
  · skip
    refine At.seq ?_
    refine At.region ?_
    refine At.val (Val.assign rfl) rfl rfl rfl ?_
    refine At.val (Val.assign rfl) rfl rfl rfl ?_
    refine At.nil ?_
    refine At.thenN ?_
    refine At.retC ?_
    refine At.thenR ?_
    refine At.ret2 (.inl rfl) rfl rfl rfl rfl (fun w hw => ?_)
    exact ⟨by rw [unseal_no (bv_ne64 h1)], hw.mod⟩
  · skip
    refine At.skipC ?_
    refine At.thenN ?_
    refine At.seq ?_
    refine At.region ?_
    refine At.val (Val.move rfl) rfl rfl rfl ?_
    refine At.val (Val.assign rfl) rfl rfl rfl ?_
    refine At.val (Val.assign rfl) rfl rfl rfl ?_
    refine At.nil ?_
    refine At.thenN ?_
    refine At.retC ?_
    refine At.ret2 (.inl rfl) rfl rfl rfl rfl (fun w hw => ?_)
    exact ⟨by rw [unseal_yes (bv_eq64 h1)], hw.mod⟩

theorem close_p (l : List UInt8) (w : World) (hl : l.length = 64) (ht : Tab w) :
    PureC Tryd.prog 77 [.agg (l.map bv).toArray] (.agg ((closeL l).map bv).toArray) w := by
  refine enter0 Tryd.func77 rfl Tryd.ntmps77 rfl ?_
  simp only [envOf]
  refine At.seq ?_
  refine At.region ?_
  refine At.box rfl rfl rfl (fun b1 => ?_)
  refine At.alloc zero_30 zc_30 rfl (fun b2 => ?_)
  refine At.nil ?_
  refine At.thenN ?_
  refine At.seq ?_
  refine At.region ?_
  refine At.val (Val.cutArr 0 60 0 60 64 Tryd.underlying30 Tryd.sizeOf5 rfl rfl ⟨_, _, rfl, by decide, rfl⟩ (by decide) (by decide) rfl rfl rfl) rfl rfl rfl ?_
  refine At.callP (fun w hw => sum_n _ (l.take 60) 60 64 w (by simp [hl]) ((hw.blk (i := 1) rfl).bytes'.take 60) (ht.mod hw.mod) (by decide)) Tryd.call115 rfl rfl ?_
  refine At.val (Val.assign rfl) rfl rfl rfl ?_
  refine At.nil ?_
  refine At.thenN ?_
  refine At.seq ?_
  refine At.seq ?_
  refine At.region ?_
  refine At.val (Val.move rfl) rfl rfl rfl ?_
  refine At.nil ?_
  refine At.thenN ?_
  refine At.block ?_
  skip
  refine At.loop (σ := Nat) (fun k => k ≤ 4) (fun k => [(1, .pointer (some ⟨b1, 0, none⟩)), (2, .pointer (some ⟨b2, 0, none⟩)), (3, b32 (sumOn 0 (l.take 60))), (7, .int .i64 k)]) (fun k => [blk b2 30 (List.replicate 64 (Value.int .u8 0)), blk b1 30 ((fillTo (closeL l) l (60 + k)).map bv)]) (fun k => 4 - k) 0 (by omega) (Sub.cons rfl (Sub.cons rfl (Sub.cons rfl (Sub.cons rfl Sub.nil)))) (by rw [show 60 + 0 = 60 from rfl, closeL_fill hl]) ?_
  intro k hs
  refine At.seq ?_
  refine At.region ?_
  refine At.val (Val.bin rfl rfl rfl) rfl rfl rfl ?_
  refine At.nil ?_
  refine At.thenN ?_
  refine At.seq ?_
  refine At.cond rfl (fun h3 => ?_) (fun h3 => ?_)
  · skip
    have hk : k < 4 := by have := h3; simp at this; omega
    have hc := closeL_get (k := k) hl hk
    refine At.skipC ?_
    refine At.thenN ?_
    refine At.seq ?_
    refine At.block ?_
    refine At.seq ?_
    refine At.region ?_
    refine At.val (Val.move rfl) rfl rfl rfl ?_
    refine At.val (Val.assign rfl) rfl rfl rfl ?_
    refine At.nil ?_
    refine At.thenN ?_
    refine At.region ?_
    refine At.val (Val.move rfl) rfl rfl rfl ?_
    refine At.val (Val.bin rfl rfl rfl) rfl rfl rfl ?_
    rw [wrap_i64 (n := 60 + (k : Int)) (by omega) (by omega)]
    refine At.val (Val.move rfl) rfl rfl rfl ?_
    refine At.val (Val.move rfl) rfl rfl rfl ?_
    refine At.val (Val.bin rfl rfl rfl) rfl rfl rfl ?_
    rw [wrap_i64 (n := 8 * (k : Int)) (by omega) (by omega)]
    refine At.val (Val.shr rfl rfl (by omega)) rfl rfl rfl ?_
    refine At.val (Val.conv Tryd.underlying48 Tryd.underlying5 rfl) rfl rfl rfl ?_
    refine At.val (Val.indexArr (60 + k) (by omega) Tryd.underlying30 Tryd.sizeOf5 rfl rfl (by omega) (by omega)) rfl rfl rfl ?_
    refine At.store (i := 1) (v := bv (UInt8.ofNat ((sumOn 0 (l.take 60)).toNat / 256 ^ k))) Tryd.sizeOf5 rfl (congrArg (fun z => some (Value.int IntKind.u8 z)) (by rw [show (8 * (k : Int)).toNat = 8 * k by omega, show IntKind.u32.bits = 32 from rfl, shr32 _ (8 * k) (by omega), wrap_u8_nat, shr32_div, pow_256])) rfl rfl (by rw [fill_len (by rw [closeL_length hl, hl]), closeL_length hl]; omega) ?_
    simp only [List.set_cons_zero, List.set_cons_succ]
    rw [fill_step hc (by rw [closeL_length hl, hl])]
    refine At.nil ?_
    refine At.blkN ?_
    refine At.thenN ?_
    refine At.region ?_
    refine At.val (Val.bin rfl rfl rfl) rfl rfl rfl ?_
    refine At.val (Val.move rfl) rfl rfl rfl ?_
    refine At.nil ?_
    refine At.thenN ?_
    exact At.again (k + 1) (by omega) (by omega) (Sub.cons rfl (Sub.cons rfl (Sub.cons rfl (Sub.cons (congrArg (fun z => some (Value.int IntKind.i64 z)) (wrap_i64 (by omega) (by omega))) Sub.nil)))) (List.Perm.refl _)
  · skip
    have hk : k = 4 := by have := h3; simp at this; omega
    refine At.exitC ?_
    refine At.thenX ?_
    refine At.thenX ?_
    refine At.blkX ?_
    refine At.thenN ?_
    refine At.seq ?_
    refine At.region ?_
    refine At.val (Val.loadAll (i := 1) Tryd.isAgg30 Tryd.sizeOf30 rfl rfl (by rw [fill_len (by rw [closeL_length hl, hl]), closeL_length hl])) rfl rfl rfl ?_
    refine At.storeAll (i := 0) Tryd.sizeOf30 rfl rfl (by rw [fill_len (by rw [closeL_length hl, hl]), closeL_length hl]) (by simp [Value.oneCell']) rfl (by simp) ?_
    simp only [List.set_cons_zero, List.set_cons_succ]
    refine At.nil ?_
    refine At.thenN ?_
    refine At.retC ?_
    refine At.ret1 (.inl rfl) rfl rfl (ResOf.all (i := 0) Tryd.isAgg30 Tryd.sizeOf30 rfl rfl (by rw [fill_len (by rw [closeL_length hl, hl]), closeL_length hl])) (fun w hw => ?_)
    exact ⟨by rw [hk, fill_done hl], hw.mod⟩

theorem whole_p (l : List UInt8) (w : World) (hl : l.length = 64) (ht : Tab w) :
    PureC Tryd.prog 85 [.agg (l.map bv).toArray] (.bool (wholeB l)) w := by
  refine enter0 Tryd.func85 rfl Tryd.ntmps85 rfl ?_
  simp only [envOf]
  refine At.seq ?_
  refine At.region ?_
  refine At.box rfl rfl rfl (fun b1 => ?_)
  refine At.val (Val.assign rfl) rfl rfl rfl ?_
  refine At.nil ?_
  refine At.thenN ?_
  refine At.seq ?_
  refine At.quiet rfl (by decide +kernel) ?_
  refine QAt.val (Val.loadAll (i := 0) Tryd.isAgg30 Tryd.sizeOf30 rfl rfl (by rw [List.length_map]; exact hl)) rfl rfl rfl ?_
  refine QAt.callP (fun w hw => close_p _ w hl (ht.mod hw.mod)) Tryd.call77 rfl rfl ?_
  refine QAt.val (Val.loadAll (i := 0) Tryd.isAgg30 Tryd.sizeOf30 rfl rfl (by rw [List.length_map]; exact hl)) rfl rfl rfl ?_
  refine QAt.val (Val.eqAgg Tryd.eqGuardType30 (fun w => run_equal_bytes Tryd.underlying30 Tryd.underlying5 Tryd.isAgg5 Tryd.sizeOf5 _ _ (closeL_length hl) hl w) rfl rfl) rfl rfl rfl ?_
  refine QAt.val (Val.assign rfl) rfl rfl rfl ?_
  refine QAt.fin ?_
  refine At.thenN ?_
  refine At.retC ?_
  refine At.ret1 (.inl rfl) rfl rfl rfl (fun w hw => ?_)
  exact ⟨rfl, hw.mod⟩

end Go.Proofs.YtoiebgnmknbkjaaDoor
