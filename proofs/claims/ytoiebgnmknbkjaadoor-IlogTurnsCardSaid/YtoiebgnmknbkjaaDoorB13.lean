/- Slots packed. -/
import Derived.Test.YtoiebgnmknbkjaaDoorB12
import Derived.Test.YtoiebgnmknbkjaaDoorB9
import Derived.Test.YtoiebgnmknbkjaaDoorWb
set_option linter.unusedVariables false
set_option linter.unusedSimpArgs false
namespace Go.Proofs.YtoiebgnmknbkjaaDoor
open Go Go.Wk

def slotW (i k l h t : Int) : List (BitVec 64) := [sealW (BitVec.ofInt 64 (slotAt i)) (BitVec.ofInt 32 (k + 256 * l)), sealW (BitVec.ofInt 64 (slotAt i + 8)) (BitVec.ofInt 32 h), sealW (BitVec.ofInt 64 (slotAt i + 16)) (BitVec.ofInt 32 t)]
def GoodP (i k l h t : Int) : Prop := isInoB i = true ∧ GoodS k l h t
instance (i k l h t : Int) : Decidable (GoodP i k l h t) := by unfold GoodP; infer_instance
def packSlotV (i k l h t : Int) : Value := if GoodP i k l h t then .tuple #[.agg ((slotW i k l h t).map b64).toArray, .int .i64 0] else .tuple #[.agg #[.int .u64 0, .int .u64 0, .int .u64 0], .int .i64 32]
theorem packSlot_yes {i k l h t : Int} (g : GoodP i k l h t) : packSlotV i k l h t = .tuple #[.agg ((slotW i k l h t).map b64).toArray, .int .i64 0] := if_pos g
theorem packSlot_no {i k l h t : Int} (g : ¬ GoodP i k l h t) : packSlotV i k l h t = .tuple #[.agg #[.int .u64 0, .int .u64 0, .int .u64 0], .int .i64 32] := if_neg g
theorem or_1 : ∀ l : Fin 101, ib .or .i64 1 (256 * ((l.1 : Nat) : Int)) = 1 + 256 * ((l.1 : Nat) : Int) ∧ ib .or .i64 2 (256 * ((l.1 : Nat) : Int)) = 2 + 256 * ((l.1 : Nat) : Int) := by decide +kernel
theorem meta_or {k l h t : Int} (g : GoodS k l h t) : ib .or .i64 k (IntKind.i64.wrap (l * 2 ^ min (8 : Int).toNat IntKind.i64.bits)) = k + 256 * l := by
  have e : l * 2 ^ min (8 : Int).toNat IntKind.i64.bits = 256 * l := by rw [show (2 : Int) ^ min (8 : Int).toNat IntKind.i64.bits = 256 from rfl]; omega
  rw [e]
  rcases g with ⟨rfl, rfl, _⟩ | ⟨hk, _⟩
  · decide
  · have hl : 0 ≤ l ∧ l ≤ 100 := by omega
    have hn : l = ((l.toNat : Nat) : Int) := by omega
    rw [wrap_i64 (by omega) (by omega), hn]
    have := or_1 ⟨l.toNat, by omega⟩
    rcases hk with ⟨rfl, _⟩ | ⟨rfl, _⟩
    · exact this.1
    · exact this.2
theorem slot_len (i k l h t : Int) : ((slotW i k l h t).map b64).length = (List.replicate 3 (Value.int IntKind.u64 0)).length := rfl
theorem slot_at (i k l h t : Int) (j : Nat) (hj : j < 3) : ∃ v : Int, (#[.int .i64 (k + 256 * l), .int .i64 h, .int .i64 t] : Array Value)[j]? = some (.int .i64 v) ∧ ((slotW i k l h t).map b64)[j]? = some (b64 (sealW (BitVec.ofInt 64 (slotAt i + (j : Int) * 8)) (BitVec.ofInt 32 v))) := by
  match j, hj with
  | 0, _ => exact ⟨_, rfl, by simp [slotW]⟩
  | 1, _ => exact ⟨_, rfl, by simp [slotW]⟩
  | 2, _ => exact ⟨_, rfl, by simp [slotW]⟩

theorem packSlot_p (i k l h t : Int) (w : World) (ht : Tab w) (hb : -9223372036854775808 ≤ t ∧ t ≤ 9223372036854775807) :
    PureC Tryd.prog 40 [.int .i64 i, .agg #[.int .i64 k, .int .i64 l, .int .i64 h, .int .i64 t]] (packSlotV i k l h t) w := by
  refine enter0 Tryd.func40 rfl Tryd.ntmps40 rfl ?_
  simp only [envOf]
  refine At.seq ?_
  refine At.region ?_
  refine At.box rfl rfl rfl (fun b1 => ?_)
  refine At.alloc zero_66 zc_66 rfl (fun b2 => ?_)
  refine At.val (Val.assign rfl) rfl rfl rfl ?_
  refine At.nil ?_
  refine At.thenN ?_
  refine At.seq ?_
  refine At.seq ?_
  refine At.region ?_
  refine At.val (Val.move rfl) rfl rfl rfl ?_
  refine At.callP (fun w hw => isInode_p _ w) Tryd.call81 rfl rfl ?_
  refine At.val (Val.not rfl) rfl rfl rfl ?_
  refine At.val (Val.move rfl) rfl rfl rfl ?_
  refine At.split (t := 12) rfl (fun h3 => ?_) (fun h3 => ?_)
  · skip
    have hi : isInoB i = false := by simpa using h3
    refine At.no rfl rfl rfl rfl ?_
    refine At.no rfl rfl rfl rfl ?_
    refine At.no rfl rfl rfl rfl ?_
    refine At.no rfl rfl rfl rfl ?_
    refine At.noU rfl rfl rfl ?_
    refine At.noU rfl rfl rfl ?_
    refine At.noU rfl rfl rfl ?_
    refine At.no rfl rfl rfl rfl ?_
    refine At.val (Val.pickT rfl rfl) rfl rfl rfl ?_
    refine At.nil ?_
    refine At.thenN ?_
    refine At.condT rfl ?_
    refine At.seq ?_
    refine At.region ?_
    refine At.val (Val.build (fun a ha => by simp only [List.map_toArray, List.map_cons, List.map_nil] <;> rfl) (bld_66_)) rfl rfl rfl ?_
    refine At.storeAll (i := 0) Tryd.sizeOf66 rfl rfl rfl (by simp [Value.oneCell']) rfl (by simp) ?_
    simp only [List.set_cons_zero, List.set_cons_succ]
    refine At.val (Val.assign rfl) rfl rfl rfl ?_
    refine At.nil ?_
    refine At.thenN ?_
    refine At.retC ?_
    refine At.thenR ?_
    refine At.ret2 (.inl rfl) rfl rfl (ResOf.all (i := 0) Tryd.isAgg66 Tryd.sizeOf66 rfl rfl (by simp)) rfl (fun w hw => ?_)
    exact ⟨by rw [packSlot_no (fun g => by rw [g.1] at hi; cases hi)], hw.mod⟩
  · skip
    have hi : isInoB i = true := by simpa using h3
    refine At.yes rfl rfl ?_
    refine At.val (Val.loadAll (i := 1) Tryd.isAgg65 Tryd.sizeOf65 rfl rfl rfl) rfl rfl rfl ?_
    refine At.yes rfl rfl ?_
    refine At.val (Val.build (fun a ha => by simp only [List.map_toArray, List.map_cons, List.map_nil] <;> rfl) (bld_65_)) rfl rfl rfl ?_
    refine At.yes rfl rfl ?_
    refine At.val (Val.neAgg Tryd.eqGuardType65 (fun w => eq_65 _ _ _ _ _ _ _ _ w) rfl rfl) rfl rfl rfl ?_
    refine At.yes rfl rfl ?_
    refine At.val (Val.move rfl) rfl rfl rfl ?_
    refine At.split (t := 16) rfl (fun h4 => ?_) (fun h4 => ?_)
    · skip
      have hz : ¬ (k = 0 ∧ l = 0 ∧ h = 0 ∧ t = 0) := by rintro ⟨rfl, rfl, rfl, rfl⟩; simp at h4
      refine At.yes rfl rfl ?_
      refine At.val (Val.loadAll (i := 1) Tryd.isAgg65 Tryd.sizeOf65 rfl rfl rfl) rfl rfl rfl ?_
      refine At.yes rfl rfl ?_
      refine At.callP (fun w hw => goodUse_p _ _ _ _ w hb) Tryd.call98 rfl rfl ?_
      refine At.yes rfl rfl ?_
      refine At.val (Val.not rfl) rfl rfl rfl ?_
      refine At.yes rfl rfl ?_
      refine At.val (Val.pickT rfl rfl) rfl rfl rfl ?_
      refine At.val (Val.pickF rfl rfl) rfl rfl rfl ?_
      refine At.nil ?_
      refine At.thenN ?_
      refine At.cond rfl (fun h5 => ?_) (fun h5 => ?_)
      · skip
        have hU : ¬ GoodU k l h t := by simpa using h5
        refine At.seq ?_
        refine At.region ?_
        refine At.val (Val.build (fun a ha => by simp only [List.map_toArray, List.map_cons, List.map_nil] <;> rfl) (bld_66_)) rfl rfl rfl ?_
        refine At.storeAll (i := 0) Tryd.sizeOf66 rfl rfl rfl (by simp [Value.oneCell']) rfl (by simp) ?_
        simp only [List.set_cons_zero, List.set_cons_succ]
        refine At.val (Val.assign rfl) rfl rfl rfl ?_
        refine At.nil ?_
        refine At.thenN ?_
        refine At.retC ?_
        refine At.thenR ?_
        refine At.ret2 (.inl rfl) rfl rfl (ResOf.all (i := 0) Tryd.isAgg66 Tryd.sizeOf66 rfl rfl (by simp)) rfl (fun w hw => ?_)
        exact ⟨by rw [packSlot_no (fun g => g.2.elim hz hU)], hw.mod⟩
      · skip
        have hS : GoodS k l h t := Or.inr (by simpa using h5)
        refine At.skipC ?_
        refine At.thenN ?_
        refine At.seq ?_
        refine At.region ?_
        refine At.alloc zero_66 zc_66 rfl (fun b6 => ?_)
        refine At.nil ?_
        refine At.thenN ?_
        refine At.seq ?_
        refine At.seq ?_
        refine At.region ?_
        refine At.val (Val.field 0 rfl fo_65_0 rfl) rfl rfl rfl ?_
        refine At.val (Val.load (i := 2) Tryd.isAgg3 rfl rfl rfl) rfl rfl rfl ?_
        refine At.val (Val.field 1 rfl fo_65_1 rfl) rfl rfl rfl ?_
        refine At.val (Val.load (i := 2) Tryd.isAgg3 rfl rfl rfl) rfl rfl rfl ?_
        refine At.val (Val.shl rfl rfl (by decide)) rfl rfl rfl ?_
        refine At.val (Val.bin rfl rfl rfl) rfl rfl rfl ?_
        rw [meta_or hS]
        refine At.val (Val.field 2 rfl fo_65_2 rfl) rfl rfl rfl ?_
        refine At.val (Val.load (i := 2) Tryd.isAgg3 rfl rfl rfl) rfl rfl rfl ?_
        refine At.val (Val.field 3 rfl fo_65_3 rfl) rfl rfl rfl ?_
        refine At.val (Val.load (i := 2) Tryd.isAgg3 rfl rfl rfl) rfl rfl rfl ?_
        refine At.val (Val.build (fun a ha => by simp only [List.map_toArray, List.map_cons, List.map_nil, ha.eval (x := (.tmp 28)) rfl, ha.eval (x := (.tmp 30)) rfl, ha.eval (x := (.tmp 32)) rfl] <;> rfl) (bld_59_0_1_2 _ _ _ )) rfl rfl rfl ?_
        refine At.val (Val.move rfl) rfl rfl rfl ?_
        refine At.nil ?_
        have hsl := ino_T.1 hi
        have hse := slotAt_T hi
        refine At.thenN ?_
        refine At.block ?_
        skip
        refine At.loop (σ := Nat) (fun j => j ≤ 3) (fun j => [(0, .int .i64 i), (4, .pointer (some ⟨b2, 0, none⟩)), (6, .pointer (some ⟨b6, 0, none⟩)), (33, .agg #[.int .i64 (k + 256 * l), .int .i64 h, .int .i64 t]), (34, .int .i64 (j : Int))]) (fun j => [blk b6 66 (fillG ((slotW i k l h t).map b64) (List.replicate 3 (Value.int .u64 0)) j), blk b2 66 (List.replicate 3 (Value.int .u64 0)), blk b1 65 ([.int .i64 k, .int .i64 l, .int .i64 h, .int .i64 t])]) (fun j => 3 - j) 0 (by omega) (Sub.cons rfl (Sub.cons rfl (Sub.cons rfl (Sub.cons rfl (Sub.cons rfl Sub.nil))))) (List.Perm.refl _) ?_
        intro j hs
        refine At.seq ?_
        refine At.region ?_
        refine At.val (Val.bin rfl rfl rfl) rfl rfl rfl ?_
        refine At.nil ?_
        refine At.thenN ?_
        refine At.seq ?_
        refine At.cond rfl (fun h7 => ?_) (fun h7 => ?_)
        · skip
          have hj : j < 3 := by have := h7; simp at this; omega
          obtain ⟨v, hv, hws⟩ := slot_at i k l h t j hj
          refine At.skipC ?_
          refine At.thenN ?_
          refine At.seq ?_
          refine At.block ?_
          refine At.seq ?_
          refine At.region ?_
          refine At.val (Val.move rfl) rfl rfl rfl ?_
          refine At.val (Val.indexVal (v := .int .i64 v) Tryd.underlying59 Tryd.sizeOf3 Tryd.isAgg3 rfl rfl (by omega) (by omega) (by rw [Int.toNat_natCast]; exact hv)) rfl rfl rfl ?_
          refine At.val (Val.assign rfl) rfl rfl rfl ?_
          refine At.val (Val.assign rfl) rfl rfl rfl ?_
          refine At.nil ?_
          refine At.thenN ?_
          refine At.region ?_
          refine At.val (Val.move rfl) rfl rfl rfl ?_
          refine At.val (Val.move rfl) rfl rfl rfl ?_
          refine At.callP (fun w hw => slotAt_p i w) Tryd.call24 rfl rfl ?_
          refine At.val (Val.move rfl) rfl rfl rfl ?_
          refine At.val (Val.bin rfl rfl rfl) rfl rfl rfl ?_
          rw [wrap_i64 (n := (j : Int) * 8) (by omega) (by omega)]
          refine At.val (Val.bin rfl rfl rfl) rfl rfl rfl ?_
          rw [wrap_i64 (n := slotAt i + (j : Int) * 8) (by omega) (by omega)]
          refine At.val (Val.move rfl) rfl rfl rfl ?_
          refine At.val (Val.conv Tryd.underlying3 Tryd.underlying48 rfl) rfl rfl rfl ?_
          rw [wrap_u32_int v]
          refine At.callP (fun w hw => seal_p _ _ w (ht.mod hw.mod)) Tryd.call91 rfl rfl ?_
          refine At.val (Val.indexArr j (by omega) Tryd.underlying66 Tryd.sizeOf40 rfl rfl (by omega) (by omega)) rfl rfl rfl ?_
          refine At.store (i := 0) Tryd.sizeOf40 rfl rfl rfl rfl (by rw [fillG_length (slot_len ..)]; exact hj) ?_
          simp only [List.set_cons_zero, List.set_cons_succ]
          rw [fillG_step hws (slot_len ..)]
          refine At.nil ?_
          refine At.blkN ?_
          refine At.thenN ?_
          refine At.region ?_
          refine At.val (Val.bin rfl rfl rfl) rfl rfl rfl ?_
          refine At.val (Val.move rfl) rfl rfl rfl ?_
          refine At.nil ?_
          refine At.thenN ?_
          exact At.again (j + 1) (by omega) (by omega) (Sub.cons rfl (Sub.cons rfl (Sub.cons rfl (Sub.cons rfl (Sub.cons (congrArg (fun z => some (Value.int IntKind.i64 z)) (wrap_i64 (by omega) (by omega))) Sub.nil))))) (List.Perm.refl _)
        · skip
          obtain rfl : j = 3 := by have := h7; simp at this; omega
          rw [fillG_all (l := (slotW i k l h t).map b64) (m := List.replicate 3 (Value.int IntKind.u64 0)) (n := 3) rfl rfl]
          refine At.exitC ?_
          refine At.thenX ?_
          refine At.thenX ?_
          refine At.blkX ?_
          refine At.thenN ?_
          refine At.seq ?_
          refine At.region ?_
          refine At.val (Val.loadAll (i := 0) Tryd.isAgg66 Tryd.sizeOf66 rfl rfl (by first | rfl | (rw [fillG_length (slot_len ..)]; rfl))) rfl rfl rfl ?_
          refine At.storeAll (i := 1) Tryd.sizeOf66 rfl rfl (by first | rfl | (rw [fillG_length (slot_len ..)]; rfl)) (by simp [Value.oneCell']) rfl rfl ?_
          simp only [List.set_cons_zero, List.set_cons_succ]
          refine At.val (Val.assign rfl) rfl rfl rfl ?_
          refine At.nil ?_
          refine At.thenN ?_
          refine At.retC ?_
          refine At.ret2 (.inl rfl) rfl rfl (ResOf.all (i := 1) Tryd.isAgg66 Tryd.sizeOf66 rfl rfl (by first | rfl | (rw [fillG_length (slot_len ..)]; rfl))) rfl (fun w hw => ?_)
          exact ⟨by rw [packSlot_yes ⟨hi, hS⟩], hw.mod⟩
    · skip
      have hS : GoodS k l h t := Or.inl (by simpa [and_assoc] using h4)
      refine At.no rfl rfl rfl rfl ?_
      refine At.no rfl rfl rfl rfl ?_
      refine At.no rfl rfl rfl rfl ?_
      refine At.yes rfl rfl ?_
      refine At.val (Val.pickF rfl rfl) rfl rfl rfl ?_
      refine At.val (Val.pickF rfl rfl) rfl rfl rfl ?_
      refine At.nil ?_
      refine At.thenN ?_
      refine At.condF rfl ?_
      refine At.skipC ?_
      refine At.thenN ?_
      refine At.seq ?_
      refine At.region ?_
      refine At.alloc zero_66 zc_66 rfl (fun b8 => ?_)
      refine At.nil ?_
      refine At.thenN ?_
      refine At.seq ?_
      refine At.seq ?_
      refine At.region ?_
      refine At.val (Val.field 0 rfl fo_65_0 rfl) rfl rfl rfl ?_
      refine At.val (Val.load (i := 2) Tryd.isAgg3 rfl rfl rfl) rfl rfl rfl ?_
      refine At.val (Val.field 1 rfl fo_65_1 rfl) rfl rfl rfl ?_
      refine At.val (Val.load (i := 2) Tryd.isAgg3 rfl rfl rfl) rfl rfl rfl ?_
      refine At.val (Val.shl rfl rfl (by decide)) rfl rfl rfl ?_
      refine At.val (Val.bin rfl rfl rfl) rfl rfl rfl ?_
      rw [meta_or hS]
      refine At.val (Val.field 2 rfl fo_65_2 rfl) rfl rfl rfl ?_
      refine At.val (Val.load (i := 2) Tryd.isAgg3 rfl rfl rfl) rfl rfl rfl ?_
      refine At.val (Val.field 3 rfl fo_65_3 rfl) rfl rfl rfl ?_
      refine At.val (Val.load (i := 2) Tryd.isAgg3 rfl rfl rfl) rfl rfl rfl ?_
      refine At.val (Val.build (fun a ha => by simp only [List.map_toArray, List.map_cons, List.map_nil, ha.eval (x := (.tmp 28)) rfl, ha.eval (x := (.tmp 30)) rfl, ha.eval (x := (.tmp 32)) rfl] <;> rfl) (bld_59_0_1_2 _ _ _ )) rfl rfl rfl ?_
      refine At.val (Val.move rfl) rfl rfl rfl ?_
      refine At.nil ?_
      have hsl := ino_T.1 hi
      have hse := slotAt_T hi
      refine At.thenN ?_
      refine At.block ?_
      skip
      refine At.loop (σ := Nat) (fun j => j ≤ 3) (fun j => [(0, .int .i64 i), (4, .pointer (some ⟨b2, 0, none⟩)), (6, .pointer (some ⟨b8, 0, none⟩)), (33, .agg #[.int .i64 (k + 256 * l), .int .i64 h, .int .i64 t]), (34, .int .i64 (j : Int))]) (fun j => [blk b8 66 (fillG ((slotW i k l h t).map b64) (List.replicate 3 (Value.int .u64 0)) j), blk b2 66 (List.replicate 3 (Value.int .u64 0)), blk b1 65 ([.int .i64 k, .int .i64 l, .int .i64 h, .int .i64 t])]) (fun j => 3 - j) 0 (by omega) (Sub.cons rfl (Sub.cons rfl (Sub.cons rfl (Sub.cons rfl (Sub.cons rfl Sub.nil))))) (List.Perm.refl _) ?_
      intro j hs
      refine At.seq ?_
      refine At.region ?_
      refine At.val (Val.bin rfl rfl rfl) rfl rfl rfl ?_
      refine At.nil ?_
      refine At.thenN ?_
      refine At.seq ?_
      refine At.cond rfl (fun h9 => ?_) (fun h9 => ?_)
      · skip
        have hj : j < 3 := by have := h9; simp at this; omega
        obtain ⟨v, hv, hws⟩ := slot_at i k l h t j hj
        refine At.skipC ?_
        refine At.thenN ?_
        refine At.seq ?_
        refine At.block ?_
        refine At.seq ?_
        refine At.region ?_
        refine At.val (Val.move rfl) rfl rfl rfl ?_
        refine At.val (Val.indexVal (v := .int .i64 v) Tryd.underlying59 Tryd.sizeOf3 Tryd.isAgg3 rfl rfl (by omega) (by omega) (by rw [Int.toNat_natCast]; exact hv)) rfl rfl rfl ?_
        refine At.val (Val.assign rfl) rfl rfl rfl ?_
        refine At.val (Val.assign rfl) rfl rfl rfl ?_
        refine At.nil ?_
        refine At.thenN ?_
        refine At.region ?_
        refine At.val (Val.move rfl) rfl rfl rfl ?_
        refine At.val (Val.move rfl) rfl rfl rfl ?_
        refine At.callP (fun w hw => slotAt_p i w) Tryd.call24 rfl rfl ?_
        refine At.val (Val.move rfl) rfl rfl rfl ?_
        refine At.val (Val.bin rfl rfl rfl) rfl rfl rfl ?_
        rw [wrap_i64 (n := (j : Int) * 8) (by omega) (by omega)]
        refine At.val (Val.bin rfl rfl rfl) rfl rfl rfl ?_
        rw [wrap_i64 (n := slotAt i + (j : Int) * 8) (by omega) (by omega)]
        refine At.val (Val.move rfl) rfl rfl rfl ?_
        refine At.val (Val.conv Tryd.underlying3 Tryd.underlying48 rfl) rfl rfl rfl ?_
        rw [wrap_u32_int v]
        refine At.callP (fun w hw => seal_p _ _ w (ht.mod hw.mod)) Tryd.call91 rfl rfl ?_
        refine At.val (Val.indexArr j (by omega) Tryd.underlying66 Tryd.sizeOf40 rfl rfl (by omega) (by omega)) rfl rfl rfl ?_
        refine At.store (i := 0) Tryd.sizeOf40 rfl rfl rfl rfl (by rw [fillG_length (slot_len ..)]; exact hj) ?_
        simp only [List.set_cons_zero, List.set_cons_succ]
        rw [fillG_step hws (slot_len ..)]
        refine At.nil ?_
        refine At.blkN ?_
        refine At.thenN ?_
        refine At.region ?_
        refine At.val (Val.bin rfl rfl rfl) rfl rfl rfl ?_
        refine At.val (Val.move rfl) rfl rfl rfl ?_
        refine At.nil ?_
        refine At.thenN ?_
        exact At.again (j + 1) (by omega) (by omega) (Sub.cons rfl (Sub.cons rfl (Sub.cons rfl (Sub.cons rfl (Sub.cons (congrArg (fun z => some (Value.int IntKind.i64 z)) (wrap_i64 (by omega) (by omega))) Sub.nil))))) (List.Perm.refl _)
      · skip
        obtain rfl : j = 3 := by have := h9; simp at this; omega
        rw [fillG_all (l := (slotW i k l h t).map b64) (m := List.replicate 3 (Value.int IntKind.u64 0)) (n := 3) rfl rfl]
        refine At.exitC ?_
        refine At.thenX ?_
        refine At.thenX ?_
        refine At.blkX ?_
        refine At.thenN ?_
        refine At.seq ?_
        refine At.region ?_
        refine At.val (Val.loadAll (i := 0) Tryd.isAgg66 Tryd.sizeOf66 rfl rfl (by first | rfl | (rw [fillG_length (slot_len ..)]; rfl))) rfl rfl rfl ?_
        refine At.storeAll (i := 1) Tryd.sizeOf66 rfl rfl (by first | rfl | (rw [fillG_length (slot_len ..)]; rfl)) (by simp [Value.oneCell']) rfl rfl ?_
        simp only [List.set_cons_zero, List.set_cons_succ]
        refine At.val (Val.assign rfl) rfl rfl rfl ?_
        refine At.nil ?_
        refine At.thenN ?_
        refine At.retC ?_
        refine At.ret2 (.inl rfl) rfl rfl (ResOf.all (i := 1) Tryd.isAgg66 Tryd.sizeOf66 rfl rfl (by first | rfl | (rw [fillG_length (slot_len ..)]; rfl))) rfl (fun w hw => ?_)
        exact ⟨by rw [packSlot_yes ⟨hi, hS⟩], hw.mod⟩

theorem packSlotR_p (i k l h t : Int) (w : World) (hb : -9223372036854775808 ≤ t ∧ t ≤ 9223372036854775807) :
    PureC Tryd.prog 41 [.int .i64 i, .agg #[.int .i64 k, .int .i64 l, .int .i64 h, .int .i64 t]] (packSlotV i k l h t) w := by
  refine enter0 Tryd.func41 rfl Tryd.ntmps41 rfl ?_
  simp only [envOf]
  refine At.seq ?_
  refine At.region ?_
  refine At.box rfl rfl rfl (fun b1 => ?_)
  refine At.alloc zero_66 zc_66 rfl (fun b2 => ?_)
  refine At.val (Val.assign rfl) rfl rfl rfl ?_
  refine At.nil ?_
  refine At.thenN ?_
  refine At.seq ?_
  refine At.region ?_
  refine At.val (Val.loadAll (i := 1) Tryd.isAgg65 Tryd.sizeOf65 rfl rfl rfl) rfl rfl rfl ?_
  refine At.callP (fun w hw => goodSlotR_p _ _ _ _ w hb) Tryd.call99 rfl rfl ?_
  refine At.val (Val.assign rfl) rfl rfl rfl ?_
  refine At.nil ?_
  refine At.thenN ?_
  refine At.seq ?_
  refine At.seq ?_
  refine At.region ?_
  refine At.val (Val.move rfl) rfl rfl rfl ?_
  refine At.callP (fun w hw => inodeR_p _ w) Tryd.call82 rfl rfl ?_
  refine At.val (Val.not rfl) rfl rfl rfl ?_
  refine At.val (Val.move rfl) rfl rfl rfl ?_
  refine At.split (t := 14) rfl (fun h3 => ?_) (fun h3 => ?_)
  · skip
    have hi : isInoB i = false := by simpa using h3
    refine At.no rfl rfl rfl rfl ?_
    refine At.no rfl rfl rfl rfl ?_
    refine At.val (Val.pickT rfl rfl) rfl rfl rfl ?_
    refine At.nil ?_
    refine At.thenN ?_
    refine At.condT rfl ?_
    refine At.seq ?_
    refine At.region ?_
    refine At.val (Val.build (fun a ha => by simp only [List.map_toArray, List.map_cons, List.map_nil] <;> rfl) (bld_66_)) rfl rfl rfl ?_
    refine At.storeAll (i := 0) Tryd.sizeOf66 rfl rfl rfl (by simp [Value.oneCell']) rfl (by simp) ?_
    simp only [List.set_cons_zero, List.set_cons_succ]
    refine At.val (Val.assign rfl) rfl rfl rfl ?_
    refine At.nil ?_
    refine At.thenN ?_
    refine At.retC ?_
    refine At.thenR ?_
    refine At.ret2 (.inl rfl) rfl rfl (ResOf.all (i := 0) Tryd.isAgg66 Tryd.sizeOf66 rfl rfl (by simp)) rfl (fun w hw => ?_)
    exact ⟨by rw [packSlot_no (fun g => by rw [g.1] at hi; cases hi)], hw.mod⟩
  · skip
    have hi : isInoB i = true := by simpa using h3
    refine At.yes rfl rfl ?_
    refine At.val (Val.move rfl) rfl rfl rfl ?_
    refine At.yes rfl rfl ?_
    refine At.val (Val.not rfl) rfl rfl rfl ?_
    refine At.val (Val.pickF rfl rfl) rfl rfl rfl ?_
    refine At.nil ?_
    refine At.thenN ?_
    refine At.cond rfl (fun h4 => ?_) (fun h4 => ?_)
    · skip
      have hS : ¬ GoodS k l h t := by simpa using h4
      refine At.seq ?_
      refine At.region ?_
      refine At.val (Val.build (fun a ha => by simp only [List.map_toArray, List.map_cons, List.map_nil] <;> rfl) (bld_66_)) rfl rfl rfl ?_
      refine At.storeAll (i := 0) Tryd.sizeOf66 rfl rfl rfl (by simp [Value.oneCell']) rfl (by simp) ?_
      simp only [List.set_cons_zero, List.set_cons_succ]
      refine At.val (Val.assign rfl) rfl rfl rfl ?_
      refine At.nil ?_
      refine At.thenN ?_
      refine At.retC ?_
      refine At.thenR ?_
      refine At.ret2 (.inl rfl) rfl rfl (ResOf.all (i := 0) Tryd.isAgg66 Tryd.sizeOf66 rfl rfl (by simp)) rfl (fun w hw => ?_)
      exact ⟨by rw [packSlot_no (fun g => hS g.2)], hw.mod⟩
    · skip
      have hS : GoodS k l h t := by simpa using h4
      have hsl := ino_T.1 hi
      have hse := slotAt_T hi
      have hkl : 0 ≤ k ∧ k ≤ 2 ∧ 0 ≤ l ∧ l ≤ 100 := by have h2 := hS; unfold GoodS GoodU at h2; omega
      refine At.skipC ?_
      refine At.thenN ?_
      refine At.seq ?_
      refine At.region ?_
      refine At.val (Val.move rfl) rfl rfl rfl ?_
      refine At.callP (fun w hw => slotAtR_p i w) Tryd.call25 rfl rfl ?_
      refine At.val (Val.assign rfl) rfl rfl rfl ?_
      refine At.nil ?_
      refine At.thenN ?_
      refine At.seq ?_
      refine At.region ?_
      refine At.alloc zero_66 zc_66 rfl (fun b5 => ?_)
      refine At.nil ?_
      refine At.thenN ?_
      refine At.seq ?_
      refine At.region ?_
      refine At.val (Val.move rfl) rfl rfl rfl ?_
      refine At.val (Val.field 0 rfl fo_65_0 rfl) rfl rfl rfl ?_
      refine At.val (Val.load (i := 2) Tryd.isAgg3 rfl rfl rfl) rfl rfl rfl ?_
      refine At.val (Val.field 1 rfl fo_65_1 rfl) rfl rfl rfl ?_
      refine At.val (Val.load (i := 2) Tryd.isAgg3 rfl rfl rfl) rfl rfl rfl ?_
      refine At.val (Val.bin rfl rfl rfl) rfl rfl rfl ?_
      rw [wrap_i64 (n := 256 * l) (by omega) (by omega)]
      refine At.val (Val.bin rfl rfl rfl) rfl rfl rfl ?_
      rw [wrap_i64 (n := k + 256 * l) (by omega) (by omega)]
      refine At.val (Val.conv Tryd.underlying3 Tryd.underlying48 rfl) rfl rfl rfl ?_
      rw [wrap_u32_int (k + 256 * l)]
      refine At.callP (fun w hw => sealR_p _ _ w) Tryd.call94 rfl rfl ?_
      refine At.val (Val.indexArr 0 rfl Tryd.underlying66 Tryd.sizeOf40 rfl rfl (by decide) (by decide)) rfl rfl rfl ?_
      refine At.store (i := 0) Tryd.sizeOf40 rfl rfl rfl rfl (by first | (simp; done) | (simp; omega)) ?_
      simp only [List.set_cons_zero, List.set_cons_succ]
      refine At.nil ?_
      refine At.thenN ?_
      refine At.seq ?_
      refine At.region ?_
      refine At.val (Val.move rfl) rfl rfl rfl ?_
      refine At.val (Val.bin rfl rfl rfl) rfl rfl rfl ?_
      rw [wrap_i64 (n := slotAt i + 8) (by omega) (by omega)]
      refine At.val (Val.field 2 rfl fo_65_2 rfl) rfl rfl rfl ?_
      refine At.val (Val.load (i := 2) Tryd.isAgg3 rfl rfl rfl) rfl rfl rfl ?_
      refine At.val (Val.conv Tryd.underlying3 Tryd.underlying48 rfl) rfl rfl rfl ?_
      rw [wrap_u32_int h]
      refine At.callP (fun w hw => sealR_p _ _ w) Tryd.call94 rfl rfl ?_
      refine At.val (Val.indexArr 1 rfl Tryd.underlying66 Tryd.sizeOf40 rfl rfl (by decide) (by decide)) rfl rfl rfl ?_
      refine At.store (i := 0) Tryd.sizeOf40 rfl rfl rfl rfl (by first | (simp; done) | (simp; omega)) ?_
      simp only [List.set_cons_zero, List.set_cons_succ]
      refine At.nil ?_
      refine At.thenN ?_
      refine At.seq ?_
      refine At.region ?_
      refine At.val (Val.move rfl) rfl rfl rfl ?_
      refine At.val (Val.bin rfl rfl rfl) rfl rfl rfl ?_
      rw [wrap_i64 (n := slotAt i + 16) (by omega) (by omega)]
      refine At.val (Val.field 3 rfl fo_65_3 rfl) rfl rfl rfl ?_
      refine At.val (Val.load (i := 2) Tryd.isAgg3 rfl rfl rfl) rfl rfl rfl ?_
      refine At.val (Val.conv Tryd.underlying3 Tryd.underlying48 rfl) rfl rfl rfl ?_
      rw [wrap_u32_int t]
      refine At.callP (fun w hw => sealR_p _ _ w) Tryd.call94 rfl rfl ?_
      refine At.val (Val.indexArr 2 rfl Tryd.underlying66 Tryd.sizeOf40 rfl rfl (by decide) (by decide)) rfl rfl rfl ?_
      refine At.store (i := 0) Tryd.sizeOf40 rfl rfl rfl rfl (by first | (simp; done) | (simp; omega)) ?_
      simp only [List.set_cons_zero, List.set_cons_succ]
      refine At.nil ?_
      refine At.thenN ?_
      refine At.seq ?_
      refine At.region ?_
      refine At.val (Val.loadAll (i := 0) Tryd.isAgg66 Tryd.sizeOf66 rfl rfl (by simp)) rfl rfl rfl ?_
      refine At.storeAll (i := 1) Tryd.sizeOf66 rfl rfl (by simp) (by simp [Value.oneCell']) rfl (by simp) ?_
      simp only [List.set_cons_zero, List.set_cons_succ]
      refine At.val (Val.assign rfl) rfl rfl rfl ?_
      refine At.nil ?_
      refine At.thenN ?_
      refine At.retC ?_
      refine At.ret2 (.inl rfl) rfl rfl (ResOf.all (i := 1) Tryd.isAgg66 Tryd.sizeOf66 rfl rfl (by simp)) rfl (fun w hw => ?_)
      exact ⟨by rw [packSlot_yes ⟨hi, hS⟩]; rfl, hw.mod⟩

end Go.Proofs.YtoiebgnmknbkjaaDoor
