/- Changes. -/
import Derived.Test.YtoiebgnmknbkjaaDoorB14
import Derived.Test.YtoiebgnmknbkjaaDoorWb
set_option linter.unusedVariables false
set_option linter.unusedSimpArgs false
namespace Go.Proofs.YtoiebgnmknbkjaaDoor
open Go Go.Wk

def chC (l : List (Int × BitVec 64)) : List Value := l.flatMap fun c => [.int .i64 c.1, b64 c.2]
theorem chC_append (a b : List (Int × BitVec 64)) : chC (a ++ b) = chC a ++ chC b := by simp [chC]
theorem chC_length (a : List (Int × BitVec 64)) : (chC a).length = a.length * 2 := by induction a with
  | nil => rfl
  | cons c a ih => simp only [chC, List.flatMap_cons, List.length_append, List.length_cons] at *; rw [ih]; simp; omega
theorem ch_snoc (v : Value) (e : Nat) (L : List (Int × BitVec 64)) (a : Int) (x : BitVec 64) : rowR v e 2 (L ++ [(a, x)]).length (chC (L ++ [(a, x)])) = rowR v e 2 (L.length + 1) (chC L ++ [.int .i64 a, b64 x]) := by rw [chC_append, List.length_append]; rfl
def w0_ (i k l : Int) : BitVec 64 := sealW (BitVec.ofInt 64 (slotAt i)) (BitVec.ofInt 32 (k + 256 * l))
def w1_ (i h : Int) : BitVec 64 := sealW (BitVec.ofInt 64 (slotAt i + 8)) (BitVec.ofInt 32 h)
def w2_ (i t : Int) : BitVec 64 := sealW (BitVec.ofInt 64 (slotAt i + 16)) (BitVec.ofInt 32 t)
def ch0 (i k l k' l' : Int) : List (Int × BitVec 64) := if k ≠ k' ∨ l ≠ l' then [(slotAt i, w0_ i k' l')] else []
def ch1 (i k h t k' h' t' : Int) : List (Int × BitVec 64) := if k' ≠ 0 ∧ t' > 0 ∧ (k = 0 ∨ t = 0 ∨ h ≠ h') then [(slotAt i + 8, w1_ i h')] else []
def ch2 (i k t k' t' : Int) : List (Int × BitVec 64) := if k' ≠ 0 ∧ (k = 0 ∨ t ≠ t') then [(slotAt i + 16, w2_ i t')] else []
def chs (i k l h t k' l' h' t' : Int) : Nat → List (Int × BitVec 64)
  | 0 => []
  | 1 => [] ++ ch0 i k l k' l'
  | 2 => [] ++ ch0 i k l k' l' ++ ch1 i k h t k' h' t'
  | _ => [] ++ ch0 i k l k' l' ++ ch1 i k h t k' h' t' ++ ch2 i k t k' t'
theorem ch0_len (i k l k' l' : Int) : (ch0 i k l k' l').length ≤ 1 := by unfold ch0; split <;> simp
theorem ch1_len (i k h t k' h' t' : Int) : (ch1 i k h t k' h' t').length ≤ 1 := by unfold ch1; split <;> simp
theorem ch2_len (i k t k' t' : Int) : (ch2 i k t k' t').length ≤ 1 := by unfold ch2; split <;> simp
theorem chs_len (i k l h t k' l' h' t' : Int) (j : Nat) : (chs i k l h t k' l' h' t' j).length ≤ 3 := by
  have h0 := ch0_len i k l k' l'
  have h1 := ch1_len i k h t k' h' t'
  have h2 := ch2_len i k t k' t'
  unfold chs; split <;> simp only [List.length_append, List.length_nil] <;> omega

theorem changesR_T (i k l h t k' l' h' t' : Int) (w : World) (hb : -9223372036854775808 ≤ t ∧ t ≤ 9223372036854775807) (hb' : -9223372036854775808 ≤ t' ∧ t' ≤ 9223372036854775807) (hg : GoodP i k l h t) (hg' : GoodP i k' l' h' t') :
    NewRowT Tryd.prog 69 [.int .i64 i, .agg #[.int .i64 k, .int .i64 l, .int .i64 h, .int .i64 t], .agg #[.int .i64 k', .int .i64 l', .int .i64 h', .int .i64 t']] (fun v => .tuple #[v, .int .i64 0]) 122 2 (ch0 i k l k' l' ++ ch1 i k h t k' h' t' ++ ch2 i k t k' t').length (chC (ch0 i k l k' l' ++ ch1 i k h t k' h' t' ++ ch2 i k t k' t')) w := by
  refine enter (feet []) [] Tryd.func69 rfl Tryd.ntmps69 rfl ⟨by simp, by simp, by simp, Mod.refl _ _⟩ ?_
  have hsl := ino_T.1 hg.1
  have hse := slotAt_T hg.1
  simp only [envOf]
  refine At.seq ?_
  refine At.region ?_
  refine At.box rfl rfl rfl (fun b1 => ?_)
  refine At.box rfl rfl rfl (fun b2 => ?_)
  refine At.val (Val.assign rfl) rfl rfl rfl ?_
  refine At.val (Val.assign rfl) rfl rfl rfl ?_
  refine At.nil ?_
  refine At.thenN ?_
  refine At.seq ?_
  refine At.region ?_
  refine At.val (Val.move rfl) rfl rfl rfl ?_
  refine At.val (Val.loadAll (i := 1) Tryd.isAgg65 Tryd.sizeOf65 rfl rfl rfl) rfl rfl rfl ?_
  refine At.callP (fun w hw => (by have := packSlotR_p i k l h t w hb; rwa [packSlot_yes hg] at this)) Tryd.call41 rfl rfl ?_
  refine At.val (Val.move rfl) rfl rfl rfl ?_
  refine At.val (Val.extract rfl rfl) rfl rfl rfl ?_
  refine At.val (Val.extract rfl rfl) rfl rfl rfl ?_
  refine At.alloc zero_66 zc_66 rfl (fun b3 => ?_)
  refine At.storeAll (i := 0) Tryd.sizeOf66 rfl rfl rfl (by simp [Value.oneCell']) rfl (by simp) ?_
  simp only [List.set_cons_zero, List.set_cons_succ]
  refine At.val (Val.assign rfl) rfl rfl rfl ?_
  refine At.nil ?_
  refine At.thenN ?_
  refine At.seq ?_
  refine At.region ?_
  refine At.val (Val.move rfl) rfl rfl rfl ?_
  refine At.val (Val.loadAll (i := 1) Tryd.isAgg65 Tryd.sizeOf65 rfl rfl rfl) rfl rfl rfl ?_
  refine At.callP (fun w hw => (by have := packSlotR_p i k' l' h' t' w hb'; rwa [packSlot_yes hg'] at this)) Tryd.call41 rfl rfl ?_
  refine At.val (Val.move rfl) rfl rfl rfl ?_
  refine At.val (Val.extract rfl rfl) rfl rfl rfl ?_
  refine At.val (Val.extract rfl rfl) rfl rfl rfl ?_
  refine At.alloc zero_66 zc_66 rfl (fun b4 => ?_)
  refine At.storeAll (i := 0) Tryd.sizeOf66 rfl rfl rfl (by simp [Value.oneCell']) rfl (by simp) ?_
  simp only [List.set_cons_zero, List.set_cons_succ]
  refine At.val (Val.assign rfl) rfl rfl rfl ?_
  refine At.nil ?_
  refine At.thenN ?_
  refine At.seq ?_
  refine At.seq ?_
  refine At.region ?_
  refine At.val (Val.move rfl) rfl rfl rfl ?_
  refine At.val (Val.bin rfl rfl rfl) rfl rfl rfl ?_
  refine At.val (Val.move rfl) rfl rfl rfl ?_
  refine At.yes rfl rfl ?_
  refine At.val (Val.move rfl) rfl rfl rfl ?_
  refine At.yes rfl rfl ?_
  refine At.val (Val.bin rfl rfl rfl) rfl rfl rfl ?_
  refine At.val (Val.pickF rfl rfl) rfl rfl rfl ?_
  refine At.nil ?_
  refine At.thenN ?_
  refine At.condF rfl ?_
  refine At.skipC ?_
  refine At.thenN ?_
  refine At.seq ?_
  refine At.region ?_
  refine At.val (Val.move rfl) rfl rfl rfl ?_
  refine At.callP (fun w hw => slotAtR_p i w) Tryd.call25 rfl rfl ?_
  refine At.val (Val.assign rfl) rfl rfl rfl ?_
  refine At.nil ?_
  refine At.thenN ?_
  refine At.seq ?_
  refine At.region ?_
  refine At.val (Val.assign rfl) rfl rfl rfl ?_
  refine At.nil ?_
  refine At.rowNil 122 2 ?_
  refine At.thenN ?_
  refine At.join (σ := Value) (fun v => True) (fun v => [(4, .pointer (some ⟨b1, 0, none⟩)), (5, .pointer (some ⟨b2, 0, none⟩)), (10, .pointer (some ⟨b4, 0, none⟩)), (12, .int .i64 (slotAt i)), (13, v)]) (fun v => [rowR v 122 2 ((ch0 i k l k' l').length) (chC (ch0 i k l k' l')), blk b4 66 ((slotW i k' l' h' t').map b64), blk b3 66 ((slotW i k l h t).map b64), blk b2 65 ([.int .i64 k', .int .i64 l', .int .i64 h', .int .i64 t']), blk b1 65 ([.int .i64 k, .int .i64 l, .int .i64 h, .int .i64 t])]) ?_ ?_
  · skip
    refine At.seq ?_
    refine At.region ?_
    refine At.val (Val.field 0 rfl fo_65_0 rfl) rfl rfl rfl ?_
    refine At.val (Val.load (i := 4) Tryd.isAgg3 rfl rfl rfl) rfl rfl rfl ?_
    refine At.val (Val.field 0 rfl fo_65_0 rfl) rfl rfl rfl ?_
    refine At.val (Val.load (i := 3) Tryd.isAgg3 rfl rfl rfl) rfl rfl rfl ?_
    refine At.val (Val.bin rfl rfl rfl) rfl rfl rfl ?_
    refine At.val (Val.move rfl) rfl rfl rfl ?_
    refine At.split (t := 39) rfl (fun h5 => ?_) (fun h5 => ?_)
    · skip
      try simp only [notT, notF, bneT, bneF, beqT, beqF, decT, decF] at h5
      refine At.no rfl rfl rfl rfl ?_
      refine At.no rfl rfl rfl rfl ?_
      refine At.no rfl rfl rfl rfl ?_
      refine At.no rfl rfl rfl rfl ?_
      refine At.no rfl rfl rfl rfl ?_
      refine At.val (Val.pickT rfl rfl) rfl rfl rfl ?_
      refine At.nil ?_
      refine At.thenN ?_
      refine At.condT rfl ?_
      refine At.region ?_
      refine At.val (Val.move rfl) rfl rfl rfl ?_
      refine At.val (Val.move rfl) rfl rfl rfl ?_
      refine At.val (Val.indexArr 0 rfl Tryd.underlying66 Tryd.sizeOf40 rfl rfl (by decide) (by decide)) rfl rfl rfl ?_
      refine At.val (Val.load (i := 1) (v := b64 (w0_ i k' l')) Tryd.isAgg40 rfl rfl rfl) rfl rfl rfl ?_
      refine At.val (Val.build (fun a ha => by simp only [List.map_toArray, List.map_cons, List.map_nil, ha.eval (x := (.tmp 47)) rfl, ha.eval (x := (.tmp 49)) rfl] <;> rfl) (bld_122_0_1 _ _ )) rfl rfl rfl ?_
      refine At.buildSl (fun a ha => by simp only [List.map_toArray, List.map_cons, List.map_nil, ha.eval (x := (.tmp 50)) rfl]; try rfl) (bs_114_1 _ _ ) rfl (fun b6 => ?_)
      refine At.append (i := 1) (sz := 2) (by_ := 16) Tryd.underlying114 info_122 rfl rfl rfl rfl rfl rfl rfl rfl rfl (fun w hw j u hj => by rw [Nat.zero_add]; exact ((hw.blk (i := 0) rfl).cell j).trans hj) (by simp [Value.oneCell']) (by have := ch0_len i k l k' l'; have := ch1_len i k h t k' h' t'; first | omega | (simp only [List.length_append]; omega)) (by have := ch0_len i k l k' l'; have := ch1_len i k h t k' h' t'; first | omega | (simp only [List.length_append]; omega)) rfl (fun v7 => ?_)
      simp only [List.set_cons_zero, List.set_cons_succ]
      refine At.drop 0 ?_
      simp only [List.eraseIdx_cons_zero, List.eraseIdx_cons_succ]
      refine At.val (Val.assign rfl) rfl rfl rfl ?_
      refine At.nil ?_
      refine At.thenN ?_
      exact At.meets (v7) trivial (Sub.cons rfl (Sub.cons rfl (Sub.cons rfl (Sub.cons rfl (Sub.cons rfl Sub.nil))))) (by first | (rw [show ch0 i k l k' l' = [(slotAt i, w0_ i k' l')] from if_pos (by omega)]; done) | (rw [show ch0 i k l k' l' = [(slotAt i, w0_ i k' l')] from if_pos (by omega)]; exact List.Perm.refl _))
    · skip
      try simp only [notT, notF, bneT, bneF, beqT, beqF, decT, decF] at h5
      refine At.yes rfl rfl ?_
      refine At.val (Val.field 1 rfl fo_65_1 rfl) rfl rfl rfl ?_
      refine At.yes rfl rfl ?_
      refine At.val (Val.load (i := 4) Tryd.isAgg3 rfl rfl rfl) rfl rfl rfl ?_
      refine At.yes rfl rfl ?_
      refine At.val (Val.field 1 rfl fo_65_1 rfl) rfl rfl rfl ?_
      refine At.yes rfl rfl ?_
      refine At.val (Val.load (i := 3) Tryd.isAgg3 rfl rfl rfl) rfl rfl rfl ?_
      refine At.yes rfl rfl ?_
      refine At.val (Val.bin rfl rfl rfl) rfl rfl rfl ?_
      refine At.val (Val.pickF rfl rfl) rfl rfl rfl ?_
      refine At.nil ?_
      refine At.thenN ?_
      refine At.cond rfl (fun h8 => ?_) (fun h8 => ?_)
      · skip
        try simp only [notT, notF, bneT, bneF, beqT, beqF, decT, decF] at h8
        refine At.region ?_
        refine At.val (Val.move rfl) rfl rfl rfl ?_
        refine At.val (Val.move rfl) rfl rfl rfl ?_
        refine At.val (Val.indexArr 0 rfl Tryd.underlying66 Tryd.sizeOf40 rfl rfl (by decide) (by decide)) rfl rfl rfl ?_
        refine At.val (Val.load (i := 1) (v := b64 (w0_ i k' l')) Tryd.isAgg40 rfl rfl rfl) rfl rfl rfl ?_
        refine At.val (Val.build (fun a ha => by simp only [List.map_toArray, List.map_cons, List.map_nil, ha.eval (x := (.tmp 47)) rfl, ha.eval (x := (.tmp 49)) rfl] <;> rfl) (bld_122_0_1 _ _ )) rfl rfl rfl ?_
        refine At.buildSl (fun a ha => by simp only [List.map_toArray, List.map_cons, List.map_nil, ha.eval (x := (.tmp 50)) rfl]; try rfl) (bs_114_1 _ _ ) rfl (fun b9 => ?_)
        refine At.append (i := 1) (sz := 2) (by_ := 16) Tryd.underlying114 info_122 rfl rfl rfl rfl rfl rfl rfl rfl rfl (fun w hw j u hj => by rw [Nat.zero_add]; exact ((hw.blk (i := 0) rfl).cell j).trans hj) (by simp [Value.oneCell']) (by have := ch0_len i k l k' l'; have := ch1_len i k h t k' h' t'; first | omega | (simp only [List.length_append]; omega)) (by have := ch0_len i k l k' l'; have := ch1_len i k h t k' h' t'; first | omega | (simp only [List.length_append]; omega)) rfl (fun v10 => ?_)
        simp only [List.set_cons_zero, List.set_cons_succ]
        refine At.drop 0 ?_
        simp only [List.eraseIdx_cons_zero, List.eraseIdx_cons_succ]
        refine At.val (Val.assign rfl) rfl rfl rfl ?_
        refine At.nil ?_
        refine At.thenN ?_
        exact At.meets (v10) trivial (Sub.cons rfl (Sub.cons rfl (Sub.cons rfl (Sub.cons rfl (Sub.cons rfl Sub.nil))))) (by first | (rw [show ch0 i k l k' l' = [(slotAt i, w0_ i k' l')] from if_pos (by omega)]; done) | (rw [show ch0 i k l k' l' = [(slotAt i, w0_ i k' l')] from if_pos (by omega)]; exact List.Perm.refl _))
      · skip
        try simp only [notT, notF, bneT, bneF, beqT, beqF, decT, decF] at h8
        refine At.skipC ?_
        refine At.thenN ?_
        exact At.meets ((.slice none 0 0)) trivial (Sub.cons rfl (Sub.cons rfl (Sub.cons rfl (Sub.cons rfl (Sub.cons rfl Sub.nil))))) (by first | (rw [show ch0 i k l k' l' = [] from if_neg (by omega)]; done) | (rw [show ch0 i k l k' l' = [] from if_neg (by omega)]; exact List.Perm.refl _))
  · skip
    intro v hs
    refine At.join (σ := Value) (fun v => True) (fun v => [(4, .pointer (some ⟨b1, 0, none⟩)), (5, .pointer (some ⟨b2, 0, none⟩)), (10, .pointer (some ⟨b4, 0, none⟩)), (12, .int .i64 (slotAt i)), (13, v)]) (fun v => [rowR v 122 2 (((ch0 i k l k' l' ++ ch1 i k h t k' h' t')).length) (chC ((ch0 i k l k' l' ++ ch1 i k h t k' h' t'))), blk b4 66 ((slotW i k' l' h' t').map b64), blk b3 66 ((slotW i k l h t).map b64), blk b2 65 ([.int .i64 k', .int .i64 l', .int .i64 h', .int .i64 t']), blk b1 65 ([.int .i64 k, .int .i64 l, .int .i64 h, .int .i64 t])]) ?_ ?_
    · skip
      refine At.seq ?_
      refine At.region ?_
      refine At.val (Val.field 0 rfl fo_65_0 rfl) rfl rfl rfl ?_
      refine At.val (Val.load (i := 3) Tryd.isAgg3 rfl rfl rfl) rfl rfl rfl ?_
      refine At.val (Val.bin rfl rfl rfl) rfl rfl rfl ?_
      refine At.val (Val.move rfl) rfl rfl rfl ?_
      refine At.split (t := 56) rfl (fun h11 => ?_) (fun h11 => ?_)
      · skip
        try simp only [notT, notF, bneT, bneF, beqT, beqF, decT, decF] at h11
        refine At.yes rfl rfl ?_
        refine At.val (Val.field 3 rfl fo_65_3 rfl) rfl rfl rfl ?_
        refine At.yes rfl rfl ?_
        refine At.val (Val.load (i := 3) Tryd.isAgg3 rfl rfl rfl) rfl rfl rfl ?_
        refine At.yes rfl rfl ?_
        refine At.val (Val.bin rfl rfl rfl) rfl rfl rfl ?_
        refine At.val (Val.pickT rfl rfl) rfl rfl rfl ?_
        refine At.val (Val.move rfl) rfl rfl rfl ?_
        refine At.split (t := 61) rfl (fun h12 => ?_) (fun h12 => ?_)
        · skip
          try simp only [notT, notF, bneT, bneF, beqT, beqF, decT, decF] at h12
          refine At.yes rfl rfl ?_
          refine At.val (Val.field 0 rfl fo_65_0 rfl) rfl rfl rfl ?_
          refine At.yes rfl rfl ?_
          refine At.val (Val.load (i := 4) Tryd.isAgg3 rfl rfl rfl) rfl rfl rfl ?_
          refine At.yes rfl rfl ?_
          refine At.val (Val.bin rfl rfl rfl) rfl rfl rfl ?_
          refine At.yes rfl rfl ?_
          refine At.val (Val.move rfl) rfl rfl rfl ?_
          refine At.split (t := 65) rfl (fun h13 => ?_) (fun h13 => ?_)
          · skip
            try simp only [notT, notF, bneT, bneF, beqT, beqF, decT, decF] at h13
            refine At.no rfl rfl rfl rfl ?_
            refine At.no rfl rfl rfl rfl ?_
            refine At.no rfl rfl rfl rfl ?_
            refine At.yes rfl rfl ?_
            refine At.val (Val.pickT rfl rfl) rfl rfl rfl ?_
            refine At.yes rfl rfl ?_
            refine At.val (Val.move rfl) rfl rfl rfl ?_
            refine At.no rfl rfl rfl rfl ?_
            refine At.no rfl rfl rfl rfl ?_
            refine At.no rfl rfl rfl rfl ?_
            refine At.no rfl rfl rfl rfl ?_
            refine At.no rfl rfl rfl rfl ?_
            refine At.yes rfl rfl ?_
            refine At.val (Val.pickT rfl rfl) rfl rfl rfl ?_
            refine At.val (Val.pickT rfl rfl) rfl rfl rfl ?_
            refine At.nil ?_
            refine At.thenN ?_
            refine At.condT rfl ?_
            refine At.region ?_
            refine At.val (Val.move rfl) rfl rfl rfl ?_
            refine At.val (Val.move rfl) rfl rfl rfl ?_
            refine At.val (Val.bin rfl rfl rfl) rfl rfl rfl ?_
            rw [wrap_i64 (n := slotAt i + 8) (by omega) (by omega)]
            refine At.val (Val.indexArr 1 rfl Tryd.underlying66 Tryd.sizeOf40 rfl rfl (by decide) (by decide)) rfl rfl rfl ?_
            refine At.val (Val.load (i := 1) (v := b64 (w1_ i h')) Tryd.isAgg40 rfl rfl rfl) rfl rfl rfl ?_
            refine At.val (Val.build (fun a ha => by simp only [List.map_toArray, List.map_cons, List.map_nil, ha.eval (x := (.tmp 80)) rfl, ha.eval (x := (.tmp 82)) rfl] <;> rfl) (bld_122_0_1 _ _ )) rfl rfl rfl ?_
            refine At.buildSl (fun a ha => by simp only [List.map_toArray, List.map_cons, List.map_nil, ha.eval (x := (.tmp 83)) rfl]; try rfl) (bs_114_1 _ _ ) rfl (fun b14 => ?_)
            refine At.append (i := 1) (sz := 2) (by_ := 16) Tryd.underlying114 info_122 rfl rfl rfl rfl rfl rfl rfl rfl rfl (fun w hw j u hj => by rw [Nat.zero_add]; exact ((hw.blk (i := 0) rfl).cell j).trans hj) (by simp [Value.oneCell']) (by have := ch0_len i k l k' l'; have := ch1_len i k h t k' h' t'; first | omega | (simp only [List.length_append]; omega)) (by have := ch0_len i k l k' l'; have := ch1_len i k h t k' h' t'; first | omega | (simp only [List.length_append]; omega)) rfl (fun v15 => ?_)
            simp only [List.set_cons_zero, List.set_cons_succ]
            refine At.drop 0 ?_
            simp only [List.eraseIdx_cons_zero, List.eraseIdx_cons_succ]
            refine At.val (Val.assign rfl) rfl rfl rfl ?_
            refine At.nil ?_
            refine At.thenN ?_
            exact At.meets (v15) trivial (Sub.cons rfl (Sub.cons rfl (Sub.cons rfl (Sub.cons rfl (Sub.cons rfl Sub.nil))))) (by first | (rw [show ch1 i k h t k' h' t' = [(slotAt i + 8, w1_ i h')] from if_pos (by omega), ch_snoc]; done) | (rw [show ch1 i k h t k' h' t' = [(slotAt i + 8, w1_ i h')] from if_pos (by omega), ch_snoc]; exact List.Perm.refl _))
          · skip
            try simp only [notT, notF, bneT, bneF, beqT, beqF, decT, decF] at h13
            refine At.yes rfl rfl ?_
            refine At.val (Val.field 3 rfl fo_65_3 rfl) rfl rfl rfl ?_
            refine At.yes rfl rfl ?_
            refine At.val (Val.load (i := 4) Tryd.isAgg3 rfl rfl rfl) rfl rfl rfl ?_
            refine At.yes rfl rfl ?_
            refine At.val (Val.bin rfl rfl rfl) rfl rfl rfl ?_
            refine At.yes rfl rfl ?_
            refine At.val (Val.pickF rfl rfl) rfl rfl rfl ?_
            refine At.yes rfl rfl ?_
            refine At.val (Val.move rfl) rfl rfl rfl ?_
            refine At.split (t := 70) rfl (fun h16 => ?_) (fun h16 => ?_)
            · skip
              try simp only [notT, notF, bneT, bneF, beqT, beqF, decT, decF] at h16
              refine At.no rfl rfl rfl rfl ?_
              refine At.no rfl rfl rfl rfl ?_
              refine At.no rfl rfl rfl rfl ?_
              refine At.no rfl rfl rfl rfl ?_
              refine At.no rfl rfl rfl rfl ?_
              refine At.yes rfl rfl ?_
              refine At.val (Val.pickT rfl rfl) rfl rfl rfl ?_
              refine At.val (Val.pickT rfl rfl) rfl rfl rfl ?_
              refine At.nil ?_
              refine At.thenN ?_
              refine At.condT rfl ?_
              refine At.region ?_
              refine At.val (Val.move rfl) rfl rfl rfl ?_
              refine At.val (Val.move rfl) rfl rfl rfl ?_
              refine At.val (Val.bin rfl rfl rfl) rfl rfl rfl ?_
              rw [wrap_i64 (n := slotAt i + 8) (by omega) (by omega)]
              refine At.val (Val.indexArr 1 rfl Tryd.underlying66 Tryd.sizeOf40 rfl rfl (by decide) (by decide)) rfl rfl rfl ?_
              refine At.val (Val.load (i := 1) (v := b64 (w1_ i h')) Tryd.isAgg40 rfl rfl rfl) rfl rfl rfl ?_
              refine At.val (Val.build (fun a ha => by simp only [List.map_toArray, List.map_cons, List.map_nil, ha.eval (x := (.tmp 80)) rfl, ha.eval (x := (.tmp 82)) rfl] <;> rfl) (bld_122_0_1 _ _ )) rfl rfl rfl ?_
              refine At.buildSl (fun a ha => by simp only [List.map_toArray, List.map_cons, List.map_nil, ha.eval (x := (.tmp 83)) rfl]; try rfl) (bs_114_1 _ _ ) rfl (fun b17 => ?_)
              refine At.append (i := 1) (sz := 2) (by_ := 16) Tryd.underlying114 info_122 rfl rfl rfl rfl rfl rfl rfl rfl rfl (fun w hw j u hj => by rw [Nat.zero_add]; exact ((hw.blk (i := 0) rfl).cell j).trans hj) (by simp [Value.oneCell']) (by have := ch0_len i k l k' l'; have := ch1_len i k h t k' h' t'; first | omega | (simp only [List.length_append]; omega)) (by have := ch0_len i k l k' l'; have := ch1_len i k h t k' h' t'; first | omega | (simp only [List.length_append]; omega)) rfl (fun v18 => ?_)
              simp only [List.set_cons_zero, List.set_cons_succ]
              refine At.drop 0 ?_
              simp only [List.eraseIdx_cons_zero, List.eraseIdx_cons_succ]
              refine At.val (Val.assign rfl) rfl rfl rfl ?_
              refine At.nil ?_
              refine At.thenN ?_
              exact At.meets (v18) trivial (Sub.cons rfl (Sub.cons rfl (Sub.cons rfl (Sub.cons rfl (Sub.cons rfl Sub.nil))))) (by first | (rw [show ch1 i k h t k' h' t' = [(slotAt i + 8, w1_ i h')] from if_pos (by omega), ch_snoc]; done) | (rw [show ch1 i k h t k' h' t' = [(slotAt i + 8, w1_ i h')] from if_pos (by omega), ch_snoc]; exact List.Perm.refl _))
            · skip
              try simp only [notT, notF, bneT, bneF, beqT, beqF, decT, decF] at h16
              refine At.yes rfl rfl ?_
              refine At.val (Val.field 2 rfl fo_65_2 rfl) rfl rfl rfl ?_
              refine At.yes rfl rfl ?_
              refine At.val (Val.load (i := 4) Tryd.isAgg3 rfl rfl rfl) rfl rfl rfl ?_
              refine At.yes rfl rfl ?_
              refine At.val (Val.field 2 rfl fo_65_2 rfl) rfl rfl rfl ?_
              refine At.yes rfl rfl ?_
              refine At.val (Val.load (i := 3) Tryd.isAgg3 rfl rfl rfl) rfl rfl rfl ?_
              refine At.yes rfl rfl ?_
              refine At.val (Val.bin rfl rfl rfl) rfl rfl rfl ?_
              refine At.yes rfl rfl ?_
              refine At.val (Val.pickF rfl rfl) rfl rfl rfl ?_
              refine At.val (Val.pickT rfl rfl) rfl rfl rfl ?_
              refine At.nil ?_
              refine At.thenN ?_
              refine At.cond rfl (fun h19 => ?_) (fun h19 => ?_)
              · skip
                try simp only [notT, notF, bneT, bneF, beqT, beqF, decT, decF] at h19
                refine At.region ?_
                refine At.val (Val.move rfl) rfl rfl rfl ?_
                refine At.val (Val.move rfl) rfl rfl rfl ?_
                refine At.val (Val.bin rfl rfl rfl) rfl rfl rfl ?_
                rw [wrap_i64 (n := slotAt i + 8) (by omega) (by omega)]
                refine At.val (Val.indexArr 1 rfl Tryd.underlying66 Tryd.sizeOf40 rfl rfl (by decide) (by decide)) rfl rfl rfl ?_
                refine At.val (Val.load (i := 1) (v := b64 (w1_ i h')) Tryd.isAgg40 rfl rfl rfl) rfl rfl rfl ?_
                refine At.val (Val.build (fun a ha => by simp only [List.map_toArray, List.map_cons, List.map_nil, ha.eval (x := (.tmp 80)) rfl, ha.eval (x := (.tmp 82)) rfl] <;> rfl) (bld_122_0_1 _ _ )) rfl rfl rfl ?_
                refine At.buildSl (fun a ha => by simp only [List.map_toArray, List.map_cons, List.map_nil, ha.eval (x := (.tmp 83)) rfl]; try rfl) (bs_114_1 _ _ ) rfl (fun b20 => ?_)
                refine At.append (i := 1) (sz := 2) (by_ := 16) Tryd.underlying114 info_122 rfl rfl rfl rfl rfl rfl rfl rfl rfl (fun w hw j u hj => by rw [Nat.zero_add]; exact ((hw.blk (i := 0) rfl).cell j).trans hj) (by simp [Value.oneCell']) (by have := ch0_len i k l k' l'; have := ch1_len i k h t k' h' t'; first | omega | (simp only [List.length_append]; omega)) (by have := ch0_len i k l k' l'; have := ch1_len i k h t k' h' t'; first | omega | (simp only [List.length_append]; omega)) rfl (fun v21 => ?_)
                simp only [List.set_cons_zero, List.set_cons_succ]
                refine At.drop 0 ?_
                simp only [List.eraseIdx_cons_zero, List.eraseIdx_cons_succ]
                refine At.val (Val.assign rfl) rfl rfl rfl ?_
                refine At.nil ?_
                refine At.thenN ?_
                exact At.meets (v21) trivial (Sub.cons rfl (Sub.cons rfl (Sub.cons rfl (Sub.cons rfl (Sub.cons rfl Sub.nil))))) (by first | (rw [show ch1 i k h t k' h' t' = [(slotAt i + 8, w1_ i h')] from if_pos (by omega), ch_snoc]; done) | (rw [show ch1 i k h t k' h' t' = [(slotAt i + 8, w1_ i h')] from if_pos (by omega), ch_snoc]; exact List.Perm.refl _))
              · skip
                try simp only [notT, notF, bneT, bneF, beqT, beqF, decT, decF] at h19
                refine At.skipC ?_
                refine At.thenN ?_
                exact At.meets (v) trivial (Sub.cons rfl (Sub.cons rfl (Sub.cons rfl (Sub.cons rfl (Sub.cons rfl Sub.nil))))) (by first | (rw [show ch1 i k h t k' h' t' = [] from if_neg (by omega), List.append_nil]; done) | (rw [show ch1 i k h t k' h' t' = [] from if_neg (by omega), List.append_nil]; exact List.Perm.refl _))
        · skip
          try simp only [notT, notF, bneT, bneF, beqT, beqF, decT, decF] at h12
          refine At.no rfl rfl rfl rfl ?_
          refine At.no rfl rfl rfl rfl ?_
          refine At.no rfl rfl rfl rfl ?_
          refine At.no rfl rfl rfl rfl ?_
          refine At.noU rfl rfl rfl ?_
          refine At.noU rfl rfl rfl ?_
          refine At.noU rfl rfl rfl ?_
          refine At.no rfl rfl rfl rfl ?_
          refine At.no rfl rfl rfl rfl ?_
          refine At.noU rfl rfl rfl ?_
          refine At.noU rfl rfl rfl ?_
          refine At.noU rfl rfl rfl ?_
          refine At.noU rfl rfl rfl ?_
          refine At.noU rfl rfl rfl ?_
          refine At.no rfl rfl rfl rfl ?_
          refine At.val (Val.pickF rfl rfl) rfl rfl rfl ?_
          refine At.nil ?_
          refine At.thenN ?_
          refine At.condF rfl ?_
          refine At.skipC ?_
          refine At.thenN ?_
          exact At.meets (v) trivial (Sub.cons rfl (Sub.cons rfl (Sub.cons rfl (Sub.cons rfl (Sub.cons rfl Sub.nil))))) (by first | (rw [show ch1 i k h t k' h' t' = [] from if_neg (by omega), List.append_nil]; done) | (rw [show ch1 i k h t k' h' t' = [] from if_neg (by omega), List.append_nil]; exact List.Perm.refl _))
      · skip
        try simp only [notT, notF, bneT, bneF, beqT, beqF, decT, decF] at h11
        refine At.no rfl rfl rfl rfl ?_
        refine At.no rfl rfl rfl rfl ?_
        refine At.no rfl rfl rfl rfl ?_
        refine At.val (Val.pickF rfl rfl) rfl rfl rfl ?_
        refine At.val (Val.move rfl) rfl rfl rfl ?_
        refine At.no rfl rfl rfl rfl ?_
        refine At.no rfl rfl rfl rfl ?_
        refine At.no rfl rfl rfl rfl ?_
        refine At.no rfl rfl rfl rfl ?_
        refine At.noU rfl rfl rfl ?_
        refine At.noU rfl rfl rfl ?_
        refine At.noU rfl rfl rfl ?_
        refine At.no rfl rfl rfl rfl ?_
        refine At.no rfl rfl rfl rfl ?_
        refine At.noU rfl rfl rfl ?_
        refine At.noU rfl rfl rfl ?_
        refine At.noU rfl rfl rfl ?_
        refine At.noU rfl rfl rfl ?_
        refine At.noU rfl rfl rfl ?_
        refine At.no rfl rfl rfl rfl ?_
        refine At.val (Val.pickF rfl rfl) rfl rfl rfl ?_
        refine At.nil ?_
        refine At.thenN ?_
        refine At.condF rfl ?_
        refine At.skipC ?_
        refine At.thenN ?_
        exact At.meets (v) trivial (Sub.cons rfl (Sub.cons rfl (Sub.cons rfl (Sub.cons rfl (Sub.cons rfl Sub.nil))))) (by first | (rw [show ch1 i k h t k' h' t' = [] from if_neg (by omega), List.append_nil]; done) | (rw [show ch1 i k h t k' h' t' = [] from if_neg (by omega), List.append_nil]; exact List.Perm.refl _))
    · skip
      intro v hs
      refine At.join (σ := Value) (fun v => True) (fun v => [(4, .pointer (some ⟨b1, 0, none⟩)), (5, .pointer (some ⟨b2, 0, none⟩)), (10, .pointer (some ⟨b4, 0, none⟩)), (12, .int .i64 (slotAt i)), (13, v)]) (fun v => [rowR v 122 2 (((ch0 i k l k' l' ++ ch1 i k h t k' h' t' ++ ch2 i k t k' t')).length) (chC ((ch0 i k l k' l' ++ ch1 i k h t k' h' t' ++ ch2 i k t k' t'))), blk b4 66 ((slotW i k' l' h' t').map b64), blk b3 66 ((slotW i k l h t).map b64), blk b2 65 ([.int .i64 k', .int .i64 l', .int .i64 h', .int .i64 t']), blk b1 65 ([.int .i64 k, .int .i64 l, .int .i64 h, .int .i64 t])]) ?_ ?_
      · skip
        refine At.seq ?_
        refine At.region ?_
        refine At.val (Val.field 0 rfl fo_65_0 rfl) rfl rfl rfl ?_
        refine At.val (Val.load (i := 3) Tryd.isAgg3 rfl rfl rfl) rfl rfl rfl ?_
        refine At.val (Val.bin rfl rfl rfl) rfl rfl rfl ?_
        refine At.val (Val.move rfl) rfl rfl rfl ?_
        refine At.split (t := 89) rfl (fun h22 => ?_) (fun h22 => ?_)
        · skip
          try simp only [notT, notF, bneT, bneF, beqT, beqF, decT, decF] at h22
          refine At.yes rfl rfl ?_
          refine At.val (Val.field 0 rfl fo_65_0 rfl) rfl rfl rfl ?_
          refine At.yes rfl rfl ?_
          refine At.val (Val.load (i := 4) Tryd.isAgg3 rfl rfl rfl) rfl rfl rfl ?_
          refine At.yes rfl rfl ?_
          refine At.val (Val.bin rfl rfl rfl) rfl rfl rfl ?_
          refine At.yes rfl rfl ?_
          refine At.val (Val.move rfl) rfl rfl rfl ?_
          refine At.split (t := 93) rfl (fun h23 => ?_) (fun h23 => ?_)
          · skip
            try simp only [notT, notF, bneT, bneF, beqT, beqF, decT, decF] at h23
            refine At.no rfl rfl rfl rfl ?_
            refine At.no rfl rfl rfl rfl ?_
            refine At.no rfl rfl rfl rfl ?_
            refine At.no rfl rfl rfl rfl ?_
            refine At.no rfl rfl rfl rfl ?_
            refine At.yes rfl rfl ?_
            refine At.val (Val.pickT rfl rfl) rfl rfl rfl ?_
            refine At.val (Val.pickT rfl rfl) rfl rfl rfl ?_
            refine At.nil ?_
            refine At.thenN ?_
            refine At.condT rfl ?_
            refine At.region ?_
            refine At.val (Val.move rfl) rfl rfl rfl ?_
            refine At.val (Val.move rfl) rfl rfl rfl ?_
            refine At.val (Val.bin rfl rfl rfl) rfl rfl rfl ?_
            rw [wrap_i64 (n := slotAt i + 16) (by omega) (by omega)]
            refine At.val (Val.indexArr 2 rfl Tryd.underlying66 Tryd.sizeOf40 rfl rfl (by decide) (by decide)) rfl rfl rfl ?_
            refine At.val (Val.load (i := 1) (v := b64 (w2_ i t')) Tryd.isAgg40 rfl rfl rfl) rfl rfl rfl ?_
            refine At.val (Val.build (fun a ha => by simp only [List.map_toArray, List.map_cons, List.map_nil, ha.eval (x := (.tmp 103)) rfl, ha.eval (x := (.tmp 105)) rfl] <;> rfl) (bld_122_0_1 _ _ )) rfl rfl rfl ?_
            refine At.buildSl (fun a ha => by simp only [List.map_toArray, List.map_cons, List.map_nil, ha.eval (x := (.tmp 106)) rfl]; try rfl) (bs_114_1 _ _ ) rfl (fun b24 => ?_)
            refine At.append (i := 1) (sz := 2) (by_ := 16) Tryd.underlying114 info_122 rfl rfl rfl rfl rfl rfl rfl rfl rfl (fun w hw j u hj => by rw [Nat.zero_add]; exact ((hw.blk (i := 0) rfl).cell j).trans hj) (by simp [Value.oneCell']) (by have := ch0_len i k l k' l'; have := ch1_len i k h t k' h' t'; first | omega | (simp only [List.length_append]; omega)) (by have := ch0_len i k l k' l'; have := ch1_len i k h t k' h' t'; first | omega | (simp only [List.length_append]; omega)) rfl (fun v25 => ?_)
            simp only [List.set_cons_zero, List.set_cons_succ]
            refine At.drop 0 ?_
            simp only [List.eraseIdx_cons_zero, List.eraseIdx_cons_succ]
            refine At.val (Val.assign rfl) rfl rfl rfl ?_
            refine At.nil ?_
            refine At.thenN ?_
            exact At.meets (v25) trivial (Sub.cons rfl (Sub.cons rfl (Sub.cons rfl (Sub.cons rfl (Sub.cons rfl Sub.nil))))) (by first | (rw [show ch2 i k t k' t' = [(slotAt i + 16, w2_ i t')] from if_pos (by omega), ch_snoc]; done) | (rw [show ch2 i k t k' t' = [(slotAt i + 16, w2_ i t')] from if_pos (by omega), ch_snoc]; exact List.Perm.refl _))
          · skip
            try simp only [notT, notF, bneT, bneF, beqT, beqF, decT, decF] at h23
            refine At.yes rfl rfl ?_
            refine At.val (Val.field 3 rfl fo_65_3 rfl) rfl rfl rfl ?_
            refine At.yes rfl rfl ?_
            refine At.val (Val.load (i := 4) Tryd.isAgg3 rfl rfl rfl) rfl rfl rfl ?_
            refine At.yes rfl rfl ?_
            refine At.val (Val.field 3 rfl fo_65_3 rfl) rfl rfl rfl ?_
            refine At.yes rfl rfl ?_
            refine At.val (Val.load (i := 3) Tryd.isAgg3 rfl rfl rfl) rfl rfl rfl ?_
            refine At.yes rfl rfl ?_
            refine At.val (Val.bin rfl rfl rfl) rfl rfl rfl ?_
            refine At.yes rfl rfl ?_
            refine At.val (Val.pickF rfl rfl) rfl rfl rfl ?_
            refine At.val (Val.pickT rfl rfl) rfl rfl rfl ?_
            refine At.nil ?_
            refine At.thenN ?_
            refine At.cond rfl (fun h26 => ?_) (fun h26 => ?_)
            · skip
              try simp only [notT, notF, bneT, bneF, beqT, beqF, decT, decF] at h26
              refine At.region ?_
              refine At.val (Val.move rfl) rfl rfl rfl ?_
              refine At.val (Val.move rfl) rfl rfl rfl ?_
              refine At.val (Val.bin rfl rfl rfl) rfl rfl rfl ?_
              rw [wrap_i64 (n := slotAt i + 16) (by omega) (by omega)]
              refine At.val (Val.indexArr 2 rfl Tryd.underlying66 Tryd.sizeOf40 rfl rfl (by decide) (by decide)) rfl rfl rfl ?_
              refine At.val (Val.load (i := 1) (v := b64 (w2_ i t')) Tryd.isAgg40 rfl rfl rfl) rfl rfl rfl ?_
              refine At.val (Val.build (fun a ha => by simp only [List.map_toArray, List.map_cons, List.map_nil, ha.eval (x := (.tmp 103)) rfl, ha.eval (x := (.tmp 105)) rfl] <;> rfl) (bld_122_0_1 _ _ )) rfl rfl rfl ?_
              refine At.buildSl (fun a ha => by simp only [List.map_toArray, List.map_cons, List.map_nil, ha.eval (x := (.tmp 106)) rfl]; try rfl) (bs_114_1 _ _ ) rfl (fun b27 => ?_)
              refine At.append (i := 1) (sz := 2) (by_ := 16) Tryd.underlying114 info_122 rfl rfl rfl rfl rfl rfl rfl rfl rfl (fun w hw j u hj => by rw [Nat.zero_add]; exact ((hw.blk (i := 0) rfl).cell j).trans hj) (by simp [Value.oneCell']) (by have := ch0_len i k l k' l'; have := ch1_len i k h t k' h' t'; first | omega | (simp only [List.length_append]; omega)) (by have := ch0_len i k l k' l'; have := ch1_len i k h t k' h' t'; first | omega | (simp only [List.length_append]; omega)) rfl (fun v28 => ?_)
              simp only [List.set_cons_zero, List.set_cons_succ]
              refine At.drop 0 ?_
              simp only [List.eraseIdx_cons_zero, List.eraseIdx_cons_succ]
              refine At.val (Val.assign rfl) rfl rfl rfl ?_
              refine At.nil ?_
              refine At.thenN ?_
              exact At.meets (v28) trivial (Sub.cons rfl (Sub.cons rfl (Sub.cons rfl (Sub.cons rfl (Sub.cons rfl Sub.nil))))) (by first | (rw [show ch2 i k t k' t' = [(slotAt i + 16, w2_ i t')] from if_pos (by omega), ch_snoc]; done) | (rw [show ch2 i k t k' t' = [(slotAt i + 16, w2_ i t')] from if_pos (by omega), ch_snoc]; exact List.Perm.refl _))
            · skip
              try simp only [notT, notF, bneT, bneF, beqT, beqF, decT, decF] at h26
              refine At.skipC ?_
              refine At.thenN ?_
              exact At.meets (v) trivial (Sub.cons rfl (Sub.cons rfl (Sub.cons rfl (Sub.cons rfl (Sub.cons rfl Sub.nil))))) (by first | (rw [show ch2 i k t k' t' = [] from if_neg (by omega), List.append_nil]; done) | (rw [show ch2 i k t k' t' = [] from if_neg (by omega), List.append_nil]; exact List.Perm.refl _))
        · skip
          try simp only [notT, notF, bneT, bneF, beqT, beqF, decT, decF] at h22
          refine At.no rfl rfl rfl rfl ?_
          refine At.no rfl rfl rfl rfl ?_
          refine At.no rfl rfl rfl rfl ?_
          refine At.no rfl rfl rfl rfl ?_
          refine At.noU rfl rfl rfl ?_
          refine At.noU rfl rfl rfl ?_
          refine At.noU rfl rfl rfl ?_
          refine At.noU rfl rfl rfl ?_
          refine At.noU rfl rfl rfl ?_
          refine At.no rfl rfl rfl rfl ?_
          refine At.val (Val.pickF rfl rfl) rfl rfl rfl ?_
          refine At.nil ?_
          refine At.thenN ?_
          refine At.condF rfl ?_
          refine At.skipC ?_
          refine At.thenN ?_
          exact At.meets (v) trivial (Sub.cons rfl (Sub.cons rfl (Sub.cons rfl (Sub.cons rfl (Sub.cons rfl Sub.nil))))) (by first | (rw [show ch2 i k t k' t' = [] from if_neg (by omega), List.append_nil]; done) | (rw [show ch2 i k t k' t' = [] from if_neg (by omega), List.append_nil]; exact List.Perm.refl _))
      · skip
        intro v hs
        refine At.seq ?_
        refine At.region ?_
        refine At.val (Val.move rfl) rfl rfl rfl ?_
        refine At.val (Val.assign rfl) rfl rfl rfl ?_
        refine At.val (Val.assign rfl) rfl rfl rfl ?_
        refine At.nil ?_
        refine At.thenN ?_
        refine At.retC ?_
        refine At.ret2 (.inl rfl) rfl rfl rfl rfl (fun w hw => ?_)
        exact ⟨v, rfl, hw.drop (List.singleton_sublist.2 (List.mem_of_getElem? (i := 0) rfl))⟩

theorem changesI_T (i k l h t k' l' h' t' : Int) (w : World) (ht : Tab w) (hb : -9223372036854775808 ≤ t ∧ t ≤ 9223372036854775807) (hb' : -9223372036854775808 ≤ t' ∧ t' ≤ 9223372036854775807) (hg : GoodP i k l h t) (hg' : GoodP i k' l' h' t') :
    NewRowT Tryd.prog 68 [.int .i64 i, .agg #[.int .i64 k, .int .i64 l, .int .i64 h, .int .i64 t], .agg #[.int .i64 k', .int .i64 l', .int .i64 h', .int .i64 t']] (fun v => .tuple #[v, .int .i64 0]) 122 2 (ch0 i k l k' l' ++ ch1 i k h t k' h' t' ++ ch2 i k t k' t').length (chC (ch0 i k l k' l' ++ ch1 i k h t k' h' t' ++ ch2 i k t k' t')) w := by
  refine enter (feet []) [] Tryd.func68 rfl Tryd.ntmps68 rfl ⟨by simp, by simp, by simp, Mod.refl _ _⟩ ?_
  have hsl := ino_T.1 hg.1
  have hse := slotAt_T hg.1
  have hk0 : 0 ≤ t ∧ 0 ≤ t' := by have h1 := hg.2; have h2 := hg'.2; unfold GoodS GoodU GoodT at h1 h2; omega
  simp only [envOf]
  refine At.seq ?_
  refine At.region ?_
  refine At.box rfl rfl rfl (fun b1 => ?_)
  refine At.box rfl rfl rfl (fun b2 => ?_)
  refine At.val (Val.assign rfl) rfl rfl rfl ?_
  refine At.val (Val.assign rfl) rfl rfl rfl ?_
  refine At.nil ?_
  refine At.thenN ?_
  refine At.seq ?_
  refine At.seq ?_
  refine At.region ?_
  refine At.val (Val.move rfl) rfl rfl rfl ?_
  refine At.val (Val.loadAll (i := 1) Tryd.isAgg65 Tryd.sizeOf65 rfl rfl rfl) rfl rfl rfl ?_
  refine At.callP (fun w hw => (by have := packSlot_p i k l h t w (ht.mod (hw.mod.mono (fun b hb => by simp [feet] at hb))) hb; rwa [packSlot_yes hg] at this)) Tryd.call40 rfl rfl ?_
  refine At.val (Val.move rfl) rfl rfl rfl ?_
  refine At.val (Val.extract rfl rfl) rfl rfl rfl ?_
  refine At.val (Val.extract rfl rfl) rfl rfl rfl ?_
  refine At.alloc zero_66 zc_66 rfl (fun b3 => ?_)
  refine At.storeAll (i := 0) Tryd.sizeOf66 rfl rfl rfl (by simp [Value.oneCell']) rfl (by simp) ?_
  simp only [List.set_cons_zero, List.set_cons_succ]
  refine At.val (Val.assign rfl) rfl rfl rfl ?_
  refine At.nil ?_
  refine At.thenN ?_
  refine At.seq ?_
  refine At.region ?_
  refine At.val (Val.move rfl) rfl rfl rfl ?_
  refine At.val (Val.bin rfl rfl rfl) rfl rfl rfl ?_
  refine At.nil ?_
  refine At.thenN ?_
  refine At.condF rfl ?_
  refine At.skipC ?_
  refine At.thenN ?_
  refine At.seq ?_
  refine At.region ?_
  refine At.val (Val.move rfl) rfl rfl rfl ?_
  refine At.val (Val.loadAll (i := 1) Tryd.isAgg65 Tryd.sizeOf65 rfl rfl rfl) rfl rfl rfl ?_
  refine At.callP (fun w hw => (by have := packSlot_p i k' l' h' t' w (ht.mod (hw.mod.mono (fun b hb => by simp [feet] at hb))) hb'; rwa [packSlot_yes hg'] at this)) Tryd.call40 rfl rfl ?_
  refine At.val (Val.move rfl) rfl rfl rfl ?_
  refine At.val (Val.extract rfl rfl) rfl rfl rfl ?_
  refine At.val (Val.extract rfl rfl) rfl rfl rfl ?_
  refine At.alloc zero_66 zc_66 rfl (fun b4 => ?_)
  refine At.storeAll (i := 0) Tryd.sizeOf66 rfl rfl rfl (by simp [Value.oneCell']) rfl (by simp) ?_
  simp only [List.set_cons_zero, List.set_cons_succ]
  refine At.val (Val.assign rfl) rfl rfl rfl ?_
  refine At.nil ?_
  refine At.thenN ?_
  refine At.seq ?_
  refine At.seq ?_
  refine At.region ?_
  refine At.val (Val.move rfl) rfl rfl rfl ?_
  refine At.val (Val.bin rfl rfl rfl) rfl rfl rfl ?_
  refine At.nil ?_
  refine At.thenN ?_
  refine At.condF rfl ?_
  refine At.skipC ?_
  refine At.thenN ?_
  refine At.seq ?_
  refine At.quiet rfl (by decide +kernel) ?_
  refine QAt.val (Val.field 0 rfl fo_65_0 rfl) rfl rfl rfl ?_
  refine QAt.val (Val.load (i := 2) Tryd.isAgg3 rfl rfl rfl) rfl rfl rfl ?_
  refine QAt.val (Val.bin rfl rfl rfl) rfl rfl rfl ?_
  refine QAt.val (Val.field 0 rfl fo_65_0 rfl) rfl rfl rfl ?_
  refine QAt.val (Val.load (i := 3) Tryd.isAgg3 rfl rfl rfl) rfl rfl rfl ?_
  refine QAt.val (Val.bin rfl rfl rfl) rfl rfl rfl ?_
  refine QAt.val (Val.assign rfl) rfl rfl rfl ?_
  refine QAt.val (Val.assign rfl) rfl rfl rfl ?_
  refine QAt.fin ?_
  refine At.thenN ?_
  refine At.join (σ := List Value × Nat) (fun s => ∃ d0 d1 d2 : Bool, s.1 = [.bool d0, .bool d1, .bool d2] ∧ (d0 = true ↔ (k ≠ k' ∨ l ≠ l')) ∧ (d1 = true ↔ (k' ≠ 0 ∧ t' > 0 ∧ (k = 0 ∨ t = 0 ∨ h ≠ h'))) ∧ (d2 = true ↔ (k' ≠ 0 ∧ (k = 0 ∨ t ≠ t')))) (fun s => [(0, .int .i64 i), (4, .pointer (some ⟨b1, 0, none⟩)), (5, .pointer (some ⟨b2, 0, none⟩)), (10, .pointer (some ⟨b4, 0, none⟩)), (14, .pointer (some ⟨s.2, 0, none⟩))]) (fun s => [blk s.2 175 s.1, blk b4 66 ((slotW i k' l' h' t').map b64), blk b3 66 ((slotW i k l h t).map b64), blk b2 65 ([.int .i64 k', .int .i64 l', .int .i64 h', .int .i64 t']), blk b1 65 ([.int .i64 k, .int .i64 l, .int .i64 h, .int .i64 t])]) ?_ ?_
  · skip
    refine At.region ?_
    refine At.val (Val.field 0 rfl fo_65_0 rfl) rfl rfl rfl ?_
    refine At.val (Val.load (i := 3) Tryd.isAgg3 rfl rfl rfl) rfl rfl rfl ?_
    refine At.val (Val.field 0 rfl fo_65_0 rfl) rfl rfl rfl ?_
    refine At.val (Val.load (i := 2) Tryd.isAgg3 rfl rfl rfl) rfl rfl rfl ?_
    refine At.val (Val.bin rfl rfl rfl) rfl rfl rfl ?_
    refine At.val (Val.move rfl) rfl rfl rfl ?_
    refine At.split (t := 47) rfl (fun h5 => ?_) (fun h5 => ?_)
    · skip
      try simp only [notT, notF, bneT, bneF, beqT, beqF, decT, decF] at h5
      refine At.no rfl rfl rfl rfl ?_
      refine At.no rfl rfl rfl rfl ?_
      refine At.no rfl rfl rfl rfl ?_
      refine At.no rfl rfl rfl rfl ?_
      refine At.no rfl rfl rfl rfl ?_
      refine At.val (Val.pickT rfl rfl) rfl rfl rfl ?_
      refine At.val (Val.move rfl) rfl rfl rfl ?_
      refine At.val (Val.move rfl) rfl rfl rfl ?_
      refine At.split (t := 55) rfl (fun h6 => ?_) (fun h6 => ?_)
      · skip
        try simp only [notT, notF, bneT, bneF, beqT, beqF, decT, decF] at h6
        refine At.yes rfl rfl ?_
        refine At.val (Val.field 3 rfl fo_65_3 rfl) rfl rfl rfl ?_
        refine At.yes rfl rfl ?_
        refine At.val (Val.load (i := 2) Tryd.isAgg3 rfl rfl rfl) rfl rfl rfl ?_
        refine At.yes rfl rfl ?_
        refine At.val (Val.bin rfl rfl rfl) rfl rfl rfl ?_
        refine At.val (Val.pickT rfl rfl) rfl rfl rfl ?_
        refine At.val (Val.move rfl) rfl rfl rfl ?_
        refine At.split (t := 60) rfl (fun h7 => ?_) (fun h7 => ?_)
        · skip
          try simp only [notT, notF, bneT, bneF, beqT, beqF, decT, decF] at h7
          refine At.yes rfl rfl ?_
          refine At.val (Val.move rfl) rfl rfl rfl ?_
          refine At.yes rfl rfl ?_
          refine At.val (Val.move rfl) rfl rfl rfl ?_
          refine At.split (t := 62) rfl (fun h8 => ?_) (fun h8 => ?_)
          · skip
            try simp only [notT, notF, bneT, bneF, beqT, beqF, decT, decF] at h8
            refine At.yes rfl rfl ?_
            refine At.val (Val.field 3 rfl fo_65_3 rfl) rfl rfl rfl ?_
            refine At.yes rfl rfl ?_
            refine At.val (Val.load (i := 3) Tryd.isAgg3 rfl rfl rfl) rfl rfl rfl ?_
            refine At.yes rfl rfl ?_
            refine At.val (Val.bin rfl rfl rfl) rfl rfl rfl ?_
            refine At.yes rfl rfl ?_
            refine At.val (Val.pickT rfl rfl) rfl rfl rfl ?_
            refine At.yes rfl rfl ?_
            refine At.val (Val.move rfl) rfl rfl rfl ?_
            refine At.split (t := 67) rfl (fun h9 => ?_) (fun h9 => ?_)
            · skip
              try simp only [notT, notF, bneT, bneF, beqT, beqF, decT, decF] at h9
              refine At.yes rfl rfl ?_
              refine At.val (Val.field 2 rfl fo_65_2 rfl) rfl rfl rfl ?_
              refine At.yes rfl rfl ?_
              refine At.val (Val.load (i := 3) Tryd.isAgg3 rfl rfl rfl) rfl rfl rfl ?_
              refine At.yes rfl rfl ?_
              refine At.val (Val.field 2 rfl fo_65_2 rfl) rfl rfl rfl ?_
              refine At.yes rfl rfl ?_
              refine At.val (Val.load (i := 2) Tryd.isAgg3 rfl rfl rfl) rfl rfl rfl ?_
              refine At.yes rfl rfl ?_
              refine At.val (Val.bin rfl rfl rfl) rfl rfl rfl ?_
              refine At.yes rfl rfl ?_
              refine At.val (Val.pickT rfl rfl) rfl rfl rfl ?_
              refine At.yes rfl rfl ?_
              refine At.val (Val.not rfl) rfl rfl rfl ?_
              refine At.val (Val.pickT rfl rfl) rfl rfl rfl ?_
              refine At.val (Val.move rfl) rfl rfl rfl ?_
              refine At.val (Val.move rfl) rfl rfl rfl ?_
              refine At.split (t := 77) rfl (fun h10 => ?_) (fun h10 => ?_)
              · skip
                try simp only [notT, notF, bneT, bneF, beqT, beqF, decT, decF] at h10
                refine At.yes rfl rfl ?_
                refine At.val (Val.move rfl) rfl rfl rfl ?_
                refine At.yes rfl rfl ?_
                refine At.val (Val.move rfl) rfl rfl rfl ?_
                refine At.split (t := 79) rfl (fun h11 => ?_) (fun h11 => ?_)
                · skip
                  try simp only [notT, notF, bneT, bneF, beqT, beqF, decT, decF] at h11
                  refine At.yes rfl rfl ?_
                  refine At.val (Val.field 3 rfl fo_65_3 rfl) rfl rfl rfl ?_
                  refine At.yes rfl rfl ?_
                  refine At.val (Val.load (i := 3) Tryd.isAgg3 rfl rfl rfl) rfl rfl rfl ?_
                  refine At.yes rfl rfl ?_
                  refine At.val (Val.field 3 rfl fo_65_3 rfl) rfl rfl rfl ?_
                  refine At.yes rfl rfl ?_
                  refine At.val (Val.load (i := 2) Tryd.isAgg3 rfl rfl rfl) rfl rfl rfl ?_
                  refine At.yes rfl rfl ?_
                  refine At.val (Val.bin rfl rfl rfl) rfl rfl rfl ?_
                  refine At.yes rfl rfl ?_
                  refine At.val (Val.pickT rfl rfl) rfl rfl rfl ?_
                  refine At.yes rfl rfl ?_
                  refine At.val (Val.not rfl) rfl rfl rfl ?_
                  refine At.val (Val.pickT rfl rfl) rfl rfl rfl ?_
                  refine At.val (Val.build (fun a ha => by simp only [List.map_toArray, List.map_cons, List.map_nil, ha.eval (x := (.tmp 53)) rfl, ha.eval (x := (.tmp 75)) rfl, ha.eval (x := (.tmp 87)) rfl] <;> rfl) (bld_175_0_1_2 _ _ _ )) rfl rfl rfl ?_
                  refine At.alloc zero_175 zc_175 rfl (fun b12 => ?_)
                  refine At.storeAll (i := 0) Tryd.sizeOf175 rfl rfl rfl (by simp [Value.oneCell']) rfl (by simp) ?_
                  simp only [List.set_cons_zero, List.set_cons_succ]
                  refine At.nil ?_
                  refine At.thenN ?_
                  refine At.meets ([.bool _, .bool _, .bool _], b12) ?_ (Sub.cons rfl (Sub.cons rfl (Sub.cons rfl (Sub.cons rfl (Sub.cons rfl Sub.nil))))) (List.Perm.refl _)
                  exact ⟨_, _, _, rfl, by first | omega | (simp only [decide_eq_true_eq, beq_iff_eq, bne_iff_ne, ne_eq, Bool.not_eq_true', decide_eq_false_iff_not, Bool.false_eq_true, false_iff, true_iff, beq_eq_false_iff_ne, Bool.not_true, Bool.not_false] at *; omega) | (simp at *; omega), by first | omega | (simp only [decide_eq_true_eq, beq_iff_eq, bne_iff_ne, ne_eq, Bool.not_eq_true', decide_eq_false_iff_not, Bool.false_eq_true, false_iff, true_iff, beq_eq_false_iff_ne, Bool.not_true, Bool.not_false] at *; omega) | (simp at *; omega), by first | omega | (simp only [decide_eq_true_eq, beq_iff_eq, bne_iff_ne, ne_eq, Bool.not_eq_true', decide_eq_false_iff_not, Bool.false_eq_true, false_iff, true_iff, beq_eq_false_iff_ne, Bool.not_true, Bool.not_false] at *; omega) | (simp at *; omega)⟩
                · skip
                  try simp only [notT, notF, bneT, bneF, beqT, beqF, decT, decF] at h11
                  refine At.no rfl rfl rfl rfl ?_
                  refine At.no rfl rfl rfl rfl ?_
                  refine At.no rfl rfl rfl rfl ?_
                  refine At.no rfl rfl rfl rfl ?_
                  refine At.no rfl rfl rfl rfl ?_
                  refine At.yes rfl rfl ?_
                  refine At.val (Val.pickF rfl rfl) rfl rfl rfl ?_
                  refine At.yes rfl rfl ?_
                  refine At.val (Val.not rfl) rfl rfl rfl ?_
                  refine At.val (Val.pickT rfl rfl) rfl rfl rfl ?_
                  refine At.val (Val.build (fun a ha => by simp only [List.map_toArray, List.map_cons, List.map_nil, ha.eval (x := (.tmp 53)) rfl, ha.eval (x := (.tmp 75)) rfl, ha.eval (x := (.tmp 87)) rfl] <;> rfl) (bld_175_0_1_2 _ _ _ )) rfl rfl rfl ?_
                  refine At.alloc zero_175 zc_175 rfl (fun b13 => ?_)
                  refine At.storeAll (i := 0) Tryd.sizeOf175 rfl rfl rfl (by simp [Value.oneCell']) rfl (by simp) ?_
                  simp only [List.set_cons_zero, List.set_cons_succ]
                  refine At.nil ?_
                  refine At.thenN ?_
                  refine At.meets ([.bool _, .bool _, .bool _], b13) ?_ (Sub.cons rfl (Sub.cons rfl (Sub.cons rfl (Sub.cons rfl (Sub.cons rfl Sub.nil))))) (List.Perm.refl _)
                  exact ⟨_, _, _, rfl, by first | omega | (simp only [decide_eq_true_eq, beq_iff_eq, bne_iff_ne, ne_eq, Bool.not_eq_true', decide_eq_false_iff_not, Bool.false_eq_true, false_iff, true_iff, beq_eq_false_iff_ne, Bool.not_true, Bool.not_false] at *; omega) | (simp at *; omega), by first | omega | (simp only [decide_eq_true_eq, beq_iff_eq, bne_iff_ne, ne_eq, Bool.not_eq_true', decide_eq_false_iff_not, Bool.false_eq_true, false_iff, true_iff, beq_eq_false_iff_ne, Bool.not_true, Bool.not_false] at *; omega) | (simp at *; omega), by first | omega | (simp only [decide_eq_true_eq, beq_iff_eq, bne_iff_ne, ne_eq, Bool.not_eq_true', decide_eq_false_iff_not, Bool.false_eq_true, false_iff, true_iff, beq_eq_false_iff_ne, Bool.not_true, Bool.not_false] at *; omega) | (simp at *; omega)⟩
              · skip
                try simp only [notT, notF, bneT, bneF, beqT, beqF, decT, decF] at h10
                refine At.no rfl rfl rfl rfl ?_
                refine At.no rfl rfl rfl rfl ?_
                refine At.noU rfl rfl rfl ?_
                refine At.noU rfl rfl rfl ?_
                refine At.noU rfl rfl rfl ?_
                refine At.noU rfl rfl rfl ?_
                refine At.noU rfl rfl rfl ?_
                refine At.no rfl rfl rfl rfl ?_
                refine At.no rfl rfl rfl rfl ?_
                refine At.val (Val.pickF rfl rfl) rfl rfl rfl ?_
                refine At.val (Val.build (fun a ha => by simp only [List.map_toArray, List.map_cons, List.map_nil, ha.eval (x := (.tmp 53)) rfl, ha.eval (x := (.tmp 75)) rfl, ha.eval (x := (.tmp 87)) rfl] <;> rfl) (bld_175_0_1_2 _ _ _ )) rfl rfl rfl ?_
                refine At.alloc zero_175 zc_175 rfl (fun b14 => ?_)
                refine At.storeAll (i := 0) Tryd.sizeOf175 rfl rfl rfl (by simp [Value.oneCell']) rfl (by simp) ?_
                simp only [List.set_cons_zero, List.set_cons_succ]
                refine At.nil ?_
                refine At.thenN ?_
                refine At.meets ([.bool _, .bool _, .bool _], b14) ?_ (Sub.cons rfl (Sub.cons rfl (Sub.cons rfl (Sub.cons rfl (Sub.cons rfl Sub.nil))))) (List.Perm.refl _)
                exact ⟨_, _, _, rfl, by first | omega | (simp only [decide_eq_true_eq, beq_iff_eq, bne_iff_ne, ne_eq, Bool.not_eq_true', decide_eq_false_iff_not, Bool.false_eq_true, false_iff, true_iff, beq_eq_false_iff_ne, Bool.not_true, Bool.not_false] at *; omega) | (simp at *; omega), by first | omega | (simp only [decide_eq_true_eq, beq_iff_eq, bne_iff_ne, ne_eq, Bool.not_eq_true', decide_eq_false_iff_not, Bool.false_eq_true, false_iff, true_iff, beq_eq_false_iff_ne, Bool.not_true, Bool.not_false] at *; omega) | (simp at *; omega), by first | omega | (simp only [decide_eq_true_eq, beq_iff_eq, bne_iff_ne, ne_eq, Bool.not_eq_true', decide_eq_false_iff_not, Bool.false_eq_true, false_iff, true_iff, beq_eq_false_iff_ne, Bool.not_true, Bool.not_false] at *; omega) | (simp at *; omega)⟩
            · skip
              try simp only [notT, notF, bneT, bneF, beqT, beqF, decT, decF] at h9
              refine At.no rfl rfl rfl rfl ?_
              refine At.no rfl rfl rfl rfl ?_
              refine At.no rfl rfl rfl rfl ?_
              refine At.no rfl rfl rfl rfl ?_
              refine At.no rfl rfl rfl rfl ?_
              refine At.yes rfl rfl ?_
              refine At.val (Val.pickF rfl rfl) rfl rfl rfl ?_
              refine At.yes rfl rfl ?_
              refine At.val (Val.not rfl) rfl rfl rfl ?_
              refine At.val (Val.pickT rfl rfl) rfl rfl rfl ?_
              refine At.val (Val.move rfl) rfl rfl rfl ?_
              refine At.val (Val.move rfl) rfl rfl rfl ?_
              refine At.split (t := 77) rfl (fun h15 => ?_) (fun h15 => ?_)
              · skip
                try simp only [notT, notF, bneT, bneF, beqT, beqF, decT, decF] at h15
                refine At.yes rfl rfl ?_
                refine At.val (Val.move rfl) rfl rfl rfl ?_
                refine At.yes rfl rfl ?_
                refine At.val (Val.move rfl) rfl rfl rfl ?_
                refine At.split (t := 79) rfl (fun h16 => ?_) (fun h16 => ?_)
                · skip
                  try simp only [notT, notF, bneT, bneF, beqT, beqF, decT, decF] at h16
                  refine At.yes rfl rfl ?_
                  refine At.val (Val.field 3 rfl fo_65_3 rfl) rfl rfl rfl ?_
                  refine At.yes rfl rfl ?_
                  refine At.val (Val.load (i := 3) Tryd.isAgg3 rfl rfl rfl) rfl rfl rfl ?_
                  refine At.yes rfl rfl ?_
                  refine At.val (Val.field 3 rfl fo_65_3 rfl) rfl rfl rfl ?_
                  refine At.yes rfl rfl ?_
                  refine At.val (Val.load (i := 2) Tryd.isAgg3 rfl rfl rfl) rfl rfl rfl ?_
                  refine At.yes rfl rfl ?_
                  refine At.val (Val.bin rfl rfl rfl) rfl rfl rfl ?_
                  refine At.yes rfl rfl ?_
                  refine At.val (Val.pickT rfl rfl) rfl rfl rfl ?_
                  refine At.yes rfl rfl ?_
                  refine At.val (Val.not rfl) rfl rfl rfl ?_
                  refine At.val (Val.pickT rfl rfl) rfl rfl rfl ?_
                  refine At.val (Val.build (fun a ha => by simp only [List.map_toArray, List.map_cons, List.map_nil, ha.eval (x := (.tmp 53)) rfl, ha.eval (x := (.tmp 75)) rfl, ha.eval (x := (.tmp 87)) rfl] <;> rfl) (bld_175_0_1_2 _ _ _ )) rfl rfl rfl ?_
                  refine At.alloc zero_175 zc_175 rfl (fun b17 => ?_)
                  refine At.storeAll (i := 0) Tryd.sizeOf175 rfl rfl rfl (by simp [Value.oneCell']) rfl (by simp) ?_
                  simp only [List.set_cons_zero, List.set_cons_succ]
                  refine At.nil ?_
                  refine At.thenN ?_
                  refine At.meets ([.bool _, .bool _, .bool _], b17) ?_ (Sub.cons rfl (Sub.cons rfl (Sub.cons rfl (Sub.cons rfl (Sub.cons rfl Sub.nil))))) (List.Perm.refl _)
                  exact ⟨_, _, _, rfl, by first | omega | (simp only [decide_eq_true_eq, beq_iff_eq, bne_iff_ne, ne_eq, Bool.not_eq_true', decide_eq_false_iff_not, Bool.false_eq_true, false_iff, true_iff, beq_eq_false_iff_ne, Bool.not_true, Bool.not_false] at *; omega) | (simp at *; omega), by first | omega | (simp only [decide_eq_true_eq, beq_iff_eq, bne_iff_ne, ne_eq, Bool.not_eq_true', decide_eq_false_iff_not, Bool.false_eq_true, false_iff, true_iff, beq_eq_false_iff_ne, Bool.not_true, Bool.not_false] at *; omega) | (simp at *; omega), by first | omega | (simp only [decide_eq_true_eq, beq_iff_eq, bne_iff_ne, ne_eq, Bool.not_eq_true', decide_eq_false_iff_not, Bool.false_eq_true, false_iff, true_iff, beq_eq_false_iff_ne, Bool.not_true, Bool.not_false] at *; omega) | (simp at *; omega)⟩
                · skip
                  try simp only [notT, notF, bneT, bneF, beqT, beqF, decT, decF] at h16
                  refine At.no rfl rfl rfl rfl ?_
                  refine At.no rfl rfl rfl rfl ?_
                  refine At.no rfl rfl rfl rfl ?_
                  refine At.no rfl rfl rfl rfl ?_
                  refine At.no rfl rfl rfl rfl ?_
                  refine At.yes rfl rfl ?_
                  refine At.val (Val.pickF rfl rfl) rfl rfl rfl ?_
                  refine At.yes rfl rfl ?_
                  refine At.val (Val.not rfl) rfl rfl rfl ?_
                  refine At.val (Val.pickT rfl rfl) rfl rfl rfl ?_
                  refine At.val (Val.build (fun a ha => by simp only [List.map_toArray, List.map_cons, List.map_nil, ha.eval (x := (.tmp 53)) rfl, ha.eval (x := (.tmp 75)) rfl, ha.eval (x := (.tmp 87)) rfl] <;> rfl) (bld_175_0_1_2 _ _ _ )) rfl rfl rfl ?_
                  refine At.alloc zero_175 zc_175 rfl (fun b18 => ?_)
                  refine At.storeAll (i := 0) Tryd.sizeOf175 rfl rfl rfl (by simp [Value.oneCell']) rfl (by simp) ?_
                  simp only [List.set_cons_zero, List.set_cons_succ]
                  refine At.nil ?_
                  refine At.thenN ?_
                  refine At.meets ([.bool _, .bool _, .bool _], b18) ?_ (Sub.cons rfl (Sub.cons rfl (Sub.cons rfl (Sub.cons rfl (Sub.cons rfl Sub.nil))))) (List.Perm.refl _)
                  exact ⟨_, _, _, rfl, by first | omega | (simp only [decide_eq_true_eq, beq_iff_eq, bne_iff_ne, ne_eq, Bool.not_eq_true', decide_eq_false_iff_not, Bool.false_eq_true, false_iff, true_iff, beq_eq_false_iff_ne, Bool.not_true, Bool.not_false] at *; omega) | (simp at *; omega), by first | omega | (simp only [decide_eq_true_eq, beq_iff_eq, bne_iff_ne, ne_eq, Bool.not_eq_true', decide_eq_false_iff_not, Bool.false_eq_true, false_iff, true_iff, beq_eq_false_iff_ne, Bool.not_true, Bool.not_false] at *; omega) | (simp at *; omega), by first | omega | (simp only [decide_eq_true_eq, beq_iff_eq, bne_iff_ne, ne_eq, Bool.not_eq_true', decide_eq_false_iff_not, Bool.false_eq_true, false_iff, true_iff, beq_eq_false_iff_ne, Bool.not_true, Bool.not_false] at *; omega) | (simp at *; omega)⟩
              · skip
                try simp only [notT, notF, bneT, bneF, beqT, beqF, decT, decF] at h15
                refine At.no rfl rfl rfl rfl ?_
                refine At.no rfl rfl rfl rfl ?_
                refine At.noU rfl rfl rfl ?_
                refine At.noU rfl rfl rfl ?_
                refine At.noU rfl rfl rfl ?_
                refine At.noU rfl rfl rfl ?_
                refine At.noU rfl rfl rfl ?_
                refine At.no rfl rfl rfl rfl ?_
                refine At.no rfl rfl rfl rfl ?_
                refine At.val (Val.pickF rfl rfl) rfl rfl rfl ?_
                refine At.val (Val.build (fun a ha => by simp only [List.map_toArray, List.map_cons, List.map_nil, ha.eval (x := (.tmp 53)) rfl, ha.eval (x := (.tmp 75)) rfl, ha.eval (x := (.tmp 87)) rfl] <;> rfl) (bld_175_0_1_2 _ _ _ )) rfl rfl rfl ?_
                refine At.alloc zero_175 zc_175 rfl (fun b19 => ?_)
                refine At.storeAll (i := 0) Tryd.sizeOf175 rfl rfl rfl (by simp [Value.oneCell']) rfl (by simp) ?_
                simp only [List.set_cons_zero, List.set_cons_succ]
                refine At.nil ?_
                refine At.thenN ?_
                refine At.meets ([.bool _, .bool _, .bool _], b19) ?_ (Sub.cons rfl (Sub.cons rfl (Sub.cons rfl (Sub.cons rfl (Sub.cons rfl Sub.nil))))) (List.Perm.refl _)
                exact ⟨_, _, _, rfl, by first | omega | (simp only [decide_eq_true_eq, beq_iff_eq, bne_iff_ne, ne_eq, Bool.not_eq_true', decide_eq_false_iff_not, Bool.false_eq_true, false_iff, true_iff, beq_eq_false_iff_ne, Bool.not_true, Bool.not_false] at *; omega) | (simp at *; omega), by first | omega | (simp only [decide_eq_true_eq, beq_iff_eq, bne_iff_ne, ne_eq, Bool.not_eq_true', decide_eq_false_iff_not, Bool.false_eq_true, false_iff, true_iff, beq_eq_false_iff_ne, Bool.not_true, Bool.not_false] at *; omega) | (simp at *; omega), by first | omega | (simp only [decide_eq_true_eq, beq_iff_eq, bne_iff_ne, ne_eq, Bool.not_eq_true', decide_eq_false_iff_not, Bool.false_eq_true, false_iff, true_iff, beq_eq_false_iff_ne, Bool.not_true, Bool.not_false] at *; omega) | (simp at *; omega)⟩
          · skip
            try simp only [notT, notF, bneT, bneF, beqT, beqF, decT, decF] at h8
            refine At.no rfl rfl rfl rfl ?_
            refine At.no rfl rfl rfl rfl ?_
            refine At.no rfl rfl rfl rfl ?_
            refine At.yes rfl rfl ?_
            refine At.val (Val.pickF rfl rfl) rfl rfl rfl ?_
            refine At.yes rfl rfl ?_
            refine At.val (Val.move rfl) rfl rfl rfl ?_
            refine At.no rfl rfl rfl rfl ?_
            refine At.no rfl rfl rfl rfl ?_
            refine At.no rfl rfl rfl rfl ?_
            refine At.no rfl rfl rfl rfl ?_
            refine At.no rfl rfl rfl rfl ?_
            refine At.yes rfl rfl ?_
            refine At.val (Val.pickF rfl rfl) rfl rfl rfl ?_
            refine At.yes rfl rfl ?_
            refine At.val (Val.not rfl) rfl rfl rfl ?_
            refine At.val (Val.pickT rfl rfl) rfl rfl rfl ?_
            refine At.val (Val.move rfl) rfl rfl rfl ?_
            refine At.val (Val.move rfl) rfl rfl rfl ?_
            refine At.split (t := 77) rfl (fun h20 => ?_) (fun h20 => ?_)
            · skip
              try simp only [notT, notF, bneT, bneF, beqT, beqF, decT, decF] at h20
              refine At.yes rfl rfl ?_
              refine At.val (Val.move rfl) rfl rfl rfl ?_
              refine At.yes rfl rfl ?_
              refine At.val (Val.move rfl) rfl rfl rfl ?_
              refine At.split (t := 79) rfl (fun h21 => ?_) (fun h21 => ?_)
              · skip
                try simp only [notT, notF, bneT, bneF, beqT, beqF, decT, decF] at h21
                refine At.yes rfl rfl ?_
                refine At.val (Val.field 3 rfl fo_65_3 rfl) rfl rfl rfl ?_
                refine At.yes rfl rfl ?_
                refine At.val (Val.load (i := 3) Tryd.isAgg3 rfl rfl rfl) rfl rfl rfl ?_
                refine At.yes rfl rfl ?_
                refine At.val (Val.field 3 rfl fo_65_3 rfl) rfl rfl rfl ?_
                refine At.yes rfl rfl ?_
                refine At.val (Val.load (i := 2) Tryd.isAgg3 rfl rfl rfl) rfl rfl rfl ?_
                refine At.yes rfl rfl ?_
                refine At.val (Val.bin rfl rfl rfl) rfl rfl rfl ?_
                refine At.yes rfl rfl ?_
                refine At.val (Val.pickT rfl rfl) rfl rfl rfl ?_
                refine At.yes rfl rfl ?_
                refine At.val (Val.not rfl) rfl rfl rfl ?_
                refine At.val (Val.pickT rfl rfl) rfl rfl rfl ?_
                refine At.val (Val.build (fun a ha => by simp only [List.map_toArray, List.map_cons, List.map_nil, ha.eval (x := (.tmp 53)) rfl, ha.eval (x := (.tmp 75)) rfl, ha.eval (x := (.tmp 87)) rfl] <;> rfl) (bld_175_0_1_2 _ _ _ )) rfl rfl rfl ?_
                refine At.alloc zero_175 zc_175 rfl (fun b22 => ?_)
                refine At.storeAll (i := 0) Tryd.sizeOf175 rfl rfl rfl (by simp [Value.oneCell']) rfl (by simp) ?_
                simp only [List.set_cons_zero, List.set_cons_succ]
                refine At.nil ?_
                refine At.thenN ?_
                refine At.meets ([.bool _, .bool _, .bool _], b22) ?_ (Sub.cons rfl (Sub.cons rfl (Sub.cons rfl (Sub.cons rfl (Sub.cons rfl Sub.nil))))) (List.Perm.refl _)
                exact ⟨_, _, _, rfl, by first | omega | (simp only [decide_eq_true_eq, beq_iff_eq, bne_iff_ne, ne_eq, Bool.not_eq_true', decide_eq_false_iff_not, Bool.false_eq_true, false_iff, true_iff, beq_eq_false_iff_ne, Bool.not_true, Bool.not_false] at *; omega) | (simp at *; omega), by first | omega | (simp only [decide_eq_true_eq, beq_iff_eq, bne_iff_ne, ne_eq, Bool.not_eq_true', decide_eq_false_iff_not, Bool.false_eq_true, false_iff, true_iff, beq_eq_false_iff_ne, Bool.not_true, Bool.not_false] at *; omega) | (simp at *; omega), by first | omega | (simp only [decide_eq_true_eq, beq_iff_eq, bne_iff_ne, ne_eq, Bool.not_eq_true', decide_eq_false_iff_not, Bool.false_eq_true, false_iff, true_iff, beq_eq_false_iff_ne, Bool.not_true, Bool.not_false] at *; omega) | (simp at *; omega)⟩
              · skip
                try simp only [notT, notF, bneT, bneF, beqT, beqF, decT, decF] at h21
                refine At.no rfl rfl rfl rfl ?_
                refine At.no rfl rfl rfl rfl ?_
                refine At.no rfl rfl rfl rfl ?_
                refine At.no rfl rfl rfl rfl ?_
                refine At.no rfl rfl rfl rfl ?_
                refine At.yes rfl rfl ?_
                refine At.val (Val.pickF rfl rfl) rfl rfl rfl ?_
                refine At.yes rfl rfl ?_
                refine At.val (Val.not rfl) rfl rfl rfl ?_
                refine At.val (Val.pickT rfl rfl) rfl rfl rfl ?_
                refine At.val (Val.build (fun a ha => by simp only [List.map_toArray, List.map_cons, List.map_nil, ha.eval (x := (.tmp 53)) rfl, ha.eval (x := (.tmp 75)) rfl, ha.eval (x := (.tmp 87)) rfl] <;> rfl) (bld_175_0_1_2 _ _ _ )) rfl rfl rfl ?_
                refine At.alloc zero_175 zc_175 rfl (fun b23 => ?_)
                refine At.storeAll (i := 0) Tryd.sizeOf175 rfl rfl rfl (by simp [Value.oneCell']) rfl (by simp) ?_
                simp only [List.set_cons_zero, List.set_cons_succ]
                refine At.nil ?_
                refine At.thenN ?_
                refine At.meets ([.bool _, .bool _, .bool _], b23) ?_ (Sub.cons rfl (Sub.cons rfl (Sub.cons rfl (Sub.cons rfl (Sub.cons rfl Sub.nil))))) (List.Perm.refl _)
                exact ⟨_, _, _, rfl, by first | omega | (simp only [decide_eq_true_eq, beq_iff_eq, bne_iff_ne, ne_eq, Bool.not_eq_true', decide_eq_false_iff_not, Bool.false_eq_true, false_iff, true_iff, beq_eq_false_iff_ne, Bool.not_true, Bool.not_false] at *; omega) | (simp at *; omega), by first | omega | (simp only [decide_eq_true_eq, beq_iff_eq, bne_iff_ne, ne_eq, Bool.not_eq_true', decide_eq_false_iff_not, Bool.false_eq_true, false_iff, true_iff, beq_eq_false_iff_ne, Bool.not_true, Bool.not_false] at *; omega) | (simp at *; omega), by first | omega | (simp only [decide_eq_true_eq, beq_iff_eq, bne_iff_ne, ne_eq, Bool.not_eq_true', decide_eq_false_iff_not, Bool.false_eq_true, false_iff, true_iff, beq_eq_false_iff_ne, Bool.not_true, Bool.not_false] at *; omega) | (simp at *; omega)⟩
            · skip
              try simp only [notT, notF, bneT, bneF, beqT, beqF, decT, decF] at h20
              refine At.no rfl rfl rfl rfl ?_
              refine At.no rfl rfl rfl rfl ?_
              refine At.noU rfl rfl rfl ?_
              refine At.noU rfl rfl rfl ?_
              refine At.noU rfl rfl rfl ?_
              refine At.noU rfl rfl rfl ?_
              refine At.noU rfl rfl rfl ?_
              refine At.no rfl rfl rfl rfl ?_
              refine At.no rfl rfl rfl rfl ?_
              refine At.val (Val.pickF rfl rfl) rfl rfl rfl ?_
              refine At.val (Val.build (fun a ha => by simp only [List.map_toArray, List.map_cons, List.map_nil, ha.eval (x := (.tmp 53)) rfl, ha.eval (x := (.tmp 75)) rfl, ha.eval (x := (.tmp 87)) rfl] <;> rfl) (bld_175_0_1_2 _ _ _ )) rfl rfl rfl ?_
              refine At.alloc zero_175 zc_175 rfl (fun b24 => ?_)
              refine At.storeAll (i := 0) Tryd.sizeOf175 rfl rfl rfl (by simp [Value.oneCell']) rfl (by simp) ?_
              simp only [List.set_cons_zero, List.set_cons_succ]
              refine At.nil ?_
              refine At.thenN ?_
              refine At.meets ([.bool _, .bool _, .bool _], b24) ?_ (Sub.cons rfl (Sub.cons rfl (Sub.cons rfl (Sub.cons rfl (Sub.cons rfl Sub.nil))))) (List.Perm.refl _)
              exact ⟨_, _, _, rfl, by first | omega | (simp only [decide_eq_true_eq, beq_iff_eq, bne_iff_ne, ne_eq, Bool.not_eq_true', decide_eq_false_iff_not, Bool.false_eq_true, false_iff, true_iff, beq_eq_false_iff_ne, Bool.not_true, Bool.not_false] at *; omega) | (simp at *; omega), by first | omega | (simp only [decide_eq_true_eq, beq_iff_eq, bne_iff_ne, ne_eq, Bool.not_eq_true', decide_eq_false_iff_not, Bool.false_eq_true, false_iff, true_iff, beq_eq_false_iff_ne, Bool.not_true, Bool.not_false] at *; omega) | (simp at *; omega), by first | omega | (simp only [decide_eq_true_eq, beq_iff_eq, bne_iff_ne, ne_eq, Bool.not_eq_true', decide_eq_false_iff_not, Bool.false_eq_true, false_iff, true_iff, beq_eq_false_iff_ne, Bool.not_true, Bool.not_false] at *; omega) | (simp at *; omega)⟩
        · skip
          try simp only [notT, notF, bneT, bneF, beqT, beqF, decT, decF] at h7
          refine At.no rfl rfl rfl rfl ?_
          refine At.no rfl rfl rfl rfl ?_
          refine At.noU rfl rfl rfl ?_
          refine At.noU rfl rfl rfl ?_
          refine At.noU rfl rfl rfl ?_
          refine At.no rfl rfl rfl rfl ?_
          refine At.no rfl rfl rfl rfl ?_
          refine At.noU rfl rfl rfl ?_
          refine At.noU rfl rfl rfl ?_
          refine At.noU rfl rfl rfl ?_
          refine At.noU rfl rfl rfl ?_
          refine At.noU rfl rfl rfl ?_
          refine At.no rfl rfl rfl rfl ?_
          refine At.no rfl rfl rfl rfl ?_
          refine At.val (Val.pickF rfl rfl) rfl rfl rfl ?_
          refine At.val (Val.move rfl) rfl rfl rfl ?_
          refine At.val (Val.move rfl) rfl rfl rfl ?_
          refine At.split (t := 77) rfl (fun h25 => ?_) (fun h25 => ?_)
          · skip
            try simp only [notT, notF, bneT, bneF, beqT, beqF, decT, decF] at h25
            refine At.yes rfl rfl ?_
            refine At.val (Val.move rfl) rfl rfl rfl ?_
            refine At.yes rfl rfl ?_
            refine At.val (Val.move rfl) rfl rfl rfl ?_
            refine At.split (t := 79) rfl (fun h26 => ?_) (fun h26 => ?_)
            · skip
              try simp only [notT, notF, bneT, bneF, beqT, beqF, decT, decF] at h26
              refine At.yes rfl rfl ?_
              refine At.val (Val.field 3 rfl fo_65_3 rfl) rfl rfl rfl ?_
              refine At.yes rfl rfl ?_
              refine At.val (Val.load (i := 3) Tryd.isAgg3 rfl rfl rfl) rfl rfl rfl ?_
              refine At.yes rfl rfl ?_
              refine At.val (Val.field 3 rfl fo_65_3 rfl) rfl rfl rfl ?_
              refine At.yes rfl rfl ?_
              refine At.val (Val.load (i := 2) Tryd.isAgg3 rfl rfl rfl) rfl rfl rfl ?_
              refine At.yes rfl rfl ?_
              refine At.val (Val.bin rfl rfl rfl) rfl rfl rfl ?_
              refine At.yes rfl rfl ?_
              refine At.val (Val.pickT rfl rfl) rfl rfl rfl ?_
              refine At.yes rfl rfl ?_
              refine At.val (Val.not rfl) rfl rfl rfl ?_
              refine At.val (Val.pickT rfl rfl) rfl rfl rfl ?_
              refine At.val (Val.build (fun a ha => by simp only [List.map_toArray, List.map_cons, List.map_nil, ha.eval (x := (.tmp 53)) rfl, ha.eval (x := (.tmp 75)) rfl, ha.eval (x := (.tmp 87)) rfl] <;> rfl) (bld_175_0_1_2 _ _ _ )) rfl rfl rfl ?_
              refine At.alloc zero_175 zc_175 rfl (fun b27 => ?_)
              refine At.storeAll (i := 0) Tryd.sizeOf175 rfl rfl rfl (by simp [Value.oneCell']) rfl (by simp) ?_
              simp only [List.set_cons_zero, List.set_cons_succ]
              refine At.nil ?_
              refine At.thenN ?_
              refine At.meets ([.bool _, .bool _, .bool _], b27) ?_ (Sub.cons rfl (Sub.cons rfl (Sub.cons rfl (Sub.cons rfl (Sub.cons rfl Sub.nil))))) (List.Perm.refl _)
              exact ⟨_, _, _, rfl, by first | omega | (simp only [decide_eq_true_eq, beq_iff_eq, bne_iff_ne, ne_eq, Bool.not_eq_true', decide_eq_false_iff_not, Bool.false_eq_true, false_iff, true_iff, beq_eq_false_iff_ne, Bool.not_true, Bool.not_false] at *; omega) | (simp at *; omega), by first | omega | (simp only [decide_eq_true_eq, beq_iff_eq, bne_iff_ne, ne_eq, Bool.not_eq_true', decide_eq_false_iff_not, Bool.false_eq_true, false_iff, true_iff, beq_eq_false_iff_ne, Bool.not_true, Bool.not_false] at *; omega) | (simp at *; omega), by first | omega | (simp only [decide_eq_true_eq, beq_iff_eq, bne_iff_ne, ne_eq, Bool.not_eq_true', decide_eq_false_iff_not, Bool.false_eq_true, false_iff, true_iff, beq_eq_false_iff_ne, Bool.not_true, Bool.not_false] at *; omega) | (simp at *; omega)⟩
            · skip
              try simp only [notT, notF, bneT, bneF, beqT, beqF, decT, decF] at h26
              refine At.no rfl rfl rfl rfl ?_
              refine At.no rfl rfl rfl rfl ?_
              refine At.no rfl rfl rfl rfl ?_
              refine At.no rfl rfl rfl rfl ?_
              refine At.no rfl rfl rfl rfl ?_
              refine At.yes rfl rfl ?_
              refine At.val (Val.pickF rfl rfl) rfl rfl rfl ?_
              refine At.yes rfl rfl ?_
              refine At.val (Val.not rfl) rfl rfl rfl ?_
              refine At.val (Val.pickT rfl rfl) rfl rfl rfl ?_
              refine At.val (Val.build (fun a ha => by simp only [List.map_toArray, List.map_cons, List.map_nil, ha.eval (x := (.tmp 53)) rfl, ha.eval (x := (.tmp 75)) rfl, ha.eval (x := (.tmp 87)) rfl] <;> rfl) (bld_175_0_1_2 _ _ _ )) rfl rfl rfl ?_
              refine At.alloc zero_175 zc_175 rfl (fun b28 => ?_)
              refine At.storeAll (i := 0) Tryd.sizeOf175 rfl rfl rfl (by simp [Value.oneCell']) rfl (by simp) ?_
              simp only [List.set_cons_zero, List.set_cons_succ]
              refine At.nil ?_
              refine At.thenN ?_
              refine At.meets ([.bool _, .bool _, .bool _], b28) ?_ (Sub.cons rfl (Sub.cons rfl (Sub.cons rfl (Sub.cons rfl (Sub.cons rfl Sub.nil))))) (List.Perm.refl _)
              exact ⟨_, _, _, rfl, by first | omega | (simp only [decide_eq_true_eq, beq_iff_eq, bne_iff_ne, ne_eq, Bool.not_eq_true', decide_eq_false_iff_not, Bool.false_eq_true, false_iff, true_iff, beq_eq_false_iff_ne, Bool.not_true, Bool.not_false] at *; omega) | (simp at *; omega), by first | omega | (simp only [decide_eq_true_eq, beq_iff_eq, bne_iff_ne, ne_eq, Bool.not_eq_true', decide_eq_false_iff_not, Bool.false_eq_true, false_iff, true_iff, beq_eq_false_iff_ne, Bool.not_true, Bool.not_false] at *; omega) | (simp at *; omega), by first | omega | (simp only [decide_eq_true_eq, beq_iff_eq, bne_iff_ne, ne_eq, Bool.not_eq_true', decide_eq_false_iff_not, Bool.false_eq_true, false_iff, true_iff, beq_eq_false_iff_ne, Bool.not_true, Bool.not_false] at *; omega) | (simp at *; omega)⟩
          · skip
            try simp only [notT, notF, bneT, bneF, beqT, beqF, decT, decF] at h25
            refine At.no rfl rfl rfl rfl ?_
            refine At.no rfl rfl rfl rfl ?_
            refine At.noU rfl rfl rfl ?_
            refine At.noU rfl rfl rfl ?_
            refine At.noU rfl rfl rfl ?_
            refine At.noU rfl rfl rfl ?_
            refine At.noU rfl rfl rfl ?_
            refine At.no rfl rfl rfl rfl ?_
            refine At.no rfl rfl rfl rfl ?_
            refine At.val (Val.pickF rfl rfl) rfl rfl rfl ?_
            refine At.val (Val.build (fun a ha => by simp only [List.map_toArray, List.map_cons, List.map_nil, ha.eval (x := (.tmp 53)) rfl, ha.eval (x := (.tmp 75)) rfl, ha.eval (x := (.tmp 87)) rfl] <;> rfl) (bld_175_0_1_2 _ _ _ )) rfl rfl rfl ?_
            refine At.alloc zero_175 zc_175 rfl (fun b29 => ?_)
            refine At.storeAll (i := 0) Tryd.sizeOf175 rfl rfl rfl (by simp [Value.oneCell']) rfl (by simp) ?_
            simp only [List.set_cons_zero, List.set_cons_succ]
            refine At.nil ?_
            refine At.thenN ?_
            refine At.meets ([.bool _, .bool _, .bool _], b29) ?_ (Sub.cons rfl (Sub.cons rfl (Sub.cons rfl (Sub.cons rfl (Sub.cons rfl Sub.nil))))) (List.Perm.refl _)
            exact ⟨_, _, _, rfl, by first | omega | (simp only [decide_eq_true_eq, beq_iff_eq, bne_iff_ne, ne_eq, Bool.not_eq_true', decide_eq_false_iff_not, Bool.false_eq_true, false_iff, true_iff, beq_eq_false_iff_ne, Bool.not_true, Bool.not_false] at *; omega) | (simp at *; omega), by first | omega | (simp only [decide_eq_true_eq, beq_iff_eq, bne_iff_ne, ne_eq, Bool.not_eq_true', decide_eq_false_iff_not, Bool.false_eq_true, false_iff, true_iff, beq_eq_false_iff_ne, Bool.not_true, Bool.not_false] at *; omega) | (simp at *; omega), by first | omega | (simp only [decide_eq_true_eq, beq_iff_eq, bne_iff_ne, ne_eq, Bool.not_eq_true', decide_eq_false_iff_not, Bool.false_eq_true, false_iff, true_iff, beq_eq_false_iff_ne, Bool.not_true, Bool.not_false] at *; omega) | (simp at *; omega)⟩
      · skip
        try simp only [notT, notF, bneT, bneF, beqT, beqF, decT, decF] at h6
        refine At.no rfl rfl rfl rfl ?_
        refine At.no rfl rfl rfl rfl ?_
        refine At.no rfl rfl rfl rfl ?_
        refine At.val (Val.pickF rfl rfl) rfl rfl rfl ?_
        refine At.val (Val.move rfl) rfl rfl rfl ?_
        refine At.no rfl rfl rfl rfl ?_
        refine At.no rfl rfl rfl rfl ?_
        refine At.noU rfl rfl rfl ?_
        refine At.noU rfl rfl rfl ?_
        refine At.noU rfl rfl rfl ?_
        refine At.no rfl rfl rfl rfl ?_
        refine At.no rfl rfl rfl rfl ?_
        refine At.noU rfl rfl rfl ?_
        refine At.noU rfl rfl rfl ?_
        refine At.noU rfl rfl rfl ?_
        refine At.noU rfl rfl rfl ?_
        refine At.noU rfl rfl rfl ?_
        refine At.no rfl rfl rfl rfl ?_
        refine At.no rfl rfl rfl rfl ?_
        refine At.val (Val.pickF rfl rfl) rfl rfl rfl ?_
        refine At.val (Val.move rfl) rfl rfl rfl ?_
        refine At.val (Val.move rfl) rfl rfl rfl ?_
        refine At.split (t := 77) rfl (fun h30 => ?_) (fun h30 => ?_)
        · skip
          try simp only [notT, notF, bneT, bneF, beqT, beqF, decT, decF] at h30
          refine At.yes rfl rfl ?_
          refine At.val (Val.move rfl) rfl rfl rfl ?_
          refine At.yes rfl rfl ?_
          refine At.val (Val.move rfl) rfl rfl rfl ?_
          refine At.split (t := 79) rfl (fun h31 => ?_) (fun h31 => ?_)
          · skip
            try simp only [notT, notF, bneT, bneF, beqT, beqF, decT, decF] at h31
            refine At.yes rfl rfl ?_
            refine At.val (Val.field 3 rfl fo_65_3 rfl) rfl rfl rfl ?_
            refine At.yes rfl rfl ?_
            refine At.val (Val.load (i := 3) Tryd.isAgg3 rfl rfl rfl) rfl rfl rfl ?_
            refine At.yes rfl rfl ?_
            refine At.val (Val.field 3 rfl fo_65_3 rfl) rfl rfl rfl ?_
            refine At.yes rfl rfl ?_
            refine At.val (Val.load (i := 2) Tryd.isAgg3 rfl rfl rfl) rfl rfl rfl ?_
            refine At.yes rfl rfl ?_
            refine At.val (Val.bin rfl rfl rfl) rfl rfl rfl ?_
            refine At.yes rfl rfl ?_
            refine At.val (Val.pickT rfl rfl) rfl rfl rfl ?_
            refine At.yes rfl rfl ?_
            refine At.val (Val.not rfl) rfl rfl rfl ?_
            refine At.val (Val.pickT rfl rfl) rfl rfl rfl ?_
            refine At.val (Val.build (fun a ha => by simp only [List.map_toArray, List.map_cons, List.map_nil, ha.eval (x := (.tmp 53)) rfl, ha.eval (x := (.tmp 75)) rfl, ha.eval (x := (.tmp 87)) rfl] <;> rfl) (bld_175_0_1_2 _ _ _ )) rfl rfl rfl ?_
            refine At.alloc zero_175 zc_175 rfl (fun b32 => ?_)
            refine At.storeAll (i := 0) Tryd.sizeOf175 rfl rfl rfl (by simp [Value.oneCell']) rfl (by simp) ?_
            simp only [List.set_cons_zero, List.set_cons_succ]
            refine At.nil ?_
            refine At.thenN ?_
            refine At.meets ([.bool _, .bool _, .bool _], b32) ?_ (Sub.cons rfl (Sub.cons rfl (Sub.cons rfl (Sub.cons rfl (Sub.cons rfl Sub.nil))))) (List.Perm.refl _)
            exact ⟨_, _, _, rfl, by first | omega | (simp only [decide_eq_true_eq, beq_iff_eq, bne_iff_ne, ne_eq, Bool.not_eq_true', decide_eq_false_iff_not, Bool.false_eq_true, false_iff, true_iff, beq_eq_false_iff_ne, Bool.not_true, Bool.not_false] at *; omega) | (simp at *; omega), by first | omega | (simp only [decide_eq_true_eq, beq_iff_eq, bne_iff_ne, ne_eq, Bool.not_eq_true', decide_eq_false_iff_not, Bool.false_eq_true, false_iff, true_iff, beq_eq_false_iff_ne, Bool.not_true, Bool.not_false] at *; omega) | (simp at *; omega), by first | omega | (simp only [decide_eq_true_eq, beq_iff_eq, bne_iff_ne, ne_eq, Bool.not_eq_true', decide_eq_false_iff_not, Bool.false_eq_true, false_iff, true_iff, beq_eq_false_iff_ne, Bool.not_true, Bool.not_false] at *; omega) | (simp at *; omega)⟩
          · skip
            try simp only [notT, notF, bneT, bneF, beqT, beqF, decT, decF] at h31
            refine At.no rfl rfl rfl rfl ?_
            refine At.no rfl rfl rfl rfl ?_
            refine At.no rfl rfl rfl rfl ?_
            refine At.no rfl rfl rfl rfl ?_
            refine At.no rfl rfl rfl rfl ?_
            refine At.yes rfl rfl ?_
            refine At.val (Val.pickF rfl rfl) rfl rfl rfl ?_
            refine At.yes rfl rfl ?_
            refine At.val (Val.not rfl) rfl rfl rfl ?_
            refine At.val (Val.pickT rfl rfl) rfl rfl rfl ?_
            refine At.val (Val.build (fun a ha => by simp only [List.map_toArray, List.map_cons, List.map_nil, ha.eval (x := (.tmp 53)) rfl, ha.eval (x := (.tmp 75)) rfl, ha.eval (x := (.tmp 87)) rfl] <;> rfl) (bld_175_0_1_2 _ _ _ )) rfl rfl rfl ?_
            refine At.alloc zero_175 zc_175 rfl (fun b33 => ?_)
            refine At.storeAll (i := 0) Tryd.sizeOf175 rfl rfl rfl (by simp [Value.oneCell']) rfl (by simp) ?_
            simp only [List.set_cons_zero, List.set_cons_succ]
            refine At.nil ?_
            refine At.thenN ?_
            refine At.meets ([.bool _, .bool _, .bool _], b33) ?_ (Sub.cons rfl (Sub.cons rfl (Sub.cons rfl (Sub.cons rfl (Sub.cons rfl Sub.nil))))) (List.Perm.refl _)
            exact ⟨_, _, _, rfl, by first | omega | (simp only [decide_eq_true_eq, beq_iff_eq, bne_iff_ne, ne_eq, Bool.not_eq_true', decide_eq_false_iff_not, Bool.false_eq_true, false_iff, true_iff, beq_eq_false_iff_ne, Bool.not_true, Bool.not_false] at *; omega) | (simp at *; omega), by first | omega | (simp only [decide_eq_true_eq, beq_iff_eq, bne_iff_ne, ne_eq, Bool.not_eq_true', decide_eq_false_iff_not, Bool.false_eq_true, false_iff, true_iff, beq_eq_false_iff_ne, Bool.not_true, Bool.not_false] at *; omega) | (simp at *; omega), by first | omega | (simp only [decide_eq_true_eq, beq_iff_eq, bne_iff_ne, ne_eq, Bool.not_eq_true', decide_eq_false_iff_not, Bool.false_eq_true, false_iff, true_iff, beq_eq_false_iff_ne, Bool.not_true, Bool.not_false] at *; omega) | (simp at *; omega)⟩
        · skip
          try simp only [notT, notF, bneT, bneF, beqT, beqF, decT, decF] at h30
          refine At.no rfl rfl rfl rfl ?_
          refine At.no rfl rfl rfl rfl ?_
          refine At.noU rfl rfl rfl ?_
          refine At.noU rfl rfl rfl ?_
          refine At.noU rfl rfl rfl ?_
          refine At.noU rfl rfl rfl ?_
          refine At.noU rfl rfl rfl ?_
          refine At.no rfl rfl rfl rfl ?_
          refine At.no rfl rfl rfl rfl ?_
          refine At.val (Val.pickF rfl rfl) rfl rfl rfl ?_
          refine At.val (Val.build (fun a ha => by simp only [List.map_toArray, List.map_cons, List.map_nil, ha.eval (x := (.tmp 53)) rfl, ha.eval (x := (.tmp 75)) rfl, ha.eval (x := (.tmp 87)) rfl] <;> rfl) (bld_175_0_1_2 _ _ _ )) rfl rfl rfl ?_
          refine At.alloc zero_175 zc_175 rfl (fun b34 => ?_)
          refine At.storeAll (i := 0) Tryd.sizeOf175 rfl rfl rfl (by simp [Value.oneCell']) rfl (by simp) ?_
          simp only [List.set_cons_zero, List.set_cons_succ]
          refine At.nil ?_
          refine At.thenN ?_
          refine At.meets ([.bool _, .bool _, .bool _], b34) ?_ (Sub.cons rfl (Sub.cons rfl (Sub.cons rfl (Sub.cons rfl (Sub.cons rfl Sub.nil))))) (List.Perm.refl _)
          exact ⟨_, _, _, rfl, by first | omega | (simp only [decide_eq_true_eq, beq_iff_eq, bne_iff_ne, ne_eq, Bool.not_eq_true', decide_eq_false_iff_not, Bool.false_eq_true, false_iff, true_iff, beq_eq_false_iff_ne, Bool.not_true, Bool.not_false] at *; omega) | (simp at *; omega), by first | omega | (simp only [decide_eq_true_eq, beq_iff_eq, bne_iff_ne, ne_eq, Bool.not_eq_true', decide_eq_false_iff_not, Bool.false_eq_true, false_iff, true_iff, beq_eq_false_iff_ne, Bool.not_true, Bool.not_false] at *; omega) | (simp at *; omega), by first | omega | (simp only [decide_eq_true_eq, beq_iff_eq, bne_iff_ne, ne_eq, Bool.not_eq_true', decide_eq_false_iff_not, Bool.false_eq_true, false_iff, true_iff, beq_eq_false_iff_ne, Bool.not_true, Bool.not_false] at *; omega) | (simp at *; omega)⟩
    · skip
      try simp only [notT, notF, bneT, bneF, beqT, beqF, decT, decF] at h5
      refine At.yes rfl rfl ?_
      refine At.val (Val.field 1 rfl fo_65_1 rfl) rfl rfl rfl ?_
      refine At.yes rfl rfl ?_
      refine At.val (Val.load (i := 3) Tryd.isAgg3 rfl rfl rfl) rfl rfl rfl ?_
      refine At.yes rfl rfl ?_
      refine At.val (Val.field 1 rfl fo_65_1 rfl) rfl rfl rfl ?_
      refine At.yes rfl rfl ?_
      refine At.val (Val.load (i := 2) Tryd.isAgg3 rfl rfl rfl) rfl rfl rfl ?_
      refine At.yes rfl rfl ?_
      refine At.val (Val.bin rfl rfl rfl) rfl rfl rfl ?_
      refine At.val (Val.pickF rfl rfl) rfl rfl rfl ?_
      refine At.val (Val.move rfl) rfl rfl rfl ?_
      refine At.val (Val.move rfl) rfl rfl rfl ?_
      refine At.split (t := 55) rfl (fun h35 => ?_) (fun h35 => ?_)
      · skip
        try simp only [notT, notF, bneT, bneF, beqT, beqF, decT, decF] at h35
        refine At.yes rfl rfl ?_
        refine At.val (Val.field 3 rfl fo_65_3 rfl) rfl rfl rfl ?_
        refine At.yes rfl rfl ?_
        refine At.val (Val.load (i := 2) Tryd.isAgg3 rfl rfl rfl) rfl rfl rfl ?_
        refine At.yes rfl rfl ?_
        refine At.val (Val.bin rfl rfl rfl) rfl rfl rfl ?_
        refine At.val (Val.pickT rfl rfl) rfl rfl rfl ?_
        refine At.val (Val.move rfl) rfl rfl rfl ?_
        refine At.split (t := 60) rfl (fun h36 => ?_) (fun h36 => ?_)
        · skip
          try simp only [notT, notF, bneT, bneF, beqT, beqF, decT, decF] at h36
          refine At.yes rfl rfl ?_
          refine At.val (Val.move rfl) rfl rfl rfl ?_
          refine At.yes rfl rfl ?_
          refine At.val (Val.move rfl) rfl rfl rfl ?_
          refine At.split (t := 62) rfl (fun h37 => ?_) (fun h37 => ?_)
          · skip
            try simp only [notT, notF, bneT, bneF, beqT, beqF, decT, decF] at h37
            refine At.yes rfl rfl ?_
            refine At.val (Val.field 3 rfl fo_65_3 rfl) rfl rfl rfl ?_
            refine At.yes rfl rfl ?_
            refine At.val (Val.load (i := 3) Tryd.isAgg3 rfl rfl rfl) rfl rfl rfl ?_
            refine At.yes rfl rfl ?_
            refine At.val (Val.bin rfl rfl rfl) rfl rfl rfl ?_
            refine At.yes rfl rfl ?_
            refine At.val (Val.pickT rfl rfl) rfl rfl rfl ?_
            refine At.yes rfl rfl ?_
            refine At.val (Val.move rfl) rfl rfl rfl ?_
            refine At.split (t := 67) rfl (fun h38 => ?_) (fun h38 => ?_)
            · skip
              try simp only [notT, notF, bneT, bneF, beqT, beqF, decT, decF] at h38
              refine At.yes rfl rfl ?_
              refine At.val (Val.field 2 rfl fo_65_2 rfl) rfl rfl rfl ?_
              refine At.yes rfl rfl ?_
              refine At.val (Val.load (i := 3) Tryd.isAgg3 rfl rfl rfl) rfl rfl rfl ?_
              refine At.yes rfl rfl ?_
              refine At.val (Val.field 2 rfl fo_65_2 rfl) rfl rfl rfl ?_
              refine At.yes rfl rfl ?_
              refine At.val (Val.load (i := 2) Tryd.isAgg3 rfl rfl rfl) rfl rfl rfl ?_
              refine At.yes rfl rfl ?_
              refine At.val (Val.bin rfl rfl rfl) rfl rfl rfl ?_
              refine At.yes rfl rfl ?_
              refine At.val (Val.pickT rfl rfl) rfl rfl rfl ?_
              refine At.yes rfl rfl ?_
              refine At.val (Val.not rfl) rfl rfl rfl ?_
              refine At.val (Val.pickT rfl rfl) rfl rfl rfl ?_
              refine At.val (Val.move rfl) rfl rfl rfl ?_
              refine At.val (Val.move rfl) rfl rfl rfl ?_
              refine At.split (t := 77) rfl (fun h39 => ?_) (fun h39 => ?_)
              · skip
                try simp only [notT, notF, bneT, bneF, beqT, beqF, decT, decF] at h39
                refine At.yes rfl rfl ?_
                refine At.val (Val.move rfl) rfl rfl rfl ?_
                refine At.yes rfl rfl ?_
                refine At.val (Val.move rfl) rfl rfl rfl ?_
                refine At.split (t := 79) rfl (fun h40 => ?_) (fun h40 => ?_)
                · skip
                  try simp only [notT, notF, bneT, bneF, beqT, beqF, decT, decF] at h40
                  refine At.yes rfl rfl ?_
                  refine At.val (Val.field 3 rfl fo_65_3 rfl) rfl rfl rfl ?_
                  refine At.yes rfl rfl ?_
                  refine At.val (Val.load (i := 3) Tryd.isAgg3 rfl rfl rfl) rfl rfl rfl ?_
                  refine At.yes rfl rfl ?_
                  refine At.val (Val.field 3 rfl fo_65_3 rfl) rfl rfl rfl ?_
                  refine At.yes rfl rfl ?_
                  refine At.val (Val.load (i := 2) Tryd.isAgg3 rfl rfl rfl) rfl rfl rfl ?_
                  refine At.yes rfl rfl ?_
                  refine At.val (Val.bin rfl rfl rfl) rfl rfl rfl ?_
                  refine At.yes rfl rfl ?_
                  refine At.val (Val.pickT rfl rfl) rfl rfl rfl ?_
                  refine At.yes rfl rfl ?_
                  refine At.val (Val.not rfl) rfl rfl rfl ?_
                  refine At.val (Val.pickT rfl rfl) rfl rfl rfl ?_
                  refine At.val (Val.build (fun a ha => by simp only [List.map_toArray, List.map_cons, List.map_nil, ha.eval (x := (.tmp 53)) rfl, ha.eval (x := (.tmp 75)) rfl, ha.eval (x := (.tmp 87)) rfl] <;> rfl) (bld_175_0_1_2 _ _ _ )) rfl rfl rfl ?_
                  refine At.alloc zero_175 zc_175 rfl (fun b41 => ?_)
                  refine At.storeAll (i := 0) Tryd.sizeOf175 rfl rfl rfl (by simp [Value.oneCell']) rfl (by simp) ?_
                  simp only [List.set_cons_zero, List.set_cons_succ]
                  refine At.nil ?_
                  refine At.thenN ?_
                  refine At.meets ([.bool _, .bool _, .bool _], b41) ?_ (Sub.cons rfl (Sub.cons rfl (Sub.cons rfl (Sub.cons rfl (Sub.cons rfl Sub.nil))))) (List.Perm.refl _)
                  exact ⟨_, _, _, rfl, by first | omega | (simp only [decide_eq_true_eq, beq_iff_eq, bne_iff_ne, ne_eq, Bool.not_eq_true', decide_eq_false_iff_not, Bool.false_eq_true, false_iff, true_iff, beq_eq_false_iff_ne, Bool.not_true, Bool.not_false] at *; omega) | (simp at *; omega), by first | omega | (simp only [decide_eq_true_eq, beq_iff_eq, bne_iff_ne, ne_eq, Bool.not_eq_true', decide_eq_false_iff_not, Bool.false_eq_true, false_iff, true_iff, beq_eq_false_iff_ne, Bool.not_true, Bool.not_false] at *; omega) | (simp at *; omega), by first | omega | (simp only [decide_eq_true_eq, beq_iff_eq, bne_iff_ne, ne_eq, Bool.not_eq_true', decide_eq_false_iff_not, Bool.false_eq_true, false_iff, true_iff, beq_eq_false_iff_ne, Bool.not_true, Bool.not_false] at *; omega) | (simp at *; omega)⟩
                · skip
                  try simp only [notT, notF, bneT, bneF, beqT, beqF, decT, decF] at h40
                  refine At.no rfl rfl rfl rfl ?_
                  refine At.no rfl rfl rfl rfl ?_
                  refine At.no rfl rfl rfl rfl ?_
                  refine At.no rfl rfl rfl rfl ?_
                  refine At.no rfl rfl rfl rfl ?_
                  refine At.yes rfl rfl ?_
                  refine At.val (Val.pickF rfl rfl) rfl rfl rfl ?_
                  refine At.yes rfl rfl ?_
                  refine At.val (Val.not rfl) rfl rfl rfl ?_
                  refine At.val (Val.pickT rfl rfl) rfl rfl rfl ?_
                  refine At.val (Val.build (fun a ha => by simp only [List.map_toArray, List.map_cons, List.map_nil, ha.eval (x := (.tmp 53)) rfl, ha.eval (x := (.tmp 75)) rfl, ha.eval (x := (.tmp 87)) rfl] <;> rfl) (bld_175_0_1_2 _ _ _ )) rfl rfl rfl ?_
                  refine At.alloc zero_175 zc_175 rfl (fun b42 => ?_)
                  refine At.storeAll (i := 0) Tryd.sizeOf175 rfl rfl rfl (by simp [Value.oneCell']) rfl (by simp) ?_
                  simp only [List.set_cons_zero, List.set_cons_succ]
                  refine At.nil ?_
                  refine At.thenN ?_
                  refine At.meets ([.bool _, .bool _, .bool _], b42) ?_ (Sub.cons rfl (Sub.cons rfl (Sub.cons rfl (Sub.cons rfl (Sub.cons rfl Sub.nil))))) (List.Perm.refl _)
                  exact ⟨_, _, _, rfl, by first | omega | (simp only [decide_eq_true_eq, beq_iff_eq, bne_iff_ne, ne_eq, Bool.not_eq_true', decide_eq_false_iff_not, Bool.false_eq_true, false_iff, true_iff, beq_eq_false_iff_ne, Bool.not_true, Bool.not_false] at *; omega) | (simp at *; omega), by first | omega | (simp only [decide_eq_true_eq, beq_iff_eq, bne_iff_ne, ne_eq, Bool.not_eq_true', decide_eq_false_iff_not, Bool.false_eq_true, false_iff, true_iff, beq_eq_false_iff_ne, Bool.not_true, Bool.not_false] at *; omega) | (simp at *; omega), by first | omega | (simp only [decide_eq_true_eq, beq_iff_eq, bne_iff_ne, ne_eq, Bool.not_eq_true', decide_eq_false_iff_not, Bool.false_eq_true, false_iff, true_iff, beq_eq_false_iff_ne, Bool.not_true, Bool.not_false] at *; omega) | (simp at *; omega)⟩
              · skip
                try simp only [notT, notF, bneT, bneF, beqT, beqF, decT, decF] at h39
                refine At.no rfl rfl rfl rfl ?_
                refine At.no rfl rfl rfl rfl ?_
                refine At.noU rfl rfl rfl ?_
                refine At.noU rfl rfl rfl ?_
                refine At.noU rfl rfl rfl ?_
                refine At.noU rfl rfl rfl ?_
                refine At.noU rfl rfl rfl ?_
                refine At.no rfl rfl rfl rfl ?_
                refine At.no rfl rfl rfl rfl ?_
                refine At.val (Val.pickF rfl rfl) rfl rfl rfl ?_
                refine At.val (Val.build (fun a ha => by simp only [List.map_toArray, List.map_cons, List.map_nil, ha.eval (x := (.tmp 53)) rfl, ha.eval (x := (.tmp 75)) rfl, ha.eval (x := (.tmp 87)) rfl] <;> rfl) (bld_175_0_1_2 _ _ _ )) rfl rfl rfl ?_
                refine At.alloc zero_175 zc_175 rfl (fun b43 => ?_)
                refine At.storeAll (i := 0) Tryd.sizeOf175 rfl rfl rfl (by simp [Value.oneCell']) rfl (by simp) ?_
                simp only [List.set_cons_zero, List.set_cons_succ]
                refine At.nil ?_
                refine At.thenN ?_
                refine At.meets ([.bool _, .bool _, .bool _], b43) ?_ (Sub.cons rfl (Sub.cons rfl (Sub.cons rfl (Sub.cons rfl (Sub.cons rfl Sub.nil))))) (List.Perm.refl _)
                exact ⟨_, _, _, rfl, by first | omega | (simp only [decide_eq_true_eq, beq_iff_eq, bne_iff_ne, ne_eq, Bool.not_eq_true', decide_eq_false_iff_not, Bool.false_eq_true, false_iff, true_iff, beq_eq_false_iff_ne, Bool.not_true, Bool.not_false] at *; omega) | (simp at *; omega), by first | omega | (simp only [decide_eq_true_eq, beq_iff_eq, bne_iff_ne, ne_eq, Bool.not_eq_true', decide_eq_false_iff_not, Bool.false_eq_true, false_iff, true_iff, beq_eq_false_iff_ne, Bool.not_true, Bool.not_false] at *; omega) | (simp at *; omega), by first | omega | (simp only [decide_eq_true_eq, beq_iff_eq, bne_iff_ne, ne_eq, Bool.not_eq_true', decide_eq_false_iff_not, Bool.false_eq_true, false_iff, true_iff, beq_eq_false_iff_ne, Bool.not_true, Bool.not_false] at *; omega) | (simp at *; omega)⟩
            · skip
              try simp only [notT, notF, bneT, bneF, beqT, beqF, decT, decF] at h38
              refine At.no rfl rfl rfl rfl ?_
              refine At.no rfl rfl rfl rfl ?_
              refine At.no rfl rfl rfl rfl ?_
              refine At.no rfl rfl rfl rfl ?_
              refine At.no rfl rfl rfl rfl ?_
              refine At.yes rfl rfl ?_
              refine At.val (Val.pickF rfl rfl) rfl rfl rfl ?_
              refine At.yes rfl rfl ?_
              refine At.val (Val.not rfl) rfl rfl rfl ?_
              refine At.val (Val.pickT rfl rfl) rfl rfl rfl ?_
              refine At.val (Val.move rfl) rfl rfl rfl ?_
              refine At.val (Val.move rfl) rfl rfl rfl ?_
              refine At.split (t := 77) rfl (fun h44 => ?_) (fun h44 => ?_)
              · skip
                try simp only [notT, notF, bneT, bneF, beqT, beqF, decT, decF] at h44
                refine At.yes rfl rfl ?_
                refine At.val (Val.move rfl) rfl rfl rfl ?_
                refine At.yes rfl rfl ?_
                refine At.val (Val.move rfl) rfl rfl rfl ?_
                refine At.split (t := 79) rfl (fun h45 => ?_) (fun h45 => ?_)
                · skip
                  try simp only [notT, notF, bneT, bneF, beqT, beqF, decT, decF] at h45
                  refine At.yes rfl rfl ?_
                  refine At.val (Val.field 3 rfl fo_65_3 rfl) rfl rfl rfl ?_
                  refine At.yes rfl rfl ?_
                  refine At.val (Val.load (i := 3) Tryd.isAgg3 rfl rfl rfl) rfl rfl rfl ?_
                  refine At.yes rfl rfl ?_
                  refine At.val (Val.field 3 rfl fo_65_3 rfl) rfl rfl rfl ?_
                  refine At.yes rfl rfl ?_
                  refine At.val (Val.load (i := 2) Tryd.isAgg3 rfl rfl rfl) rfl rfl rfl ?_
                  refine At.yes rfl rfl ?_
                  refine At.val (Val.bin rfl rfl rfl) rfl rfl rfl ?_
                  refine At.yes rfl rfl ?_
                  refine At.val (Val.pickT rfl rfl) rfl rfl rfl ?_
                  refine At.yes rfl rfl ?_
                  refine At.val (Val.not rfl) rfl rfl rfl ?_
                  refine At.val (Val.pickT rfl rfl) rfl rfl rfl ?_
                  refine At.val (Val.build (fun a ha => by simp only [List.map_toArray, List.map_cons, List.map_nil, ha.eval (x := (.tmp 53)) rfl, ha.eval (x := (.tmp 75)) rfl, ha.eval (x := (.tmp 87)) rfl] <;> rfl) (bld_175_0_1_2 _ _ _ )) rfl rfl rfl ?_
                  refine At.alloc zero_175 zc_175 rfl (fun b46 => ?_)
                  refine At.storeAll (i := 0) Tryd.sizeOf175 rfl rfl rfl (by simp [Value.oneCell']) rfl (by simp) ?_
                  simp only [List.set_cons_zero, List.set_cons_succ]
                  refine At.nil ?_
                  refine At.thenN ?_
                  refine At.meets ([.bool _, .bool _, .bool _], b46) ?_ (Sub.cons rfl (Sub.cons rfl (Sub.cons rfl (Sub.cons rfl (Sub.cons rfl Sub.nil))))) (List.Perm.refl _)
                  exact ⟨_, _, _, rfl, by first | omega | (simp only [decide_eq_true_eq, beq_iff_eq, bne_iff_ne, ne_eq, Bool.not_eq_true', decide_eq_false_iff_not, Bool.false_eq_true, false_iff, true_iff, beq_eq_false_iff_ne, Bool.not_true, Bool.not_false] at *; omega) | (simp at *; omega), by first | omega | (simp only [decide_eq_true_eq, beq_iff_eq, bne_iff_ne, ne_eq, Bool.not_eq_true', decide_eq_false_iff_not, Bool.false_eq_true, false_iff, true_iff, beq_eq_false_iff_ne, Bool.not_true, Bool.not_false] at *; omega) | (simp at *; omega), by first | omega | (simp only [decide_eq_true_eq, beq_iff_eq, bne_iff_ne, ne_eq, Bool.not_eq_true', decide_eq_false_iff_not, Bool.false_eq_true, false_iff, true_iff, beq_eq_false_iff_ne, Bool.not_true, Bool.not_false] at *; omega) | (simp at *; omega)⟩
                · skip
                  try simp only [notT, notF, bneT, bneF, beqT, beqF, decT, decF] at h45
                  refine At.no rfl rfl rfl rfl ?_
                  refine At.no rfl rfl rfl rfl ?_
                  refine At.no rfl rfl rfl rfl ?_
                  refine At.no rfl rfl rfl rfl ?_
                  refine At.no rfl rfl rfl rfl ?_
                  refine At.yes rfl rfl ?_
                  refine At.val (Val.pickF rfl rfl) rfl rfl rfl ?_
                  refine At.yes rfl rfl ?_
                  refine At.val (Val.not rfl) rfl rfl rfl ?_
                  refine At.val (Val.pickT rfl rfl) rfl rfl rfl ?_
                  refine At.val (Val.build (fun a ha => by simp only [List.map_toArray, List.map_cons, List.map_nil, ha.eval (x := (.tmp 53)) rfl, ha.eval (x := (.tmp 75)) rfl, ha.eval (x := (.tmp 87)) rfl] <;> rfl) (bld_175_0_1_2 _ _ _ )) rfl rfl rfl ?_
                  refine At.alloc zero_175 zc_175 rfl (fun b47 => ?_)
                  refine At.storeAll (i := 0) Tryd.sizeOf175 rfl rfl rfl (by simp [Value.oneCell']) rfl (by simp) ?_
                  simp only [List.set_cons_zero, List.set_cons_succ]
                  refine At.nil ?_
                  refine At.thenN ?_
                  refine At.meets ([.bool _, .bool _, .bool _], b47) ?_ (Sub.cons rfl (Sub.cons rfl (Sub.cons rfl (Sub.cons rfl (Sub.cons rfl Sub.nil))))) (List.Perm.refl _)
                  exact ⟨_, _, _, rfl, by first | omega | (simp only [decide_eq_true_eq, beq_iff_eq, bne_iff_ne, ne_eq, Bool.not_eq_true', decide_eq_false_iff_not, Bool.false_eq_true, false_iff, true_iff, beq_eq_false_iff_ne, Bool.not_true, Bool.not_false] at *; omega) | (simp at *; omega), by first | omega | (simp only [decide_eq_true_eq, beq_iff_eq, bne_iff_ne, ne_eq, Bool.not_eq_true', decide_eq_false_iff_not, Bool.false_eq_true, false_iff, true_iff, beq_eq_false_iff_ne, Bool.not_true, Bool.not_false] at *; omega) | (simp at *; omega), by first | omega | (simp only [decide_eq_true_eq, beq_iff_eq, bne_iff_ne, ne_eq, Bool.not_eq_true', decide_eq_false_iff_not, Bool.false_eq_true, false_iff, true_iff, beq_eq_false_iff_ne, Bool.not_true, Bool.not_false] at *; omega) | (simp at *; omega)⟩
              · skip
                try simp only [notT, notF, bneT, bneF, beqT, beqF, decT, decF] at h44
                refine At.no rfl rfl rfl rfl ?_
                refine At.no rfl rfl rfl rfl ?_
                refine At.noU rfl rfl rfl ?_
                refine At.noU rfl rfl rfl ?_
                refine At.noU rfl rfl rfl ?_
                refine At.noU rfl rfl rfl ?_
                refine At.noU rfl rfl rfl ?_
                refine At.no rfl rfl rfl rfl ?_
                refine At.no rfl rfl rfl rfl ?_
                refine At.val (Val.pickF rfl rfl) rfl rfl rfl ?_
                refine At.val (Val.build (fun a ha => by simp only [List.map_toArray, List.map_cons, List.map_nil, ha.eval (x := (.tmp 53)) rfl, ha.eval (x := (.tmp 75)) rfl, ha.eval (x := (.tmp 87)) rfl] <;> rfl) (bld_175_0_1_2 _ _ _ )) rfl rfl rfl ?_
                refine At.alloc zero_175 zc_175 rfl (fun b48 => ?_)
                refine At.storeAll (i := 0) Tryd.sizeOf175 rfl rfl rfl (by simp [Value.oneCell']) rfl (by simp) ?_
                simp only [List.set_cons_zero, List.set_cons_succ]
                refine At.nil ?_
                refine At.thenN ?_
                refine At.meets ([.bool _, .bool _, .bool _], b48) ?_ (Sub.cons rfl (Sub.cons rfl (Sub.cons rfl (Sub.cons rfl (Sub.cons rfl Sub.nil))))) (List.Perm.refl _)
                exact ⟨_, _, _, rfl, by first | omega | (simp only [decide_eq_true_eq, beq_iff_eq, bne_iff_ne, ne_eq, Bool.not_eq_true', decide_eq_false_iff_not, Bool.false_eq_true, false_iff, true_iff, beq_eq_false_iff_ne, Bool.not_true, Bool.not_false] at *; omega) | (simp at *; omega), by first | omega | (simp only [decide_eq_true_eq, beq_iff_eq, bne_iff_ne, ne_eq, Bool.not_eq_true', decide_eq_false_iff_not, Bool.false_eq_true, false_iff, true_iff, beq_eq_false_iff_ne, Bool.not_true, Bool.not_false] at *; omega) | (simp at *; omega), by first | omega | (simp only [decide_eq_true_eq, beq_iff_eq, bne_iff_ne, ne_eq, Bool.not_eq_true', decide_eq_false_iff_not, Bool.false_eq_true, false_iff, true_iff, beq_eq_false_iff_ne, Bool.not_true, Bool.not_false] at *; omega) | (simp at *; omega)⟩
          · skip
            try simp only [notT, notF, bneT, bneF, beqT, beqF, decT, decF] at h37
            refine At.no rfl rfl rfl rfl ?_
            refine At.no rfl rfl rfl rfl ?_
            refine At.no rfl rfl rfl rfl ?_
            refine At.yes rfl rfl ?_
            refine At.val (Val.pickF rfl rfl) rfl rfl rfl ?_
            refine At.yes rfl rfl ?_
            refine At.val (Val.move rfl) rfl rfl rfl ?_
            refine At.no rfl rfl rfl rfl ?_
            refine At.no rfl rfl rfl rfl ?_
            refine At.no rfl rfl rfl rfl ?_
            refine At.no rfl rfl rfl rfl ?_
            refine At.no rfl rfl rfl rfl ?_
            refine At.yes rfl rfl ?_
            refine At.val (Val.pickF rfl rfl) rfl rfl rfl ?_
            refine At.yes rfl rfl ?_
            refine At.val (Val.not rfl) rfl rfl rfl ?_
            refine At.val (Val.pickT rfl rfl) rfl rfl rfl ?_
            refine At.val (Val.move rfl) rfl rfl rfl ?_
            refine At.val (Val.move rfl) rfl rfl rfl ?_
            refine At.split (t := 77) rfl (fun h49 => ?_) (fun h49 => ?_)
            · skip
              try simp only [notT, notF, bneT, bneF, beqT, beqF, decT, decF] at h49
              refine At.yes rfl rfl ?_
              refine At.val (Val.move rfl) rfl rfl rfl ?_
              refine At.yes rfl rfl ?_
              refine At.val (Val.move rfl) rfl rfl rfl ?_
              refine At.split (t := 79) rfl (fun h50 => ?_) (fun h50 => ?_)
              · skip
                try simp only [notT, notF, bneT, bneF, beqT, beqF, decT, decF] at h50
                refine At.yes rfl rfl ?_
                refine At.val (Val.field 3 rfl fo_65_3 rfl) rfl rfl rfl ?_
                refine At.yes rfl rfl ?_
                refine At.val (Val.load (i := 3) Tryd.isAgg3 rfl rfl rfl) rfl rfl rfl ?_
                refine At.yes rfl rfl ?_
                refine At.val (Val.field 3 rfl fo_65_3 rfl) rfl rfl rfl ?_
                refine At.yes rfl rfl ?_
                refine At.val (Val.load (i := 2) Tryd.isAgg3 rfl rfl rfl) rfl rfl rfl ?_
                refine At.yes rfl rfl ?_
                refine At.val (Val.bin rfl rfl rfl) rfl rfl rfl ?_
                refine At.yes rfl rfl ?_
                refine At.val (Val.pickT rfl rfl) rfl rfl rfl ?_
                refine At.yes rfl rfl ?_
                refine At.val (Val.not rfl) rfl rfl rfl ?_
                refine At.val (Val.pickT rfl rfl) rfl rfl rfl ?_
                refine At.val (Val.build (fun a ha => by simp only [List.map_toArray, List.map_cons, List.map_nil, ha.eval (x := (.tmp 53)) rfl, ha.eval (x := (.tmp 75)) rfl, ha.eval (x := (.tmp 87)) rfl] <;> rfl) (bld_175_0_1_2 _ _ _ )) rfl rfl rfl ?_
                refine At.alloc zero_175 zc_175 rfl (fun b51 => ?_)
                refine At.storeAll (i := 0) Tryd.sizeOf175 rfl rfl rfl (by simp [Value.oneCell']) rfl (by simp) ?_
                simp only [List.set_cons_zero, List.set_cons_succ]
                refine At.nil ?_
                refine At.thenN ?_
                refine At.meets ([.bool _, .bool _, .bool _], b51) ?_ (Sub.cons rfl (Sub.cons rfl (Sub.cons rfl (Sub.cons rfl (Sub.cons rfl Sub.nil))))) (List.Perm.refl _)
                exact ⟨_, _, _, rfl, by first | omega | (simp only [decide_eq_true_eq, beq_iff_eq, bne_iff_ne, ne_eq, Bool.not_eq_true', decide_eq_false_iff_not, Bool.false_eq_true, false_iff, true_iff, beq_eq_false_iff_ne, Bool.not_true, Bool.not_false] at *; omega) | (simp at *; omega), by first | omega | (simp only [decide_eq_true_eq, beq_iff_eq, bne_iff_ne, ne_eq, Bool.not_eq_true', decide_eq_false_iff_not, Bool.false_eq_true, false_iff, true_iff, beq_eq_false_iff_ne, Bool.not_true, Bool.not_false] at *; omega) | (simp at *; omega), by first | omega | (simp only [decide_eq_true_eq, beq_iff_eq, bne_iff_ne, ne_eq, Bool.not_eq_true', decide_eq_false_iff_not, Bool.false_eq_true, false_iff, true_iff, beq_eq_false_iff_ne, Bool.not_true, Bool.not_false] at *; omega) | (simp at *; omega)⟩
              · skip
                try simp only [notT, notF, bneT, bneF, beqT, beqF, decT, decF] at h50
                refine At.no rfl rfl rfl rfl ?_
                refine At.no rfl rfl rfl rfl ?_
                refine At.no rfl rfl rfl rfl ?_
                refine At.no rfl rfl rfl rfl ?_
                refine At.no rfl rfl rfl rfl ?_
                refine At.yes rfl rfl ?_
                refine At.val (Val.pickF rfl rfl) rfl rfl rfl ?_
                refine At.yes rfl rfl ?_
                refine At.val (Val.not rfl) rfl rfl rfl ?_
                refine At.val (Val.pickT rfl rfl) rfl rfl rfl ?_
                refine At.val (Val.build (fun a ha => by simp only [List.map_toArray, List.map_cons, List.map_nil, ha.eval (x := (.tmp 53)) rfl, ha.eval (x := (.tmp 75)) rfl, ha.eval (x := (.tmp 87)) rfl] <;> rfl) (bld_175_0_1_2 _ _ _ )) rfl rfl rfl ?_
                refine At.alloc zero_175 zc_175 rfl (fun b52 => ?_)
                refine At.storeAll (i := 0) Tryd.sizeOf175 rfl rfl rfl (by simp [Value.oneCell']) rfl (by simp) ?_
                simp only [List.set_cons_zero, List.set_cons_succ]
                refine At.nil ?_
                refine At.thenN ?_
                refine At.meets ([.bool _, .bool _, .bool _], b52) ?_ (Sub.cons rfl (Sub.cons rfl (Sub.cons rfl (Sub.cons rfl (Sub.cons rfl Sub.nil))))) (List.Perm.refl _)
                exact ⟨_, _, _, rfl, by first | omega | (simp only [decide_eq_true_eq, beq_iff_eq, bne_iff_ne, ne_eq, Bool.not_eq_true', decide_eq_false_iff_not, Bool.false_eq_true, false_iff, true_iff, beq_eq_false_iff_ne, Bool.not_true, Bool.not_false] at *; omega) | (simp at *; omega), by first | omega | (simp only [decide_eq_true_eq, beq_iff_eq, bne_iff_ne, ne_eq, Bool.not_eq_true', decide_eq_false_iff_not, Bool.false_eq_true, false_iff, true_iff, beq_eq_false_iff_ne, Bool.not_true, Bool.not_false] at *; omega) | (simp at *; omega), by first | omega | (simp only [decide_eq_true_eq, beq_iff_eq, bne_iff_ne, ne_eq, Bool.not_eq_true', decide_eq_false_iff_not, Bool.false_eq_true, false_iff, true_iff, beq_eq_false_iff_ne, Bool.not_true, Bool.not_false] at *; omega) | (simp at *; omega)⟩
            · skip
              try simp only [notT, notF, bneT, bneF, beqT, beqF, decT, decF] at h49
              refine At.no rfl rfl rfl rfl ?_
              refine At.no rfl rfl rfl rfl ?_
              refine At.noU rfl rfl rfl ?_
              refine At.noU rfl rfl rfl ?_
              refine At.noU rfl rfl rfl ?_
              refine At.noU rfl rfl rfl ?_
              refine At.noU rfl rfl rfl ?_
              refine At.no rfl rfl rfl rfl ?_
              refine At.no rfl rfl rfl rfl ?_
              refine At.val (Val.pickF rfl rfl) rfl rfl rfl ?_
              refine At.val (Val.build (fun a ha => by simp only [List.map_toArray, List.map_cons, List.map_nil, ha.eval (x := (.tmp 53)) rfl, ha.eval (x := (.tmp 75)) rfl, ha.eval (x := (.tmp 87)) rfl] <;> rfl) (bld_175_0_1_2 _ _ _ )) rfl rfl rfl ?_
              refine At.alloc zero_175 zc_175 rfl (fun b53 => ?_)
              refine At.storeAll (i := 0) Tryd.sizeOf175 rfl rfl rfl (by simp [Value.oneCell']) rfl (by simp) ?_
              simp only [List.set_cons_zero, List.set_cons_succ]
              refine At.nil ?_
              refine At.thenN ?_
              refine At.meets ([.bool _, .bool _, .bool _], b53) ?_ (Sub.cons rfl (Sub.cons rfl (Sub.cons rfl (Sub.cons rfl (Sub.cons rfl Sub.nil))))) (List.Perm.refl _)
              exact ⟨_, _, _, rfl, by first | omega | (simp only [decide_eq_true_eq, beq_iff_eq, bne_iff_ne, ne_eq, Bool.not_eq_true', decide_eq_false_iff_not, Bool.false_eq_true, false_iff, true_iff, beq_eq_false_iff_ne, Bool.not_true, Bool.not_false] at *; omega) | (simp at *; omega), by first | omega | (simp only [decide_eq_true_eq, beq_iff_eq, bne_iff_ne, ne_eq, Bool.not_eq_true', decide_eq_false_iff_not, Bool.false_eq_true, false_iff, true_iff, beq_eq_false_iff_ne, Bool.not_true, Bool.not_false] at *; omega) | (simp at *; omega), by first | omega | (simp only [decide_eq_true_eq, beq_iff_eq, bne_iff_ne, ne_eq, Bool.not_eq_true', decide_eq_false_iff_not, Bool.false_eq_true, false_iff, true_iff, beq_eq_false_iff_ne, Bool.not_true, Bool.not_false] at *; omega) | (simp at *; omega)⟩
        · skip
          try simp only [notT, notF, bneT, bneF, beqT, beqF, decT, decF] at h36
          refine At.no rfl rfl rfl rfl ?_
          refine At.no rfl rfl rfl rfl ?_
          refine At.noU rfl rfl rfl ?_
          refine At.noU rfl rfl rfl ?_
          refine At.noU rfl rfl rfl ?_
          refine At.no rfl rfl rfl rfl ?_
          refine At.no rfl rfl rfl rfl ?_
          refine At.noU rfl rfl rfl ?_
          refine At.noU rfl rfl rfl ?_
          refine At.noU rfl rfl rfl ?_
          refine At.noU rfl rfl rfl ?_
          refine At.noU rfl rfl rfl ?_
          refine At.no rfl rfl rfl rfl ?_
          refine At.no rfl rfl rfl rfl ?_
          refine At.val (Val.pickF rfl rfl) rfl rfl rfl ?_
          refine At.val (Val.move rfl) rfl rfl rfl ?_
          refine At.val (Val.move rfl) rfl rfl rfl ?_
          refine At.split (t := 77) rfl (fun h54 => ?_) (fun h54 => ?_)
          · skip
            try simp only [notT, notF, bneT, bneF, beqT, beqF, decT, decF] at h54
            refine At.yes rfl rfl ?_
            refine At.val (Val.move rfl) rfl rfl rfl ?_
            refine At.yes rfl rfl ?_
            refine At.val (Val.move rfl) rfl rfl rfl ?_
            refine At.split (t := 79) rfl (fun h55 => ?_) (fun h55 => ?_)
            · skip
              try simp only [notT, notF, bneT, bneF, beqT, beqF, decT, decF] at h55
              refine At.yes rfl rfl ?_
              refine At.val (Val.field 3 rfl fo_65_3 rfl) rfl rfl rfl ?_
              refine At.yes rfl rfl ?_
              refine At.val (Val.load (i := 3) Tryd.isAgg3 rfl rfl rfl) rfl rfl rfl ?_
              refine At.yes rfl rfl ?_
              refine At.val (Val.field 3 rfl fo_65_3 rfl) rfl rfl rfl ?_
              refine At.yes rfl rfl ?_
              refine At.val (Val.load (i := 2) Tryd.isAgg3 rfl rfl rfl) rfl rfl rfl ?_
              refine At.yes rfl rfl ?_
              refine At.val (Val.bin rfl rfl rfl) rfl rfl rfl ?_
              refine At.yes rfl rfl ?_
              refine At.val (Val.pickT rfl rfl) rfl rfl rfl ?_
              refine At.yes rfl rfl ?_
              refine At.val (Val.not rfl) rfl rfl rfl ?_
              refine At.val (Val.pickT rfl rfl) rfl rfl rfl ?_
              refine At.val (Val.build (fun a ha => by simp only [List.map_toArray, List.map_cons, List.map_nil, ha.eval (x := (.tmp 53)) rfl, ha.eval (x := (.tmp 75)) rfl, ha.eval (x := (.tmp 87)) rfl] <;> rfl) (bld_175_0_1_2 _ _ _ )) rfl rfl rfl ?_
              refine At.alloc zero_175 zc_175 rfl (fun b56 => ?_)
              refine At.storeAll (i := 0) Tryd.sizeOf175 rfl rfl rfl (by simp [Value.oneCell']) rfl (by simp) ?_
              simp only [List.set_cons_zero, List.set_cons_succ]
              refine At.nil ?_
              refine At.thenN ?_
              refine At.meets ([.bool _, .bool _, .bool _], b56) ?_ (Sub.cons rfl (Sub.cons rfl (Sub.cons rfl (Sub.cons rfl (Sub.cons rfl Sub.nil))))) (List.Perm.refl _)
              exact ⟨_, _, _, rfl, by first | omega | (simp only [decide_eq_true_eq, beq_iff_eq, bne_iff_ne, ne_eq, Bool.not_eq_true', decide_eq_false_iff_not, Bool.false_eq_true, false_iff, true_iff, beq_eq_false_iff_ne, Bool.not_true, Bool.not_false] at *; omega) | (simp at *; omega), by first | omega | (simp only [decide_eq_true_eq, beq_iff_eq, bne_iff_ne, ne_eq, Bool.not_eq_true', decide_eq_false_iff_not, Bool.false_eq_true, false_iff, true_iff, beq_eq_false_iff_ne, Bool.not_true, Bool.not_false] at *; omega) | (simp at *; omega), by first | omega | (simp only [decide_eq_true_eq, beq_iff_eq, bne_iff_ne, ne_eq, Bool.not_eq_true', decide_eq_false_iff_not, Bool.false_eq_true, false_iff, true_iff, beq_eq_false_iff_ne, Bool.not_true, Bool.not_false] at *; omega) | (simp at *; omega)⟩
            · skip
              try simp only [notT, notF, bneT, bneF, beqT, beqF, decT, decF] at h55
              refine At.no rfl rfl rfl rfl ?_
              refine At.no rfl rfl rfl rfl ?_
              refine At.no rfl rfl rfl rfl ?_
              refine At.no rfl rfl rfl rfl ?_
              refine At.no rfl rfl rfl rfl ?_
              refine At.yes rfl rfl ?_
              refine At.val (Val.pickF rfl rfl) rfl rfl rfl ?_
              refine At.yes rfl rfl ?_
              refine At.val (Val.not rfl) rfl rfl rfl ?_
              refine At.val (Val.pickT rfl rfl) rfl rfl rfl ?_
              refine At.val (Val.build (fun a ha => by simp only [List.map_toArray, List.map_cons, List.map_nil, ha.eval (x := (.tmp 53)) rfl, ha.eval (x := (.tmp 75)) rfl, ha.eval (x := (.tmp 87)) rfl] <;> rfl) (bld_175_0_1_2 _ _ _ )) rfl rfl rfl ?_
              refine At.alloc zero_175 zc_175 rfl (fun b57 => ?_)
              refine At.storeAll (i := 0) Tryd.sizeOf175 rfl rfl rfl (by simp [Value.oneCell']) rfl (by simp) ?_
              simp only [List.set_cons_zero, List.set_cons_succ]
              refine At.nil ?_
              refine At.thenN ?_
              refine At.meets ([.bool _, .bool _, .bool _], b57) ?_ (Sub.cons rfl (Sub.cons rfl (Sub.cons rfl (Sub.cons rfl (Sub.cons rfl Sub.nil))))) (List.Perm.refl _)
              exact ⟨_, _, _, rfl, by first | omega | (simp only [decide_eq_true_eq, beq_iff_eq, bne_iff_ne, ne_eq, Bool.not_eq_true', decide_eq_false_iff_not, Bool.false_eq_true, false_iff, true_iff, beq_eq_false_iff_ne, Bool.not_true, Bool.not_false] at *; omega) | (simp at *; omega), by first | omega | (simp only [decide_eq_true_eq, beq_iff_eq, bne_iff_ne, ne_eq, Bool.not_eq_true', decide_eq_false_iff_not, Bool.false_eq_true, false_iff, true_iff, beq_eq_false_iff_ne, Bool.not_true, Bool.not_false] at *; omega) | (simp at *; omega), by first | omega | (simp only [decide_eq_true_eq, beq_iff_eq, bne_iff_ne, ne_eq, Bool.not_eq_true', decide_eq_false_iff_not, Bool.false_eq_true, false_iff, true_iff, beq_eq_false_iff_ne, Bool.not_true, Bool.not_false] at *; omega) | (simp at *; omega)⟩
          · skip
            try simp only [notT, notF, bneT, bneF, beqT, beqF, decT, decF] at h54
            refine At.no rfl rfl rfl rfl ?_
            refine At.no rfl rfl rfl rfl ?_
            refine At.noU rfl rfl rfl ?_
            refine At.noU rfl rfl rfl ?_
            refine At.noU rfl rfl rfl ?_
            refine At.noU rfl rfl rfl ?_
            refine At.noU rfl rfl rfl ?_
            refine At.no rfl rfl rfl rfl ?_
            refine At.no rfl rfl rfl rfl ?_
            refine At.val (Val.pickF rfl rfl) rfl rfl rfl ?_
            refine At.val (Val.build (fun a ha => by simp only [List.map_toArray, List.map_cons, List.map_nil, ha.eval (x := (.tmp 53)) rfl, ha.eval (x := (.tmp 75)) rfl, ha.eval (x := (.tmp 87)) rfl] <;> rfl) (bld_175_0_1_2 _ _ _ )) rfl rfl rfl ?_
            refine At.alloc zero_175 zc_175 rfl (fun b58 => ?_)
            refine At.storeAll (i := 0) Tryd.sizeOf175 rfl rfl rfl (by simp [Value.oneCell']) rfl (by simp) ?_
            simp only [List.set_cons_zero, List.set_cons_succ]
            refine At.nil ?_
            refine At.thenN ?_
            refine At.meets ([.bool _, .bool _, .bool _], b58) ?_ (Sub.cons rfl (Sub.cons rfl (Sub.cons rfl (Sub.cons rfl (Sub.cons rfl Sub.nil))))) (List.Perm.refl _)
            exact ⟨_, _, _, rfl, by first | omega | (simp only [decide_eq_true_eq, beq_iff_eq, bne_iff_ne, ne_eq, Bool.not_eq_true', decide_eq_false_iff_not, Bool.false_eq_true, false_iff, true_iff, beq_eq_false_iff_ne, Bool.not_true, Bool.not_false] at *; omega) | (simp at *; omega), by first | omega | (simp only [decide_eq_true_eq, beq_iff_eq, bne_iff_ne, ne_eq, Bool.not_eq_true', decide_eq_false_iff_not, Bool.false_eq_true, false_iff, true_iff, beq_eq_false_iff_ne, Bool.not_true, Bool.not_false] at *; omega) | (simp at *; omega), by first | omega | (simp only [decide_eq_true_eq, beq_iff_eq, bne_iff_ne, ne_eq, Bool.not_eq_true', decide_eq_false_iff_not, Bool.false_eq_true, false_iff, true_iff, beq_eq_false_iff_ne, Bool.not_true, Bool.not_false] at *; omega) | (simp at *; omega)⟩
      · skip
        try simp only [notT, notF, bneT, bneF, beqT, beqF, decT, decF] at h35
        refine At.no rfl rfl rfl rfl ?_
        refine At.no rfl rfl rfl rfl ?_
        refine At.no rfl rfl rfl rfl ?_
        refine At.val (Val.pickF rfl rfl) rfl rfl rfl ?_
        refine At.val (Val.move rfl) rfl rfl rfl ?_
        refine At.no rfl rfl rfl rfl ?_
        refine At.no rfl rfl rfl rfl ?_
        refine At.noU rfl rfl rfl ?_
        refine At.noU rfl rfl rfl ?_
        refine At.noU rfl rfl rfl ?_
        refine At.no rfl rfl rfl rfl ?_
        refine At.no rfl rfl rfl rfl ?_
        refine At.noU rfl rfl rfl ?_
        refine At.noU rfl rfl rfl ?_
        refine At.noU rfl rfl rfl ?_
        refine At.noU rfl rfl rfl ?_
        refine At.noU rfl rfl rfl ?_
        refine At.no rfl rfl rfl rfl ?_
        refine At.no rfl rfl rfl rfl ?_
        refine At.val (Val.pickF rfl rfl) rfl rfl rfl ?_
        refine At.val (Val.move rfl) rfl rfl rfl ?_
        refine At.val (Val.move rfl) rfl rfl rfl ?_
        refine At.split (t := 77) rfl (fun h59 => ?_) (fun h59 => ?_)
        · skip
          try simp only [notT, notF, bneT, bneF, beqT, beqF, decT, decF] at h59
          refine At.yes rfl rfl ?_
          refine At.val (Val.move rfl) rfl rfl rfl ?_
          refine At.yes rfl rfl ?_
          refine At.val (Val.move rfl) rfl rfl rfl ?_
          refine At.split (t := 79) rfl (fun h60 => ?_) (fun h60 => ?_)
          · skip
            try simp only [notT, notF, bneT, bneF, beqT, beqF, decT, decF] at h60
            refine At.yes rfl rfl ?_
            refine At.val (Val.field 3 rfl fo_65_3 rfl) rfl rfl rfl ?_
            refine At.yes rfl rfl ?_
            refine At.val (Val.load (i := 3) Tryd.isAgg3 rfl rfl rfl) rfl rfl rfl ?_
            refine At.yes rfl rfl ?_
            refine At.val (Val.field 3 rfl fo_65_3 rfl) rfl rfl rfl ?_
            refine At.yes rfl rfl ?_
            refine At.val (Val.load (i := 2) Tryd.isAgg3 rfl rfl rfl) rfl rfl rfl ?_
            refine At.yes rfl rfl ?_
            refine At.val (Val.bin rfl rfl rfl) rfl rfl rfl ?_
            refine At.yes rfl rfl ?_
            refine At.val (Val.pickT rfl rfl) rfl rfl rfl ?_
            refine At.yes rfl rfl ?_
            refine At.val (Val.not rfl) rfl rfl rfl ?_
            refine At.val (Val.pickT rfl rfl) rfl rfl rfl ?_
            refine At.val (Val.build (fun a ha => by simp only [List.map_toArray, List.map_cons, List.map_nil, ha.eval (x := (.tmp 53)) rfl, ha.eval (x := (.tmp 75)) rfl, ha.eval (x := (.tmp 87)) rfl] <;> rfl) (bld_175_0_1_2 _ _ _ )) rfl rfl rfl ?_
            refine At.alloc zero_175 zc_175 rfl (fun b61 => ?_)
            refine At.storeAll (i := 0) Tryd.sizeOf175 rfl rfl rfl (by simp [Value.oneCell']) rfl (by simp) ?_
            simp only [List.set_cons_zero, List.set_cons_succ]
            refine At.nil ?_
            refine At.thenN ?_
            refine At.meets ([.bool _, .bool _, .bool _], b61) ?_ (Sub.cons rfl (Sub.cons rfl (Sub.cons rfl (Sub.cons rfl (Sub.cons rfl Sub.nil))))) (List.Perm.refl _)
            exact ⟨_, _, _, rfl, by first | omega | (simp only [decide_eq_true_eq, beq_iff_eq, bne_iff_ne, ne_eq, Bool.not_eq_true', decide_eq_false_iff_not, Bool.false_eq_true, false_iff, true_iff, beq_eq_false_iff_ne, Bool.not_true, Bool.not_false] at *; omega) | (simp at *; omega), by first | omega | (simp only [decide_eq_true_eq, beq_iff_eq, bne_iff_ne, ne_eq, Bool.not_eq_true', decide_eq_false_iff_not, Bool.false_eq_true, false_iff, true_iff, beq_eq_false_iff_ne, Bool.not_true, Bool.not_false] at *; omega) | (simp at *; omega), by first | omega | (simp only [decide_eq_true_eq, beq_iff_eq, bne_iff_ne, ne_eq, Bool.not_eq_true', decide_eq_false_iff_not, Bool.false_eq_true, false_iff, true_iff, beq_eq_false_iff_ne, Bool.not_true, Bool.not_false] at *; omega) | (simp at *; omega)⟩
          · skip
            try simp only [notT, notF, bneT, bneF, beqT, beqF, decT, decF] at h60
            refine At.no rfl rfl rfl rfl ?_
            refine At.no rfl rfl rfl rfl ?_
            refine At.no rfl rfl rfl rfl ?_
            refine At.no rfl rfl rfl rfl ?_
            refine At.no rfl rfl rfl rfl ?_
            refine At.yes rfl rfl ?_
            refine At.val (Val.pickF rfl rfl) rfl rfl rfl ?_
            refine At.yes rfl rfl ?_
            refine At.val (Val.not rfl) rfl rfl rfl ?_
            refine At.val (Val.pickT rfl rfl) rfl rfl rfl ?_
            refine At.val (Val.build (fun a ha => by simp only [List.map_toArray, List.map_cons, List.map_nil, ha.eval (x := (.tmp 53)) rfl, ha.eval (x := (.tmp 75)) rfl, ha.eval (x := (.tmp 87)) rfl] <;> rfl) (bld_175_0_1_2 _ _ _ )) rfl rfl rfl ?_
            refine At.alloc zero_175 zc_175 rfl (fun b62 => ?_)
            refine At.storeAll (i := 0) Tryd.sizeOf175 rfl rfl rfl (by simp [Value.oneCell']) rfl (by simp) ?_
            simp only [List.set_cons_zero, List.set_cons_succ]
            refine At.nil ?_
            refine At.thenN ?_
            refine At.meets ([.bool _, .bool _, .bool _], b62) ?_ (Sub.cons rfl (Sub.cons rfl (Sub.cons rfl (Sub.cons rfl (Sub.cons rfl Sub.nil))))) (List.Perm.refl _)
            exact ⟨_, _, _, rfl, by first | omega | (simp only [decide_eq_true_eq, beq_iff_eq, bne_iff_ne, ne_eq, Bool.not_eq_true', decide_eq_false_iff_not, Bool.false_eq_true, false_iff, true_iff, beq_eq_false_iff_ne, Bool.not_true, Bool.not_false] at *; omega) | (simp at *; omega), by first | omega | (simp only [decide_eq_true_eq, beq_iff_eq, bne_iff_ne, ne_eq, Bool.not_eq_true', decide_eq_false_iff_not, Bool.false_eq_true, false_iff, true_iff, beq_eq_false_iff_ne, Bool.not_true, Bool.not_false] at *; omega) | (simp at *; omega), by first | omega | (simp only [decide_eq_true_eq, beq_iff_eq, bne_iff_ne, ne_eq, Bool.not_eq_true', decide_eq_false_iff_not, Bool.false_eq_true, false_iff, true_iff, beq_eq_false_iff_ne, Bool.not_true, Bool.not_false] at *; omega) | (simp at *; omega)⟩
        · skip
          try simp only [notT, notF, bneT, bneF, beqT, beqF, decT, decF] at h59
          refine At.no rfl rfl rfl rfl ?_
          refine At.no rfl rfl rfl rfl ?_
          refine At.noU rfl rfl rfl ?_
          refine At.noU rfl rfl rfl ?_
          refine At.noU rfl rfl rfl ?_
          refine At.noU rfl rfl rfl ?_
          refine At.noU rfl rfl rfl ?_
          refine At.no rfl rfl rfl rfl ?_
          refine At.no rfl rfl rfl rfl ?_
          refine At.val (Val.pickF rfl rfl) rfl rfl rfl ?_
          refine At.val (Val.build (fun a ha => by simp only [List.map_toArray, List.map_cons, List.map_nil, ha.eval (x := (.tmp 53)) rfl, ha.eval (x := (.tmp 75)) rfl, ha.eval (x := (.tmp 87)) rfl] <;> rfl) (bld_175_0_1_2 _ _ _ )) rfl rfl rfl ?_
          refine At.alloc zero_175 zc_175 rfl (fun b63 => ?_)
          refine At.storeAll (i := 0) Tryd.sizeOf175 rfl rfl rfl (by simp [Value.oneCell']) rfl (by simp) ?_
          simp only [List.set_cons_zero, List.set_cons_succ]
          refine At.nil ?_
          refine At.thenN ?_
          refine At.meets ([.bool _, .bool _, .bool _], b63) ?_ (Sub.cons rfl (Sub.cons rfl (Sub.cons rfl (Sub.cons rfl (Sub.cons rfl Sub.nil))))) (List.Perm.refl _)
          exact ⟨_, _, _, rfl, by first | omega | (simp only [decide_eq_true_eq, beq_iff_eq, bne_iff_ne, ne_eq, Bool.not_eq_true', decide_eq_false_iff_not, Bool.false_eq_true, false_iff, true_iff, beq_eq_false_iff_ne, Bool.not_true, Bool.not_false] at *; omega) | (simp at *; omega), by first | omega | (simp only [decide_eq_true_eq, beq_iff_eq, bne_iff_ne, ne_eq, Bool.not_eq_true', decide_eq_false_iff_not, Bool.false_eq_true, false_iff, true_iff, beq_eq_false_iff_ne, Bool.not_true, Bool.not_false] at *; omega) | (simp at *; omega), by first | omega | (simp only [decide_eq_true_eq, beq_iff_eq, bne_iff_ne, ne_eq, Bool.not_eq_true', decide_eq_false_iff_not, Bool.false_eq_true, false_iff, true_iff, beq_eq_false_iff_ne, Bool.not_true, Bool.not_false] at *; omega) | (simp at *; omega)⟩
  · skip
    intro s hs
    obtain ⟨ds, b14⟩ := s
    obtain ⟨d0, d1, d2, hd, e0, e1, e2⟩ := hs
    dsimp only at hd
    subst hd
    try dsimp only
    refine At.seq ?_
    refine At.region ?_
    refine At.val (Val.assign rfl) rfl rfl rfl ?_
    refine At.nil ?_
    refine At.rowNil 122 2 ?_
    refine At.thenN ?_
    refine At.seq ?_
    refine At.seq ?_
    refine At.region ?_
    refine At.val (Val.loadAll (i := 2) Tryd.isAgg66 Tryd.sizeOf66 rfl rfl rfl) rfl rfl rfl ?_
    refine At.val (Val.move rfl) rfl rfl rfl ?_
    refine At.nil ?_
    refine At.thenN ?_
    refine At.block ?_
    skip
    refine At.loop (σ := Nat × Value) (fun s => s.1 ≤ 3) (fun s => [(0, .int .i64 i), (14, .pointer (some ⟨b14, 0, none⟩)), (89, .agg ((slotW i k' l' h' t').map b64).toArray), (90, .int .i64 (s.1 : Int)), (15, s.2)]) (fun s => [rowR s.2 122 2 (chs i k l h t k' l' h' t' s.1).length (chC (chs i k l h t k' l' h' t' s.1)), blk b14 175 ([.bool d0, .bool d1, .bool d2]), blk b4 66 ((slotW i k' l' h' t').map b64), blk b3 66 ((slotW i k l h t).map b64), blk b2 65 ([.int .i64 k', .int .i64 l', .int .i64 h', .int .i64 t']), blk b1 65 ([.int .i64 k, .int .i64 l, .int .i64 h, .int .i64 t])]) (fun s => 3 - s.1) (0, .slice none 0 0) (by decide) (Sub.cons rfl (Sub.cons rfl (Sub.cons rfl (Sub.cons rfl (Sub.cons rfl Sub.nil))))) (List.Perm.refl _) ?_
    intro s hs
    obtain ⟨j, v⟩ := s
    dsimp only at hs ⊢
    refine At.seq ?_
    refine At.region ?_
    refine At.val (Val.bin rfl rfl rfl) rfl rfl rfl ?_
    refine At.nil ?_
    refine At.thenN ?_
    refine At.seq ?_
    refine At.cond rfl (fun h64 => ?_) (fun h64 => ?_)
    · skip
      try simp only [notT, notF, bneT, bneF, beqT, beqF, decT, decF] at h64
      have hj : j < 3 := by have := h64; omega
      refine At.skipC ?_
      refine At.thenN ?_
      refine At.seq ?_
      refine At.block ?_
      refine At.seq ?_
      rcases (show j = 0 ∨ j = 1 ∨ j = 2 by omega) with rfl | rfl | rfl
      · skip
        refine At.region ?_
        refine At.val (Val.move rfl) rfl rfl rfl ?_
        refine At.val (Val.indexVal (v := b64 (w0_ i k' l')) Tryd.underlying66 Tryd.sizeOf40 Tryd.isAgg40 rfl rfl (by decide) (by decide) rfl) rfl rfl rfl ?_
        refine At.val (Val.assign rfl) rfl rfl rfl ?_
        refine At.val (Val.assign rfl) rfl rfl rfl ?_
        refine At.nil ?_
        refine At.thenN ?_
        refine At.seq ?_
        refine At.region ?_
        refine At.val (Val.move rfl) rfl rfl rfl ?_
        refine At.val (Val.indexArr 0 rfl Tryd.underlying175 Tryd.sizeOf4 rfl rfl (by decide) (by decide)) rfl rfl rfl ?_
        refine At.val (Val.load (i := 1) Tryd.isAgg4 rfl rfl rfl) rfl rfl rfl ?_
        refine At.nil ?_
        refine At.thenN ?_
        refine At.cond rfl (fun h65 => ?_) (fun h65 => ?_)
        · skip
          try simp only [notT, notF, bneT, bneF, beqT, beqF, decT, decF] at h65
          refine At.region ?_
          refine At.val (Val.move rfl) rfl rfl rfl ?_
          refine At.val (Val.move rfl) rfl rfl rfl ?_
          refine At.callP (fun w hw => slotAt_p i w) Tryd.call24 rfl rfl ?_
          refine At.val (Val.move rfl) rfl rfl rfl ?_
          refine At.val (Val.bin rfl rfl rfl) rfl rfl rfl ?_
          refine At.val (Val.bin rfl rfl rfl) rfl rfl rfl ?_
          rw [show IntKind.i64.wrap (slotAt i + IntKind.i64.wrap (((0 : Nat) : Int) * 8)) = slotAt i from by rw [wrap_i64 (n := ((0 : Nat) : Int) * 8) (by decide) (by decide), wrap_i64 (by omega) (by omega)]; omega]
          refine At.val (Val.move rfl) rfl rfl rfl ?_
          refine At.val (Val.build (fun a ha => by simp only [List.map_toArray, List.map_cons, List.map_nil, ha.eval (x := (.tmp 102)) rfl, ha.eval (x := (.tmp 103)) rfl] <;> rfl) (bld_122_0_1 _ _ )) rfl rfl rfl ?_
          refine At.buildSl (fun a ha => by simp only [List.map_toArray, List.map_cons, List.map_nil, ha.eval (x := (.tmp 104)) rfl]; try rfl) (bs_114_1 _ _ ) rfl (fun b66 => ?_)
          refine At.append (i := 1) (sz := 2) (by_ := 16) Tryd.underlying114 info_122 rfl rfl rfl rfl rfl rfl rfl rfl rfl (fun w hw j u hj => by rw [Nat.zero_add]; exact ((hw.blk (i := 0) rfl).cell j).trans hj) (by simp [Value.oneCell']) (by have := chs_len i k l h t k' l' h' t' 0; have := chs_len i k l h t k' l' h' t' 1; have := chs_len i k l h t k' l' h' t' 2; omega) (by have := chs_len i k l h t k' l' h' t' 0; have := chs_len i k l h t k' l' h' t' 1; have := chs_len i k l h t k' l' h' t' 2; omega) rfl (fun v67 => ?_)
          simp only [List.set_cons_zero, List.set_cons_succ]
          refine At.drop 0 ?_
          simp only [List.eraseIdx_cons_zero, List.eraseIdx_cons_succ]
          refine At.val (Val.assign rfl) rfl rfl rfl ?_
          refine At.nil ?_
          refine At.blkN ?_
          refine At.thenN ?_
          refine At.region ?_
          refine At.val (Val.bin rfl rfl rfl) rfl rfl rfl ?_
          refine At.val (Val.move rfl) rfl rfl rfl ?_
          refine At.nil ?_
          refine At.thenN ?_
          exact At.again (1, v67) (by dsimp only; omega) (by dsimp only; omega) (Sub.cons rfl (Sub.cons rfl (Sub.cons rfl (Sub.cons (congrArg (fun z => some (Value.int IntKind.i64 z)) (by rfl)) (Sub.cons rfl Sub.nil))))) (by dsimp only; first | (rw [show chs i k l h t k' l' h' t' 1 = chs i k l h t k' l' h' t' 0 ++ [(slotAt i, w0_ i k' l')] from by show chs i k l h t k' l' h' t' 0 ++ ch0 i k l k' l' = _; rw [show ch0 i k l k' l' = [(slotAt i, w0_ i k' l')] from if_pos (e0.1 ‹_›)], ch_snoc]; done) | (rw [show chs i k l h t k' l' h' t' 1 = chs i k l h t k' l' h' t' 0 ++ [(slotAt i, w0_ i k' l')] from by show chs i k l h t k' l' h' t' 0 ++ ch0 i k l k' l' = _; rw [show ch0 i k l k' l' = [(slotAt i, w0_ i k' l')] from if_pos (e0.1 ‹_›)], ch_snoc]; exact List.Perm.refl _))
        · skip
          try simp only [notT, notF, bneT, bneF, beqT, beqF, decT, decF] at h65
          refine At.skipC ?_
          refine At.blkN ?_
          refine At.thenN ?_
          refine At.region ?_
          refine At.val (Val.bin rfl rfl rfl) rfl rfl rfl ?_
          refine At.val (Val.move rfl) rfl rfl rfl ?_
          refine At.nil ?_
          refine At.thenN ?_
          exact At.again (1, v) (by dsimp only; omega) (by dsimp only; omega) (Sub.cons rfl (Sub.cons rfl (Sub.cons rfl (Sub.cons (congrArg (fun z => some (Value.int IntKind.i64 z)) (by rfl)) (Sub.cons rfl Sub.nil))))) (by dsimp only; first | (rw [show chs i k l h t k' l' h' t' 1 = chs i k l h t k' l' h' t' 0 ++ [] from by show chs i k l h t k' l' h' t' 0 ++ ch0 i k l k' l' = _; rw [show ch0 i k l k' l' = [] from if_neg (fun q => by have := e0.2 q; simp_all)], List.append_nil]; done) | (rw [show chs i k l h t k' l' h' t' 1 = chs i k l h t k' l' h' t' 0 ++ [] from by show chs i k l h t k' l' h' t' 0 ++ ch0 i k l k' l' = _; rw [show ch0 i k l k' l' = [] from if_neg (fun q => by have := e0.2 q; simp_all)], List.append_nil]; exact List.Perm.refl _))
      · skip
        refine At.region ?_
        refine At.val (Val.move rfl) rfl rfl rfl ?_
        refine At.val (Val.indexVal (v := b64 (w1_ i h')) Tryd.underlying66 Tryd.sizeOf40 Tryd.isAgg40 rfl rfl (by decide) (by decide) rfl) rfl rfl rfl ?_
        refine At.val (Val.assign rfl) rfl rfl rfl ?_
        refine At.val (Val.assign rfl) rfl rfl rfl ?_
        refine At.nil ?_
        refine At.thenN ?_
        refine At.seq ?_
        refine At.region ?_
        refine At.val (Val.move rfl) rfl rfl rfl ?_
        refine At.val (Val.indexArr 1 rfl Tryd.underlying175 Tryd.sizeOf4 rfl rfl (by decide) (by decide)) rfl rfl rfl ?_
        refine At.val (Val.load (i := 1) Tryd.isAgg4 rfl rfl rfl) rfl rfl rfl ?_
        refine At.nil ?_
        refine At.thenN ?_
        refine At.cond rfl (fun h68 => ?_) (fun h68 => ?_)
        · skip
          try simp only [notT, notF, bneT, bneF, beqT, beqF, decT, decF] at h68
          refine At.region ?_
          refine At.val (Val.move rfl) rfl rfl rfl ?_
          refine At.val (Val.move rfl) rfl rfl rfl ?_
          refine At.callP (fun w hw => slotAt_p i w) Tryd.call24 rfl rfl ?_
          refine At.val (Val.move rfl) rfl rfl rfl ?_
          refine At.val (Val.bin rfl rfl rfl) rfl rfl rfl ?_
          refine At.val (Val.bin rfl rfl rfl) rfl rfl rfl ?_
          rw [show IntKind.i64.wrap (slotAt i + IntKind.i64.wrap (((1 : Nat) : Int) * 8)) = slotAt i + 8 from by rw [wrap_i64 (n := ((1 : Nat) : Int) * 8) (by decide) (by decide), wrap_i64 (by omega) (by omega)]; omega]
          refine At.val (Val.move rfl) rfl rfl rfl ?_
          refine At.val (Val.build (fun a ha => by simp only [List.map_toArray, List.map_cons, List.map_nil, ha.eval (x := (.tmp 102)) rfl, ha.eval (x := (.tmp 103)) rfl] <;> rfl) (bld_122_0_1 _ _ )) rfl rfl rfl ?_
          refine At.buildSl (fun a ha => by simp only [List.map_toArray, List.map_cons, List.map_nil, ha.eval (x := (.tmp 104)) rfl]; try rfl) (bs_114_1 _ _ ) rfl (fun b69 => ?_)
          refine At.append (i := 1) (sz := 2) (by_ := 16) Tryd.underlying114 info_122 rfl rfl rfl rfl rfl rfl rfl rfl rfl (fun w hw j u hj => by rw [Nat.zero_add]; exact ((hw.blk (i := 0) rfl).cell j).trans hj) (by simp [Value.oneCell']) (by have := chs_len i k l h t k' l' h' t' 0; have := chs_len i k l h t k' l' h' t' 1; have := chs_len i k l h t k' l' h' t' 2; omega) (by have := chs_len i k l h t k' l' h' t' 0; have := chs_len i k l h t k' l' h' t' 1; have := chs_len i k l h t k' l' h' t' 2; omega) rfl (fun v70 => ?_)
          simp only [List.set_cons_zero, List.set_cons_succ]
          refine At.drop 0 ?_
          simp only [List.eraseIdx_cons_zero, List.eraseIdx_cons_succ]
          refine At.val (Val.assign rfl) rfl rfl rfl ?_
          refine At.nil ?_
          refine At.blkN ?_
          refine At.thenN ?_
          refine At.region ?_
          refine At.val (Val.bin rfl rfl rfl) rfl rfl rfl ?_
          refine At.val (Val.move rfl) rfl rfl rfl ?_
          refine At.nil ?_
          refine At.thenN ?_
          exact At.again (2, v70) (by dsimp only; omega) (by dsimp only; omega) (Sub.cons rfl (Sub.cons rfl (Sub.cons rfl (Sub.cons (congrArg (fun z => some (Value.int IntKind.i64 z)) (by rfl)) (Sub.cons rfl Sub.nil))))) (by dsimp only; first | (rw [show chs i k l h t k' l' h' t' 2 = chs i k l h t k' l' h' t' 1 ++ [(slotAt i + 8, w1_ i h')] from by show chs i k l h t k' l' h' t' 1 ++ ch1 i k h t k' h' t' = _; rw [show ch1 i k h t k' h' t' = [(slotAt i + 8, w1_ i h')] from if_pos (e1.1 ‹_›)], ch_snoc]; done) | (rw [show chs i k l h t k' l' h' t' 2 = chs i k l h t k' l' h' t' 1 ++ [(slotAt i + 8, w1_ i h')] from by show chs i k l h t k' l' h' t' 1 ++ ch1 i k h t k' h' t' = _; rw [show ch1 i k h t k' h' t' = [(slotAt i + 8, w1_ i h')] from if_pos (e1.1 ‹_›)], ch_snoc]; exact List.Perm.refl _))
        · skip
          try simp only [notT, notF, bneT, bneF, beqT, beqF, decT, decF] at h68
          refine At.skipC ?_
          refine At.blkN ?_
          refine At.thenN ?_
          refine At.region ?_
          refine At.val (Val.bin rfl rfl rfl) rfl rfl rfl ?_
          refine At.val (Val.move rfl) rfl rfl rfl ?_
          refine At.nil ?_
          refine At.thenN ?_
          exact At.again (2, v) (by dsimp only; omega) (by dsimp only; omega) (Sub.cons rfl (Sub.cons rfl (Sub.cons rfl (Sub.cons (congrArg (fun z => some (Value.int IntKind.i64 z)) (by rfl)) (Sub.cons rfl Sub.nil))))) (by dsimp only; first | (rw [show chs i k l h t k' l' h' t' 2 = chs i k l h t k' l' h' t' 1 ++ [] from by show chs i k l h t k' l' h' t' 1 ++ ch1 i k h t k' h' t' = _; rw [show ch1 i k h t k' h' t' = [] from if_neg (fun q => by have := e1.2 q; simp_all)], List.append_nil]; done) | (rw [show chs i k l h t k' l' h' t' 2 = chs i k l h t k' l' h' t' 1 ++ [] from by show chs i k l h t k' l' h' t' 1 ++ ch1 i k h t k' h' t' = _; rw [show ch1 i k h t k' h' t' = [] from if_neg (fun q => by have := e1.2 q; simp_all)], List.append_nil]; exact List.Perm.refl _))
      · skip
        refine At.region ?_
        refine At.val (Val.move rfl) rfl rfl rfl ?_
        refine At.val (Val.indexVal (v := b64 (w2_ i t')) Tryd.underlying66 Tryd.sizeOf40 Tryd.isAgg40 rfl rfl (by decide) (by decide) rfl) rfl rfl rfl ?_
        refine At.val (Val.assign rfl) rfl rfl rfl ?_
        refine At.val (Val.assign rfl) rfl rfl rfl ?_
        refine At.nil ?_
        refine At.thenN ?_
        refine At.seq ?_
        refine At.region ?_
        refine At.val (Val.move rfl) rfl rfl rfl ?_
        refine At.val (Val.indexArr 2 rfl Tryd.underlying175 Tryd.sizeOf4 rfl rfl (by decide) (by decide)) rfl rfl rfl ?_
        refine At.val (Val.load (i := 1) Tryd.isAgg4 rfl rfl rfl) rfl rfl rfl ?_
        refine At.nil ?_
        refine At.thenN ?_
        refine At.cond rfl (fun h71 => ?_) (fun h71 => ?_)
        · skip
          try simp only [notT, notF, bneT, bneF, beqT, beqF, decT, decF] at h71
          refine At.region ?_
          refine At.val (Val.move rfl) rfl rfl rfl ?_
          refine At.val (Val.move rfl) rfl rfl rfl ?_
          refine At.callP (fun w hw => slotAt_p i w) Tryd.call24 rfl rfl ?_
          refine At.val (Val.move rfl) rfl rfl rfl ?_
          refine At.val (Val.bin rfl rfl rfl) rfl rfl rfl ?_
          refine At.val (Val.bin rfl rfl rfl) rfl rfl rfl ?_
          rw [show IntKind.i64.wrap (slotAt i + IntKind.i64.wrap (((2 : Nat) : Int) * 8)) = slotAt i + 16 from by rw [wrap_i64 (n := ((2 : Nat) : Int) * 8) (by decide) (by decide), wrap_i64 (by omega) (by omega)]; omega]
          refine At.val (Val.move rfl) rfl rfl rfl ?_
          refine At.val (Val.build (fun a ha => by simp only [List.map_toArray, List.map_cons, List.map_nil, ha.eval (x := (.tmp 102)) rfl, ha.eval (x := (.tmp 103)) rfl] <;> rfl) (bld_122_0_1 _ _ )) rfl rfl rfl ?_
          refine At.buildSl (fun a ha => by simp only [List.map_toArray, List.map_cons, List.map_nil, ha.eval (x := (.tmp 104)) rfl]; try rfl) (bs_114_1 _ _ ) rfl (fun b72 => ?_)
          refine At.append (i := 1) (sz := 2) (by_ := 16) Tryd.underlying114 info_122 rfl rfl rfl rfl rfl rfl rfl rfl rfl (fun w hw j u hj => by rw [Nat.zero_add]; exact ((hw.blk (i := 0) rfl).cell j).trans hj) (by simp [Value.oneCell']) (by have := chs_len i k l h t k' l' h' t' 0; have := chs_len i k l h t k' l' h' t' 1; have := chs_len i k l h t k' l' h' t' 2; omega) (by have := chs_len i k l h t k' l' h' t' 0; have := chs_len i k l h t k' l' h' t' 1; have := chs_len i k l h t k' l' h' t' 2; omega) rfl (fun v73 => ?_)
          simp only [List.set_cons_zero, List.set_cons_succ]
          refine At.drop 0 ?_
          simp only [List.eraseIdx_cons_zero, List.eraseIdx_cons_succ]
          refine At.val (Val.assign rfl) rfl rfl rfl ?_
          refine At.nil ?_
          refine At.blkN ?_
          refine At.thenN ?_
          refine At.region ?_
          refine At.val (Val.bin rfl rfl rfl) rfl rfl rfl ?_
          refine At.val (Val.move rfl) rfl rfl rfl ?_
          refine At.nil ?_
          refine At.thenN ?_
          exact At.again (3, v73) (by dsimp only; omega) (by dsimp only; omega) (Sub.cons rfl (Sub.cons rfl (Sub.cons rfl (Sub.cons (congrArg (fun z => some (Value.int IntKind.i64 z)) (by rfl)) (Sub.cons rfl Sub.nil))))) (by dsimp only; first | (rw [show chs i k l h t k' l' h' t' 3 = chs i k l h t k' l' h' t' 2 ++ [(slotAt i + 16, w2_ i t')] from by show chs i k l h t k' l' h' t' 2 ++ ch2 i k t k' t' = _; rw [show ch2 i k t k' t' = [(slotAt i + 16, w2_ i t')] from if_pos (e2.1 ‹_›)], ch_snoc]; done) | (rw [show chs i k l h t k' l' h' t' 3 = chs i k l h t k' l' h' t' 2 ++ [(slotAt i + 16, w2_ i t')] from by show chs i k l h t k' l' h' t' 2 ++ ch2 i k t k' t' = _; rw [show ch2 i k t k' t' = [(slotAt i + 16, w2_ i t')] from if_pos (e2.1 ‹_›)], ch_snoc]; exact List.Perm.refl _))
        · skip
          try simp only [notT, notF, bneT, bneF, beqT, beqF, decT, decF] at h71
          refine At.skipC ?_
          refine At.blkN ?_
          refine At.thenN ?_
          refine At.region ?_
          refine At.val (Val.bin rfl rfl rfl) rfl rfl rfl ?_
          refine At.val (Val.move rfl) rfl rfl rfl ?_
          refine At.nil ?_
          refine At.thenN ?_
          exact At.again (3, v) (by dsimp only; omega) (by dsimp only; omega) (Sub.cons rfl (Sub.cons rfl (Sub.cons rfl (Sub.cons (congrArg (fun z => some (Value.int IntKind.i64 z)) (by rfl)) (Sub.cons rfl Sub.nil))))) (by dsimp only; first | (rw [show chs i k l h t k' l' h' t' 3 = chs i k l h t k' l' h' t' 2 ++ [] from by show chs i k l h t k' l' h' t' 2 ++ ch2 i k t k' t' = _; rw [show ch2 i k t k' t' = [] from if_neg (fun q => by have := e2.2 q; simp_all)], List.append_nil]; done) | (rw [show chs i k l h t k' l' h' t' 3 = chs i k l h t k' l' h' t' 2 ++ [] from by show chs i k l h t k' l' h' t' 2 ++ ch2 i k t k' t' = _; rw [show ch2 i k t k' t' = [] from if_neg (fun q => by have := e2.2 q; simp_all)], List.append_nil]; exact List.Perm.refl _))
    · skip
      try simp only [notT, notF, bneT, bneF, beqT, beqF, decT, decF] at h64
      obtain rfl : j = 3 := by have := h64; omega
      refine At.exitC ?_
      refine At.thenX ?_
      refine At.thenX ?_
      refine At.blkX ?_
      refine At.thenN ?_
      refine At.seq ?_
      refine At.region ?_
      refine At.val (Val.move rfl) rfl rfl rfl ?_
      refine At.val (Val.assign rfl) rfl rfl rfl ?_
      refine At.val (Val.assign rfl) rfl rfl rfl ?_
      refine At.nil ?_
      refine At.thenN ?_
      refine At.retC ?_
      refine At.ret2 (.inl rfl) rfl rfl rfl rfl (fun w hw => ?_)
      exact ⟨v, rfl, hw.drop (List.singleton_sublist.2 (List.mem_of_getElem? (i := 0) rfl))⟩

end Go.Proofs.YtoiebgnmknbkjaaDoor
