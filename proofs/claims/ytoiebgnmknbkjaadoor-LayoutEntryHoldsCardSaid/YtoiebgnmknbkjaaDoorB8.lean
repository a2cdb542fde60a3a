/- What a superblock's line says. -/
import Derived.Test.YtoiebgnmknbkjaaDoorB5
import Derived.Test.YtoiebgnmknbkjaaDoorB7
import Derived.Test.YtoiebgnmknbkjaaDoorPa
set_option linter.unusedVariables false
set_option linter.unusedSimpArgs false
namespace Go.Proofs.YtoiebgnmknbkjaaDoor
open Go Go.Wk

def OkSup (l : List UInt8) : Prop := GoodSup (num l 8 4 : Nat) (num l 12 4 : Nat) (num l 16 4 : Nat) ∧ SupLine l
instance (l : List UInt8) : Decidable (OkSup l) := by unfold OkSup; infer_instance
def openSupV (l : List UInt8) : Value := if OkSup l then .tuple #[.agg #[.int .i64 (num l 8 4 : Nat), .int .i64 (num l 12 4 : Nat), .int .i64 (num l 16 4 : Nat)], .int .i64 0] else .tuple #[.agg #[.int .i64 0, .int .i64 0, .int .i64 0], .int .i64 31]
theorem openSup_yes {l : List UInt8} (h : OkSup l) : openSupV l = .tuple #[.agg #[.int .i64 (num l 8 4 : Nat), .int .i64 (num l 12 4 : Nat), .int .i64 (num l 16 4 : Nat)], .int .i64 0] := if_pos h
theorem openSup_no {l : List UInt8} (h : ¬ OkSup l) : openSupV l = .tuple #[.agg #[.int .i64 0, .int .i64 0, .int .i64 0], .int .i64 31] := if_neg h
theorem num4_i64 (l : List UInt8) (a : Nat) : IntKind.i64.wrap ((num l a 4 : Nat) : Int) = ((num l a 4 : Nat) : Int) := wrap_i64 (by omega) (by have := num_lt (l := l) a 4; omega)

theorem numR_p (l : List UInt8) (a n : Nat) (w : World) (hl : l.length = 64) (hn : a + n ≤ 64) (h8 : n ≤ 8) :
    PureC Tryd.prog 89 [.agg (l.map bv).toArray, .int .i64 (a : Int), .int .i64 (n : Int)] (.int .u64 (num l a n : Nat)) w := by
  refine enter0 Tryd.func89 rfl Tryd.ntmps89 rfl ?_
  simp only [envOf]
  refine At.seq ?_
  refine At.region ?_
  refine At.box rfl rfl rfl (fun b1 => ?_)
  refine At.val (Val.assign rfl) rfl rfl rfl ?_
  refine At.nil ?_
  refine At.thenN ?_
  refine At.seq ?_
  refine At.region ?_
  refine At.val (Val.assign rfl) rfl rfl rfl ?_
  refine At.nil ?_
  refine At.thenN ?_
  refine At.seq ?_
  refine At.seq ?_
  refine At.region ?_
  refine At.val (Val.move rfl) rfl rfl rfl ?_
  refine At.val (Val.bin rfl rfl rfl) rfl rfl rfl ?_
  refine At.val (Val.assign rfl) rfl rfl rfl ?_
  refine At.nil ?_
  refine At.thenN ?_
  refine At.block ?_
  skip
  refine At.loop (σ := Nat) (fun j' => j' ≤ n) (fun j' => [(3, .pointer (some ⟨b1, 0, none⟩)), (1, .int .i64 (a : Int)), (7, .int .u64 (num l (a + j') (n - j') : Nat)), (8, .int .i64 ((j' : Int) - 1))]) (fun j' => [blk b1 30 (l.map bv)]) (fun j' => j') n (Nat.le_refl _) (Sub.cons rfl (Sub.cons rfl (Sub.cons (congrArg (fun z => some (Value.int IntKind.u64 z)) (by rw [Nat.sub_self, num_zero]; rfl)) (Sub.cons (congrArg (fun z => some (Value.int IntKind.i64 z)) (wrap_i64 (by omega) (by omega))) Sub.nil)))) (List.Perm.refl _) ?_
  intro j' hs
  refine At.seq ?_
  refine At.seq ?_
  refine At.region ?_
  refine At.val (Val.move rfl) rfl rfl rfl ?_
  refine At.val (Val.bin rfl rfl rfl) rfl rfl rfl ?_
  refine At.nil ?_
  refine At.thenN ?_
  refine At.cond rfl (fun h2 => ?_) (fun h2 => ?_)
  · skip
    obtain ⟨j, rfl⟩ : ∃ j, j' = j + 1 := ⟨j' - 1, by have := h2; simp at this; omega⟩
    obtain ⟨u, hu⟩ : ∃ u, l[a + j]? = some u := ⟨_, List.getElem?_eq_getElem (by omega)⟩
    have hnum : num l (a + (j + 1)) (n - (j + 1)) * 256 + u.toNat = num l (a + j) (n - j) := by rw [show n - j = (n - (j + 1)) + 1 by omega, num_cons hu]; rfl
    have hlt : num l (a + j) (n - j) < 18446744073709551616 := Nat.lt_of_lt_of_le (num_lt (l := l) (a + j) (n - j)) (by rw [show (18446744073709551616 : Nat) = 256 ^ 8 from rfl]; exact Nat.pow_le_pow_right (by decide) (by omega))
    refine At.skipC ?_
    refine At.thenN ?_
    refine At.seq ?_
    refine At.block ?_
    refine At.region ?_
    refine At.val (Val.move rfl) rfl rfl rfl ?_
    refine At.val (Val.bin rfl rfl rfl) rfl rfl rfl ?_
    rw [wrap_u64 (n := ((num l (a + (j + 1)) (n - (j + 1)) : Nat) : Int) * 256) (by omega) (by omega)]
    refine At.val (Val.move rfl) rfl rfl rfl ?_
    refine At.val (Val.move rfl) rfl rfl rfl ?_
    refine At.val (Val.bin rfl rfl rfl) rfl rfl rfl ?_
    rw [wrap_i64 (n := (a : Int) + (((j + 1 : Nat) : Int) - 1)) (by omega) (by omega)]
    refine At.val (Val.indexArr (a + j) (by omega) Tryd.underlying30 Tryd.sizeOf5 rfl rfl (by omega) (by omega)) rfl rfl rfl ?_
    refine At.val (Val.load (i := 0) (v := bv u) Tryd.isAgg5 rfl rfl (by rw [List.getElem?_map, hu]; rfl)) rfl rfl rfl ?_
    refine At.val (Val.conv Tryd.underlying5 Tryd.underlying40 rfl) rfl rfl rfl ?_
    rw [wrap_u64 (n := (u.toNat : Int)) (by omega) (by have := u.toNat_lt; omega)]
    refine At.val (Val.bin rfl rfl rfl) rfl rfl rfl ?_
    rw [show IntKind.u64.wrap (((num l (a + (j + 1)) (n - (j + 1)) : Nat) : Int) * 256 + (u.toNat : Int)) = ((num l (a + j) (n - j) : Nat) : Int) from by rw [wrap_u64 (by omega) (by omega)]; omega]
    refine At.val (Val.assign rfl) rfl rfl rfl ?_
    refine At.nil ?_
    refine At.blkN ?_
    refine At.thenN ?_
    refine At.region ?_
    refine At.val (Val.move rfl) rfl rfl rfl ?_
    refine At.val (Val.bin rfl rfl rfl) rfl rfl rfl ?_
    refine At.val (Val.assign rfl) rfl rfl rfl ?_
    refine At.nil ?_
    refine At.thenN ?_
    exact At.again j (by omega) (by omega) (Sub.cons rfl (Sub.cons rfl (Sub.cons rfl (Sub.cons (congrArg (fun z => some (Value.int IntKind.i64 z)) (by rw [wrap_i64 (by omega) (by omega)]; omega)) Sub.nil)))) (List.Perm.refl _)
  · skip
    have hj0 : j' = 0 := by have := h2; simp at this; omega
    subst hj0
    refine At.exitC ?_
    refine At.thenX ?_
    refine At.thenX ?_
    refine At.blkX ?_
    refine At.thenN ?_
    refine At.seq ?_
    refine At.region ?_
    refine At.val (Val.move rfl) rfl rfl rfl ?_
    refine At.val (Val.assign rfl) rfl rfl rfl ?_
    refine At.nil ?_
    refine At.thenN ?_
    refine At.retC ?_
    refine At.ret1 (.inl rfl) rfl rfl rfl (fun w hw => ?_)
    exact ⟨rfl, hw.mod⟩

theorem openSup_p (l : List UInt8) (w : World) (ht : Tab w) (hl : l.length = 64) :
    PureC Tryd.prog 26 [.agg (l.map bv).toArray] (openSupV l) w := by
  refine enterD0 Tryd.func26 rfl Tryd.ntmps26 rfl ?_
  have hline := supLine_iff hl
  simp only [envOf]
  refine At.seq ?_
  refine At.region ?_
  refine At.box rfl rfl rfl (fun b1 => ?_)
  refine At.alloc Tryd.zeroValue23 rfl rfl (fun b2 => ?_)
  refine At.alloc Tryd.zeroValue26 rfl rfl (fun b3 => ?_)
  refine At.nil ?_
  refine At.thenN ?_
  refine At.seq ?_
  refine At.region ?_
  refine At.defer rfl ?_
  refine At.nil ?_
  refine At.thenN ?_
  refine At.seq ?_
  refine At.region ?_
  refine At.val (Val.loadAll (i := 2) Tryd.isAgg30 Tryd.sizeOf30 rfl rfl (by rw [List.length_map]; exact hl)) rfl rfl rfl ?_
  refine At.callP (fun w hw => whole_p _ w hl (ht.mod hw.mod)) Tryd.call85 rfl rfl ?_
  refine At.split (t := 8) rfl (fun h4 => ?_) (fun h4 => ?_)
  · skip
    have hwhole := h4
    refine At.callP (fun w hw => must_T _ w) Tryd.call84 rfl rfl ?_
    refine At.nil ?_
    refine At.thenN ?_
    refine At.seq ?_
    refine At.region ?_
    refine At.val (Val.cutArr 0 64 0 l.length 64 Tryd.underlying30 Tryd.sizeOf5 rfl rfl rfl (by decide) (by decide) rfl (by omega) rfl) rfl rfl rfl ?_
    refine At.val (Val.build (fun a ha => by simp only [List.map_toArray, List.map_cons, List.map_nil, ha.eval (x := (.tmp 10)) rfl] <;> rfl) (bld_139_0 _ _ _ )) rfl rfl rfl ?_
    refine At.alloc Tryd.zeroValue139 rfl rfl (fun b5 => ?_)
    refine At.storeAll (i := 0) Tryd.sizeOf139 rfl rfl rfl (by simp [Value.oneCell']) rfl rfl ?_
    simp only [List.set_cons_zero, List.set_cons_succ]
    refine At.nil ?_
    rw [show ([Value.slice (some ⟨b1, 0, none⟩) l.length 64, Value.int IntKind.i64 0] : List Value) = eyeC b1 0 l.length 64 0 from rfl]
    refine At.thenN ?_
    refine At.seq ?_
    refine At.region ?_
    by_cases hq : (l.drop 0).take 8 = mark1
    · skip
      have hmark := hq
      refine At.call1 0 rfl (fun w hw hr => eyeText_T _ b1 0 64 0 l ⟨#[70, 85, 82, 82, 79, 87, 48, 49]⟩ 31 w hr (hw.blk (i := 3) rfl).bytes' (hw.apart 3 0 rfl rfl (by decide)) (by omega) (by omega) (by rw [hl]; decide) hq) Tryd.call86 rfl rfl ?_
      simp only [List.set_cons_zero, List.set_cons_succ]
      refine At.nil ?_
      skip
      refine At.thenN ?_
      refine At.seq ?_
      refine At.region ?_
      refine At.call1 0 rfl (fun w hw hr => eyeHalf_p _ b1 0 64 8 l w hr (hw.blk (i := 3) rfl).bytes' (hw.apart 3 0 rfl rfl (by decide)) (by omega) (by omega) (by omega)) Tryd.call87 rfl rfl ?_
      simp only [List.set_cons_zero, List.set_cons_succ]
      refine At.call1 0 rfl (fun w hw hr => eyeHalf_p _ b1 0 64 12 l w hr (hw.blk (i := 3) rfl).bytes' (hw.apart 3 0 rfl rfl (by decide)) (by omega) (by omega) (by omega)) Tryd.call87 rfl rfl ?_
      simp only [List.set_cons_zero, List.set_cons_succ]
      refine At.call1 0 rfl (fun w hw hr => eyeHalf_p _ b1 0 64 16 l w hr (hw.blk (i := 3) rfl).bytes' (hw.apart 3 0 rfl rfl (by decide)) (by omega) (by omega) (by omega)) Tryd.call87 rfl rfl ?_
      simp only [List.set_cons_zero, List.set_cons_succ]
      refine At.val (Val.build (fun a ha => by simp only [List.map_toArray, List.map_cons, List.map_nil, ha.eval (x := (.tmp 13)) rfl, ha.eval (x := (.tmp 14)) rfl, ha.eval (x := (.tmp 15)) rfl] <;> rfl) (bld_23_0_1_2 _ _ _ )) rfl rfl rfl ?_
      refine At.storeAll (i := 2) Tryd.sizeOf23 rfl rfl rfl (by simp [Value.oneCell']) rfl rfl ?_
      simp only [List.set_cons_zero, List.set_cons_succ]
      refine At.nil ?_
      refine At.thenN ?_
      refine At.seq ?_
      refine At.region ?_
      by_cases hq : allZero ((l.drop 20).take 40)
      · skip
        have hzero := hq
        refine At.call1 0 rfl (fun w hw hr => eyeZeros_T _ b1 0 64 20 40 l 31 w hr (hw.blk (i := 3) rfl).bytes' (hw.apart 3 0 rfl rfl (by decide)) (by omega) (by omega) (by rw [hl]; decide) hq) Tryd.call88 rfl rfl ?_
        simp only [List.set_cons_zero, List.set_cons_succ]
        refine At.nil ?_
        refine At.thenN ?_
        refine At.seq ?_
        refine At.region ?_
        refine At.val (Val.loadAll (i := 2) Tryd.isAgg23 Tryd.sizeOf23 rfl rfl rfl) rfl rfl rfl ?_
        refine At.callP (fun w hw => fit_p _ _ _ w) Tryd.call20 rfl rfl ?_
        by_cases hg : GoodSup (num l 8 4 : Nat) (num l 12 4 : Nat) (num l 16 4 : Nat)
        · skip
          rw [fit_yes hg]
          refine At.val (Val.move rfl) rfl rfl rfl ?_
          refine At.val (Val.extract rfl rfl) rfl rfl rfl ?_
          refine At.val (Val.extract rfl rfl) rfl rfl rfl ?_
          refine At.alloc Tryd.zeroValue25 rfl rfl (fun b6 => ?_)
          refine At.storeAll (i := 0) Tryd.sizeOf25 rfl rfl rfl (by simp [Value.oneCell']) rfl rfl ?_
          simp only [List.set_cons_zero, List.set_cons_succ]
          refine At.val (Val.assign rfl) rfl rfl rfl ?_
          refine At.nil ?_
          refine At.thenN ?_
          refine At.seq ?_
          refine At.region ?_
          refine At.val (Val.move rfl) rfl rfl rfl ?_
          refine At.val (Val.bin rfl rfl rfl) rfl rfl rfl ?_
          refine At.callP (fun w hw => must_T _ w) Tryd.call84 rfl rfl ?_
          refine At.nil ?_
          refine At.thenN ?_
          refine At.seq ?_
          refine At.region ?_
          refine At.val (Val.loadAll (i := 3) Tryd.isAgg23 Tryd.sizeOf23 rfl rfl rfl) rfl rfl rfl ?_
          refine At.storeAll (i := 3) Tryd.sizeOf23 rfl rfl rfl (by simp [Value.oneCell']) rfl rfl ?_
          simp only [List.set_cons_zero, List.set_cons_succ]
          refine At.store (i := 2) Tryd.sizeOf26 rfl rfl rfl rfl (by first | decide | simp) ?_
          simp only [List.set_cons_zero, List.set_cons_succ]
          refine At.nil ?_
          refine At.thenN ?_
          refine At.retC ?_
          refine At.leaveN (.inl rfl) rfl Tryd.call83 (fun w hw => caughtSuper_idle _ _ w) rfl (ResOf.all (i := 3) Tryd.isAgg23 Tryd.sizeOf23 rfl rfl rfl) (ResOf.one (i := 2) Tryd.isAgg26 rfl rfl rfl) (fun w hw => ?_)
          exact ⟨by rw [openSup_yes ⟨hg, hline.2 ⟨hwhole, hmark, hzero⟩⟩], hw.mod⟩
        · skip
          rw [fit_no hg]
          have hno : ¬ OkSup l := fun h => hg h.1
          refine At.val (Val.move rfl) rfl rfl rfl ?_
          refine At.val (Val.extract rfl rfl) rfl rfl rfl ?_
          refine At.val (Val.extract rfl rfl) rfl rfl rfl ?_
          refine At.alloc Tryd.zeroValue25 rfl rfl (fun b7 => ?_)
          refine At.storeAll (i := 0) Tryd.sizeOf25 rfl rfl rfl (by simp [Value.oneCell']) rfl rfl ?_
          simp only [List.set_cons_zero, List.set_cons_succ]
          refine At.val (Val.assign rfl) rfl rfl rfl ?_
          refine At.nil ?_
          refine At.thenN ?_
          refine At.seq ?_
          refine At.region ?_
          refine At.val (Val.move rfl) rfl rfl rfl ?_
          refine At.val (Val.bin rfl rfl rfl) rfl rfl rfl ?_
          refine At.callT0 (fun w hw => must_F _ w) Tryd.call84 rfl ?_
          refine At.thenE ?_
          refine At.leaveP rfl Tryd.call83 ((erase_perm _ 3 _ rfl).trans (List.Perm.cons _ (erase_perm _ 2 _ rfl))) (fun w hw => caughtSuper_pan _ _ _ _ _ w (hw.blk (i := 0) rfl) rfl (hw.blk (i := 1) rfl) hw.ne01) rfl (ResOf.all (i := 0) Tryd.isAgg23 Tryd.sizeOf23 rfl rfl rfl) (ResOf.one (i := 1) Tryd.isAgg26 rfl rfl rfl) (fun w hw => ?_)
          exact ⟨by rw [openSup_no hno], hw.mod⟩
      · skip
        have hno : ¬ OkSup l := fun h => hq (hline.1 h.2).2.2
        refine At.callT1 0 rfl (fun w hw hr => eyeZeros_F _ b1 0 64 20 40 l 31 w hr (hw.blk (i := 3) rfl).bytes' (hw.apart 3 0 rfl rfl (by decide)) (by omega) (by omega) (by rw [hl]; decide) hq) Tryd.call88 rfl ?_
        simp only [List.eraseIdx_cons_zero, List.eraseIdx_cons_succ]
        refine At.thenE ?_
        refine At.leaveP rfl Tryd.call83 ((erase_perm _ 1 _ rfl).trans (List.Perm.cons _ (erase_perm _ 0 _ rfl))) (fun w hw => caughtSuper_pan _ _ _ _ _ w (hw.blk (i := 0) rfl) rfl (hw.blk (i := 1) rfl) hw.ne01) rfl (ResOf.all (i := 0) Tryd.isAgg23 Tryd.sizeOf23 rfl rfl rfl) (ResOf.one (i := 1) Tryd.isAgg26 rfl rfl rfl) (fun w hw => ?_)
        exact ⟨by rw [openSup_no hno], hw.mod⟩
    · skip
      have hno : ¬ OkSup l := fun h => hq (hline.1 h.2).2.1
      refine At.callT1 0 rfl (fun w hw hr => eyeText_F _ b1 0 64 0 l ⟨#[70, 85, 82, 82, 79, 87, 48, 49]⟩ 31 w hr (hw.blk (i := 3) rfl).bytes' (hw.apart 3 0 rfl rfl (by decide)) (by omega) (by omega) (by rw [hl]; decide) hq) Tryd.call86 rfl ?_
      simp only [List.eraseIdx_cons_zero, List.eraseIdx_cons_succ]
      refine At.thenE ?_
      refine At.leaveP rfl Tryd.call83 ((erase_perm _ 1 _ rfl).trans (List.Perm.cons _ (erase_perm _ 0 _ rfl))) (fun w hw => caughtSuper_pan _ _ _ _ _ w (hw.blk (i := 0) rfl) rfl (hw.blk (i := 1) rfl) hw.ne01) rfl (ResOf.all (i := 0) Tryd.isAgg23 Tryd.sizeOf23 rfl rfl rfl) (ResOf.one (i := 1) Tryd.isAgg26 rfl rfl rfl) (fun w hw => ?_)
      exact ⟨by rw [openSup_no hno], hw.mod⟩
  · skip
    have hno : ¬ OkSup l := fun h => by have h1 := (hline.1 h.2).1; rw [h4] at h1; cases h1
    refine At.callT0 (fun w hw => must_F _ w) Tryd.call84 rfl ?_
    refine At.thenE ?_
    refine At.leaveP rfl Tryd.call83 ((erase_perm _ 1 _ rfl).trans (List.Perm.cons _ (erase_perm _ 0 _ rfl))) (fun w hw => caughtSuper_pan _ _ _ _ _ w (hw.blk (i := 0) rfl) rfl (hw.blk (i := 1) rfl) hw.ne01) rfl (ResOf.all (i := 0) Tryd.isAgg23 Tryd.sizeOf23 rfl rfl rfl) (ResOf.one (i := 1) Tryd.isAgg26 rfl rfl rfl) (fun w hw => ?_)
    exact ⟨by rw [openSup_no hno], hw.mod⟩

theorem openSupR_p (l : List UInt8) (w : World) (hl : l.length = 64) :
    PureC Tryd.prog 27 [.agg (l.map bv).toArray] (openSupV l) w := by
  refine enter0 Tryd.func27 rfl Tryd.ntmps27 rfl ?_
  have hp : -9223372036854775808 ≤ ((num l 8 4 : Nat) : Int) ∧ ((num l 8 4 : Nat) : Int) ≤ 9223372036854775807 := by have := num_lt (l := l) 8 4; omega
  simp only [envOf]
  refine At.seq ?_
  refine At.region ?_
  refine At.box rfl rfl rfl (fun b1 => ?_)
  refine At.alloc Tryd.zeroValue23 rfl rfl (fun b2 => ?_)
  refine At.val (Val.assign rfl) rfl rfl rfl ?_
  refine At.nil ?_
  refine At.thenN ?_
  refine At.seq ?_
  refine At.region ?_
  refine At.val (Val.loadAll (i := 1) Tryd.isAgg30 Tryd.sizeOf30 rfl rfl (by rw [List.length_map]; exact hl)) rfl rfl rfl ?_
  refine At.callP (fun w hw => numR_p l 8 4 w hl (by decide) (by decide)) Tryd.call89 rfl rfl ?_
  refine At.val (Val.assign rfl) rfl rfl rfl ?_
  refine At.nil ?_
  refine At.thenN ?_
  refine At.seq ?_
  refine At.region ?_
  refine At.val (Val.loadAll (i := 1) Tryd.isAgg30 Tryd.sizeOf30 rfl rfl (by rw [List.length_map]; exact hl)) rfl rfl rfl ?_
  refine At.callP (fun w hw => numR_p l 12 4 w hl (by decide) (by decide)) Tryd.call89 rfl rfl ?_
  refine At.val (Val.assign rfl) rfl rfl rfl ?_
  refine At.nil ?_
  refine At.thenN ?_
  refine At.seq ?_
  refine At.region ?_
  refine At.val (Val.loadAll (i := 1) Tryd.isAgg30 Tryd.sizeOf30 rfl rfl (by rw [List.length_map]; exact hl)) rfl rfl rfl ?_
  refine At.callP (fun w hw => numR_p l 16 4 w hl (by decide) (by decide)) Tryd.call89 rfl rfl ?_
  refine At.val (Val.assign rfl) rfl rfl rfl ?_
  refine At.nil ?_
  refine At.thenN ?_
  refine At.seq ?_
  refine At.region ?_
  refine At.val (Val.move rfl) rfl rfl rfl ?_
  refine At.val (Val.conv Tryd.underlying40 Tryd.underlying3 rfl) rfl rfl rfl ?_
  rw [num4_i64 l 8]
  refine At.val (Val.move rfl) rfl rfl rfl ?_
  refine At.val (Val.conv Tryd.underlying40 Tryd.underlying3 rfl) rfl rfl rfl ?_
  rw [num4_i64 l 12]
  refine At.val (Val.move rfl) rfl rfl rfl ?_
  refine At.val (Val.conv Tryd.underlying40 Tryd.underlying3 rfl) rfl rfl rfl ?_
  rw [num4_i64 l 16]
  refine At.val (Val.build (fun a ha => by simp only [List.map_toArray, List.map_cons, List.map_nil, ha.eval (x := (.tmp 17)) rfl, ha.eval (x := (.tmp 19)) rfl, ha.eval (x := (.tmp 21)) rfl] <;> rfl) (bld_23_0_1_2 _ _ _ )) rfl rfl rfl ?_
  refine At.alloc Tryd.zeroValue23 rfl rfl (fun b3 => ?_)
  refine At.storeAll (i := 0) Tryd.sizeOf23 rfl rfl rfl (by simp [Value.oneCell']) rfl rfl ?_
  simp only [List.set_cons_zero, List.set_cons_succ]
  refine At.nil ?_
  refine At.thenN ?_
  refine At.seq ?_
  refine At.region ?_
  refine At.val (Val.loadAll (i := 0) Tryd.isAgg23 Tryd.sizeOf23 rfl rfl rfl) rfl rfl rfl ?_
  refine At.callP (fun w hw => packSupR_p _ _ _ w hp) Tryd.call23 rfl rfl ?_
  by_cases hg : GoodSup (num l 8 4 : Nat) (num l 12 4 : Nat) (num l 16 4 : Nat)
  · skip
    rw [packSup_yes hg]
    refine At.val (Val.move rfl) rfl rfl rfl ?_
    refine At.val (Val.extract rfl rfl) rfl rfl rfl ?_
    refine At.val (Val.extract rfl rfl) rfl rfl rfl ?_
    refine At.alloc zero_30 zc_30 rfl (fun b4 => ?_)
    refine At.storeAll (i := 0) Tryd.sizeOf30 rfl rfl (by rw [List.length_map]; exact lineL_length (by rw [superB_length]; decide)) (by simp [Value.oneCell']) rfl (by simp) ?_
    simp only [List.set_cons_zero, List.set_cons_succ]
    refine At.val (Val.assign rfl) rfl rfl rfl ?_
    refine At.nil ?_
    refine At.thenN ?_
    refine At.seq ?_
    refine At.seq ?_
    refine At.region ?_
    refine At.val (Val.move rfl) rfl rfl rfl ?_
    refine At.val (Val.bin rfl rfl rfl) rfl rfl rfl ?_
    refine At.val (Val.move rfl) rfl rfl rfl ?_
    refine At.yes rfl rfl ?_
    refine At.val (Val.loadAll (i := 0) Tryd.isAgg30 Tryd.sizeOf30 rfl rfl (by rw [List.length_map]; exact lineL_length (by rw [superB_length]; decide))) rfl rfl rfl ?_
    refine At.yes rfl rfl ?_
    refine At.val (Val.loadAll (i := 3) Tryd.isAgg30 Tryd.sizeOf30 rfl rfl (by rw [List.length_map]; exact hl)) rfl rfl rfl ?_
    refine At.yes rfl rfl ?_
    refine At.val (Val.neAgg Tryd.eqGuardType30 (fun w => run_equal_bytes Tryd.underlying30 Tryd.underlying5 Tryd.isAgg5 Tryd.sizeOf5 _ _ (lineL_length (by rw [superB_length]; decide)) hl w) rfl rfl) rfl rfl rfl ?_
    refine At.val (Val.pickF rfl rfl) rfl rfl rfl ?_
    refine At.nil ?_
    refine At.thenN ?_
    refine At.cond rfl (fun h5 => ?_) (fun h5 => ?_)
    · skip
      refine At.seq ?_
      refine At.region ?_
      refine At.val (Val.build (fun a ha => by simp only [List.map_toArray, List.map_cons, List.map_nil] <;> rfl) (bld_23_)) rfl rfl rfl ?_
      refine At.storeAll (i := 2) Tryd.sizeOf23 rfl rfl rfl (by simp [Value.oneCell']) rfl rfl ?_
      simp only [List.set_cons_zero, List.set_cons_succ]
      refine At.val (Val.assign rfl) rfl rfl rfl ?_
      refine At.nil ?_
      refine At.thenN ?_
      refine At.retC ?_
      refine At.thenR ?_
      refine At.ret2 (.inl rfl) rfl rfl (ResOf.all (i := 2) Tryd.isAgg23 Tryd.sizeOf23 rfl rfl rfl) rfl (fun w hw => ?_)
      exact ⟨by rw [openSup_no (fun h => by have h2 := h.2; unfold SupLine at h2; simp only [Int.toNat_natCast] at *; simp_all)], hw.mod⟩
    · skip
      refine At.skipC ?_
      refine At.thenN ?_
      refine At.seq ?_
      refine At.region ?_
      refine At.val (Val.loadAll (i := 1) Tryd.isAgg23 Tryd.sizeOf23 rfl rfl rfl) rfl rfl rfl ?_
      refine At.storeAll (i := 2) Tryd.sizeOf23 rfl rfl rfl (by simp [Value.oneCell']) rfl rfl ?_
      simp only [List.set_cons_zero, List.set_cons_succ]
      refine At.val (Val.assign rfl) rfl rfl rfl ?_
      refine At.nil ?_
      refine At.thenN ?_
      refine At.retC ?_
      refine At.ret2 (.inl rfl) rfl rfl (ResOf.all (i := 2) Tryd.isAgg23 Tryd.sizeOf23 rfl rfl rfl) rfl (fun w hw => ?_)
      exact ⟨by rw [openSup_yes ⟨hg, by unfold SupLine; simp only [Int.toNat_natCast] at *; simp_all⟩], hw.mod⟩
  · skip
    rw [packSup_no hg]
    have hno : ¬ OkSup l := fun h => hg h.1
    refine At.val (Val.move rfl) rfl rfl rfl ?_
    refine At.val (Val.extract rfl rfl) rfl rfl rfl ?_
    refine At.val (Val.extract rfl rfl) rfl rfl rfl ?_
    refine At.alloc zero_30 zc_30 rfl (fun b6 => ?_)
    refine At.storeAll (i := 0) Tryd.sizeOf30 rfl rfl (by simp [zs]) (by simp [Value.oneCell']) rfl (by simp) ?_
    simp only [List.set_cons_zero, List.set_cons_succ]
    refine At.val (Val.assign rfl) rfl rfl rfl ?_
    refine At.nil ?_
    refine At.thenN ?_
    refine At.seq ?_
    refine At.seq ?_
    refine At.region ?_
    refine At.val (Val.move rfl) rfl rfl rfl ?_
    refine At.val (Val.bin rfl rfl rfl) rfl rfl rfl ?_
    refine At.val (Val.move rfl) rfl rfl rfl ?_
    refine At.no rfl rfl rfl rfl ?_
    refine At.no rfl rfl rfl rfl ?_
    refine At.no rfl rfl rfl rfl ?_
    refine At.val (Val.pickT rfl rfl) rfl rfl rfl ?_
    refine At.nil ?_
    refine At.thenN ?_
    refine At.condT rfl ?_
    refine At.seq ?_
    refine At.region ?_
    refine At.val (Val.build (fun a ha => by simp only [List.map_toArray, List.map_cons, List.map_nil] <;> rfl) (bld_23_)) rfl rfl rfl ?_
    refine At.storeAll (i := 2) Tryd.sizeOf23 rfl rfl rfl (by simp [Value.oneCell']) rfl rfl ?_
    simp only [List.set_cons_zero, List.set_cons_succ]
    refine At.val (Val.assign rfl) rfl rfl rfl ?_
    refine At.nil ?_
    refine At.thenN ?_
    refine At.retC ?_
    refine At.thenR ?_
    refine At.ret2 (.inl rfl) rfl rfl (ResOf.all (i := 2) Tryd.isAgg23 Tryd.sizeOf23 rfl rfl rfl) rfl (fun w hw => ?_)
    exact ⟨by rw [openSup_no hno], hw.mod⟩

end Go.Proofs.YtoiebgnmknbkjaaDoor
