/- LayoutSlotHolds, walked. -/
import Derived.Test.YtoiebgnmknbkjaaDoorB22
import Derived.Test.YtoiebgnmknbkjaaDoorB14
set_option linter.unusedVariables false
set_option linter.unusedSimpArgs false
namespace Go.Proofs.YtoiebgnmknbkjaaDoor
open Go Go.Wk

theorem slotW_cells (i k l h t : Int) : (.agg ((slotW i k l h t).map b64).toArray : Value) = .agg #[b64 (sealW (BitVec.ofInt 64 (slotAt i)) (BitVec.ofInt 32 (k + 256 * l))), b64 (sealW (BitVec.ofInt 64 (slotAt i + 8)) (BitVec.ofInt 32 h)), b64 (sealW (BitVec.ofInt 64 (slotAt i + 16)) (BitVec.ofInt 32 t))] := rfl
theorem slotW_zero (i : Int) : (.agg ((slotW i 0 0 0 0).map b64).toArray : Value) = .agg #[.int .u64 0, .int .u64 0, .int .u64 0] := by
  rw [slotW_cells, seal_zero (by decide), seal_zero (by decide), seal_zero (by decide)]; rfl
theorem lo_seal (a : BitVec 64) {n : Int} (h0 : 0 ≤ n) (h1 : n < 4294967296) : (lo (sealW a (BitVec.ofInt 32 n)) : Int) = n := by
  unfold lo; rw [seal_low]; exact ofInt_val h0 h1
theorem Sl_seal (a : Int) (v : BitVec 32) : Sl a (sealW (BitVec.ofInt 64 a) v) := by unfold Sl; rw [seal_low]
theorem slot_ok {i k l h t : Int} (hi : 1 ≤ i ∧ i ≤ 256) (g : GoodU k l h t) {x y z : BitVec 64} (ex : x = sealW (BitVec.ofInt 64 (slotAt i)) (BitVec.ofInt 32 (k + 256 * l))) (ey : y = sealW (BitVec.ofInt 64 (slotAt i + 8)) (BitVec.ofInt 32 h)) (ez : z = sealW (BitVec.ofInt 64 (slotAt i + 16)) (BitVec.ofInt 32 t)) :
    OkSl i x y z ∧ slotOf x y z = .agg #[.int .i64 k, .int .i64 l, .int .i64 h, .int .i64 t] ∧ ¬ lo x = 0 ∧ x ≠ 0 ∧ (lo z = 0 → y = 0) ∧ Sl (slotAt i) x ∧ Sl (slotAt i + 8) y ∧ Sl (slotAt i + 16) z := by
  have g' := g
  unfold GoodU GoodT at g'
  have lx : (lo x : Int) = k + 256 * l := by rw [ex]; exact lo_seal _ (by omega) (by omega)
  have ly : (lo y : Int) = h := by rw [ey]; exact lo_seal _ (by omega) (by omega)
  have lz : (lo z : Int) = t := by rw [ez]; exact lo_seal _ (by omega) (by omega)
  have s0 : Sl (slotAt i) x := by rw [ex]; exact Sl_seal _ _
  have s1 : Sl (slotAt i + 8) y := by rw [ey]; exact Sl_seal _ _
  have s2 : Sl (slotAt i + 16) z := by rw [ez]; exact Sl_seal _ _
  have hx : ¬ lo x = 0 := by omega
  have hd : (hdOf y z : Int) = h := by
    by_cases h0 : lo z = 0
    · rw [hdOf_0 h0]; omega
    · rw [hdOf_1 h0]; exact ly
  have e1 : ((lo x % 256 : Nat) : Int) = k := by omega
  have e2 : ((lo x / 256 : Nat) : Int) = l := by omega
  refine ⟨⟨ino_T.2 hi, s0, .inr ⟨s2, .inr s1, by rw [e1, e2, hd, lz]; exact g⟩⟩, by rw [slotOf_1 hx, e1, e2, hd, lz], hx, fun e => hx (by rw [e]; rfl), fun h0 => ?_, s0, s1, s2⟩
  have : h = 0 := by omega
  rw [ey, this]; exact seal_zero rfl
theorem slot_free {i : Int} (hi : 1 ≤ i ∧ i ≤ 256) (y z : BitVec 64) : OkSl i 0 y z ∧ slotOf 0 y z = .agg #[.int .i64 0, .int .i64 0, .int .i64 0, .int .i64 0] :=
  ⟨⟨ino_T.2 hi, by unfold Sl; exact seal_zero rfl, .inl rfl⟩, slotOf_0 rfl⟩

theorem slot_p (k l h p q : Int) (e : Bool) (w : World) :
    PureC Tryd.prog 50 [.int .i64 k, .int .i64 l, .int .i64 h, .int .i64 p, .int .i64 q, .bool e] (.agg #[.int .i64 (slK k), .int .i64 (slL k l), .int .i64 (slH h e), .int .i64 (slT p q e)]) w := by
  refine enter0 Tryd.func50 rfl Tryd.ntmps50 rfl ?_
  have hK : slK k = 1 + k % 2 := rfl
  simp only [envOf]
  refine At.seq ?_
  refine At.region ?_
  refine At.alloc Tryd.zeroValue65 rfl rfl (fun b1 => ?_)
  refine At.nil ?_
  refine At.thenN ?_
  refine At.seq ?_
  refine At.region ?_
  refine At.val (Val.move rfl) rfl rfl rfl ?_
  refine At.callP (fun w hw => mod_p _ _ w (by omega) (by omega)) Tryd.call32 rfl rfl ?_
  first | refine At.val (Val.addI rfl rfl (by omega) (by omega)) rfl rfl rfl ?_ | refine At.val (Val.bin rfl rfl rfl) rfl rfl rfl ?_
  refine At.val (Val.build (fun a ha => by simp only [List.map_toArray, List.map_cons, List.map_nil, ha.eval (x := (.tmp 16)) rfl, ha.eval (x := (.const (.int .i64 (1)))) rfl] <;> rfl) (bld_65_0_1 _ _ )) rfl rfl rfl ?_
  refine At.alloc Tryd.zeroValue65 rfl rfl (fun b2 => ?_)
  refine At.storeAll (i := 0) Tryd.sizeOf65 rfl rfl rfl (by simp [Value.oneCell']) rfl rfl ?_
  simp only [List.set_cons_zero, List.set_cons_succ]
  refine At.nil ?_
  rw [← hK]
  refine At.thenN ?_
  refine At.seq ?_
  refine At.seq ?_
  refine At.region ?_
  refine At.val (Val.field 0 rfl fo_65_0 rfl) rfl rfl rfl ?_
  refine At.val (Val.load (i := 0) Tryd.isAgg3 rfl rfl rfl) rfl rfl rfl ?_
  refine At.val (Val.bin rfl rfl rfl) rfl rfl rfl ?_
  refine At.nil ?_
  refine At.thenN ?_
  refine At.cond rfl (fun h3 => ?_) (fun h3 => ?_)
  · skip
    try simp only [vN_T, vN_F, nmE_T, nmE_F, wI_T, wI_F, data_T, data_F, ino_T, ino_F, notT, notF, bneT, bneF, beqT, beqF, decT, decF] at h3
    have hL : slL k l = 1 + l % 100 := if_pos h3
    refine At.region ?_
    refine At.val (Val.move rfl) rfl rfl rfl ?_
    refine At.callP (fun w hw => mod_p _ _ w (by omega) (by omega)) Tryd.call32 rfl rfl ?_
    first | refine At.val (Val.addI rfl rfl (by omega) (by omega)) rfl rfl rfl ?_ | refine At.val (Val.bin rfl rfl rfl) rfl rfl rfl ?_
    refine At.val (Val.field 1 rfl fo_65_1 rfl) rfl rfl rfl ?_
    refine At.store (i := 0) Tryd.sizeOf3 rfl rfl rfl rfl (by first | decide | simp) ?_
    simp only [List.set_cons_zero, List.set_cons_succ]
    refine At.nil ?_
    refine At.thenN ?_
    refine At.seq ?_
    refine At.seq ?_
    refine At.region ?_
    refine At.val (Val.move rfl) rfl rfl rfl ?_
    refine At.val (Val.not rfl) rfl rfl rfl ?_
    refine At.nil ?_
    refine At.thenN ?_
    refine At.cond rfl (fun h4 => ?_) (fun h4 => ?_)
    · skip
      try simp only [vN_T, vN_F, nmE_T, nmE_F, wI_T, wI_F, data_T, data_F, ino_T, ino_F, notT, notF, bneT, bneF, beqT, beqF, decT, decF] at h4
      have he : e = false := h4
      refine At.seq ?_
      refine At.region ?_
      refine At.val (Val.move rfl) rfl rfl rfl ?_
      refine At.callP (fun w hw => mod_p _ _ w (by omega) (by omega)) Tryd.call32 rfl rfl ?_
      first | refine At.val (Val.addI rfl rfl (by omega) (by omega)) rfl rfl rfl ?_ | refine At.val (Val.bin rfl rfl rfl) rfl rfl rfl ?_
      refine At.val (Val.field 2 rfl fo_65_2 rfl) rfl rfl rfl ?_
      refine At.store (i := 0) Tryd.sizeOf3 rfl rfl rfl rfl (by first | decide | simp) ?_
      simp only [List.set_cons_zero, List.set_cons_succ]
      refine At.nil ?_
      refine At.thenN ?_
      refine At.region ?_
      refine At.val (Val.move rfl) rfl rfl rfl ?_
      refine At.callP (fun w hw => mod_p _ _ w (by omega) (by omega)) Tryd.call32 rfl rfl ?_
      first | refine At.val (Val.addI rfl rfl (by omega) (by omega)) rfl rfl rfl ?_ | refine At.val (Val.bin rfl rfl rfl) rfl rfl rfl ?_
      first | refine At.val (Val.mulI rfl rfl (by omega) (by omega)) rfl rfl rfl ?_ | refine At.val (Val.bin rfl rfl rfl) rfl rfl rfl ?_
      first | refine At.val (Val.addI rfl rfl (by omega) (by omega)) rfl rfl rfl ?_ | refine At.val (Val.bin rfl rfl rfl) rfl rfl rfl ?_
      refine At.val (Val.move rfl) rfl rfl rfl ?_
      refine At.callP (fun w hw => mod_p _ _ w (by omega) (by omega)) Tryd.call32 rfl rfl ?_
      first | refine At.val (Val.mulI rfl rfl (by omega) (by omega)) rfl rfl rfl ?_ | refine At.val (Val.bin rfl rfl rfl) rfl rfl rfl ?_
      first | refine At.val (Val.addI rfl rfl (by omega) (by omega)) rfl rfl rfl ?_ | refine At.val (Val.bin rfl rfl rfl) rfl rfl rfl ?_
      refine At.val (Val.field 3 rfl fo_65_3 rfl) rfl rfl rfl ?_
      refine At.store (i := 0) Tryd.sizeOf3 rfl rfl rfl rfl (by first | decide | simp) ?_
      simp only [List.set_cons_zero, List.set_cons_succ]
      refine At.nil ?_
      refine At.thenN ?_
      refine At.seq ?_
      refine At.region ?_
      refine At.val (Val.loadAll (i := 0) Tryd.isAgg65 Tryd.sizeOf65 rfl rfl rfl) rfl rfl rfl ?_
      refine At.storeAll (i := 1) Tryd.sizeOf65 rfl rfl rfl (by simp [Value.oneCell']) rfl rfl ?_
      simp only [List.set_cons_zero, List.set_cons_succ]
      refine At.nil ?_
      refine At.thenN ?_
      refine At.retC ?_
      refine At.ret1 (.inl rfl) rfl rfl (ResOf.all (i := 1) Tryd.isAgg65 Tryd.sizeOf65 rfl rfl rfl) (fun w hw => ?_)
      exact ⟨by rw [hL, he]; rfl, hw.mod⟩
    · skip
      try simp only [vN_T, vN_F, nmE_T, nmE_F, wI_T, wI_F, data_T, data_F, ino_T, ino_F, notT, notF, bneT, bneF, beqT, beqF, decT, decF] at h4
      have he : e = true := h4
      refine At.skipC ?_
      refine At.thenN ?_
      refine At.seq ?_
      refine At.region ?_
      refine At.val (Val.loadAll (i := 0) Tryd.isAgg65 Tryd.sizeOf65 rfl rfl rfl) rfl rfl rfl ?_
      refine At.storeAll (i := 1) Tryd.sizeOf65 rfl rfl rfl (by simp [Value.oneCell']) rfl rfl ?_
      simp only [List.set_cons_zero, List.set_cons_succ]
      refine At.nil ?_
      refine At.thenN ?_
      refine At.retC ?_
      refine At.ret1 (.inl rfl) rfl rfl (ResOf.all (i := 1) Tryd.isAgg65 Tryd.sizeOf65 rfl rfl rfl) (fun w hw => ?_)
      exact ⟨by rw [hL, he]; rfl, hw.mod⟩
  · skip
    try simp only [vN_T, vN_F, nmE_T, nmE_F, wI_T, wI_F, data_T, data_F, ino_T, ino_F, notT, notF, bneT, bneF, beqT, beqF, decT, decF] at h3
    have hL : slL k l = 1 := if_neg h3
    refine At.skipC ?_
    refine At.thenN ?_
    refine At.seq ?_
    refine At.seq ?_
    refine At.region ?_
    refine At.val (Val.move rfl) rfl rfl rfl ?_
    refine At.val (Val.not rfl) rfl rfl rfl ?_
    refine At.nil ?_
    refine At.thenN ?_
    refine At.cond rfl (fun h5 => ?_) (fun h5 => ?_)
    · skip
      try simp only [vN_T, vN_F, nmE_T, nmE_F, wI_T, wI_F, data_T, data_F, ino_T, ino_F, notT, notF, bneT, bneF, beqT, beqF, decT, decF] at h5
      have he : e = false := h5
      refine At.seq ?_
      refine At.region ?_
      refine At.val (Val.move rfl) rfl rfl rfl ?_
      refine At.callP (fun w hw => mod_p _ _ w (by omega) (by omega)) Tryd.call32 rfl rfl ?_
      first | refine At.val (Val.addI rfl rfl (by omega) (by omega)) rfl rfl rfl ?_ | refine At.val (Val.bin rfl rfl rfl) rfl rfl rfl ?_
      refine At.val (Val.field 2 rfl fo_65_2 rfl) rfl rfl rfl ?_
      refine At.store (i := 0) Tryd.sizeOf3 rfl rfl rfl rfl (by first | decide | simp) ?_
      simp only [List.set_cons_zero, List.set_cons_succ]
      refine At.nil ?_
      refine At.thenN ?_
      refine At.region ?_
      refine At.val (Val.move rfl) rfl rfl rfl ?_
      refine At.callP (fun w hw => mod_p _ _ w (by omega) (by omega)) Tryd.call32 rfl rfl ?_
      first | refine At.val (Val.addI rfl rfl (by omega) (by omega)) rfl rfl rfl ?_ | refine At.val (Val.bin rfl rfl rfl) rfl rfl rfl ?_
      first | refine At.val (Val.mulI rfl rfl (by omega) (by omega)) rfl rfl rfl ?_ | refine At.val (Val.bin rfl rfl rfl) rfl rfl rfl ?_
      first | refine At.val (Val.addI rfl rfl (by omega) (by omega)) rfl rfl rfl ?_ | refine At.val (Val.bin rfl rfl rfl) rfl rfl rfl ?_
      refine At.val (Val.move rfl) rfl rfl rfl ?_
      refine At.callP (fun w hw => mod_p _ _ w (by omega) (by omega)) Tryd.call32 rfl rfl ?_
      first | refine At.val (Val.mulI rfl rfl (by omega) (by omega)) rfl rfl rfl ?_ | refine At.val (Val.bin rfl rfl rfl) rfl rfl rfl ?_
      first | refine At.val (Val.addI rfl rfl (by omega) (by omega)) rfl rfl rfl ?_ | refine At.val (Val.bin rfl rfl rfl) rfl rfl rfl ?_
      refine At.val (Val.field 3 rfl fo_65_3 rfl) rfl rfl rfl ?_
      refine At.store (i := 0) Tryd.sizeOf3 rfl rfl rfl rfl (by first | decide | simp) ?_
      simp only [List.set_cons_zero, List.set_cons_succ]
      refine At.nil ?_
      refine At.thenN ?_
      refine At.seq ?_
      refine At.region ?_
      refine At.val (Val.loadAll (i := 0) Tryd.isAgg65 Tryd.sizeOf65 rfl rfl rfl) rfl rfl rfl ?_
      refine At.storeAll (i := 1) Tryd.sizeOf65 rfl rfl rfl (by simp [Value.oneCell']) rfl rfl ?_
      simp only [List.set_cons_zero, List.set_cons_succ]
      refine At.nil ?_
      refine At.thenN ?_
      refine At.retC ?_
      refine At.ret1 (.inl rfl) rfl rfl (ResOf.all (i := 1) Tryd.isAgg65 Tryd.sizeOf65 rfl rfl rfl) (fun w hw => ?_)
      exact ⟨by rw [hL, he]; rfl, hw.mod⟩
    · skip
      try simp only [vN_T, vN_F, nmE_T, nmE_F, wI_T, wI_F, data_T, data_F, ino_T, ino_F, notT, notF, bneT, bneF, beqT, beqF, decT, decF] at h5
      have he : e = true := h5
      refine At.skipC ?_
      refine At.thenN ?_
      refine At.seq ?_
      refine At.region ?_
      refine At.val (Val.loadAll (i := 0) Tryd.isAgg65 Tryd.sizeOf65 rfl rfl rfl) rfl rfl rfl ?_
      refine At.storeAll (i := 1) Tryd.sizeOf65 rfl rfl rfl (by simp [Value.oneCell']) rfl rfl ?_
      simp only [List.set_cons_zero, List.set_cons_succ]
      refine At.nil ?_
      refine At.thenN ?_
      refine At.retC ?_
      refine At.ret1 (.inl rfl) rfl rfl (ResOf.all (i := 1) Tryd.isAgg65 Tryd.sizeOf65 rfl rfl rfl) (fun w hw => ?_)
      exact ⟨by rw [hL, he]; rfl, hw.mod⟩

theorem lawSlotHolds_p (n0 n1 n2 n3 n4 n5 n6 : Int) (e : Bool) (wd at' : Int) (fl : BitVec 32) (w : World) (ht : Tab w) :
    PureC Tryd.prog 11 [.agg #[.int .i64 n0, .int .i64 n1, .int .i64 n2, .int .i64 n3, .int .i64 n4, .int .i64 n5, .int .i64 n6, .bool e, .int .i64 wd, .int .i64 at', b32 fl]] (.bool true) w := by
  refine enter0 Tryd.func11 rfl Tryd.ntmps11 rfl ?_
  obtain ⟨i, ei⟩ : ∃ i, i = 1 + n0 % 256 := ⟨_, rfl⟩
  obtain ⟨j, ej⟩ : ∃ j, j = 1 + n1 % 256 := ⟨_, rfl⟩
  have hi : 1 ≤ i ∧ i ≤ 256 := by omega
  have hj : 1 ≤ j ∧ j ≤ 256 := by omega
  have hsi := slotAt_T (ino_T.2 hi)
  have hsj := slotAt_T (ino_T.2 hj)
  have hgd := slot_good n2 n3 n4 n5 n6 e
  obtain ⟨k, ek⟩ : ∃ k, k = slK n2 := ⟨_, rfl⟩
  obtain ⟨l, el⟩ : ∃ l, l = slL n2 n3 := ⟨_, rfl⟩
  obtain ⟨h, eh⟩ : ∃ h, h = slH n4 e := ⟨_, rfl⟩
  obtain ⟨t, et⟩ : ∃ t, t = slT n5 n6 e := ⟨_, rfl⟩
  rw [← ek, ← el, ← eh, ← et] at hgd
  obtain ⟨x, ex⟩ : ∃ x, x = sealW (BitVec.ofInt 64 (slotAt i)) (BitVec.ofInt 32 (k + 256 * l)) := ⟨_, rfl⟩
  obtain ⟨y, ey⟩ : ∃ y, y = sealW (BitVec.ofInt 64 (slotAt i + 8)) (BitVec.ofInt 32 h) := ⟨_, rfl⟩
  obtain ⟨z, ez⟩ : ∃ z, z = sealW (BitVec.ofInt 64 (slotAt i + 16)) (BitVec.ofInt 32 t) := ⟨_, rfl⟩
  obtain ⟨hok, hso, hx0, hxx, hzy, hx, hy, hz⟩ := slot_ok hi hgd ex ey ez
  have hb : -9223372036854775808 ≤ t ∧ t ≤ 9223372036854775807 := by have g' := hgd; unfold GoodU GoodT at g'; omega
  have hgp : GoodP i k l h t := ⟨ino_T.2 hi, .inr hgd⟩
  obtain ⟨sh, es⟩ : ∃ sh : Nat, (sh : Int) = at' % 33 := ⟨(at' % 33).toNat, by omega⟩
  have hsh : sh ≤ 32 := by omega
  simp only [envOf]
  refine At.seq ?_
  refine At.region ?_
  refine At.box rfl rfl rfl (fun b1 => ?_)
  refine At.val (Val.assign rfl) rfl rfl rfl ?_
  refine At.nil ?_
  refine At.thenN ?_
  refine At.seq ?_
  refine At.region ?_
  refine At.val (Val.field 0 rfl fo_83_0 rfl) rfl rfl rfl ?_
  refine At.val (Val.load (i := 0) Tryd.isAgg3 rfl rfl rfl) rfl rfl rfl ?_
  refine At.callP (fun w hw => mod_p _ _ w (by omega) (by omega)) Tryd.call32 rfl rfl ?_
  refine At.val (Val.addI rfl rfl (by omega) (by omega)) rfl rfl rfl ?_
  rw [← ei]
  refine At.val (Val.assign rfl) rfl rfl rfl ?_
  refine At.nil ?_
  refine At.thenN ?_
  refine At.seq ?_
  refine At.region ?_
  refine At.val (Val.field 1 rfl fo_83_1 rfl) rfl rfl rfl ?_
  refine At.val (Val.load (i := 0) Tryd.isAgg3 rfl rfl rfl) rfl rfl rfl ?_
  refine At.callP (fun w hw => mod_p _ _ w (by omega) (by omega)) Tryd.call32 rfl rfl ?_
  refine At.val (Val.addI rfl rfl (by omega) (by omega)) rfl rfl rfl ?_
  rw [← ej]
  refine At.val (Val.assign rfl) rfl rfl rfl ?_
  refine At.nil ?_
  refine At.thenN ?_
  refine At.seq ?_
  refine At.region ?_
  refine At.val (Val.field 2 rfl fo_83_2 rfl) rfl rfl rfl ?_
  refine At.val (Val.load (i := 0) Tryd.isAgg3 rfl rfl rfl) rfl rfl rfl ?_
  refine At.val (Val.field 3 rfl fo_83_3 rfl) rfl rfl rfl ?_
  refine At.val (Val.load (i := 0) Tryd.isAgg3 rfl rfl rfl) rfl rfl rfl ?_
  refine At.val (Val.field 4 rfl fo_83_4 rfl) rfl rfl rfl ?_
  refine At.val (Val.load (i := 0) Tryd.isAgg3 rfl rfl rfl) rfl rfl rfl ?_
  refine At.val (Val.field 5 rfl fo_83_5 rfl) rfl rfl rfl ?_
  refine At.val (Val.load (i := 0) Tryd.isAgg3 rfl rfl rfl) rfl rfl rfl ?_
  refine At.val (Val.field 6 rfl fo_83_6 rfl) rfl rfl rfl ?_
  refine At.val (Val.load (i := 0) Tryd.isAgg3 rfl rfl rfl) rfl rfl rfl ?_
  refine At.val (Val.field 7 rfl fo_83_7 rfl) rfl rfl rfl ?_
  refine At.val (Val.load (i := 0) Tryd.isAgg4 rfl rfl rfl) rfl rfl rfl ?_
  refine At.callP (fun w hw => (by have := slot_p n2 n3 n4 n5 n6 e w; rwa [← ek, ← el, ← eh, ← et] at this)) Tryd.call50 rfl rfl ?_
  refine At.alloc Tryd.zeroValue65 rfl rfl (fun b2 => ?_)
  refine At.storeAll (i := 0) Tryd.sizeOf65 rfl rfl rfl (by simp [Value.oneCell']) rfl rfl ?_
  simp only [List.set_cons_zero, List.set_cons_succ]
  refine At.nil ?_
  refine At.thenN ?_
  refine At.seq ?_
  refine At.seq ?_
  refine At.region ?_
  refine At.val (Val.move rfl) rfl rfl rfl ?_
  refine At.callP (fun w hw => slotAt_p _ w) Tryd.call24 rfl rfl ?_
  refine At.val (Val.move rfl) rfl rfl rfl ?_
  first | refine At.val (Val.subI rfl rfl (by omega) (by omega)) rfl rfl rfl ?_ | refine At.val (Val.bin rfl rfl rfl) rfl rfl rfl ?_
  first | refine At.val (Val.mulI rfl rfl (by omega) (by omega)) rfl rfl rfl ?_ | refine At.val (Val.bin rfl rfl rfl) rfl rfl rfl ?_
  first | refine At.val (Val.addI rfl rfl (by omega) (by omega)) rfl rfl rfl ?_ | refine At.val (Val.bin rfl rfl rfl) rfl rfl rfl ?_
  refine At.val (Val.bin rfl rfl rfl) rfl rfl rfl ?_
  refine At.val (Val.move rfl) rfl rfl rfl ?_
  refine At.split (t := 48) rfl (fun h3 => ?_) (fun h3 => ?_)
  · skip
    try simp only [vN_T, vN_F, nmE_T, nmE_F, wI_T, wI_F, data_T, data_F, ino_T, ino_F, notT, notF, bneT, bneF, beqT, beqF, decT, decF] at h3
    exfalso; omega
  · skip
    try simp only [vN_T, vN_F, nmE_T, nmE_F, wI_T, wI_F, data_T, data_F, ino_T, ino_F, notT, notF, bneT, bneF, beqT, beqF, decT, decF] at h3
    refine At.yes rfl rfl ?_
    refine At.val (Val.move rfl) rfl rfl rfl ?_
    refine At.yes rfl rfl ?_
    refine At.callP (fun w hw => slotAt_p _ w) Tryd.call24 rfl rfl ?_
    refine At.yes rfl rfl ?_
    refine At.val (Val.move rfl) rfl rfl rfl ?_
    refine At.yes rfl rfl ?_
    refine At.callP (fun w hw => slotAt_p _ w) Tryd.call24 rfl rfl ?_
    refine At.yes rfl rfl ?_
    first | refine At.val (Val.subI rfl rfl (by omega) (by omega)) rfl rfl rfl ?_ | refine At.val (Val.bin rfl rfl rfl) rfl rfl rfl ?_
    refine At.yes rfl rfl ?_
    refine At.val (Val.move rfl) rfl rfl rfl ?_
    refine At.yes rfl rfl ?_
    refine At.val (Val.move rfl) rfl rfl rfl ?_
    refine At.yes rfl rfl ?_
    first | refine At.val (Val.subI rfl rfl (by omega) (by omega)) rfl rfl rfl ?_ | refine At.val (Val.bin rfl rfl rfl) rfl rfl rfl ?_
    refine At.yes rfl rfl ?_
    first | refine At.val (Val.mulI rfl rfl (by omega) (by omega)) rfl rfl rfl ?_ | refine At.val (Val.bin rfl rfl rfl) rfl rfl rfl ?_
    refine At.yes rfl rfl ?_
    refine At.val (Val.bin rfl rfl rfl) rfl rfl rfl ?_
    refine At.val (Val.pickF rfl rfl) rfl rfl rfl ?_
    refine At.nil ?_
    refine At.thenN ?_
    refine At.cond rfl (fun h4 => ?_) (fun h4 => ?_)
    · skip
      try simp only [vN_T, vN_F, nmE_T, nmE_F, wI_T, wI_F, data_T, data_F, ino_T, ino_F, notT, notF, bneT, bneF, beqT, beqF, decT, decF] at h4
      exfalso; omega
    · skip
      try simp only [vN_T, vN_F, nmE_T, nmE_F, wI_T, wI_F, data_T, data_F, ino_T, ino_F, notT, notF, bneT, bneF, beqT, beqF, decT, decF] at h4
      refine At.skipC ?_
      refine At.thenN ?_
      refine At.seq ?_
      refine At.region ?_
      refine At.val (Val.move rfl) rfl rfl rfl ?_
      refine At.val (Val.loadAll (i := 0) Tryd.isAgg65 Tryd.sizeOf65 rfl rfl rfl) rfl rfl rfl ?_
      refine At.callP (fun w hw => (by have := packSlot_p i k l h t w (ht.mod hw.mod) hb; rwa [packSlot_yes hgp, slotW_cells, ← ex, ← ey, ← ez] at this)) Tryd.call40 rfl rfl ?_
      refine At.val (Val.move rfl) rfl rfl rfl ?_
      refine At.val (Val.extract rfl rfl) rfl rfl rfl ?_
      refine At.val (Val.extract rfl rfl) rfl rfl rfl ?_
      refine At.alloc zero_66 zc_66 rfl (fun b5 => ?_)
      refine At.storeAll (i := 0) Tryd.sizeOf66 rfl rfl rfl (by simp [Value.oneCell']) rfl (by simp) ?_
      simp only [List.set_cons_zero, List.set_cons_succ]
      refine At.val (Val.assign rfl) rfl rfl rfl ?_
      refine At.nil ?_
      refine At.thenN ?_
      refine At.seq ?_
      refine At.region ?_
      refine At.val (Val.move rfl) rfl rfl rfl ?_
      refine At.val (Val.loadAll (i := 0) Tryd.isAgg66 Tryd.sizeOf66 rfl rfl (by simp)) rfl rfl rfl ?_
      refine At.callP (fun w hw => (by have := openSlot_p i x y z w (ht.mod hw.mod); rwa [openSlot_yes hok, hso] at this)) Tryd.call42 rfl rfl ?_
      refine At.val (Val.move rfl) rfl rfl rfl ?_
      refine At.val (Val.extract rfl rfl) rfl rfl rfl ?_
      refine At.val (Val.extract rfl rfl) rfl rfl rfl ?_
      refine At.alloc Tryd.zeroValue65 rfl rfl (fun b6 => ?_)
      refine At.storeAll (i := 0) Tryd.sizeOf65 rfl rfl rfl (by simp [Value.oneCell']) rfl rfl ?_
      simp only [List.set_cons_zero, List.set_cons_succ]
      refine At.val (Val.assign rfl) rfl rfl rfl ?_
      refine At.nil ?_
      refine At.thenN ?_
      refine At.seq ?_
      refine At.seq ?_
      refine At.region ?_
      refine At.val (Val.move rfl) rfl rfl rfl ?_
      refine At.val (Val.bin rfl rfl rfl) rfl rfl rfl ?_
      refine At.val (Val.move rfl) rfl rfl rfl ?_
      refine At.yes rfl rfl ?_
      refine At.val (Val.move rfl) rfl rfl rfl ?_
      refine At.yes rfl rfl ?_
      refine At.val (Val.bin rfl rfl rfl) rfl rfl rfl ?_
      refine At.val (Val.pickF rfl rfl) rfl rfl rfl ?_
      refine At.val (Val.move rfl) rfl rfl rfl ?_
      refine At.yes rfl rfl ?_
      refine At.val (Val.loadAll (i := 0) Tryd.isAgg65 Tryd.sizeOf65 rfl rfl rfl) rfl rfl rfl ?_
      refine At.yes rfl rfl ?_
      refine At.val (Val.loadAll (i := 2) Tryd.isAgg65 Tryd.sizeOf65 rfl rfl rfl) rfl rfl rfl ?_
      refine At.yes rfl rfl ?_
      refine At.val (Val.neAgg (b := true) Tryd.eqGuardType65 (fun w => by simpa using eq_65 k l h t k l h t w) rfl rfl) rfl rfl rfl ?_
      refine At.val (Val.pickF rfl rfl) rfl rfl rfl ?_
      refine At.nil ?_
      refine At.thenN ?_
      refine At.condF rfl ?_
      refine At.skipC ?_
      refine At.thenN ?_
      refine At.seq ?_
      refine At.region ?_
      refine At.val (Val.move rfl) rfl rfl rfl ?_
      refine At.val (Val.loadAll (i := 1) Tryd.isAgg66 Tryd.sizeOf66 rfl rfl (by simp)) rfl rfl rfl ?_
      by_cases hqp : j = i
      · skip
        refine At.callP (fun w hw => (by have := openSlot_p j x y z w (ht.mod hw.mod); rw [openSlot_yes (hqp ▸ hok), hso] at this; exact this)) Tryd.call42 rfl rfl ?_
        refine At.val (Val.move rfl) rfl rfl rfl ?_
        refine At.val (Val.extract rfl rfl) rfl rfl rfl ?_
        refine At.val (Val.extract rfl rfl) rfl rfl rfl ?_
        refine At.alloc Tryd.zeroValue65 rfl rfl (fun b7 => ?_)
        refine At.storeAll (i := 0) Tryd.sizeOf65 rfl rfl rfl (by simp [Value.oneCell']) rfl rfl ?_
        simp only [List.set_cons_zero, List.set_cons_succ]
        refine At.val (Val.assign rfl) rfl rfl rfl ?_
        refine At.nil ?_
        refine At.thenN ?_
        refine At.join (σ := Unit) (fun _ => True) (fun _ => [(1, .pointer (some ⟨b1, 0, none⟩)), (3, .int .i64 i), (6, .pointer (some ⟨b5, 0, none⟩))]) (fun _ => [blk b5 66 ([b64 x, b64 y, b64 z]), blk b1 83 ([.int .i64 n0, .int .i64 n1, .int .i64 n2, .int .i64 n3, .int .i64 n4, .int .i64 n5, .int .i64 n6, .bool e, .int .i64 wd, .int .i64 at', b32 fl])]) ?_ ?_
        · skip
          refine At.seq ?_
          refine At.region ?_
          refine At.val (Val.move rfl) rfl rfl rfl ?_
          refine At.val (Val.move rfl) rfl rfl rfl ?_
          refine At.val (Val.bin rfl rfl rfl) rfl rfl rfl ?_
          rw [show (j != i) = false from by simp [hqp]]
          refine At.val (Val.move rfl) rfl rfl rfl ?_
          refine At.no rfl rfl rfl rfl ?_
          refine At.no rfl rfl rfl rfl ?_
          refine At.no rfl rfl rfl rfl ?_
          refine At.noU rfl rfl rfl ?_
          refine At.noU rfl rfl rfl ?_
          refine At.noU rfl rfl rfl ?_
          refine At.no rfl rfl rfl rfl ?_
          refine At.val (Val.pickF rfl rfl) rfl rfl rfl ?_
          refine At.nil ?_
          refine At.thenN ?_
          refine At.condF rfl ?_
          refine At.skipC ?_
          refine At.thenN ?_
          refine At.drop 3 ?_
          simp only [List.eraseIdx_cons_zero, List.eraseIdx_cons_succ]
          refine At.drop 1 ?_
          simp only [List.eraseIdx_cons_zero, List.eraseIdx_cons_succ]
          refine At.drop 0 ?_
          simp only [List.eraseIdx_cons_zero, List.eraseIdx_cons_succ]
          exact At.meets () trivial (Sub.cons rfl (Sub.cons rfl (Sub.cons rfl Sub.nil))) (List.Perm.refl _)
        · skip
          intro _ hs
          refine At.seq ?_
          refine At.region ?_
          refine At.val (Val.field 8 rfl fo_83_8 rfl) rfl rfl rfl ?_
          refine At.val (Val.load (i := 1) Tryd.isAgg3 rfl rfl rfl) rfl rfl rfl ?_
          refine At.callP (fun w hw => mod_p _ _ w (by omega) (by omega)) Tryd.call32 rfl rfl ?_
          rcases (show wd % 3 = 0 ∨ wd % 3 = 1 ∨ wd % 3 = 2 by omega) with hk | hk | hk
          · skip
            rw [hk]
            refine At.val (Val.assign rfl) rfl rfl rfl ?_
            refine At.nil ?_
            refine At.thenN ?_
            refine At.seq ?_
            refine At.region ?_
            refine At.val (Val.loadAll (i := 0) Tryd.isAgg66 Tryd.sizeOf66 rfl rfl rfl) rfl rfl rfl ?_
            refine At.alloc zero_66 zc_66 rfl (fun b8 => ?_)
            refine At.storeAll (i := 0) Tryd.sizeOf66 rfl rfl rfl (by simp [Value.oneCell']) rfl (by simp) ?_
            simp only [List.set_cons_zero, List.set_cons_succ]
            refine At.nil ?_
            refine At.thenN ?_
            refine At.seq ?_
            refine At.tail 15 rfl (by decide +kernel) ?_
            simp only [List.take_succ_cons, List.take_zero, List.drop_succ_cons, List.drop_zero]
            refine QAt.val (Val.move rfl) rfl rfl rfl ?_
            refine QAt.val (Val.indexArr 0 rfl Tryd.underlying66 Tryd.sizeOf40 rfl rfl (by decide) (by decide)) rfl rfl rfl ?_
            refine QAt.val (Val.load (i := 0) Tryd.isAgg40 rfl rfl rfl) rfl rfl rfl ?_
            refine QAt.val (Val.field 9 rfl fo_83_9 rfl) rfl rfl rfl ?_
            refine QAt.val (Val.field 10 rfl fo_50_1 rfl) rfl rfl rfl ?_
            refine QAt.val (Val.load (i := 2) Tryd.isAgg48 rfl rfl rfl) rfl rfl rfl ?_
            refine QAt.val (Val.conv Tryd.underlying48 Tryd.underlying40 rfl) rfl rfl rfl ?_
            rw [u64_of32]
            refine QAt.val (Val.field 9 rfl fo_83_9 rfl) rfl rfl rfl ?_
            refine QAt.val (Val.field 9 rfl fo_50_0 rfl) rfl rfl rfl ?_
            refine QAt.val (Val.load (i := 2) Tryd.isAgg3 rfl rfl rfl) rfl rfl rfl ?_
            refine QAt.callP (fun w hw => mod_p _ _ w (by omega) (by omega)) Tryd.call32 rfl rfl ?_
            refine QAt.val (Val.conv Tryd.underlying3 Tryd.underlying52 rfl) rfl rfl rfl ?_
            rw [← es, wrap_u64 (n := (sh : Int)) (by omega) (by omega)]
            refine QAt.val (Val.shl rfl rfl (by omega)) rfl rfl rfl ?_
            refine QAt.val (Val.bin rfl rfl rfl) rfl rfl rfl ?_
            rw [spoil_word x fl hsh]
            refine QAt.val (Val.indexArr 0 rfl Tryd.underlying66 Tryd.sizeOf40 rfl rfl (by decide) (by decide)) rfl rfl rfl ?_
            refine QAt.fin ?_
            refine At.store (i := 0) Tryd.sizeOf40 rfl rfl rfl rfl (by first | decide | simp) ?_
            simp only [List.set_cons_zero, List.set_cons_succ]
            refine At.nil ?_
            refine At.thenN ?_
            refine At.join (σ := Unit) (fun _ => True) (fun _ => [(1, .pointer (some ⟨b1, 0, none⟩)), (3, .int .i64 i), (6, .pointer (some ⟨b5, 0, none⟩))]) (fun _ => [blk b5 66 ([b64 x, b64 y, b64 z]), blk b1 83 ([.int .i64 n0, .int .i64 n1, .int .i64 n2, .int .i64 n3, .int .i64 n4, .int .i64 n5, .int .i64 n6, .bool e, .int .i64 wd, .int .i64 at', b32 fl])]) ?_ ?_
            · skip
              refine At.seq ?_
              refine At.quiet rfl (by decide +kernel) ?_
              refine QAt.val (Val.move rfl) rfl rfl rfl ?_
              refine QAt.val (Val.indexArr 0 rfl Tryd.underlying66 Tryd.sizeOf40 rfl rfl (by decide) (by decide)) rfl rfl rfl ?_
              refine QAt.val (Val.load (i := 0) Tryd.isAgg40 rfl rfl rfl) rfl rfl rfl ?_
              refine QAt.val (Val.move rfl) rfl rfl rfl ?_
              refine QAt.val (Val.indexArr 0 rfl Tryd.underlying66 Tryd.sizeOf40 rfl rfl (by decide) (by decide)) rfl rfl rfl ?_
              refine QAt.val (Val.load (i := 1) Tryd.isAgg40 rfl rfl rfl) rfl rfl rfl ?_
              refine QAt.val (Val.bin rfl rfl rfl) rfl rfl rfl ?_
              refine QAt.val (Val.move rfl) rfl rfl rfl ?_
              refine QAt.split (t := 127) rfl (fun h9 => ?_) (fun h9 => ?_)
              · skip
                try simp only [vN_T, vN_F, nmE_T, nmE_F, wI_T, wI_F, data_T, data_F, ino_T, ino_F, notT, notF, bneT, bneF, beqT, beqF, decT, decF] at h9
                refine QAt.yes rfl rfl ?_
                refine QAt.val (Val.move rfl) rfl rfl rfl ?_
                refine QAt.yes rfl rfl ?_
                refine QAt.val (Val.indexArr 0 rfl Tryd.underlying66 Tryd.sizeOf40 rfl rfl (by decide) (by decide)) rfl rfl rfl ?_
                refine QAt.yes rfl rfl ?_
                refine QAt.val (Val.load (i := 0) Tryd.isAgg40 rfl rfl rfl) rfl rfl rfl ?_
                refine QAt.yes rfl rfl ?_
                refine QAt.val (Val.bin rfl rfl rfl) rfl rfl rfl ?_
                refine QAt.val (Val.pickT rfl rfl) rfl rfl rfl ?_
                refine QAt.val (Val.move rfl) rfl rfl rfl ?_
                refine QAt.split (t := 133) rfl (fun h10 => ?_) (fun h10 => ?_)
                · skip
                  try simp only [vN_T, vN_F, nmE_T, nmE_F, wI_T, wI_F, data_T, data_F, ino_T, ino_F, notT, notF, bneT, bneF, beqT, beqF, decT, decF] at h10
                  refine QAt.yes rfl rfl ?_
                  refine QAt.val (Val.move rfl) rfl rfl rfl ?_
                  refine QAt.yes rfl rfl ?_
                  refine QAt.val (Val.indexArr 0 rfl Tryd.underlying66 Tryd.sizeOf40 rfl rfl (by decide) (by decide)) rfl rfl rfl ?_
                  refine QAt.yes rfl rfl ?_
                  refine QAt.val (Val.load (i := 1) Tryd.isAgg40 rfl rfl rfl) rfl rfl rfl ?_
                  refine QAt.yes rfl rfl ?_
                  refine QAt.val (Val.bin rfl rfl rfl) rfl rfl rfl ?_
                  refine QAt.val (Val.pickT rfl rfl) rfl rfl rfl ?_
                  refine QAt.fin ?_
                  refine At.thenN ?_
                  refine At.cond rfl (fun h11 => ?_) (fun h11 => ?_)
                  · skip
                    try simp only [vN_T, vN_F, nmE_T, nmE_F, wI_T, wI_F, data_T, data_F, ino_T, ino_F, notT, notF, bneT, bneF, beqT, beqF, decT, decF] at h11
                    refine At.seq ?_
                    refine At.region ?_
                    refine At.val (Val.move rfl) rfl rfl rfl ?_
                    refine At.val (Val.loadAll (i := 0) Tryd.isAgg66 Tryd.sizeOf66 rfl rfl (by simp)) rfl rfl rfl ?_
                    have hno : ¬ OkSl i (x ^^^ (fl.setWidth 64 <<< sh)) y z := fun h => word_told (F := fl.toNat) (sh := sh) hx (fun e => ‹¬ ((x.toNat : Nat) : Int) = 0› (by rw [e]; rfl)) (fun e => ‹¬ (((x ^^^ (fl.setWidth 64 <<< sh)).toNat : Nat) : Int) = 0› (by rw [e]; rfl)) (spoil_some (fun e => ‹¬ (((x ^^^ (fl.setWidth 64 <<< sh)).toNat : Nat) : Int) = ((x.toNat : Nat) : Int)› (by rw [e]))) fl.isLt hsh (spoil_nat x fl hsh) h.2.1
                    refine At.callP (fun w hw => (by have := openSlot_p i (x ^^^ (fl.setWidth 64 <<< sh)) y z w (ht.mod hw.mod); rwa [openSlot_no hno] at this)) Tryd.call42 rfl rfl ?_
                    refine At.val (Val.move rfl) rfl rfl rfl ?_
                    refine At.val (Val.extract rfl rfl) rfl rfl rfl ?_
                    refine At.val (Val.extract rfl rfl) rfl rfl rfl ?_
                    refine At.alloc Tryd.zeroValue65 rfl rfl (fun b12 => ?_)
                    refine At.storeAll (i := 0) Tryd.sizeOf65 rfl rfl rfl (by simp [Value.oneCell']) rfl rfl ?_
                    simp only [List.set_cons_zero, List.set_cons_succ]
                    refine At.val (Val.assign rfl) rfl rfl rfl ?_
                    refine At.nil ?_
                    refine At.thenN ?_
                    refine At.seq ?_
                    refine At.region ?_
                    refine At.val (Val.move rfl) rfl rfl rfl ?_
                    refine At.val (Val.bin rfl rfl rfl) rfl rfl rfl ?_
                    refine At.val (Val.move rfl) rfl rfl rfl ?_
                    refine At.yes rfl rfl ?_
                    refine At.val (Val.loadAll (i := 0) Tryd.isAgg65 Tryd.sizeOf65 rfl rfl rfl) rfl rfl rfl ?_
                    refine At.yes rfl rfl ?_
                    refine At.val (Val.build (fun a ha => by simp only [List.map_toArray, List.map_cons, List.map_nil] <;> rfl) (bld_65_)) rfl rfl rfl ?_
                    refine At.yes rfl rfl ?_
                    refine At.val (Val.neAgg (b := true) Tryd.eqGuardType65 (fun w => by simpa using eq_65 0 0 0 0 0 0 0 0 w) rfl rfl) rfl rfl rfl ?_
                    refine At.val (Val.pickF rfl rfl) rfl rfl rfl ?_
                    refine At.nil ?_
                    refine At.thenN ?_
                    refine At.condF rfl ?_
                    refine At.skipC ?_
                    refine At.thenN ?_
                    refine At.drop 1 ?_
                    simp only [List.eraseIdx_cons_zero, List.eraseIdx_cons_succ]
                    refine At.drop 0 ?_
                    simp only [List.eraseIdx_cons_zero, List.eraseIdx_cons_succ]
                    exact At.meets () trivial (Sub.cons rfl (Sub.cons rfl (Sub.cons rfl Sub.nil))) (List.Perm.refl _)
                  · skip
                    try simp only [vN_T, vN_F, nmE_T, nmE_F, wI_T, wI_F, data_T, data_F, ino_T, ino_F, notT, notF, bneT, bneF, beqT, beqF, decT, decF] at h11
                    refine At.skipC ?_
                    refine At.thenN ?_
                    refine At.drop 0 ?_
                    simp only [List.eraseIdx_cons_zero, List.eraseIdx_cons_succ]
                    exact At.meets () trivial (Sub.cons rfl (Sub.cons rfl (Sub.cons rfl Sub.nil))) (List.Perm.refl _)
                · skip
                  try simp only [vN_T, vN_F, nmE_T, nmE_F, wI_T, wI_F, data_T, data_F, ino_T, ino_F, notT, notF, bneT, bneF, beqT, beqF, decT, decF] at h10
                  refine QAt.no rfl rfl rfl rfl ?_
                  refine QAt.no rfl rfl rfl rfl ?_
                  refine QAt.no rfl rfl rfl rfl ?_
                  refine QAt.no rfl rfl rfl rfl ?_
                  refine QAt.val (Val.pickF rfl rfl) rfl rfl rfl ?_
                  refine QAt.fin ?_
                  refine At.thenN ?_
                  refine At.condF rfl ?_
                  refine At.skipC ?_
                  refine At.thenN ?_
                  refine At.drop 0 ?_
                  simp only [List.eraseIdx_cons_zero, List.eraseIdx_cons_succ]
                  exact At.meets () trivial (Sub.cons rfl (Sub.cons rfl (Sub.cons rfl Sub.nil))) (List.Perm.refl _)
              · skip
                try simp only [vN_T, vN_F, nmE_T, nmE_F, wI_T, wI_F, data_T, data_F, ino_T, ino_F, notT, notF, bneT, bneF, beqT, beqF, decT, decF] at h9
                refine QAt.no rfl rfl rfl rfl ?_
                refine QAt.no rfl rfl rfl rfl ?_
                refine QAt.no rfl rfl rfl rfl ?_
                refine QAt.no rfl rfl rfl rfl ?_
                refine QAt.val (Val.pickF rfl rfl) rfl rfl rfl ?_
                refine QAt.val (Val.move rfl) rfl rfl rfl ?_
                refine QAt.no rfl rfl rfl rfl ?_
                refine QAt.no rfl rfl rfl rfl ?_
                refine QAt.no rfl rfl rfl rfl ?_
                refine QAt.no rfl rfl rfl rfl ?_
                refine QAt.val (Val.pickF rfl rfl) rfl rfl rfl ?_
                refine QAt.fin ?_
                refine At.thenN ?_
                refine At.condF rfl ?_
                refine At.skipC ?_
                refine At.thenN ?_
                refine At.drop 0 ?_
                simp only [List.eraseIdx_cons_zero, List.eraseIdx_cons_succ]
                exact At.meets () trivial (Sub.cons rfl (Sub.cons rfl (Sub.cons rfl Sub.nil))) (List.Perm.refl _)
            · skip
              intro _ hs
              refine At.seq ?_
              refine At.region ?_
              refine At.val (Val.move rfl) rfl rfl rfl ?_
              refine At.val (Val.build (fun a ha => by simp only [List.map_toArray, List.map_cons, List.map_nil] <;> rfl) (bld_65_)) rfl rfl rfl ?_
              refine At.callP (fun w hw => (by have := packSlot_p i 0 0 0 0 w (ht.mod hw.mod) (by decide); rwa [packSlot_yes ⟨ino_T.2 hi, .inl ⟨rfl, rfl, rfl, rfl⟩⟩, slotW_zero] at this)) Tryd.call40 rfl rfl ?_
              refine At.val (Val.move rfl) rfl rfl rfl ?_
              refine At.val (Val.extract rfl rfl) rfl rfl rfl ?_
              refine At.val (Val.extract rfl rfl) rfl rfl rfl ?_
              refine At.alloc zero_66 zc_66 rfl (fun b13 => ?_)
              refine At.storeAll (i := 0) Tryd.sizeOf66 rfl rfl rfl (by simp [Value.oneCell']) rfl (by simp) ?_
              simp only [List.set_cons_zero, List.set_cons_succ]
              refine At.val (Val.assign rfl) rfl rfl rfl ?_
              refine At.nil ?_
              refine At.thenN ?_
              refine At.seq ?_
              refine At.seq ?_
              refine At.region ?_
              refine At.val (Val.move rfl) rfl rfl rfl ?_
              refine At.val (Val.bin rfl rfl rfl) rfl rfl rfl ?_
              refine At.nil ?_
              refine At.thenN ?_
              refine At.condF rfl ?_
              refine At.skipC ?_
              refine At.thenN ?_
              refine At.seq ?_
              refine At.region ?_
              refine At.val (Val.indexArr 0 rfl Tryd.underlying66 Tryd.sizeOf40 rfl rfl (by decide) (by decide)) rfl rfl rfl ?_
              refine At.val (Val.load (i := 0) Tryd.isAgg40 rfl rfl rfl) rfl rfl rfl ?_
              refine At.val (Val.indexArr 0 rfl Tryd.underlying66 Tryd.sizeOf40 rfl rfl (by decide) (by decide)) rfl rfl rfl ?_
              refine At.store (i := 1) Tryd.sizeOf40 rfl rfl rfl rfl (by first | decide | simp) ?_
              simp only [List.set_cons_zero, List.set_cons_succ]
              refine At.nil ?_
              refine At.thenN ?_
              refine At.seq ?_
              refine At.region ?_
              refine At.val (Val.indexArr 1 rfl Tryd.underlying66 Tryd.sizeOf40 rfl rfl (by decide) (by decide)) rfl rfl rfl ?_
              refine At.val (Val.load (i := 1) Tryd.isAgg40 rfl rfl rfl) rfl rfl rfl ?_
              refine At.val (Val.field 9 rfl fo_83_9 rfl) rfl rfl rfl ?_
              refine At.val (Val.field 10 rfl fo_50_1 rfl) rfl rfl rfl ?_
              refine At.val (Val.load (i := 2) Tryd.isAgg48 rfl rfl rfl) rfl rfl rfl ?_
              refine At.val (Val.conv Tryd.underlying48 Tryd.underlying40 rfl) rfl rfl rfl ?_
              rw [u64_of32]
              refine At.val (Val.bin rfl rfl rfl) rfl rfl rfl ?_
              rw [xor64]
              refine At.val (Val.indexArr 1 rfl Tryd.underlying66 Tryd.sizeOf40 rfl rfl (by decide) (by decide)) rfl rfl rfl ?_
              refine At.store (i := 1) Tryd.sizeOf40 rfl rfl rfl rfl (by first | decide | simp) ?_
              simp only [List.set_cons_zero, List.set_cons_succ]
              refine At.nil ?_
              refine At.thenN ?_
              refine At.seq ?_
              refine At.region ?_
              refine At.val (Val.move rfl) rfl rfl rfl ?_
              refine At.val (Val.loadAll (i := 1) Tryd.isAgg66 Tryd.sizeOf66 rfl rfl rfl) rfl rfl rfl ?_
              refine At.callP (fun w hw => (by have := openSlot_p i 0 (y ^^^ fl.setWidth 64) z w (ht.mod hw.mod); rwa [openSlot_yes (slot_free hi _ _).1, (slot_free hi _ _).2] at this)) Tryd.call42 rfl rfl ?_
              refine At.val (Val.move rfl) rfl rfl rfl ?_
              refine At.val (Val.extract rfl rfl) rfl rfl rfl ?_
              refine At.val (Val.extract rfl rfl) rfl rfl rfl ?_
              refine At.alloc Tryd.zeroValue65 rfl rfl (fun b14 => ?_)
              refine At.storeAll (i := 0) Tryd.sizeOf65 rfl rfl rfl (by simp [Value.oneCell']) rfl rfl ?_
              simp only [List.set_cons_zero, List.set_cons_succ]
              refine At.val (Val.assign rfl) rfl rfl rfl ?_
              refine At.nil ?_
              refine At.thenN ?_
              refine At.seq ?_
              refine At.region ?_
              refine At.val (Val.move rfl) rfl rfl rfl ?_
              refine At.val (Val.bin rfl rfl rfl) rfl rfl rfl ?_
              refine At.val (Val.move rfl) rfl rfl rfl ?_
              refine At.yes rfl rfl ?_
              refine At.val (Val.loadAll (i := 0) Tryd.isAgg65 Tryd.sizeOf65 rfl rfl rfl) rfl rfl rfl ?_
              refine At.yes rfl rfl ?_
              refine At.val (Val.build (fun a ha => by simp only [List.map_toArray, List.map_cons, List.map_nil] <;> rfl) (bld_65_)) rfl rfl rfl ?_
              refine At.yes rfl rfl ?_
              refine At.val (Val.eqAgg (b := true) Tryd.eqGuardType65 (fun w => by simpa using eq_65 0 0 0 0 0 0 0 0 w) rfl rfl) rfl rfl rfl ?_
              refine At.val (Val.pickT rfl rfl) rfl rfl rfl ?_
              refine At.val (Val.assign rfl) rfl rfl rfl ?_
              refine At.nil ?_
              refine At.thenN ?_
              refine At.retC ?_
              refine At.ret1 (.inl rfl) rfl rfl rfl (fun w hw => ?_)
              exact ⟨rfl, hw.mod⟩
          · skip
            rw [hk]
            refine At.val (Val.assign rfl) rfl rfl rfl ?_
            refine At.nil ?_
            refine At.thenN ?_
            refine At.seq ?_
            refine At.region ?_
            refine At.val (Val.loadAll (i := 0) Tryd.isAgg66 Tryd.sizeOf66 rfl rfl rfl) rfl rfl rfl ?_
            refine At.alloc zero_66 zc_66 rfl (fun b15 => ?_)
            refine At.storeAll (i := 0) Tryd.sizeOf66 rfl rfl rfl (by simp [Value.oneCell']) rfl (by simp) ?_
            simp only [List.set_cons_zero, List.set_cons_succ]
            refine At.nil ?_
            refine At.thenN ?_
            refine At.seq ?_
            refine At.tail 15 rfl (by decide +kernel) ?_
            simp only [List.take_succ_cons, List.take_zero, List.drop_succ_cons, List.drop_zero]
            refine QAt.val (Val.move rfl) rfl rfl rfl ?_
            refine QAt.val (Val.indexArr 1 rfl Tryd.underlying66 Tryd.sizeOf40 rfl rfl (by decide) (by decide)) rfl rfl rfl ?_
            refine QAt.val (Val.load (i := 0) Tryd.isAgg40 rfl rfl rfl) rfl rfl rfl ?_
            refine QAt.val (Val.field 9 rfl fo_83_9 rfl) rfl rfl rfl ?_
            refine QAt.val (Val.field 10 rfl fo_50_1 rfl) rfl rfl rfl ?_
            refine QAt.val (Val.load (i := 2) Tryd.isAgg48 rfl rfl rfl) rfl rfl rfl ?_
            refine QAt.val (Val.conv Tryd.underlying48 Tryd.underlying40 rfl) rfl rfl rfl ?_
            rw [u64_of32]
            refine QAt.val (Val.field 9 rfl fo_83_9 rfl) rfl rfl rfl ?_
            refine QAt.val (Val.field 9 rfl fo_50_0 rfl) rfl rfl rfl ?_
            refine QAt.val (Val.load (i := 2) Tryd.isAgg3 rfl rfl rfl) rfl rfl rfl ?_
            refine QAt.callP (fun w hw => mod_p _ _ w (by omega) (by omega)) Tryd.call32 rfl rfl ?_
            refine QAt.val (Val.conv Tryd.underlying3 Tryd.underlying52 rfl) rfl rfl rfl ?_
            rw [← es, wrap_u64 (n := (sh : Int)) (by omega) (by omega)]
            refine QAt.val (Val.shl rfl rfl (by omega)) rfl rfl rfl ?_
            refine QAt.val (Val.bin rfl rfl rfl) rfl rfl rfl ?_
            rw [spoil_word y fl hsh]
            refine QAt.val (Val.indexArr 1 rfl Tryd.underlying66 Tryd.sizeOf40 rfl rfl (by decide) (by decide)) rfl rfl rfl ?_
            refine QAt.fin ?_
            refine At.store (i := 0) Tryd.sizeOf40 rfl rfl rfl rfl (by first | decide | simp) ?_
            simp only [List.set_cons_zero, List.set_cons_succ]
            refine At.nil ?_
            refine At.thenN ?_
            refine At.join (σ := Unit) (fun _ => True) (fun _ => [(1, .pointer (some ⟨b1, 0, none⟩)), (3, .int .i64 i), (6, .pointer (some ⟨b5, 0, none⟩))]) (fun _ => [blk b5 66 ([b64 x, b64 y, b64 z]), blk b1 83 ([.int .i64 n0, .int .i64 n1, .int .i64 n2, .int .i64 n3, .int .i64 n4, .int .i64 n5, .int .i64 n6, .bool e, .int .i64 wd, .int .i64 at', b32 fl])]) ?_ ?_
            · skip
              refine At.seq ?_
              refine At.quiet rfl (by decide +kernel) ?_
              refine QAt.val (Val.move rfl) rfl rfl rfl ?_
              refine QAt.val (Val.indexArr 1 rfl Tryd.underlying66 Tryd.sizeOf40 rfl rfl (by decide) (by decide)) rfl rfl rfl ?_
              refine QAt.val (Val.load (i := 0) Tryd.isAgg40 rfl rfl rfl) rfl rfl rfl ?_
              refine QAt.val (Val.move rfl) rfl rfl rfl ?_
              refine QAt.val (Val.indexArr 1 rfl Tryd.underlying66 Tryd.sizeOf40 rfl rfl (by decide) (by decide)) rfl rfl rfl ?_
              refine QAt.val (Val.load (i := 1) Tryd.isAgg40 rfl rfl rfl) rfl rfl rfl ?_
              refine QAt.val (Val.bin rfl rfl rfl) rfl rfl rfl ?_
              refine QAt.val (Val.move rfl) rfl rfl rfl ?_
              refine QAt.split (t := 127) rfl (fun h16 => ?_) (fun h16 => ?_)
              · skip
                try simp only [vN_T, vN_F, nmE_T, nmE_F, wI_T, wI_F, data_T, data_F, ino_T, ino_F, notT, notF, bneT, bneF, beqT, beqF, decT, decF] at h16
                refine QAt.yes rfl rfl ?_
                refine QAt.val (Val.move rfl) rfl rfl rfl ?_
                refine QAt.yes rfl rfl ?_
                refine QAt.val (Val.indexArr 1 rfl Tryd.underlying66 Tryd.sizeOf40 rfl rfl (by decide) (by decide)) rfl rfl rfl ?_
                refine QAt.yes rfl rfl ?_
                refine QAt.val (Val.load (i := 0) Tryd.isAgg40 rfl rfl rfl) rfl rfl rfl ?_
                refine QAt.yes rfl rfl ?_
                refine QAt.val (Val.bin rfl rfl rfl) rfl rfl rfl ?_
                refine QAt.val (Val.pickT rfl rfl) rfl rfl rfl ?_
                refine QAt.val (Val.move rfl) rfl rfl rfl ?_
                refine QAt.split (t := 133) rfl (fun h17 => ?_) (fun h17 => ?_)
                · skip
                  try simp only [vN_T, vN_F, nmE_T, nmE_F, wI_T, wI_F, data_T, data_F, ino_T, ino_F, notT, notF, bneT, bneF, beqT, beqF, decT, decF] at h17
                  refine QAt.yes rfl rfl ?_
                  refine QAt.val (Val.move rfl) rfl rfl rfl ?_
                  refine QAt.yes rfl rfl ?_
                  refine QAt.val (Val.indexArr 1 rfl Tryd.underlying66 Tryd.sizeOf40 rfl rfl (by decide) (by decide)) rfl rfl rfl ?_
                  refine QAt.yes rfl rfl ?_
                  refine QAt.val (Val.load (i := 1) Tryd.isAgg40 rfl rfl rfl) rfl rfl rfl ?_
                  refine QAt.yes rfl rfl ?_
                  refine QAt.val (Val.bin rfl rfl rfl) rfl rfl rfl ?_
                  refine QAt.val (Val.pickT rfl rfl) rfl rfl rfl ?_
                  refine QAt.fin ?_
                  refine At.thenN ?_
                  refine At.cond rfl (fun h18 => ?_) (fun h18 => ?_)
                  · skip
                    try simp only [vN_T, vN_F, nmE_T, nmE_F, wI_T, wI_F, data_T, data_F, ino_T, ino_F, notT, notF, bneT, bneF, beqT, beqF, decT, decF] at h18
                    refine At.seq ?_
                    refine At.region ?_
                    refine At.val (Val.move rfl) rfl rfl rfl ?_
                    refine At.val (Val.loadAll (i := 0) Tryd.isAgg66 Tryd.sizeOf66 rfl rfl (by simp)) rfl rfl rfl ?_
                    have hno : ¬ OkSl i x (y ^^^ (fl.setWidth 64 <<< sh)) z := fun h => h.2.2.elim hx0 (fun q => q.2.1.elim (fun e => ‹¬ ((y.toNat : Nat) : Int) = 0› (by rw [hzy e]; rfl)) (fun s => word_told (F := fl.toNat) (sh := sh) hy (fun e => ‹¬ ((y.toNat : Nat) : Int) = 0› (by rw [e]; rfl)) (fun e => ‹¬ (((y ^^^ (fl.setWidth 64 <<< sh)).toNat : Nat) : Int) = 0› (by rw [e]; rfl)) (spoil_some (fun e => ‹¬ (((y ^^^ (fl.setWidth 64 <<< sh)).toNat : Nat) : Int) = ((y.toNat : Nat) : Int)› (by rw [e]))) fl.isLt hsh (spoil_nat y fl hsh) s))
                    refine At.callP (fun w hw => (by have := openSlot_p i x (y ^^^ (fl.setWidth 64 <<< sh)) z w (ht.mod hw.mod); rwa [openSlot_no hno] at this)) Tryd.call42 rfl rfl ?_
                    refine At.val (Val.move rfl) rfl rfl rfl ?_
                    refine At.val (Val.extract rfl rfl) rfl rfl rfl ?_
                    refine At.val (Val.extract rfl rfl) rfl rfl rfl ?_
                    refine At.alloc Tryd.zeroValue65 rfl rfl (fun b19 => ?_)
                    refine At.storeAll (i := 0) Tryd.sizeOf65 rfl rfl rfl (by simp [Value.oneCell']) rfl rfl ?_
                    simp only [List.set_cons_zero, List.set_cons_succ]
                    refine At.val (Val.assign rfl) rfl rfl rfl ?_
                    refine At.nil ?_
                    refine At.thenN ?_
                    refine At.seq ?_
                    refine At.region ?_
                    refine At.val (Val.move rfl) rfl rfl rfl ?_
                    refine At.val (Val.bin rfl rfl rfl) rfl rfl rfl ?_
                    refine At.val (Val.move rfl) rfl rfl rfl ?_
                    refine At.yes rfl rfl ?_
                    refine At.val (Val.loadAll (i := 0) Tryd.isAgg65 Tryd.sizeOf65 rfl rfl rfl) rfl rfl rfl ?_
                    refine At.yes rfl rfl ?_
                    refine At.val (Val.build (fun a ha => by simp only [List.map_toArray, List.map_cons, List.map_nil] <;> rfl) (bld_65_)) rfl rfl rfl ?_
                    refine At.yes rfl rfl ?_
                    refine At.val (Val.neAgg (b := true) Tryd.eqGuardType65 (fun w => by simpa using eq_65 0 0 0 0 0 0 0 0 w) rfl rfl) rfl rfl rfl ?_
                    refine At.val (Val.pickF rfl rfl) rfl rfl rfl ?_
                    refine At.nil ?_
                    refine At.thenN ?_
                    refine At.condF rfl ?_
                    refine At.skipC ?_
                    refine At.thenN ?_
                    refine At.drop 1 ?_
                    simp only [List.eraseIdx_cons_zero, List.eraseIdx_cons_succ]
                    refine At.drop 0 ?_
                    simp only [List.eraseIdx_cons_zero, List.eraseIdx_cons_succ]
                    exact At.meets () trivial (Sub.cons rfl (Sub.cons rfl (Sub.cons rfl Sub.nil))) (List.Perm.refl _)
                  · skip
                    try simp only [vN_T, vN_F, nmE_T, nmE_F, wI_T, wI_F, data_T, data_F, ino_T, ino_F, notT, notF, bneT, bneF, beqT, beqF, decT, decF] at h18
                    refine At.skipC ?_
                    refine At.thenN ?_
                    refine At.drop 0 ?_
                    simp only [List.eraseIdx_cons_zero, List.eraseIdx_cons_succ]
                    exact At.meets () trivial (Sub.cons rfl (Sub.cons rfl (Sub.cons rfl Sub.nil))) (List.Perm.refl _)
                · skip
                  try simp only [vN_T, vN_F, nmE_T, nmE_F, wI_T, wI_F, data_T, data_F, ino_T, ino_F, notT, notF, bneT, bneF, beqT, beqF, decT, decF] at h17
                  refine QAt.no rfl rfl rfl rfl ?_
                  refine QAt.no rfl rfl rfl rfl ?_
                  refine QAt.no rfl rfl rfl rfl ?_
                  refine QAt.no rfl rfl rfl rfl ?_
                  refine QAt.val (Val.pickF rfl rfl) rfl rfl rfl ?_
                  refine QAt.fin ?_
                  refine At.thenN ?_
                  refine At.condF rfl ?_
                  refine At.skipC ?_
                  refine At.thenN ?_
                  refine At.drop 0 ?_
                  simp only [List.eraseIdx_cons_zero, List.eraseIdx_cons_succ]
                  exact At.meets () trivial (Sub.cons rfl (Sub.cons rfl (Sub.cons rfl Sub.nil))) (List.Perm.refl _)
              · skip
                try simp only [vN_T, vN_F, nmE_T, nmE_F, wI_T, wI_F, data_T, data_F, ino_T, ino_F, notT, notF, bneT, bneF, beqT, beqF, decT, decF] at h16
                refine QAt.no rfl rfl rfl rfl ?_
                refine QAt.no rfl rfl rfl rfl ?_
                refine QAt.no rfl rfl rfl rfl ?_
                refine QAt.no rfl rfl rfl rfl ?_
                refine QAt.val (Val.pickF rfl rfl) rfl rfl rfl ?_
                refine QAt.val (Val.move rfl) rfl rfl rfl ?_
                refine QAt.no rfl rfl rfl rfl ?_
                refine QAt.no rfl rfl rfl rfl ?_
                refine QAt.no rfl rfl rfl rfl ?_
                refine QAt.no rfl rfl rfl rfl ?_
                refine QAt.val (Val.pickF rfl rfl) rfl rfl rfl ?_
                refine QAt.fin ?_
                refine At.thenN ?_
                refine At.condF rfl ?_
                refine At.skipC ?_
                refine At.thenN ?_
                refine At.drop 0 ?_
                simp only [List.eraseIdx_cons_zero, List.eraseIdx_cons_succ]
                exact At.meets () trivial (Sub.cons rfl (Sub.cons rfl (Sub.cons rfl Sub.nil))) (List.Perm.refl _)
            · skip
              intro _ hs
              refine At.seq ?_
              refine At.region ?_
              refine At.val (Val.move rfl) rfl rfl rfl ?_
              refine At.val (Val.build (fun a ha => by simp only [List.map_toArray, List.map_cons, List.map_nil] <;> rfl) (bld_65_)) rfl rfl rfl ?_
              refine At.callP (fun w hw => (by have := packSlot_p i 0 0 0 0 w (ht.mod hw.mod) (by decide); rwa [packSlot_yes ⟨ino_T.2 hi, .inl ⟨rfl, rfl, rfl, rfl⟩⟩, slotW_zero] at this)) Tryd.call40 rfl rfl ?_
              refine At.val (Val.move rfl) rfl rfl rfl ?_
              refine At.val (Val.extract rfl rfl) rfl rfl rfl ?_
              refine At.val (Val.extract rfl rfl) rfl rfl rfl ?_
              refine At.alloc zero_66 zc_66 rfl (fun b20 => ?_)
              refine At.storeAll (i := 0) Tryd.sizeOf66 rfl rfl rfl (by simp [Value.oneCell']) rfl (by simp) ?_
              simp only [List.set_cons_zero, List.set_cons_succ]
              refine At.val (Val.assign rfl) rfl rfl rfl ?_
              refine At.nil ?_
              refine At.thenN ?_
              refine At.seq ?_
              refine At.seq ?_
              refine At.region ?_
              refine At.val (Val.move rfl) rfl rfl rfl ?_
              refine At.val (Val.bin rfl rfl rfl) rfl rfl rfl ?_
              refine At.nil ?_
              refine At.thenN ?_
              refine At.condF rfl ?_
              refine At.skipC ?_
              refine At.thenN ?_
              refine At.seq ?_
              refine At.region ?_
              refine At.val (Val.indexArr 0 rfl Tryd.underlying66 Tryd.sizeOf40 rfl rfl (by decide) (by decide)) rfl rfl rfl ?_
              refine At.val (Val.load (i := 0) Tryd.isAgg40 rfl rfl rfl) rfl rfl rfl ?_
              refine At.val (Val.indexArr 0 rfl Tryd.underlying66 Tryd.sizeOf40 rfl rfl (by decide) (by decide)) rfl rfl rfl ?_
              refine At.store (i := 1) Tryd.sizeOf40 rfl rfl rfl rfl (by first | decide | simp) ?_
              simp only [List.set_cons_zero, List.set_cons_succ]
              refine At.nil ?_
              refine At.thenN ?_
              refine At.seq ?_
              refine At.region ?_
              refine At.val (Val.indexArr 1 rfl Tryd.underlying66 Tryd.sizeOf40 rfl rfl (by decide) (by decide)) rfl rfl rfl ?_
              refine At.val (Val.load (i := 1) Tryd.isAgg40 rfl rfl rfl) rfl rfl rfl ?_
              refine At.val (Val.field 9 rfl fo_83_9 rfl) rfl rfl rfl ?_
              refine At.val (Val.field 10 rfl fo_50_1 rfl) rfl rfl rfl ?_
              refine At.val (Val.load (i := 2) Tryd.isAgg48 rfl rfl rfl) rfl rfl rfl ?_
              refine At.val (Val.conv Tryd.underlying48 Tryd.underlying40 rfl) rfl rfl rfl ?_
              rw [u64_of32]
              refine At.val (Val.bin rfl rfl rfl) rfl rfl rfl ?_
              rw [xor64]
              refine At.val (Val.indexArr 1 rfl Tryd.underlying66 Tryd.sizeOf40 rfl rfl (by decide) (by decide)) rfl rfl rfl ?_
              refine At.store (i := 1) Tryd.sizeOf40 rfl rfl rfl rfl (by first | decide | simp) ?_
              simp only [List.set_cons_zero, List.set_cons_succ]
              refine At.nil ?_
              refine At.thenN ?_
              refine At.seq ?_
              refine At.region ?_
              refine At.val (Val.move rfl) rfl rfl rfl ?_
              refine At.val (Val.loadAll (i := 1) Tryd.isAgg66 Tryd.sizeOf66 rfl rfl rfl) rfl rfl rfl ?_
              refine At.callP (fun w hw => (by have := openSlot_p i 0 (y ^^^ fl.setWidth 64) z w (ht.mod hw.mod); rwa [openSlot_yes (slot_free hi _ _).1, (slot_free hi _ _).2] at this)) Tryd.call42 rfl rfl ?_
              refine At.val (Val.move rfl) rfl rfl rfl ?_
              refine At.val (Val.extract rfl rfl) rfl rfl rfl ?_
              refine At.val (Val.extract rfl rfl) rfl rfl rfl ?_
              refine At.alloc Tryd.zeroValue65 rfl rfl (fun b21 => ?_)
              refine At.storeAll (i := 0) Tryd.sizeOf65 rfl rfl rfl (by simp [Value.oneCell']) rfl rfl ?_
              simp only [List.set_cons_zero, List.set_cons_succ]
              refine At.val (Val.assign rfl) rfl rfl rfl ?_
              refine At.nil ?_
              refine At.thenN ?_
              refine At.seq ?_
              refine At.region ?_
              refine At.val (Val.move rfl) rfl rfl rfl ?_
              refine At.val (Val.bin rfl rfl rfl) rfl rfl rfl ?_
              refine At.val (Val.move rfl) rfl rfl rfl ?_
              refine At.yes rfl rfl ?_
              refine At.val (Val.loadAll (i := 0) Tryd.isAgg65 Tryd.sizeOf65 rfl rfl rfl) rfl rfl rfl ?_
              refine At.yes rfl rfl ?_
              refine At.val (Val.build (fun a ha => by simp only [List.map_toArray, List.map_cons, List.map_nil] <;> rfl) (bld_65_)) rfl rfl rfl ?_
              refine At.yes rfl rfl ?_
              refine At.val (Val.eqAgg (b := true) Tryd.eqGuardType65 (fun w => by simpa using eq_65 0 0 0 0 0 0 0 0 w) rfl rfl) rfl rfl rfl ?_
              refine At.val (Val.pickT rfl rfl) rfl rfl rfl ?_
              refine At.val (Val.assign rfl) rfl rfl rfl ?_
              refine At.nil ?_
              refine At.thenN ?_
              refine At.retC ?_
              refine At.ret1 (.inl rfl) rfl rfl rfl (fun w hw => ?_)
              exact ⟨rfl, hw.mod⟩
          · skip
            rw [hk]
            refine At.val (Val.assign rfl) rfl rfl rfl ?_
            refine At.nil ?_
            refine At.thenN ?_
            refine At.seq ?_
            refine At.region ?_
            refine At.val (Val.loadAll (i := 0) Tryd.isAgg66 Tryd.sizeOf66 rfl rfl rfl) rfl rfl rfl ?_
            refine At.alloc zero_66 zc_66 rfl (fun b22 => ?_)
            refine At.storeAll (i := 0) Tryd.sizeOf66 rfl rfl rfl (by simp [Value.oneCell']) rfl (by simp) ?_
            simp only [List.set_cons_zero, List.set_cons_succ]
            refine At.nil ?_
            refine At.thenN ?_
            refine At.seq ?_
            refine At.tail 15 rfl (by decide +kernel) ?_
            simp only [List.take_succ_cons, List.take_zero, List.drop_succ_cons, List.drop_zero]
            refine QAt.val (Val.move rfl) rfl rfl rfl ?_
            refine QAt.val (Val.indexArr 2 rfl Tryd.underlying66 Tryd.sizeOf40 rfl rfl (by decide) (by decide)) rfl rfl rfl ?_
            refine QAt.val (Val.load (i := 0) Tryd.isAgg40 rfl rfl rfl) rfl rfl rfl ?_
            refine QAt.val (Val.field 9 rfl fo_83_9 rfl) rfl rfl rfl ?_
            refine QAt.val (Val.field 10 rfl fo_50_1 rfl) rfl rfl rfl ?_
            refine QAt.val (Val.load (i := 2) Tryd.isAgg48 rfl rfl rfl) rfl rfl rfl ?_
            refine QAt.val (Val.conv Tryd.underlying48 Tryd.underlying40 rfl) rfl rfl rfl ?_
            rw [u64_of32]
            refine QAt.val (Val.field 9 rfl fo_83_9 rfl) rfl rfl rfl ?_
            refine QAt.val (Val.field 9 rfl fo_50_0 rfl) rfl rfl rfl ?_
            refine QAt.val (Val.load (i := 2) Tryd.isAgg3 rfl rfl rfl) rfl rfl rfl ?_
            refine QAt.callP (fun w hw => mod_p _ _ w (by omega) (by omega)) Tryd.call32 rfl rfl ?_
            refine QAt.val (Val.conv Tryd.underlying3 Tryd.underlying52 rfl) rfl rfl rfl ?_
            rw [← es, wrap_u64 (n := (sh : Int)) (by omega) (by omega)]
            refine QAt.val (Val.shl rfl rfl (by omega)) rfl rfl rfl ?_
            refine QAt.val (Val.bin rfl rfl rfl) rfl rfl rfl ?_
            rw [spoil_word z fl hsh]
            refine QAt.val (Val.indexArr 2 rfl Tryd.underlying66 Tryd.sizeOf40 rfl rfl (by decide) (by decide)) rfl rfl rfl ?_
            refine QAt.fin ?_
            refine At.store (i := 0) Tryd.sizeOf40 rfl rfl rfl rfl (by first | decide | simp) ?_
            simp only [List.set_cons_zero, List.set_cons_succ]
            refine At.nil ?_
            refine At.thenN ?_
            refine At.join (σ := Unit) (fun _ => True) (fun _ => [(1, .pointer (some ⟨b1, 0, none⟩)), (3, .int .i64 i), (6, .pointer (some ⟨b5, 0, none⟩))]) (fun _ => [blk b5 66 ([b64 x, b64 y, b64 z]), blk b1 83 ([.int .i64 n0, .int .i64 n1, .int .i64 n2, .int .i64 n3, .int .i64 n4, .int .i64 n5, .int .i64 n6, .bool e, .int .i64 wd, .int .i64 at', b32 fl])]) ?_ ?_
            · skip
              refine At.seq ?_
              refine At.quiet rfl (by decide +kernel) ?_
              refine QAt.val (Val.move rfl) rfl rfl rfl ?_
              refine QAt.val (Val.indexArr 2 rfl Tryd.underlying66 Tryd.sizeOf40 rfl rfl (by decide) (by decide)) rfl rfl rfl ?_
              refine QAt.val (Val.load (i := 0) Tryd.isAgg40 rfl rfl rfl) rfl rfl rfl ?_
              refine QAt.val (Val.move rfl) rfl rfl rfl ?_
              refine QAt.val (Val.indexArr 2 rfl Tryd.underlying66 Tryd.sizeOf40 rfl rfl (by decide) (by decide)) rfl rfl rfl ?_
              refine QAt.val (Val.load (i := 1) Tryd.isAgg40 rfl rfl rfl) rfl rfl rfl ?_
              refine QAt.val (Val.bin rfl rfl rfl) rfl rfl rfl ?_
              refine QAt.val (Val.move rfl) rfl rfl rfl ?_
              refine QAt.split (t := 127) rfl (fun h23 => ?_) (fun h23 => ?_)
              · skip
                try simp only [vN_T, vN_F, nmE_T, nmE_F, wI_T, wI_F, data_T, data_F, ino_T, ino_F, notT, notF, bneT, bneF, beqT, beqF, decT, decF] at h23
                refine QAt.yes rfl rfl ?_
                refine QAt.val (Val.move rfl) rfl rfl rfl ?_
                refine QAt.yes rfl rfl ?_
                refine QAt.val (Val.indexArr 2 rfl Tryd.underlying66 Tryd.sizeOf40 rfl rfl (by decide) (by decide)) rfl rfl rfl ?_
                refine QAt.yes rfl rfl ?_
                refine QAt.val (Val.load (i := 0) Tryd.isAgg40 rfl rfl rfl) rfl rfl rfl ?_
                refine QAt.yes rfl rfl ?_
                refine QAt.val (Val.bin rfl rfl rfl) rfl rfl rfl ?_
                refine QAt.val (Val.pickT rfl rfl) rfl rfl rfl ?_
                refine QAt.val (Val.move rfl) rfl rfl rfl ?_
                refine QAt.split (t := 133) rfl (fun h24 => ?_) (fun h24 => ?_)
                · skip
                  try simp only [vN_T, vN_F, nmE_T, nmE_F, wI_T, wI_F, data_T, data_F, ino_T, ino_F, notT, notF, bneT, bneF, beqT, beqF, decT, decF] at h24
                  refine QAt.yes rfl rfl ?_
                  refine QAt.val (Val.move rfl) rfl rfl rfl ?_
                  refine QAt.yes rfl rfl ?_
                  refine QAt.val (Val.indexArr 2 rfl Tryd.underlying66 Tryd.sizeOf40 rfl rfl (by decide) (by decide)) rfl rfl rfl ?_
                  refine QAt.yes rfl rfl ?_
                  refine QAt.val (Val.load (i := 1) Tryd.isAgg40 rfl rfl rfl) rfl rfl rfl ?_
                  refine QAt.yes rfl rfl ?_
                  refine QAt.val (Val.bin rfl rfl rfl) rfl rfl rfl ?_
                  refine QAt.val (Val.pickT rfl rfl) rfl rfl rfl ?_
                  refine QAt.fin ?_
                  refine At.thenN ?_
                  refine At.cond rfl (fun h25 => ?_) (fun h25 => ?_)
                  · skip
                    try simp only [vN_T, vN_F, nmE_T, nmE_F, wI_T, wI_F, data_T, data_F, ino_T, ino_F, notT, notF, bneT, bneF, beqT, beqF, decT, decF] at h25
                    refine At.seq ?_
                    refine At.region ?_
                    refine At.val (Val.move rfl) rfl rfl rfl ?_
                    refine At.val (Val.loadAll (i := 0) Tryd.isAgg66 Tryd.sizeOf66 rfl rfl (by simp)) rfl rfl rfl ?_
                    have hno : ¬ OkSl i x y (z ^^^ (fl.setWidth 64 <<< sh)) := fun h => h.2.2.elim hx0 (fun q => word_told (F := fl.toNat) (sh := sh) hz (fun e => ‹¬ ((z.toNat : Nat) : Int) = 0› (by rw [e]; rfl)) (fun e => ‹¬ (((z ^^^ (fl.setWidth 64 <<< sh)).toNat : Nat) : Int) = 0› (by rw [e]; rfl)) (spoil_some (fun e => ‹¬ (((z ^^^ (fl.setWidth 64 <<< sh)).toNat : Nat) : Int) = ((z.toNat : Nat) : Int)› (by rw [e]))) fl.isLt hsh (spoil_nat z fl hsh) q.1)
                    refine At.callP (fun w hw => (by have := openSlot_p i x y (z ^^^ (fl.setWidth 64 <<< sh)) w (ht.mod hw.mod); rwa [openSlot_no hno] at this)) Tryd.call42 rfl rfl ?_
                    refine At.val (Val.move rfl) rfl rfl rfl ?_
                    refine At.val (Val.extract rfl rfl) rfl rfl rfl ?_
                    refine At.val (Val.extract rfl rfl) rfl rfl rfl ?_
                    refine At.alloc Tryd.zeroValue65 rfl rfl (fun b26 => ?_)
                    refine At.storeAll (i := 0) Tryd.sizeOf65 rfl rfl rfl (by simp [Value.oneCell']) rfl rfl ?_
                    simp only [List.set_cons_zero, List.set_cons_succ]
                    refine At.val (Val.assign rfl) rfl rfl rfl ?_
                    refine At.nil ?_
                    refine At.thenN ?_
                    refine At.seq ?_
                    refine At.region ?_
                    refine At.val (Val.move rfl) rfl rfl rfl ?_
                    refine At.val (Val.bin rfl rfl rfl) rfl rfl rfl ?_
                    refine At.val (Val.move rfl) rfl rfl rfl ?_
                    refine At.yes rfl rfl ?_
                    refine At.val (Val.loadAll (i := 0) Tryd.isAgg65 Tryd.sizeOf65 rfl rfl rfl) rfl rfl rfl ?_
                    refine At.yes rfl rfl ?_
                    refine At.val (Val.build (fun a ha => by simp only [List.map_toArray, List.map_cons, List.map_nil] <;> rfl) (bld_65_)) rfl rfl rfl ?_
                    refine At.yes rfl rfl ?_
                    refine At.val (Val.neAgg (b := true) Tryd.eqGuardType65 (fun w => by simpa using eq_65 0 0 0 0 0 0 0 0 w) rfl rfl) rfl rfl rfl ?_
                    refine At.val (Val.pickF rfl rfl) rfl rfl rfl ?_
                    refine At.nil ?_
                    refine At.thenN ?_
                    refine At.condF rfl ?_
                    refine At.skipC ?_
                    refine At.thenN ?_
                    refine At.drop 1 ?_
                    simp only [List.eraseIdx_cons_zero, List.eraseIdx_cons_succ]
                    refine At.drop 0 ?_
                    simp only [List.eraseIdx_cons_zero, List.eraseIdx_cons_succ]
                    exact At.meets () trivial (Sub.cons rfl (Sub.cons rfl (Sub.cons rfl Sub.nil))) (List.Perm.refl _)
                  · skip
                    try simp only [vN_T, vN_F, nmE_T, nmE_F, wI_T, wI_F, data_T, data_F, ino_T, ino_F, notT, notF, bneT, bneF, beqT, beqF, decT, decF] at h25
                    refine At.skipC ?_
                    refine At.thenN ?_
                    refine At.drop 0 ?_
                    simp only [List.eraseIdx_cons_zero, List.eraseIdx_cons_succ]
                    exact At.meets () trivial (Sub.cons rfl (Sub.cons rfl (Sub.cons rfl Sub.nil))) (List.Perm.refl _)
                · skip
                  try simp only [vN_T, vN_F, nmE_T, nmE_F, wI_T, wI_F, data_T, data_F, ino_T, ino_F, notT, notF, bneT, bneF, beqT, beqF, decT, decF] at h24
                  refine QAt.no rfl rfl rfl rfl ?_
                  refine QAt.no rfl rfl rfl rfl ?_
                  refine QAt.no rfl rfl rfl rfl ?_
                  refine QAt.no rfl rfl rfl rfl ?_
                  refine QAt.val (Val.pickF rfl rfl) rfl rfl rfl ?_
                  refine QAt.fin ?_
                  refine At.thenN ?_
                  refine At.condF rfl ?_
                  refine At.skipC ?_
                  refine At.thenN ?_
                  refine At.drop 0 ?_
                  simp only [List.eraseIdx_cons_zero, List.eraseIdx_cons_succ]
                  exact At.meets () trivial (Sub.cons rfl (Sub.cons rfl (Sub.cons rfl Sub.nil))) (List.Perm.refl _)
              · skip
                try simp only [vN_T, vN_F, nmE_T, nmE_F, wI_T, wI_F, data_T, data_F, ino_T, ino_F, notT, notF, bneT, bneF, beqT, beqF, decT, decF] at h23
                refine QAt.no rfl rfl rfl rfl ?_
                refine QAt.no rfl rfl rfl rfl ?_
                refine QAt.no rfl rfl rfl rfl ?_
                refine QAt.no rfl rfl rfl rfl ?_
                refine QAt.val (Val.pickF rfl rfl) rfl rfl rfl ?_
                refine QAt.val (Val.move rfl) rfl rfl rfl ?_
                refine QAt.no rfl rfl rfl rfl ?_
                refine QAt.no rfl rfl rfl rfl ?_
                refine QAt.no rfl rfl rfl rfl ?_
                refine QAt.no rfl rfl rfl rfl ?_
                refine QAt.val (Val.pickF rfl rfl) rfl rfl rfl ?_
                refine QAt.fin ?_
                refine At.thenN ?_
                refine At.condF rfl ?_
                refine At.skipC ?_
                refine At.thenN ?_
                refine At.drop 0 ?_
                simp only [List.eraseIdx_cons_zero, List.eraseIdx_cons_succ]
                exact At.meets () trivial (Sub.cons rfl (Sub.cons rfl (Sub.cons rfl Sub.nil))) (List.Perm.refl _)
            · skip
              intro _ hs
              refine At.seq ?_
              refine At.region ?_
              refine At.val (Val.move rfl) rfl rfl rfl ?_
              refine At.val (Val.build (fun a ha => by simp only [List.map_toArray, List.map_cons, List.map_nil] <;> rfl) (bld_65_)) rfl rfl rfl ?_
              refine At.callP (fun w hw => (by have := packSlot_p i 0 0 0 0 w (ht.mod hw.mod) (by decide); rwa [packSlot_yes ⟨ino_T.2 hi, .inl ⟨rfl, rfl, rfl, rfl⟩⟩, slotW_zero] at this)) Tryd.call40 rfl rfl ?_
              refine At.val (Val.move rfl) rfl rfl rfl ?_
              refine At.val (Val.extract rfl rfl) rfl rfl rfl ?_
              refine At.val (Val.extract rfl rfl) rfl rfl rfl ?_
              refine At.alloc zero_66 zc_66 rfl (fun b27 => ?_)
              refine At.storeAll (i := 0) Tryd.sizeOf66 rfl rfl rfl (by simp [Value.oneCell']) rfl (by simp) ?_
              simp only [List.set_cons_zero, List.set_cons_succ]
              refine At.val (Val.assign rfl) rfl rfl rfl ?_
              refine At.nil ?_
              refine At.thenN ?_
              refine At.seq ?_
              refine At.seq ?_
              refine At.region ?_
              refine At.val (Val.move rfl) rfl rfl rfl ?_
              refine At.val (Val.bin rfl rfl rfl) rfl rfl rfl ?_
              refine At.nil ?_
              refine At.thenN ?_
              refine At.condF rfl ?_
              refine At.skipC ?_
              refine At.thenN ?_
              refine At.seq ?_
              refine At.region ?_
              refine At.val (Val.indexArr 0 rfl Tryd.underlying66 Tryd.sizeOf40 rfl rfl (by decide) (by decide)) rfl rfl rfl ?_
              refine At.val (Val.load (i := 0) Tryd.isAgg40 rfl rfl rfl) rfl rfl rfl ?_
              refine At.val (Val.indexArr 0 rfl Tryd.underlying66 Tryd.sizeOf40 rfl rfl (by decide) (by decide)) rfl rfl rfl ?_
              refine At.store (i := 1) Tryd.sizeOf40 rfl rfl rfl rfl (by first | decide | simp) ?_
              simp only [List.set_cons_zero, List.set_cons_succ]
              refine At.nil ?_
              refine At.thenN ?_
              refine At.seq ?_
              refine At.region ?_
              refine At.val (Val.indexArr 1 rfl Tryd.underlying66 Tryd.sizeOf40 rfl rfl (by decide) (by decide)) rfl rfl rfl ?_
              refine At.val (Val.load (i := 1) Tryd.isAgg40 rfl rfl rfl) rfl rfl rfl ?_
              refine At.val (Val.field 9 rfl fo_83_9 rfl) rfl rfl rfl ?_
              refine At.val (Val.field 10 rfl fo_50_1 rfl) rfl rfl rfl ?_
              refine At.val (Val.load (i := 2) Tryd.isAgg48 rfl rfl rfl) rfl rfl rfl ?_
              refine At.val (Val.conv Tryd.underlying48 Tryd.underlying40 rfl) rfl rfl rfl ?_
              rw [u64_of32]
              refine At.val (Val.bin rfl rfl rfl) rfl rfl rfl ?_
              rw [xor64]
              refine At.val (Val.indexArr 1 rfl Tryd.underlying66 Tryd.sizeOf40 rfl rfl (by decide) (by decide)) rfl rfl rfl ?_
              refine At.store (i := 1) Tryd.sizeOf40 rfl rfl rfl rfl (by first | decide | simp) ?_
              simp only [List.set_cons_zero, List.set_cons_succ]
              refine At.nil ?_
              refine At.thenN ?_
              refine At.seq ?_
              refine At.region ?_
              refine At.val (Val.move rfl) rfl rfl rfl ?_
              refine At.val (Val.loadAll (i := 1) Tryd.isAgg66 Tryd.sizeOf66 rfl rfl rfl) rfl rfl rfl ?_
              refine At.callP (fun w hw => (by have := openSlot_p i 0 (y ^^^ fl.setWidth 64) z w (ht.mod hw.mod); rwa [openSlot_yes (slot_free hi _ _).1, (slot_free hi _ _).2] at this)) Tryd.call42 rfl rfl ?_
              refine At.val (Val.move rfl) rfl rfl rfl ?_
              refine At.val (Val.extract rfl rfl) rfl rfl rfl ?_
              refine At.val (Val.extract rfl rfl) rfl rfl rfl ?_
              refine At.alloc Tryd.zeroValue65 rfl rfl (fun b28 => ?_)
              refine At.storeAll (i := 0) Tryd.sizeOf65 rfl rfl rfl (by simp [Value.oneCell']) rfl rfl ?_
              simp only [List.set_cons_zero, List.set_cons_succ]
              refine At.val (Val.assign rfl) rfl rfl rfl ?_
              refine At.nil ?_
              refine At.thenN ?_
              refine At.seq ?_
              refine At.region ?_
              refine At.val (Val.move rfl) rfl rfl rfl ?_
              refine At.val (Val.bin rfl rfl rfl) rfl rfl rfl ?_
              refine At.val (Val.move rfl) rfl rfl rfl ?_
              refine At.yes rfl rfl ?_
              refine At.val (Val.loadAll (i := 0) Tryd.isAgg65 Tryd.sizeOf65 rfl rfl rfl) rfl rfl rfl ?_
              refine At.yes rfl rfl ?_
              refine At.val (Val.build (fun a ha => by simp only [List.map_toArray, List.map_cons, List.map_nil] <;> rfl) (bld_65_)) rfl rfl rfl ?_
              refine At.yes rfl rfl ?_
              refine At.val (Val.eqAgg (b := true) Tryd.eqGuardType65 (fun w => by simpa using eq_65 0 0 0 0 0 0 0 0 w) rfl rfl) rfl rfl rfl ?_
              refine At.val (Val.pickT rfl rfl) rfl rfl rfl ?_
              refine At.val (Val.assign rfl) rfl rfl rfl ?_
              refine At.nil ?_
              refine At.thenN ?_
              refine At.retC ?_
              refine At.ret1 (.inl rfl) rfl rfl rfl (fun w hw => ?_)
              exact ⟨rfl, hw.mod⟩
      · skip
        have hno : ¬ OkSl j x y z := fun h => place_told hx hxx (addr_ne (by omega) (by omega) (by omega) (by omega) (by omega)) (addr_ofInt (by omega) (by omega)) (addr_ofInt (by omega) (by omega)) h.2.1
        refine At.callP (fun w hw => (by have := openSlot_p j x y z w (ht.mod hw.mod); rwa [openSlot_no hno] at this)) Tryd.call42 rfl rfl ?_
        refine At.val (Val.move rfl) rfl rfl rfl ?_
        refine At.val (Val.extract rfl rfl) rfl rfl rfl ?_
        refine At.val (Val.extract rfl rfl) rfl rfl rfl ?_
        refine At.alloc Tryd.zeroValue65 rfl rfl (fun b29 => ?_)
        refine At.storeAll (i := 0) Tryd.sizeOf65 rfl rfl rfl (by simp [Value.oneCell']) rfl rfl ?_
        simp only [List.set_cons_zero, List.set_cons_succ]
        refine At.val (Val.assign rfl) rfl rfl rfl ?_
        refine At.nil ?_
        refine At.thenN ?_
        refine At.join (σ := Unit) (fun _ => True) (fun _ => [(1, .pointer (some ⟨b1, 0, none⟩)), (3, .int .i64 i), (6, .pointer (some ⟨b5, 0, none⟩))]) (fun _ => [blk b5 66 ([b64 x, b64 y, b64 z]), blk b1 83 ([.int .i64 n0, .int .i64 n1, .int .i64 n2, .int .i64 n3, .int .i64 n4, .int .i64 n5, .int .i64 n6, .bool e, .int .i64 wd, .int .i64 at', b32 fl])]) ?_ ?_
        · skip
          refine At.seq ?_
          refine At.region ?_
          refine At.val (Val.move rfl) rfl rfl rfl ?_
          refine At.val (Val.move rfl) rfl rfl rfl ?_
          refine At.val (Val.bin rfl rfl rfl) rfl rfl rfl ?_
          rw [show (j != i) = true from by simpa using hqp]
          refine At.val (Val.move rfl) rfl rfl rfl ?_
          refine At.yes rfl rfl ?_
          refine At.val (Val.move rfl) rfl rfl rfl ?_
          refine At.yes rfl rfl ?_
          refine At.val (Val.bin rfl rfl rfl) rfl rfl rfl ?_
          refine At.yes rfl rfl ?_
          refine At.val (Val.move rfl) rfl rfl rfl ?_
          refine At.yes rfl rfl ?_
          refine At.val (Val.loadAll (i := 0) Tryd.isAgg65 Tryd.sizeOf65 rfl rfl rfl) rfl rfl rfl ?_
          refine At.yes rfl rfl ?_
          refine At.val (Val.build (fun a ha => by simp only [List.map_toArray, List.map_cons, List.map_nil] <;> rfl) (bld_65_)) rfl rfl rfl ?_
          refine At.yes rfl rfl ?_
          refine At.val (Val.neAgg (b := true) Tryd.eqGuardType65 (fun w => by simpa using eq_65 0 0 0 0 0 0 0 0 w) rfl rfl) rfl rfl rfl ?_
          refine At.yes rfl rfl ?_
          refine At.val (Val.pickF rfl rfl) rfl rfl rfl ?_
          refine At.val (Val.pickT rfl rfl) rfl rfl rfl ?_
          refine At.nil ?_
          refine At.thenN ?_
          refine At.condF rfl ?_
          refine At.skipC ?_
          refine At.thenN ?_
          refine At.drop 3 ?_
          simp only [List.eraseIdx_cons_zero, List.eraseIdx_cons_succ]
          refine At.drop 1 ?_
          simp only [List.eraseIdx_cons_zero, List.eraseIdx_cons_succ]
          refine At.drop 0 ?_
          simp only [List.eraseIdx_cons_zero, List.eraseIdx_cons_succ]
          exact At.meets () trivial (Sub.cons rfl (Sub.cons rfl (Sub.cons rfl Sub.nil))) (List.Perm.refl _)
        · skip
          intro _ hs
          refine At.seq ?_
          refine At.region ?_
          refine At.val (Val.field 8 rfl fo_83_8 rfl) rfl rfl rfl ?_
          refine At.val (Val.load (i := 1) Tryd.isAgg3 rfl rfl rfl) rfl rfl rfl ?_
          refine At.callP (fun w hw => mod_p _ _ w (by omega) (by omega)) Tryd.call32 rfl rfl ?_
          rcases (show wd % 3 = 0 ∨ wd % 3 = 1 ∨ wd % 3 = 2 by omega) with hk | hk | hk
          · skip
            rw [hk]
            refine At.val (Val.assign rfl) rfl rfl rfl ?_
            refine At.nil ?_
            refine At.thenN ?_
            refine At.seq ?_
            refine At.region ?_
            refine At.val (Val.loadAll (i := 0) Tryd.isAgg66 Tryd.sizeOf66 rfl rfl rfl) rfl rfl rfl ?_
            refine At.alloc zero_66 zc_66 rfl (fun b30 => ?_)
            refine At.storeAll (i := 0) Tryd.sizeOf66 rfl rfl rfl (by simp [Value.oneCell']) rfl (by simp) ?_
            simp only [List.set_cons_zero, List.set_cons_succ]
            refine At.nil ?_
            refine At.thenN ?_
            refine At.seq ?_
            refine At.tail 15 rfl (by decide +kernel) ?_
            simp only [List.take_succ_cons, List.take_zero, List.drop_succ_cons, List.drop_zero]
            refine QAt.val (Val.move rfl) rfl rfl rfl ?_
            refine QAt.val (Val.indexArr 0 rfl Tryd.underlying66 Tryd.sizeOf40 rfl rfl (by decide) (by decide)) rfl rfl rfl ?_
            refine QAt.val (Val.load (i := 0) Tryd.isAgg40 rfl rfl rfl) rfl rfl rfl ?_
            refine QAt.val (Val.field 9 rfl fo_83_9 rfl) rfl rfl rfl ?_
            refine QAt.val (Val.field 10 rfl fo_50_1 rfl) rfl rfl rfl ?_
            refine QAt.val (Val.load (i := 2) Tryd.isAgg48 rfl rfl rfl) rfl rfl rfl ?_
            refine QAt.val (Val.conv Tryd.underlying48 Tryd.underlying40 rfl) rfl rfl rfl ?_
            rw [u64_of32]
            refine QAt.val (Val.field 9 rfl fo_83_9 rfl) rfl rfl rfl ?_
            refine QAt.val (Val.field 9 rfl fo_50_0 rfl) rfl rfl rfl ?_
            refine QAt.val (Val.load (i := 2) Tryd.isAgg3 rfl rfl rfl) rfl rfl rfl ?_
            refine QAt.callP (fun w hw => mod_p _ _ w (by omega) (by omega)) Tryd.call32 rfl rfl ?_
            refine QAt.val (Val.conv Tryd.underlying3 Tryd.underlying52 rfl) rfl rfl rfl ?_
            rw [← es, wrap_u64 (n := (sh : Int)) (by omega) (by omega)]
            refine QAt.val (Val.shl rfl rfl (by omega)) rfl rfl rfl ?_
            refine QAt.val (Val.bin rfl rfl rfl) rfl rfl rfl ?_
            rw [spoil_word x fl hsh]
            refine QAt.val (Val.indexArr 0 rfl Tryd.underlying66 Tryd.sizeOf40 rfl rfl (by decide) (by decide)) rfl rfl rfl ?_
            refine QAt.fin ?_
            refine At.store (i := 0) Tryd.sizeOf40 rfl rfl rfl rfl (by first | decide | simp) ?_
            simp only [List.set_cons_zero, List.set_cons_succ]
            refine At.nil ?_
            refine At.thenN ?_
            refine At.join (σ := Unit) (fun _ => True) (fun _ => [(1, .pointer (some ⟨b1, 0, none⟩)), (3, .int .i64 i), (6, .pointer (some ⟨b5, 0, none⟩))]) (fun _ => [blk b5 66 ([b64 x, b64 y, b64 z]), blk b1 83 ([.int .i64 n0, .int .i64 n1, .int .i64 n2, .int .i64 n3, .int .i64 n4, .int .i64 n5, .int .i64 n6, .bool e, .int .i64 wd, .int .i64 at', b32 fl])]) ?_ ?_
            · skip
              refine At.seq ?_
              refine At.quiet rfl (by decide +kernel) ?_
              refine QAt.val (Val.move rfl) rfl rfl rfl ?_
              refine QAt.val (Val.indexArr 0 rfl Tryd.underlying66 Tryd.sizeOf40 rfl rfl (by decide) (by decide)) rfl rfl rfl ?_
              refine QAt.val (Val.load (i := 0) Tryd.isAgg40 rfl rfl rfl) rfl rfl rfl ?_
              refine QAt.val (Val.move rfl) rfl rfl rfl ?_
              refine QAt.val (Val.indexArr 0 rfl Tryd.underlying66 Tryd.sizeOf40 rfl rfl (by decide) (by decide)) rfl rfl rfl ?_
              refine QAt.val (Val.load (i := 1) Tryd.isAgg40 rfl rfl rfl) rfl rfl rfl ?_
              refine QAt.val (Val.bin rfl rfl rfl) rfl rfl rfl ?_
              refine QAt.val (Val.move rfl) rfl rfl rfl ?_
              refine QAt.split (t := 127) rfl (fun h31 => ?_) (fun h31 => ?_)
              · skip
                try simp only [vN_T, vN_F, nmE_T, nmE_F, wI_T, wI_F, data_T, data_F, ino_T, ino_F, notT, notF, bneT, bneF, beqT, beqF, decT, decF] at h31
                refine QAt.yes rfl rfl ?_
                refine QAt.val (Val.move rfl) rfl rfl rfl ?_
                refine QAt.yes rfl rfl ?_
                refine QAt.val (Val.indexArr 0 rfl Tryd.underlying66 Tryd.sizeOf40 rfl rfl (by decide) (by decide)) rfl rfl rfl ?_
                refine QAt.yes rfl rfl ?_
                refine QAt.val (Val.load (i := 0) Tryd.isAgg40 rfl rfl rfl) rfl rfl rfl ?_
                refine QAt.yes rfl rfl ?_
                refine QAt.val (Val.bin rfl rfl rfl) rfl rfl rfl ?_
                refine QAt.val (Val.pickT rfl rfl) rfl rfl rfl ?_
                refine QAt.val (Val.move rfl) rfl rfl rfl ?_
                refine QAt.split (t := 133) rfl (fun h32 => ?_) (fun h32 => ?_)
                · skip
                  try simp only [vN_T, vN_F, nmE_T, nmE_F, wI_T, wI_F, data_T, data_F, ino_T, ino_F, notT, notF, bneT, bneF, beqT, beqF, decT, decF] at h32
                  refine QAt.yes rfl rfl ?_
                  refine QAt.val (Val.move rfl) rfl rfl rfl ?_
                  refine QAt.yes rfl rfl ?_
                  refine QAt.val (Val.indexArr 0 rfl Tryd.underlying66 Tryd.sizeOf40 rfl rfl (by decide) (by decide)) rfl rfl rfl ?_
                  refine QAt.yes rfl rfl ?_
                  refine QAt.val (Val.load (i := 1) Tryd.isAgg40 rfl rfl rfl) rfl rfl rfl ?_
                  refine QAt.yes rfl rfl ?_
                  refine QAt.val (Val.bin rfl rfl rfl) rfl rfl rfl ?_
                  refine QAt.val (Val.pickT rfl rfl) rfl rfl rfl ?_
                  refine QAt.fin ?_
                  refine At.thenN ?_
                  refine At.cond rfl (fun h33 => ?_) (fun h33 => ?_)
                  · skip
                    try simp only [vN_T, vN_F, nmE_T, nmE_F, wI_T, wI_F, data_T, data_F, ino_T, ino_F, notT, notF, bneT, bneF, beqT, beqF, decT, decF] at h33
                    refine At.seq ?_
                    refine At.region ?_
                    refine At.val (Val.move rfl) rfl rfl rfl ?_
                    refine At.val (Val.loadAll (i := 0) Tryd.isAgg66 Tryd.sizeOf66 rfl rfl (by simp)) rfl rfl rfl ?_
                    have hno : ¬ OkSl i (x ^^^ (fl.setWidth 64 <<< sh)) y z := fun h => word_told (F := fl.toNat) (sh := sh) hx (fun e => ‹¬ ((x.toNat : Nat) : Int) = 0› (by rw [e]; rfl)) (fun e => ‹¬ (((x ^^^ (fl.setWidth 64 <<< sh)).toNat : Nat) : Int) = 0› (by rw [e]; rfl)) (spoil_some (fun e => ‹¬ (((x ^^^ (fl.setWidth 64 <<< sh)).toNat : Nat) : Int) = ((x.toNat : Nat) : Int)› (by rw [e]))) fl.isLt hsh (spoil_nat x fl hsh) h.2.1
                    refine At.callP (fun w hw => (by have := openSlot_p i (x ^^^ (fl.setWidth 64 <<< sh)) y z w (ht.mod hw.mod); rwa [openSlot_no hno] at this)) Tryd.call42 rfl rfl ?_
                    refine At.val (Val.move rfl) rfl rfl rfl ?_
                    refine At.val (Val.extract rfl rfl) rfl rfl rfl ?_
                    refine At.val (Val.extract rfl rfl) rfl rfl rfl ?_
                    refine At.alloc Tryd.zeroValue65 rfl rfl (fun b34 => ?_)
                    refine At.storeAll (i := 0) Tryd.sizeOf65 rfl rfl rfl (by simp [Value.oneCell']) rfl rfl ?_
                    simp only [List.set_cons_zero, List.set_cons_succ]
                    refine At.val (Val.assign rfl) rfl rfl rfl ?_
                    refine At.nil ?_
                    refine At.thenN ?_
                    refine At.seq ?_
                    refine At.region ?_
                    refine At.val (Val.move rfl) rfl rfl rfl ?_
                    refine At.val (Val.bin rfl rfl rfl) rfl rfl rfl ?_
                    refine At.val (Val.move rfl) rfl rfl rfl ?_
                    refine At.yes rfl rfl ?_
                    refine At.val (Val.loadAll (i := 0) Tryd.isAgg65 Tryd.sizeOf65 rfl rfl rfl) rfl rfl rfl ?_
                    refine At.yes rfl rfl ?_
                    refine At.val (Val.build (fun a ha => by simp only [List.map_toArray, List.map_cons, List.map_nil] <;> rfl) (bld_65_)) rfl rfl rfl ?_
                    refine At.yes rfl rfl ?_
                    refine At.val (Val.neAgg (b := true) Tryd.eqGuardType65 (fun w => by simpa using eq_65 0 0 0 0 0 0 0 0 w) rfl rfl) rfl rfl rfl ?_
                    refine At.val (Val.pickF rfl rfl) rfl rfl rfl ?_
                    refine At.nil ?_
                    refine At.thenN ?_
                    refine At.condF rfl ?_
                    refine At.skipC ?_
                    refine At.thenN ?_
                    refine At.drop 1 ?_
                    simp only [List.eraseIdx_cons_zero, List.eraseIdx_cons_succ]
                    refine At.drop 0 ?_
                    simp only [List.eraseIdx_cons_zero, List.eraseIdx_cons_succ]
                    exact At.meets () trivial (Sub.cons rfl (Sub.cons rfl (Sub.cons rfl Sub.nil))) (List.Perm.refl _)
                  · skip
                    try simp only [vN_T, vN_F, nmE_T, nmE_F, wI_T, wI_F, data_T, data_F, ino_T, ino_F, notT, notF, bneT, bneF, beqT, beqF, decT, decF] at h33
                    refine At.skipC ?_
                    refine At.thenN ?_
                    refine At.drop 0 ?_
                    simp only [List.eraseIdx_cons_zero, List.eraseIdx_cons_succ]
                    exact At.meets () trivial (Sub.cons rfl (Sub.cons rfl (Sub.cons rfl Sub.nil))) (List.Perm.refl _)
                · skip
                  try simp only [vN_T, vN_F, nmE_T, nmE_F, wI_T, wI_F, data_T, data_F, ino_T, ino_F, notT, notF, bneT, bneF, beqT, beqF, decT, decF] at h32
                  refine QAt.no rfl rfl rfl rfl ?_
                  refine QAt.no rfl rfl rfl rfl ?_
                  refine QAt.no rfl rfl rfl rfl ?_
                  refine QAt.no rfl rfl rfl rfl ?_
                  refine QAt.val (Val.pickF rfl rfl) rfl rfl rfl ?_
                  refine QAt.fin ?_
                  refine At.thenN ?_
                  refine At.condF rfl ?_
                  refine At.skipC ?_
                  refine At.thenN ?_
                  refine At.drop 0 ?_
                  simp only [List.eraseIdx_cons_zero, List.eraseIdx_cons_succ]
                  exact At.meets () trivial (Sub.cons rfl (Sub.cons rfl (Sub.cons rfl Sub.nil))) (List.Perm.refl _)
              · skip
                try simp only [vN_T, vN_F, nmE_T, nmE_F, wI_T, wI_F, data_T, data_F, ino_T, ino_F, notT, notF, bneT, bneF, beqT, beqF, decT, decF] at h31
                refine QAt.no rfl rfl rfl rfl ?_
                refine QAt.no rfl rfl rfl rfl ?_
                refine QAt.no rfl rfl rfl rfl ?_
                refine QAt.no rfl rfl rfl rfl ?_
                refine QAt.val (Val.pickF rfl rfl) rfl rfl rfl ?_
                refine QAt.val (Val.move rfl) rfl rfl rfl ?_
                refine QAt.no rfl rfl rfl rfl ?_
                refine QAt.no rfl rfl rfl rfl ?_
                refine QAt.no rfl rfl rfl rfl ?_
                refine QAt.no rfl rfl rfl rfl ?_
                refine QAt.val (Val.pickF rfl rfl) rfl rfl rfl ?_
                refine QAt.fin ?_
                refine At.thenN ?_
                refine At.condF rfl ?_
                refine At.skipC ?_
                refine At.thenN ?_
                refine At.drop 0 ?_
                simp only [List.eraseIdx_cons_zero, List.eraseIdx_cons_succ]
                exact At.meets () trivial (Sub.cons rfl (Sub.cons rfl (Sub.cons rfl Sub.nil))) (List.Perm.refl _)
            · skip
              intro _ hs
              refine At.seq ?_
              refine At.region ?_
              refine At.val (Val.move rfl) rfl rfl rfl ?_
              refine At.val (Val.build (fun a ha => by simp only [List.map_toArray, List.map_cons, List.map_nil] <;> rfl) (bld_65_)) rfl rfl rfl ?_
              refine At.callP (fun w hw => (by have := packSlot_p i 0 0 0 0 w (ht.mod hw.mod) (by decide); rwa [packSlot_yes ⟨ino_T.2 hi, .inl ⟨rfl, rfl, rfl, rfl⟩⟩, slotW_zero] at this)) Tryd.call40 rfl rfl ?_
              refine At.val (Val.move rfl) rfl rfl rfl ?_
              refine At.val (Val.extract rfl rfl) rfl rfl rfl ?_
              refine At.val (Val.extract rfl rfl) rfl rfl rfl ?_
              refine At.alloc zero_66 zc_66 rfl (fun b35 => ?_)
              refine At.storeAll (i := 0) Tryd.sizeOf66 rfl rfl rfl (by simp [Value.oneCell']) rfl (by simp) ?_
              simp only [List.set_cons_zero, List.set_cons_succ]
              refine At.val (Val.assign rfl) rfl rfl rfl ?_
              refine At.nil ?_
              refine At.thenN ?_
              refine At.seq ?_
              refine At.seq ?_
              refine At.region ?_
              refine At.val (Val.move rfl) rfl rfl rfl ?_
              refine At.val (Val.bin rfl rfl rfl) rfl rfl rfl ?_
              refine At.nil ?_
              refine At.thenN ?_
              refine At.condF rfl ?_
              refine At.skipC ?_
              refine At.thenN ?_
              refine At.seq ?_
              refine At.region ?_
              refine At.val (Val.indexArr 0 rfl Tryd.underlying66 Tryd.sizeOf40 rfl rfl (by decide) (by decide)) rfl rfl rfl ?_
              refine At.val (Val.load (i := 0) Tryd.isAgg40 rfl rfl rfl) rfl rfl rfl ?_
              refine At.val (Val.indexArr 0 rfl Tryd.underlying66 Tryd.sizeOf40 rfl rfl (by decide) (by decide)) rfl rfl rfl ?_
              refine At.store (i := 1) Tryd.sizeOf40 rfl rfl rfl rfl (by first | decide | simp) ?_
              simp only [List.set_cons_zero, List.set_cons_succ]
              refine At.nil ?_
              refine At.thenN ?_
              refine At.seq ?_
              refine At.region ?_
              refine At.val (Val.indexArr 1 rfl Tryd.underlying66 Tryd.sizeOf40 rfl rfl (by decide) (by decide)) rfl rfl rfl ?_
              refine At.val (Val.load (i := 1) Tryd.isAgg40 rfl rfl rfl) rfl rfl rfl ?_
              refine At.val (Val.field 9 rfl fo_83_9 rfl) rfl rfl rfl ?_
              refine At.val (Val.field 10 rfl fo_50_1 rfl) rfl rfl rfl ?_
              refine At.val (Val.load (i := 2) Tryd.isAgg48 rfl rfl rfl) rfl rfl rfl ?_
              refine At.val (Val.conv Tryd.underlying48 Tryd.underlying40 rfl) rfl rfl rfl ?_
              rw [u64_of32]
              refine At.val (Val.bin rfl rfl rfl) rfl rfl rfl ?_
              rw [xor64]
              refine At.val (Val.indexArr 1 rfl Tryd.underlying66 Tryd.sizeOf40 rfl rfl (by decide) (by decide)) rfl rfl rfl ?_
              refine At.store (i := 1) Tryd.sizeOf40 rfl rfl rfl rfl (by first | decide | simp) ?_
              simp only [List.set_cons_zero, List.set_cons_succ]
              refine At.nil ?_
              refine At.thenN ?_
              refine At.seq ?_
              refine At.region ?_
              refine At.val (Val.move rfl) rfl rfl rfl ?_
              refine At.val (Val.loadAll (i := 1) Tryd.isAgg66 Tryd.sizeOf66 rfl rfl rfl) rfl rfl rfl ?_
              refine At.callP (fun w hw => (by have := openSlot_p i 0 (y ^^^ fl.setWidth 64) z w (ht.mod hw.mod); rwa [openSlot_yes (slot_free hi _ _).1, (slot_free hi _ _).2] at this)) Tryd.call42 rfl rfl ?_
              refine At.val (Val.move rfl) rfl rfl rfl ?_
              refine At.val (Val.extract rfl rfl) rfl rfl rfl ?_
              refine At.val (Val.extract rfl rfl) rfl rfl rfl ?_
              refine At.alloc Tryd.zeroValue65 rfl rfl (fun b36 => ?_)
              refine At.storeAll (i := 0) Tryd.sizeOf65 rfl rfl rfl (by simp [Value.oneCell']) rfl rfl ?_
              simp only [List.set_cons_zero, List.set_cons_succ]
              refine At.val (Val.assign rfl) rfl rfl rfl ?_
              refine At.nil ?_
              refine At.thenN ?_
              refine At.seq ?_
              refine At.region ?_
              refine At.val (Val.move rfl) rfl rfl rfl ?_
              refine At.val (Val.bin rfl rfl rfl) rfl rfl rfl ?_
              refine At.val (Val.move rfl) rfl rfl rfl ?_
              refine At.yes rfl rfl ?_
              refine At.val (Val.loadAll (i := 0) Tryd.isAgg65 Tryd.sizeOf65 rfl rfl rfl) rfl rfl rfl ?_
              refine At.yes rfl rfl ?_
              refine At.val (Val.build (fun a ha => by simp only [List.map_toArray, List.map_cons, List.map_nil] <;> rfl) (bld_65_)) rfl rfl rfl ?_
              refine At.yes rfl rfl ?_
              refine At.val (Val.eqAgg (b := true) Tryd.eqGuardType65 (fun w => by simpa using eq_65 0 0 0 0 0 0 0 0 w) rfl rfl) rfl rfl rfl ?_
              refine At.val (Val.pickT rfl rfl) rfl rfl rfl ?_
              refine At.val (Val.assign rfl) rfl rfl rfl ?_
              refine At.nil ?_
              refine At.thenN ?_
              refine At.retC ?_
              refine At.ret1 (.inl rfl) rfl rfl rfl (fun w hw => ?_)
              exact ⟨rfl, hw.mod⟩
          · skip
            rw [hk]
            refine At.val (Val.assign rfl) rfl rfl rfl ?_
            refine At.nil ?_
            refine At.thenN ?_
            refine At.seq ?_
            refine At.region ?_
            refine At.val (Val.loadAll (i := 0) Tryd.isAgg66 Tryd.sizeOf66 rfl rfl rfl) rfl rfl rfl ?_
            refine At.alloc zero_66 zc_66 rfl (fun b37 => ?_)
            refine At.storeAll (i := 0) Tryd.sizeOf66 rfl rfl rfl (by simp [Value.oneCell']) rfl (by simp) ?_
            simp only [List.set_cons_zero, List.set_cons_succ]
            refine At.nil ?_
            refine At.thenN ?_
            refine At.seq ?_
            refine At.tail 15 rfl (by decide +kernel) ?_
            simp only [List.take_succ_cons, List.take_zero, List.drop_succ_cons, List.drop_zero]
            refine QAt.val (Val.move rfl) rfl rfl rfl ?_
            refine QAt.val (Val.indexArr 1 rfl Tryd.underlying66 Tryd.sizeOf40 rfl rfl (by decide) (by decide)) rfl rfl rfl ?_
            refine QAt.val (Val.load (i := 0) Tryd.isAgg40 rfl rfl rfl) rfl rfl rfl ?_
            refine QAt.val (Val.field 9 rfl fo_83_9 rfl) rfl rfl rfl ?_
            refine QAt.val (Val.field 10 rfl fo_50_1 rfl) rfl rfl rfl ?_
            refine QAt.val (Val.load (i := 2) Tryd.isAgg48 rfl rfl rfl) rfl rfl rfl ?_
            refine QAt.val (Val.conv Tryd.underlying48 Tryd.underlying40 rfl) rfl rfl rfl ?_
            rw [u64_of32]
            refine QAt.val (Val.field 9 rfl fo_83_9 rfl) rfl rfl rfl ?_
            refine QAt.val (Val.field 9 rfl fo_50_0 rfl) rfl rfl rfl ?_
            refine QAt.val (Val.load (i := 2) Tryd.isAgg3 rfl rfl rfl) rfl rfl rfl ?_
            refine QAt.callP (fun w hw => mod_p _ _ w (by omega) (by omega)) Tryd.call32 rfl rfl ?_
            refine QAt.val (Val.conv Tryd.underlying3 Tryd.underlying52 rfl) rfl rfl rfl ?_
            rw [← es, wrap_u64 (n := (sh : Int)) (by omega) (by omega)]
            refine QAt.val (Val.shl rfl rfl (by omega)) rfl rfl rfl ?_
            refine QAt.val (Val.bin rfl rfl rfl) rfl rfl rfl ?_
            rw [spoil_word y fl hsh]
            refine QAt.val (Val.indexArr 1 rfl Tryd.underlying66 Tryd.sizeOf40 rfl rfl (by decide) (by decide)) rfl rfl rfl ?_
            refine QAt.fin ?_
            refine At.store (i := 0) Tryd.sizeOf40 rfl rfl rfl rfl (by first | decide | simp) ?_
            simp only [List.set_cons_zero, List.set_cons_succ]
            refine At.nil ?_
            refine At.thenN ?_
            refine At.join (σ := Unit) (fun _ => True) (fun _ => [(1, .pointer (some ⟨b1, 0, none⟩)), (3, .int .i64 i), (6, .pointer (some ⟨b5, 0, none⟩))]) (fun _ => [blk b5 66 ([b64 x, b64 y, b64 z]), blk b1 83 ([.int .i64 n0, .int .i64 n1, .int .i64 n2, .int .i64 n3, .int .i64 n4, .int .i64 n5, .int .i64 n6, .bool e, .int .i64 wd, .int .i64 at', b32 fl])]) ?_ ?_
            · skip
              refine At.seq ?_
              refine At.quiet rfl (by decide +kernel) ?_
              refine QAt.val (Val.move rfl) rfl rfl rfl ?_
              refine QAt.val (Val.indexArr 1 rfl Tryd.underlying66 Tryd.sizeOf40 rfl rfl (by decide) (by decide)) rfl rfl rfl ?_
              refine QAt.val (Val.load (i := 0) Tryd.isAgg40 rfl rfl rfl) rfl rfl rfl ?_
              refine QAt.val (Val.move rfl) rfl rfl rfl ?_
              refine QAt.val (Val.indexArr 1 rfl Tryd.underlying66 Tryd.sizeOf40 rfl rfl (by decide) (by decide)) rfl rfl rfl ?_
              refine QAt.val (Val.load (i := 1) Tryd.isAgg40 rfl rfl rfl) rfl rfl rfl ?_
              refine QAt.val (Val.bin rfl rfl rfl) rfl rfl rfl ?_
              refine QAt.val (Val.move rfl) rfl rfl rfl ?_
              refine QAt.split (t := 127) rfl (fun h38 => ?_) (fun h38 => ?_)
              · skip
                try simp only [vN_T, vN_F, nmE_T, nmE_F, wI_T, wI_F, data_T, data_F, ino_T, ino_F, notT, notF, bneT, bneF, beqT, beqF, decT, decF] at h38
                refine QAt.yes rfl rfl ?_
                refine QAt.val (Val.move rfl) rfl rfl rfl ?_
                refine QAt.yes rfl rfl ?_
                refine QAt.val (Val.indexArr 1 rfl Tryd.underlying66 Tryd.sizeOf40 rfl rfl (by decide) (by decide)) rfl rfl rfl ?_
                refine QAt.yes rfl rfl ?_
                refine QAt.val (Val.load (i := 0) Tryd.isAgg40 rfl rfl rfl) rfl rfl rfl ?_
                refine QAt.yes rfl rfl ?_
                refine QAt.val (Val.bin rfl rfl rfl) rfl rfl rfl ?_
                refine QAt.val (Val.pickT rfl rfl) rfl rfl rfl ?_
                refine QAt.val (Val.move rfl) rfl rfl rfl ?_
                refine QAt.split (t := 133) rfl (fun h39 => ?_) (fun h39 => ?_)
                · skip
                  try simp only [vN_T, vN_F, nmE_T, nmE_F, wI_T, wI_F, data_T, data_F, ino_T, ino_F, notT, notF, bneT, bneF, beqT, beqF, decT, decF] at h39
                  refine QAt.yes rfl rfl ?_
                  refine QAt.val (Val.move rfl) rfl rfl rfl ?_
                  refine QAt.yes rfl rfl ?_
                  refine QAt.val (Val.indexArr 1 rfl Tryd.underlying66 Tryd.sizeOf40 rfl rfl (by decide) (by decide)) rfl rfl rfl ?_
                  refine QAt.yes rfl rfl ?_
                  refine QAt.val (Val.load (i := 1) Tryd.isAgg40 rfl rfl rfl) rfl rfl rfl ?_
                  refine QAt.yes rfl rfl ?_
                  refine QAt.val (Val.bin rfl rfl rfl) rfl rfl rfl ?_
                  refine QAt.val (Val.pickT rfl rfl) rfl rfl rfl ?_
                  refine QAt.fin ?_
                  refine At.thenN ?_
                  refine At.cond rfl (fun h40 => ?_) (fun h40 => ?_)
                  · skip
                    try simp only [vN_T, vN_F, nmE_T, nmE_F, wI_T, wI_F, data_T, data_F, ino_T, ino_F, notT, notF, bneT, bneF, beqT, beqF, decT, decF] at h40
                    refine At.seq ?_
                    refine At.region ?_
                    refine At.val (Val.move rfl) rfl rfl rfl ?_
                    refine At.val (Val.loadAll (i := 0) Tryd.isAgg66 Tryd.sizeOf66 rfl rfl (by simp)) rfl rfl rfl ?_
                    have hno : ¬ OkSl i x (y ^^^ (fl.setWidth 64 <<< sh)) z := fun h => h.2.2.elim hx0 (fun q => q.2.1.elim (fun e => ‹¬ ((y.toNat : Nat) : Int) = 0› (by rw [hzy e]; rfl)) (fun s => word_told (F := fl.toNat) (sh := sh) hy (fun e => ‹¬ ((y.toNat : Nat) : Int) = 0› (by rw [e]; rfl)) (fun e => ‹¬ (((y ^^^ (fl.setWidth 64 <<< sh)).toNat : Nat) : Int) = 0› (by rw [e]; rfl)) (spoil_some (fun e => ‹¬ (((y ^^^ (fl.setWidth 64 <<< sh)).toNat : Nat) : Int) = ((y.toNat : Nat) : Int)› (by rw [e]))) fl.isLt hsh (spoil_nat y fl hsh) s))
                    refine At.callP (fun w hw => (by have := openSlot_p i x (y ^^^ (fl.setWidth 64 <<< sh)) z w (ht.mod hw.mod); rwa [openSlot_no hno] at this)) Tryd.call42 rfl rfl ?_
                    refine At.val (Val.move rfl) rfl rfl rfl ?_
                    refine At.val (Val.extract rfl rfl) rfl rfl rfl ?_
                    refine At.val (Val.extract rfl rfl) rfl rfl rfl ?_
                    refine At.alloc Tryd.zeroValue65 rfl rfl (fun b41 => ?_)
                    refine At.storeAll (i := 0) Tryd.sizeOf65 rfl rfl rfl (by simp [Value.oneCell']) rfl rfl ?_
                    simp only [List.set_cons_zero, List.set_cons_succ]
                    refine At.val (Val.assign rfl) rfl rfl rfl ?_
                    refine At.nil ?_
                    refine At.thenN ?_
                    refine At.seq ?_
                    refine At.region ?_
                    refine At.val (Val.move rfl) rfl rfl rfl ?_
                    refine At.val (Val.bin rfl rfl rfl) rfl rfl rfl ?_
                    refine At.val (Val.move rfl) rfl rfl rfl ?_
                    refine At.yes rfl rfl ?_
                    refine At.val (Val.loadAll (i := 0) Tryd.isAgg65 Tryd.sizeOf65 rfl rfl rfl) rfl rfl rfl ?_
                    refine At.yes rfl rfl ?_
                    refine At.val (Val.build (fun a ha => by simp only [List.map_toArray, List.map_cons, List.map_nil] <;> rfl) (bld_65_)) rfl rfl rfl ?_
                    refine At.yes rfl rfl ?_
                    refine At.val (Val.neAgg (b := true) Tryd.eqGuardType65 (fun w => by simpa using eq_65 0 0 0 0 0 0 0 0 w) rfl rfl) rfl rfl rfl ?_
                    refine At.val (Val.pickF rfl rfl) rfl rfl rfl ?_
                    refine At.nil ?_
                    refine At.thenN ?_
                    refine At.condF rfl ?_
                    refine At.skipC ?_
                    refine At.thenN ?_
                    refine At.drop 1 ?_
                    simp only [List.eraseIdx_cons_zero, List.eraseIdx_cons_succ]
                    refine At.drop 0 ?_
                    simp only [List.eraseIdx_cons_zero, List.eraseIdx_cons_succ]
                    exact At.meets () trivial (Sub.cons rfl (Sub.cons rfl (Sub.cons rfl Sub.nil))) (List.Perm.refl _)
                  · skip
                    try simp only [vN_T, vN_F, nmE_T, nmE_F, wI_T, wI_F, data_T, data_F, ino_T, ino_F, notT, notF, bneT, bneF, beqT, beqF, decT, decF] at h40
                    refine At.skipC ?_
                    refine At.thenN ?_
                    refine At.drop 0 ?_
                    simp only [List.eraseIdx_cons_zero, List.eraseIdx_cons_succ]
                    exact At.meets () trivial (Sub.cons rfl (Sub.cons rfl (Sub.cons rfl Sub.nil))) (List.Perm.refl _)
                · skip
                  try simp only [vN_T, vN_F, nmE_T, nmE_F, wI_T, wI_F, data_T, data_F, ino_T, ino_F, notT, notF, bneT, bneF, beqT, beqF, decT, decF] at h39
                  refine QAt.no rfl rfl rfl rfl ?_
                  refine QAt.no rfl rfl rfl rfl ?_
                  refine QAt.no rfl rfl rfl rfl ?_
                  refine QAt.no rfl rfl rfl rfl ?_
                  refine QAt.val (Val.pickF rfl rfl) rfl rfl rfl ?_
                  refine QAt.fin ?_
                  refine At.thenN ?_
                  refine At.condF rfl ?_
                  refine At.skipC ?_
                  refine At.thenN ?_
                  refine At.drop 0 ?_
                  simp only [List.eraseIdx_cons_zero, List.eraseIdx_cons_succ]
                  exact At.meets () trivial (Sub.cons rfl (Sub.cons rfl (Sub.cons rfl Sub.nil))) (List.Perm.refl _)
              · skip
                try simp only [vN_T, vN_F, nmE_T, nmE_F, wI_T, wI_F, data_T, data_F, ino_T, ino_F, notT, notF, bneT, bneF, beqT, beqF, decT, decF] at h38
                refine QAt.no rfl rfl rfl rfl ?_
                refine QAt.no rfl rfl rfl rfl ?_
                refine QAt.no rfl rfl rfl rfl ?_
                refine QAt.no rfl rfl rfl rfl ?_
                refine QAt.val (Val.pickF rfl rfl) rfl rfl rfl ?_
                refine QAt.val (Val.move rfl) rfl rfl rfl ?_
                refine QAt.no rfl rfl rfl rfl ?_
                refine QAt.no rfl rfl rfl rfl ?_
                refine QAt.no rfl rfl rfl rfl ?_
                refine QAt.no rfl rfl rfl rfl ?_
                refine QAt.val (Val.pickF rfl rfl) rfl rfl rfl ?_
                refine QAt.fin ?_
                refine At.thenN ?_
                refine At.condF rfl ?_
                refine At.skipC ?_
                refine At.thenN ?_
                refine At.drop 0 ?_
                simp only [List.eraseIdx_cons_zero, List.eraseIdx_cons_succ]
                exact At.meets () trivial (Sub.cons rfl (Sub.cons rfl (Sub.cons rfl Sub.nil))) (List.Perm.refl _)
            · skip
              intro _ hs
              refine At.seq ?_
              refine At.region ?_
              refine At.val (Val.move rfl) rfl rfl rfl ?_
              refine At.val (Val.build (fun a ha => by simp only [List.map_toArray, List.map_cons, List.map_nil] <;> rfl) (bld_65_)) rfl rfl rfl ?_
              refine At.callP (fun w hw => (by have := packSlot_p i 0 0 0 0 w (ht.mod hw.mod) (by decide); rwa [packSlot_yes ⟨ino_T.2 hi, .inl ⟨rfl, rfl, rfl, rfl⟩⟩, slotW_zero] at this)) Tryd.call40 rfl rfl ?_
              refine At.val (Val.move rfl) rfl rfl rfl ?_
              refine At.val (Val.extract rfl rfl) rfl rfl rfl ?_
              refine At.val (Val.extract rfl rfl) rfl rfl rfl ?_
              refine At.alloc zero_66 zc_66 rfl (fun b42 => ?_)
              refine At.storeAll (i := 0) Tryd.sizeOf66 rfl rfl rfl (by simp [Value.oneCell']) rfl (by simp) ?_
              simp only [List.set_cons_zero, List.set_cons_succ]
              refine At.val (Val.assign rfl) rfl rfl rfl ?_
              refine At.nil ?_
              refine At.thenN ?_
              refine At.seq ?_
              refine At.seq ?_
              refine At.region ?_
              refine At.val (Val.move rfl) rfl rfl rfl ?_
              refine At.val (Val.bin rfl rfl rfl) rfl rfl rfl ?_
              refine At.nil ?_
              refine At.thenN ?_
              refine At.condF rfl ?_
              refine At.skipC ?_
              refine At.thenN ?_
              refine At.seq ?_
              refine At.region ?_
              refine At.val (Val.indexArr 0 rfl Tryd.underlying66 Tryd.sizeOf40 rfl rfl (by decide) (by decide)) rfl rfl rfl ?_
              refine At.val (Val.load (i := 0) Tryd.isAgg40 rfl rfl rfl) rfl rfl rfl ?_
              refine At.val (Val.indexArr 0 rfl Tryd.underlying66 Tryd.sizeOf40 rfl rfl (by decide) (by decide)) rfl rfl rfl ?_
              refine At.store (i := 1) Tryd.sizeOf40 rfl rfl rfl rfl (by first | decide | simp) ?_
              simp only [List.set_cons_zero, List.set_cons_succ]
              refine At.nil ?_
              refine At.thenN ?_
              refine At.seq ?_
              refine At.region ?_
              refine At.val (Val.indexArr 1 rfl Tryd.underlying66 Tryd.sizeOf40 rfl rfl (by decide) (by decide)) rfl rfl rfl ?_
              refine At.val (Val.load (i := 1) Tryd.isAgg40 rfl rfl rfl) rfl rfl rfl ?_
              refine At.val (Val.field 9 rfl fo_83_9 rfl) rfl rfl rfl ?_
              refine At.val (Val.field 10 rfl fo_50_1 rfl) rfl rfl rfl ?_
              refine At.val (Val.load (i := 2) Tryd.isAgg48 rfl rfl rfl) rfl rfl rfl ?_
              refine At.val (Val.conv Tryd.underlying48 Tryd.underlying40 rfl) rfl rfl rfl ?_
              rw [u64_of32]
              refine At.val (Val.bin rfl rfl rfl) rfl rfl rfl ?_
              rw [xor64]
              refine At.val (Val.indexArr 1 rfl Tryd.underlying66 Tryd.sizeOf40 rfl rfl (by decide) (by decide)) rfl rfl rfl ?_
              refine At.store (i := 1) Tryd.sizeOf40 rfl rfl rfl rfl (by first | decide | simp) ?_
              simp only [List.set_cons_zero, List.set_cons_succ]
              refine At.nil ?_
              refine At.thenN ?_
              refine At.seq ?_
              refine At.region ?_
              refine At.val (Val.move rfl) rfl rfl rfl ?_
              refine At.val (Val.loadAll (i := 1) Tryd.isAgg66 Tryd.sizeOf66 rfl rfl rfl) rfl rfl rfl ?_
              refine At.callP (fun w hw => (by have := openSlot_p i 0 (y ^^^ fl.setWidth 64) z w (ht.mod hw.mod); rwa [openSlot_yes (slot_free hi _ _).1, (slot_free hi _ _).2] at this)) Tryd.call42 rfl rfl ?_
              refine At.val (Val.move rfl) rfl rfl rfl ?_
              refine At.val (Val.extract rfl rfl) rfl rfl rfl ?_
              refine At.val (Val.extract rfl rfl) rfl rfl rfl ?_
              refine At.alloc Tryd.zeroValue65 rfl rfl (fun b43 => ?_)
              refine At.storeAll (i := 0) Tryd.sizeOf65 rfl rfl rfl (by simp [Value.oneCell']) rfl rfl ?_
              simp only [List.set_cons_zero, List.set_cons_succ]
              refine At.val (Val.assign rfl) rfl rfl rfl ?_
              refine At.nil ?_
              refine At.thenN ?_
              refine At.seq ?_
              refine At.region ?_
              refine At.val (Val.move rfl) rfl rfl rfl ?_
              refine At.val (Val.bin rfl rfl rfl) rfl rfl rfl ?_
              refine At.val (Val.move rfl) rfl rfl rfl ?_
              refine At.yes rfl rfl ?_
              refine At.val (Val.loadAll (i := 0) Tryd.isAgg65 Tryd.sizeOf65 rfl rfl rfl) rfl rfl rfl ?_
              refine At.yes rfl rfl ?_
              refine At.val (Val.build (fun a ha => by simp only [List.map_toArray, List.map_cons, List.map_nil] <;> rfl) (bld_65_)) rfl rfl rfl ?_
              refine At.yes rfl rfl ?_
              refine At.val (Val.eqAgg (b := true) Tryd.eqGuardType65 (fun w => by simpa using eq_65 0 0 0 0 0 0 0 0 w) rfl rfl) rfl rfl rfl ?_
              refine At.val (Val.pickT rfl rfl) rfl rfl rfl ?_
              refine At.val (Val.assign rfl) rfl rfl rfl ?_
              refine At.nil ?_
              refine At.thenN ?_
              refine At.retC ?_
              refine At.ret1 (.inl rfl) rfl rfl rfl (fun w hw => ?_)
              exact ⟨rfl, hw.mod⟩
          · skip
            rw [hk]
            refine At.val (Val.assign rfl) rfl rfl rfl ?_
            refine At.nil ?_
            refine At.thenN ?_
            refine At.seq ?_
            refine At.region ?_
            refine At.val (Val.loadAll (i := 0) Tryd.isAgg66 Tryd.sizeOf66 rfl rfl rfl) rfl rfl rfl ?_
            refine At.alloc zero_66 zc_66 rfl (fun b44 => ?_)
            refine At.storeAll (i := 0) Tryd.sizeOf66 rfl rfl rfl (by simp [Value.oneCell']) rfl (by simp) ?_
            simp only [List.set_cons_zero, List.set_cons_succ]
            refine At.nil ?_
            refine At.thenN ?_
            refine At.seq ?_
            refine At.tail 15 rfl (by decide +kernel) ?_
            simp only [List.take_succ_cons, List.take_zero, List.drop_succ_cons, List.drop_zero]
            refine QAt.val (Val.move rfl) rfl rfl rfl ?_
            refine QAt.val (Val.indexArr 2 rfl Tryd.underlying66 Tryd.sizeOf40 rfl rfl (by decide) (by decide)) rfl rfl rfl ?_
            refine QAt.val (Val.load (i := 0) Tryd.isAgg40 rfl rfl rfl) rfl rfl rfl ?_
            refine QAt.val (Val.field 9 rfl fo_83_9 rfl) rfl rfl rfl ?_
            refine QAt.val (Val.field 10 rfl fo_50_1 rfl) rfl rfl rfl ?_
            refine QAt.val (Val.load (i := 2) Tryd.isAgg48 rfl rfl rfl) rfl rfl rfl ?_
            refine QAt.val (Val.conv Tryd.underlying48 Tryd.underlying40 rfl) rfl rfl rfl ?_
            rw [u64_of32]
            refine QAt.val (Val.field 9 rfl fo_83_9 rfl) rfl rfl rfl ?_
            refine QAt.val (Val.field 9 rfl fo_50_0 rfl) rfl rfl rfl ?_
            refine QAt.val (Val.load (i := 2) Tryd.isAgg3 rfl rfl rfl) rfl rfl rfl ?_
            refine QAt.callP (fun w hw => mod_p _ _ w (by omega) (by omega)) Tryd.call32 rfl rfl ?_
            refine QAt.val (Val.conv Tryd.underlying3 Tryd.underlying52 rfl) rfl rfl rfl ?_
            rw [← es, wrap_u64 (n := (sh : Int)) (by omega) (by omega)]
            refine QAt.val (Val.shl rfl rfl (by omega)) rfl rfl rfl ?_
            refine QAt.val (Val.bin rfl rfl rfl) rfl rfl rfl ?_
            rw [spoil_word z fl hsh]
            refine QAt.val (Val.indexArr 2 rfl Tryd.underlying66 Tryd.sizeOf40 rfl rfl (by decide) (by decide)) rfl rfl rfl ?_
            refine QAt.fin ?_
            refine At.store (i := 0) Tryd.sizeOf40 rfl rfl rfl rfl (by first | decide | simp) ?_
            simp only [List.set_cons_zero, List.set_cons_succ]
            refine At.nil ?_
            refine At.thenN ?_
            refine At.join (σ := Unit) (fun _ => True) (fun _ => [(1, .pointer (some ⟨b1, 0, none⟩)), (3, .int .i64 i), (6, .pointer (some ⟨b5, 0, none⟩))]) (fun _ => [blk b5 66 ([b64 x, b64 y, b64 z]), blk b1 83 ([.int .i64 n0, .int .i64 n1, .int .i64 n2, .int .i64 n3, .int .i64 n4, .int .i64 n5, .int .i64 n6, .bool e, .int .i64 wd, .int .i64 at', b32 fl])]) ?_ ?_
            · skip
              refine At.seq ?_
              refine At.quiet rfl (by decide +kernel) ?_
              refine QAt.val (Val.move rfl) rfl rfl rfl ?_
              refine QAt.val (Val.indexArr 2 rfl Tryd.underlying66 Tryd.sizeOf40 rfl rfl (by decide) (by decide)) rfl rfl rfl ?_
              refine QAt.val (Val.load (i := 0) Tryd.isAgg40 rfl rfl rfl) rfl rfl rfl ?_
              refine QAt.val (Val.move rfl) rfl rfl rfl ?_
              refine QAt.val (Val.indexArr 2 rfl Tryd.underlying66 Tryd.sizeOf40 rfl rfl (by decide) (by decide)) rfl rfl rfl ?_
              refine QAt.val (Val.load (i := 1) Tryd.isAgg40 rfl rfl rfl) rfl rfl rfl ?_
              refine QAt.val (Val.bin rfl rfl rfl) rfl rfl rfl ?_
              refine QAt.val (Val.move rfl) rfl rfl rfl ?_
              refine QAt.split (t := 127) rfl (fun h45 => ?_) (fun h45 => ?_)
              · skip
                try simp only [vN_T, vN_F, nmE_T, nmE_F, wI_T, wI_F, data_T, data_F, ino_T, ino_F, notT, notF, bneT, bneF, beqT, beqF, decT, decF] at h45
                refine QAt.yes rfl rfl ?_
                refine QAt.val (Val.move rfl) rfl rfl rfl ?_
                refine QAt.yes rfl rfl ?_
                refine QAt.val (Val.indexArr 2 rfl Tryd.underlying66 Tryd.sizeOf40 rfl rfl (by decide) (by decide)) rfl rfl rfl ?_
                refine QAt.yes rfl rfl ?_
                refine QAt.val (Val.load (i := 0) Tryd.isAgg40 rfl rfl rfl) rfl rfl rfl ?_
                refine QAt.yes rfl rfl ?_
                refine QAt.val (Val.bin rfl rfl rfl) rfl rfl rfl ?_
                refine QAt.val (Val.pickT rfl rfl) rfl rfl rfl ?_
                refine QAt.val (Val.move rfl) rfl rfl rfl ?_
                refine QAt.split (t := 133) rfl (fun h46 => ?_) (fun h46 => ?_)
                · skip
                  try simp only [vN_T, vN_F, nmE_T, nmE_F, wI_T, wI_F, data_T, data_F, ino_T, ino_F, notT, notF, bneT, bneF, beqT, beqF, decT, decF] at h46
                  refine QAt.yes rfl rfl ?_
                  refine QAt.val (Val.move rfl) rfl rfl rfl ?_
                  refine QAt.yes rfl rfl ?_
                  refine QAt.val (Val.indexArr 2 rfl Tryd.underlying66 Tryd.sizeOf40 rfl rfl (by decide) (by decide)) rfl rfl rfl ?_
                  refine QAt.yes rfl rfl ?_
                  refine QAt.val (Val.load (i := 1) Tryd.isAgg40 rfl rfl rfl) rfl rfl rfl ?_
                  refine QAt.yes rfl rfl ?_
                  refine QAt.val (Val.bin rfl rfl rfl) rfl rfl rfl ?_
                  refine QAt.val (Val.pickT rfl rfl) rfl rfl rfl ?_
                  refine QAt.fin ?_
                  refine At.thenN ?_
                  refine At.cond rfl (fun h47 => ?_) (fun h47 => ?_)
                  · skip
                    try simp only [vN_T, vN_F, nmE_T, nmE_F, wI_T, wI_F, data_T, data_F, ino_T, ino_F, notT, notF, bneT, bneF, beqT, beqF, decT, decF] at h47
                    refine At.seq ?_
                    refine At.region ?_
                    refine At.val (Val.move rfl) rfl rfl rfl ?_
                    refine At.val (Val.loadAll (i := 0) Tryd.isAgg66 Tryd.sizeOf66 rfl rfl (by simp)) rfl rfl rfl ?_
                    have hno : ¬ OkSl i x y (z ^^^ (fl.setWidth 64 <<< sh)) := fun h => h.2.2.elim hx0 (fun q => word_told (F := fl.toNat) (sh := sh) hz (fun e => ‹¬ ((z.toNat : Nat) : Int) = 0› (by rw [e]; rfl)) (fun e => ‹¬ (((z ^^^ (fl.setWidth 64 <<< sh)).toNat : Nat) : Int) = 0› (by rw [e]; rfl)) (spoil_some (fun e => ‹¬ (((z ^^^ (fl.setWidth 64 <<< sh)).toNat : Nat) : Int) = ((z.toNat : Nat) : Int)› (by rw [e]))) fl.isLt hsh (spoil_nat z fl hsh) q.1)
                    refine At.callP (fun w hw => (by have := openSlot_p i x y (z ^^^ (fl.setWidth 64 <<< sh)) w (ht.mod hw.mod); rwa [openSlot_no hno] at this)) Tryd.call42 rfl rfl ?_
                    refine At.val (Val.move rfl) rfl rfl rfl ?_
                    refine At.val (Val.extract rfl rfl) rfl rfl rfl ?_
                    refine At.val (Val.extract rfl rfl) rfl rfl rfl ?_
                    refine At.alloc Tryd.zeroValue65 rfl rfl (fun b48 => ?_)
                    refine At.storeAll (i := 0) Tryd.sizeOf65 rfl rfl rfl (by simp [Value.oneCell']) rfl rfl ?_
                    simp only [List.set_cons_zero, List.set_cons_succ]
                    refine At.val (Val.assign rfl) rfl rfl rfl ?_
                    refine At.nil ?_
                    refine At.thenN ?_
                    refine At.seq ?_
                    refine At.region ?_
                    refine At.val (Val.move rfl) rfl rfl rfl ?_
                    refine At.val (Val.bin rfl rfl rfl) rfl rfl rfl ?_
                    refine At.val (Val.move rfl) rfl rfl rfl ?_
                    refine At.yes rfl rfl ?_
                    refine At.val (Val.loadAll (i := 0) Tryd.isAgg65 Tryd.sizeOf65 rfl rfl rfl) rfl rfl rfl ?_
                    refine At.yes rfl rfl ?_
                    refine At.val (Val.build (fun a ha => by simp only [List.map_toArray, List.map_cons, List.map_nil] <;> rfl) (bld_65_)) rfl rfl rfl ?_
                    refine At.yes rfl rfl ?_
                    refine At.val (Val.neAgg (b := true) Tryd.eqGuardType65 (fun w => by simpa using eq_65 0 0 0 0 0 0 0 0 w) rfl rfl) rfl rfl rfl ?_
                    refine At.val (Val.pickF rfl rfl) rfl rfl rfl ?_
                    refine At.nil ?_
                    refine At.thenN ?_
                    refine At.condF rfl ?_
                    refine At.skipC ?_
                    refine At.thenN ?_
                    refine At.drop 1 ?_
                    simp only [List.eraseIdx_cons_zero, List.eraseIdx_cons_succ]
                    refine At.drop 0 ?_
                    simp only [List.eraseIdx_cons_zero, List.eraseIdx_cons_succ]
                    exact At.meets () trivial (Sub.cons rfl (Sub.cons rfl (Sub.cons rfl Sub.nil))) (List.Perm.refl _)
                  · skip
                    try simp only [vN_T, vN_F, nmE_T, nmE_F, wI_T, wI_F, data_T, data_F, ino_T, ino_F, notT, notF, bneT, bneF, beqT, beqF, decT, decF] at h47
                    refine At.skipC ?_
                    refine At.thenN ?_
                    refine At.drop 0 ?_
                    simp only [List.eraseIdx_cons_zero, List.eraseIdx_cons_succ]
                    exact At.meets () trivial (Sub.cons rfl (Sub.cons rfl (Sub.cons rfl Sub.nil))) (List.Perm.refl _)
                · skip
                  try simp only [vN_T, vN_F, nmE_T, nmE_F, wI_T, wI_F, data_T, data_F, ino_T, ino_F, notT, notF, bneT, bneF, beqT, beqF, decT, decF] at h46
                  refine QAt.no rfl rfl rfl rfl ?_
                  refine QAt.no rfl rfl rfl rfl ?_
                  refine QAt.no rfl rfl rfl rfl ?_
                  refine QAt.no rfl rfl rfl rfl ?_
                  refine QAt.val (Val.pickF rfl rfl) rfl rfl rfl ?_
                  refine QAt.fin ?_
                  refine At.thenN ?_
                  refine At.condF rfl ?_
                  refine At.skipC ?_
                  refine At.thenN ?_
                  refine At.drop 0 ?_
                  simp only [List.eraseIdx_cons_zero, List.eraseIdx_cons_succ]
                  exact At.meets () trivial (Sub.cons rfl (Sub.cons rfl (Sub.cons rfl Sub.nil))) (List.Perm.refl _)
              · skip
                try simp only [vN_T, vN_F, nmE_T, nmE_F, wI_T, wI_F, data_T, data_F, ino_T, ino_F, notT, notF, bneT, bneF, beqT, beqF, decT, decF] at h45
                refine QAt.no rfl rfl rfl rfl ?_
                refine QAt.no rfl rfl rfl rfl ?_
                refine QAt.no rfl rfl rfl rfl ?_
                refine QAt.no rfl rfl rfl rfl ?_
                refine QAt.val (Val.pickF rfl rfl) rfl rfl rfl ?_
                refine QAt.val (Val.move rfl) rfl rfl rfl ?_
                refine QAt.no rfl rfl rfl rfl ?_
                refine QAt.no rfl rfl rfl rfl ?_
                refine QAt.no rfl rfl rfl rfl ?_
                refine QAt.no rfl rfl rfl rfl ?_
                refine QAt.val (Val.pickF rfl rfl) rfl rfl rfl ?_
                refine QAt.fin ?_
                refine At.thenN ?_
                refine At.condF rfl ?_
                refine At.skipC ?_
                refine At.thenN ?_
                refine At.drop 0 ?_
                simp only [List.eraseIdx_cons_zero, List.eraseIdx_cons_succ]
                exact At.meets () trivial (Sub.cons rfl (Sub.cons rfl (Sub.cons rfl Sub.nil))) (List.Perm.refl _)
            · skip
              intro _ hs
              refine At.seq ?_
              refine At.region ?_
              refine At.val (Val.move rfl) rfl rfl rfl ?_
              refine At.val (Val.build (fun a ha => by simp only [List.map_toArray, List.map_cons, List.map_nil] <;> rfl) (bld_65_)) rfl rfl rfl ?_
              refine At.callP (fun w hw => (by have := packSlot_p i 0 0 0 0 w (ht.mod hw.mod) (by decide); rwa [packSlot_yes ⟨ino_T.2 hi, .inl ⟨rfl, rfl, rfl, rfl⟩⟩, slotW_zero] at this)) Tryd.call40 rfl rfl ?_
              refine At.val (Val.move rfl) rfl rfl rfl ?_
              refine At.val (Val.extract rfl rfl) rfl rfl rfl ?_
              refine At.val (Val.extract rfl rfl) rfl rfl rfl ?_
              refine At.alloc zero_66 zc_66 rfl (fun b49 => ?_)
              refine At.storeAll (i := 0) Tryd.sizeOf66 rfl rfl rfl (by simp [Value.oneCell']) rfl (by simp) ?_
              simp only [List.set_cons_zero, List.set_cons_succ]
              refine At.val (Val.assign rfl) rfl rfl rfl ?_
              refine At.nil ?_
              refine At.thenN ?_
              refine At.seq ?_
              refine At.seq ?_
              refine At.region ?_
              refine At.val (Val.move rfl) rfl rfl rfl ?_
              refine At.val (Val.bin rfl rfl rfl) rfl rfl rfl ?_
              refine At.nil ?_
              refine At.thenN ?_
              refine At.condF rfl ?_
              refine At.skipC ?_
              refine At.thenN ?_
              refine At.seq ?_
              refine At.region ?_
              refine At.val (Val.indexArr 0 rfl Tryd.underlying66 Tryd.sizeOf40 rfl rfl (by decide) (by decide)) rfl rfl rfl ?_
              refine At.val (Val.load (i := 0) Tryd.isAgg40 rfl rfl rfl) rfl rfl rfl ?_
              refine At.val (Val.indexArr 0 rfl Tryd.underlying66 Tryd.sizeOf40 rfl rfl (by decide) (by decide)) rfl rfl rfl ?_
              refine At.store (i := 1) Tryd.sizeOf40 rfl rfl rfl rfl (by first | decide | simp) ?_
              simp only [List.set_cons_zero, List.set_cons_succ]
              refine At.nil ?_
              refine At.thenN ?_
              refine At.seq ?_
              refine At.region ?_
              refine At.val (Val.indexArr 1 rfl Tryd.underlying66 Tryd.sizeOf40 rfl rfl (by decide) (by decide)) rfl rfl rfl ?_
              refine At.val (Val.load (i := 1) Tryd.isAgg40 rfl rfl rfl) rfl rfl rfl ?_
              refine At.val (Val.field 9 rfl fo_83_9 rfl) rfl rfl rfl ?_
              refine At.val (Val.field 10 rfl fo_50_1 rfl) rfl rfl rfl ?_
              refine At.val (Val.load (i := 2) Tryd.isAgg48 rfl rfl rfl) rfl rfl rfl ?_
              refine At.val (Val.conv Tryd.underlying48 Tryd.underlying40 rfl) rfl rfl rfl ?_
              rw [u64_of32]
              refine At.val (Val.bin rfl rfl rfl) rfl rfl rfl ?_
              rw [xor64]
              refine At.val (Val.indexArr 1 rfl Tryd.underlying66 Tryd.sizeOf40 rfl rfl (by decide) (by decide)) rfl rfl rfl ?_
              refine At.store (i := 1) Tryd.sizeOf40 rfl rfl rfl rfl (by first | decide | simp) ?_
              simp only [List.set_cons_zero, List.set_cons_succ]
              refine At.nil ?_
              refine At.thenN ?_
              refine At.seq ?_
              refine At.region ?_
              refine At.val (Val.move rfl) rfl rfl rfl ?_
              refine At.val (Val.loadAll (i := 1) Tryd.isAgg66 Tryd.sizeOf66 rfl rfl rfl) rfl rfl rfl ?_
              refine At.callP (fun w hw => (by have := openSlot_p i 0 (y ^^^ fl.setWidth 64) z w (ht.mod hw.mod); rwa [openSlot_yes (slot_free hi _ _).1, (slot_free hi _ _).2] at this)) Tryd.call42 rfl rfl ?_
              refine At.val (Val.move rfl) rfl rfl rfl ?_
              refine At.val (Val.extract rfl rfl) rfl rfl rfl ?_
              refine At.val (Val.extract rfl rfl) rfl rfl rfl ?_
              refine At.alloc Tryd.zeroValue65 rfl rfl (fun b50 => ?_)
              refine At.storeAll (i := 0) Tryd.sizeOf65 rfl rfl rfl (by simp [Value.oneCell']) rfl rfl ?_
              simp only [List.set_cons_zero, List.set_cons_succ]
              refine At.val (Val.assign rfl) rfl rfl rfl ?_
              refine At.nil ?_
              refine At.thenN ?_
              refine At.seq ?_
              refine At.region ?_
              refine At.val (Val.move rfl) rfl rfl rfl ?_
              refine At.val (Val.bin rfl rfl rfl) rfl rfl rfl ?_
              refine At.val (Val.move rfl) rfl rfl rfl ?_
              refine At.yes rfl rfl ?_
              refine At.val (Val.loadAll (i := 0) Tryd.isAgg65 Tryd.sizeOf65 rfl rfl rfl) rfl rfl rfl ?_
              refine At.yes rfl rfl ?_
              refine At.val (Val.build (fun a ha => by simp only [List.map_toArray, List.map_cons, List.map_nil] <;> rfl) (bld_65_)) rfl rfl rfl ?_
              refine At.yes rfl rfl ?_
              refine At.val (Val.eqAgg (b := true) Tryd.eqGuardType65 (fun w => by simpa using eq_65 0 0 0 0 0 0 0 0 w) rfl rfl) rfl rfl rfl ?_
              refine At.val (Val.pickT rfl rfl) rfl rfl rfl ?_
              refine At.val (Val.assign rfl) rfl rfl rfl ?_
              refine At.nil ?_
              refine At.thenN ?_
              refine At.retC ?_
              refine At.ret1 (.inl rfl) rfl rfl rfl (fun w hw => ?_)
              exact ⟨rfl, hw.mod⟩

end Go.Proofs.YtoiebgnmknbkjaaDoor
