/- LayoutHeaderHolds, walked. -/
import Derived.Test.YtlplkbbnpddihaaDoorB11
set_option linter.unusedVariables false
set_option linter.unusedSimpArgs false
namespace Go.Proofs.YtlplkbbnpddihaaDoor
open Go Go.Wk

theorem ne_of_beq {x y : BitVec 64} (h : ((x.toNat : Int) == (y.toNat : Int)) = false) : x ≠ y := fun e => by subst e; simp at h
theorem ne_zero_of_beq {x : BitVec 64} (h : ((x.toNat : Int) == 0) = false) : x ≠ 0 := fun e => by subst e; simp at h
theorem Int.tdiv_two_bounds {v : Int} (h : -9223372036854775808 ≤ v ∧ v ≤ 9223372036854775807) : -4611686018427387904 ≤ v.tdiv 2 ∧ v.tdiv 2 ≤ 4611686018427387903 := by
  rcases Int.lt_or_le v 0 with hv | hv
  · have : v.tdiv 2 = -((-v).tdiv 2) := by rw [Int.neg_tdiv]; omega
    rw [this, Int.tdiv_eq_ediv_of_nonneg (by omega)]; omega
  · rw [Int.tdiv_eq_ediv_of_nonneg hv]; omega

theorem lawHeaderHolds_p (n0 n1 n2 n3 at' : Int) (fl : BitVec 32) (w : World) (ht : Tab w) (hat : -9223372036854775808 ≤ at' ∧ at' ≤ 9223372036854775807) :
    PureC Tryd.prog 6 [.agg #[.int .i64 n0, .int .i64 n1, .int .i64 n2, .int .i64 n3], .agg #[.int .i64 at', b32 fl]] (.bool true) w := by
  refine enter0 Tryd.func6 rfl Tryd.ntmps6 rfl ?_
  obtain ⟨p, ep⟩ : ∃ p, p = 5 + n0 % 1019 := ⟨_, rfl⟩
  obtain ⟨q, eq_⟩ : ∃ q, q = 5 + n1 % 1019 := ⟨_, rfl⟩
  obtain ⟨ow, eo⟩ : ∃ o, o = 1 + n2 % 256 := ⟨_, rfl⟩
  obtain ⟨m, em⟩ : ∃ m, m = n3 % 1020 := ⟨_, rfl⟩
  obtain ⟨sh, es⟩ : ∃ sh : Nat, (sh : Int) = (at'.tdiv 2) % 33 := ⟨((at'.tdiv 2) % 33).toNat, by omega⟩
  have hsh : sh ≤ 32 := by omega
  simp only [envOf]
  refine At.seq ?_
  refine At.region ?_
  refine At.box rfl rfl rfl (fun b1 => ?_)
  refine At.box rfl rfl rfl (fun b2 => ?_)
  refine At.val (Val.assign rfl) rfl rfl rfl ?_
  refine At.nil ?_
  refine At.thenN ?_
  refine At.seq ?_
  refine At.region ?_
  refine At.val (Val.indexArr 0 rfl Tryd.underlying47 Tryd.sizeOf3 rfl rfl (by decide) (by decide)) rfl rfl rfl ?_
  refine At.val (Val.load (i := 1) Tryd.isAgg3 rfl rfl rfl) rfl rfl rfl ?_
  refine At.callP (fun w hw => mod_p _ _ w (by decide) (by decide)) Tryd.call32 rfl rfl ?_
  refine At.val (Val.bin rfl rfl rfl) rfl rfl rfl ?_
  rw [wrap_i64 (n := 5 + n0 % 1019) (by omega) (by omega), ← ep]
  refine At.val (Val.assign rfl) rfl rfl rfl ?_
  refine At.nil ?_
  refine At.thenN ?_
  refine At.seq ?_
  refine At.region ?_
  refine At.val (Val.indexArr 1 rfl Tryd.underlying47 Tryd.sizeOf3 rfl rfl (by decide) (by decide)) rfl rfl rfl ?_
  refine At.val (Val.load (i := 1) Tryd.isAgg3 rfl rfl rfl) rfl rfl rfl ?_
  refine At.callP (fun w hw => mod_p _ _ w (by decide) (by decide)) Tryd.call32 rfl rfl ?_
  refine At.val (Val.bin rfl rfl rfl) rfl rfl rfl ?_
  rw [wrap_i64 (n := 5 + n1 % 1019) (by omega) (by omega), ← eq_]
  refine At.val (Val.assign rfl) rfl rfl rfl ?_
  refine At.nil ?_
  refine At.thenN ?_
  refine At.seq ?_
  refine At.region ?_
  refine At.val (Val.indexArr 2 rfl Tryd.underlying47 Tryd.sizeOf3 rfl rfl (by decide) (by decide)) rfl rfl rfl ?_
  refine At.val (Val.load (i := 1) Tryd.isAgg3 rfl rfl rfl) rfl rfl rfl ?_
  refine At.callP (fun w hw => mod_p _ _ w (by decide) (by decide)) Tryd.call32 rfl rfl ?_
  refine At.val (Val.bin rfl rfl rfl) rfl rfl rfl ?_
  rw [wrap_i64 (n := 1 + n2 % 256) (by omega) (by omega), ← eo]
  refine At.val (Val.build (fun a ha => by simp only [List.map_toArray, List.map_cons, List.map_nil, ha.eval (x := (.tmp 29)) rfl] <;> rfl) (bld_39_1 _ )) rfl rfl rfl ?_
  refine At.alloc Tryd.zeroValue39 rfl rfl (fun b3 => ?_)
  refine At.storeAll (i := 0) Tryd.sizeOf39 rfl rfl rfl (by simp [Value.oneCell']) rfl rfl ?_
  simp only [List.set_cons_zero, List.set_cons_succ]
  refine At.nil ?_
  refine At.thenN ?_
  refine At.seq ?_
  refine At.seq ?_
  refine At.region ?_
  refine At.val (Val.indexArr 3 rfl Tryd.underlying47 Tryd.sizeOf3 rfl rfl (by decide) (by decide)) rfl rfl rfl ?_
  refine At.val (Val.load (i := 2) Tryd.isAgg3 rfl rfl rfl) rfl rfl rfl ?_
  refine At.callP (fun w hw => mod_p _ _ w (by decide) (by decide)) Tryd.call32 rfl rfl ?_
  refine At.val (Val.bin rfl rfl rfl) rfl rfl rfl ?_
  refine At.nil ?_
  refine At.thenN ?_
  refine At.cond rfl (fun h4 => ?_) (fun h4 => ?_)
  · skip
    have hm : n3 % 1020 > 0 := by have := h4; simp at this; omega
    refine At.region ?_
    refine At.val (Val.indexArr 3 rfl Tryd.underlying47 Tryd.sizeOf3 rfl rfl (by decide) (by decide)) rfl rfl rfl ?_
    refine At.val (Val.load (i := 2) Tryd.isAgg3 rfl rfl rfl) rfl rfl rfl ?_
    refine At.callP (fun w hw => mod_p _ _ w (by decide) (by decide)) Tryd.call32 rfl rfl ?_
    refine At.val (Val.bin rfl rfl rfl) rfl rfl rfl ?_
    rw [wrap_i64 (n := 4 + n3 % 1020) (by omega) (by omega), ← em]
    refine At.val (Val.field 0 rfl fo_39_0 rfl) rfl rfl rfl ?_
    refine At.store (i := 0) Tryd.sizeOf3 rfl rfl rfl rfl (by first | decide | simp) ?_
    simp only [List.set_cons_zero, List.set_cons_succ]
    refine At.nil ?_
    refine At.thenN ?_
    refine At.seq ?_
    refine At.region ?_
    refine At.val (Val.move rfl) rfl rfl rfl ?_
    refine At.val (Val.loadAll (i := 0) Tryd.isAgg39 Tryd.sizeOf39 rfl rfl rfl) rfl rfl rfl ?_
    refine At.callP (fun w hw => (by have := packHdr_p p (4 + m) ow w (ht.mod hw.mod); rwa [packHdr_yes (by unfold GoodH; omega), hdr_cells] at this)) Tryd.call28 rfl rfl ?_
    obtain ⟨x, ex⟩ : ∃ x, x = sealW (BitVec.ofInt 64 (512 * p)) (BitVec.ofInt 32 (4 + m)) := ⟨_, rfl⟩
    obtain ⟨y, ey⟩ : ∃ y, y = sealW (BitVec.ofInt 64 (512 * p + 8)) (BitVec.ofInt 32 ow) := ⟨_, rfl⟩
    rw [← ex, ← ey]
    · skip
      have hgood : GoodH p (4 + m) ow := by unfold GoodH; omega
      have hx : sealW (BitVec.ofInt 64 (512 * p)) (x.setWidth 32) = x := by rw [ex, seal_low]
      have hy : sealW (BitVec.ofInt 64 (512 * p + 8)) (y.setWidth 32) = y := by rw [ey, seal_low]
      have xv : ((x.setWidth 32).toNat : Int) = 4 + m := by rw [ex, seal_low]; exact ofInt_val (by omega) (by omega)
      have yv : ((y.setWidth 32).toNat : Int) = ow := by rw [ey, seal_low]; exact ofInt_val (by omega) (by omega)
      have hok : OkH p x y := ⟨by rw [xv, yv]; exact hgood, hx, hy⟩
      have hy0 : y ≠ 0 := fun e => by rw [e] at yv; have h0 : (((0 : BitVec 64).setWidth 32).toNat : Int) = 0 := rfl; omega
      refine At.val (Val.move rfl) rfl rfl rfl ?_
      refine At.val (Val.extract rfl rfl) rfl rfl rfl ?_
      refine At.val (Val.extract rfl rfl) rfl rfl rfl ?_
      refine At.alloc zero_41 zc_41 rfl (fun b5 => ?_)
      refine At.storeAll (i := 0) Tryd.sizeOf41 rfl rfl rfl (by simp [Value.oneCell']) rfl (by simp) ?_
      simp only [List.set_cons_zero, List.set_cons_succ]
      refine At.val (Val.assign rfl) rfl rfl rfl ?_
      refine At.nil ?_
      refine At.thenN ?_
      refine At.seq ?_
      refine At.region ?_
      refine At.val (Val.move rfl) rfl rfl rfl ?_
      refine At.val (Val.loadAll (i := 0) Tryd.isAgg41 Tryd.sizeOf41 rfl rfl (by simp)) rfl rfl rfl ?_
      refine At.callP (fun w hw => (by have := openHdr_p p x y w (ht.mod hw.mod); rwa [openHdr_yes hok, xv, yv] at this)) Tryd.call30 rfl rfl ?_
      refine At.val (Val.move rfl) rfl rfl rfl ?_
      refine At.val (Val.extract rfl rfl) rfl rfl rfl ?_
      refine At.val (Val.extract rfl rfl) rfl rfl rfl ?_
      refine At.alloc Tryd.zeroValue39 rfl rfl (fun b6 => ?_)
      refine At.storeAll (i := 0) Tryd.sizeOf39 rfl rfl rfl (by simp [Value.oneCell']) rfl rfl ?_
      simp only [List.set_cons_zero, List.set_cons_succ]
      refine At.val (Val.assign rfl) rfl rfl rfl ?_
      refine At.nil ?_
      refine At.thenN ?_
      refine At.seq ?_
      refine At.seq ?_
      refine At.region ?_
      refine At.val (Val.move rfl) rfl rfl rfl ?_
      refine At.val (Val.bin rfl rfl rfl) rfl rfl rfl ?_
      refine At.val (Val.move rfl) rfl rfl rfl ?_
      refine At.yes rfl rfl ?_
      refine At.val (Val.move rfl) rfl rfl rfl ?_
      refine At.yes rfl rfl ?_
      refine At.val (Val.bin rfl rfl rfl) rfl rfl rfl ?_
      refine At.val (Val.pickF rfl rfl) rfl rfl rfl ?_
      refine At.val (Val.move rfl) rfl rfl rfl ?_
      refine At.yes rfl rfl ?_
      refine At.val (Val.loadAll (i := 0) Tryd.isAgg39 Tryd.sizeOf39 rfl rfl rfl) rfl rfl rfl ?_
      refine At.yes rfl rfl ?_
      refine At.val (Val.loadAll (i := 2) Tryd.isAgg39 Tryd.sizeOf39 rfl rfl rfl) rfl rfl rfl ?_
      refine At.yes rfl rfl ?_
      refine At.val (Val.neAgg (b := true) Tryd.eqGuardType39 (fun w => by simpa using eq_39 (4 + m) ow (4 + m) ow w) rfl rfl) rfl rfl rfl ?_
      refine At.val (Val.pickF rfl rfl) rfl rfl rfl ?_
      refine At.nil ?_
      refine At.thenN ?_
      refine At.condF rfl ?_
      refine At.skipC ?_
      refine At.thenN ?_
      refine At.seq ?_
      refine At.region ?_
      refine At.val (Val.move rfl) rfl rfl rfl ?_
      refine At.val (Val.loadAll (i := 1) Tryd.isAgg41 Tryd.sizeOf41 rfl rfl (by simp)) rfl rfl rfl ?_
      by_cases hqp : q = p
      · skip
        refine At.callP (fun w hw => (by have := openHdr_p q x y w (ht.mod hw.mod); rw [openHdr_yes (hqp ▸ hok), xv, yv] at this; exact this)) Tryd.call30 rfl rfl ?_
        refine At.val (Val.move rfl) rfl rfl rfl ?_
        refine At.val (Val.extract rfl rfl) rfl rfl rfl ?_
        refine At.val (Val.extract rfl rfl) rfl rfl rfl ?_
        refine At.alloc Tryd.zeroValue39 rfl rfl (fun b7 => ?_)
        refine At.storeAll (i := 0) Tryd.sizeOf39 rfl rfl rfl (by simp [Value.oneCell']) rfl rfl ?_
        simp only [List.set_cons_zero, List.set_cons_succ]
        refine At.val (Val.assign rfl) rfl rfl rfl ?_
        refine At.nil ?_
        refine At.thenN ?_
        refine At.seq ?_
        refine At.seq ?_
        refine At.region ?_
        refine At.val (Val.move rfl) rfl rfl rfl ?_
        refine At.val (Val.move rfl) rfl rfl rfl ?_
        refine At.val (Val.bin rfl rfl rfl) rfl rfl rfl ?_
        rw [show (q != p) = false from by simp [hqp]]
        refine At.val (Val.move rfl) rfl rfl rfl ?_
        refine At.no rfl rfl rfl rfl ?_
        refine At.no rfl rfl rfl rfl ?_
        refine At.no rfl rfl rfl rfl ?_
        refine At.noU rfl rfl rfl ?_
        refine At.noU rfl rfl rfl ?_
        refine At.noU rfl rfl rfl ?_
        refine At.no rfl rfl rfl rfl ?_
        refine At.val (Val.pickF rfl rfl) rfl rfl rfl ?_
        refine At.nil ?_
        refine At.thenN ?_
        refine At.condF rfl ?_
        refine At.skipC ?_
        refine At.thenN ?_
        refine At.seq ?_
        refine At.region ?_
        refine At.val (Val.field 0 rfl fo_50_0 rfl) rfl rfl rfl ?_
        refine At.val (Val.load (i := 4) Tryd.isAgg3 rfl rfl rfl) rfl rfl rfl ?_
        refine At.callP (fun w hw => mod_p _ _ w (by decide) (by decide)) Tryd.call32 rfl rfl ?_
        rcases (show at' % 2 = 0 ∨ at' % 2 = 1 by omega) with hk | hk
        · skip
          rw [hk]
          refine At.val (Val.assign rfl) rfl rfl rfl ?_
          refine At.nil ?_
          refine At.thenN ?_
          refine At.seq ?_
          refine At.region ?_
          refine At.val (Val.loadAll (i := 2) Tryd.isAgg41 Tryd.sizeOf41 rfl rfl (by simp)) rfl rfl rfl ?_
          refine At.alloc zero_41 zc_41 rfl (fun b8 => ?_)
          refine At.storeAll (i := 0) Tryd.sizeOf41 rfl rfl rfl (by simp [Value.oneCell']) rfl (by simp) ?_
          simp only [List.set_cons_zero, List.set_cons_succ]
          refine At.nil ?_
          refine At.thenN ?_
          refine At.seq ?_
          refine At.tail 14 rfl (by decide +kernel) ?_
          simp only [List.take_succ_cons, List.take_zero, List.drop_succ_cons, List.drop_zero]
          refine QAt.val (Val.move rfl) rfl rfl rfl ?_
          refine QAt.val (Val.indexArr 0 rfl Tryd.underlying41 Tryd.sizeOf40 rfl rfl (by decide) (by decide)) rfl rfl rfl ?_
          refine QAt.val (Val.load (i := 0) Tryd.isAgg40 rfl rfl rfl) rfl rfl rfl ?_
          refine QAt.val (Val.field 1 rfl fo_50_1 rfl) rfl rfl rfl ?_
          refine QAt.val (Val.load (i := 5) Tryd.isAgg48 rfl rfl rfl) rfl rfl rfl ?_
          refine QAt.val (Val.conv Tryd.underlying48 Tryd.underlying40 rfl) rfl rfl rfl ?_
          rw [u64_of32]
          refine QAt.val (Val.field 0 rfl fo_50_0 rfl) rfl rfl rfl ?_
          refine QAt.val (Val.load (i := 5) Tryd.isAgg3 rfl rfl rfl) rfl rfl rfl ?_
          refine QAt.val (Val.quo rfl rfl (by decide)) rfl rfl rfl ?_
          rw [wrap_i64 (n := at'.tdiv 2) (by have := Int.tdiv_two_bounds hat; omega) (by have := Int.tdiv_two_bounds hat; omega)]
          refine QAt.callP (fun w hw => mod_p _ _ w (by decide) (by decide)) Tryd.call32 rfl rfl ?_
          refine QAt.val (Val.conv Tryd.underlying3 Tryd.underlying52 rfl) rfl rfl rfl ?_
          rw [← es, wrap_u64 (n := (sh : Int)) (by omega) (by omega)]
          refine QAt.val (Val.shl rfl rfl (by omega)) rfl rfl rfl ?_
          refine QAt.val (Val.bin rfl rfl rfl) rfl rfl rfl ?_
          rw [spoil_word x fl hsh]
          refine QAt.val (Val.indexArr 0 rfl Tryd.underlying41 Tryd.sizeOf40 rfl rfl (by decide) (by decide)) rfl rfl rfl ?_
          refine QAt.fin ?_
          refine At.store (i := 0) Tryd.sizeOf40 rfl rfl rfl rfl (by first | decide | simp) ?_
          simp only [List.set_cons_zero, List.set_cons_succ]
          refine At.nil ?_
          refine At.thenN ?_
          refine At.seq ?_
          refine At.seq ?_
          refine At.quiet rfl (by decide +kernel) ?_
          refine QAt.val (Val.move rfl) rfl rfl rfl ?_
          refine QAt.val (Val.indexArr 0 rfl Tryd.underlying41 Tryd.sizeOf40 rfl rfl (by decide) (by decide)) rfl rfl rfl ?_
          refine QAt.val (Val.load (i := 0) Tryd.isAgg40 rfl rfl rfl) rfl rfl rfl ?_
          refine QAt.val (Val.move rfl) rfl rfl rfl ?_
          refine QAt.val (Val.indexArr 0 rfl Tryd.underlying41 Tryd.sizeOf40 rfl rfl (by decide) (by decide)) rfl rfl rfl ?_
          refine QAt.val (Val.load (i := 3) Tryd.isAgg40 rfl rfl rfl) rfl rfl rfl ?_
          refine QAt.val (Val.bin rfl rfl rfl) rfl rfl rfl ?_
          refine QAt.val (Val.move rfl) rfl rfl rfl ?_
          refine QAt.split (t := 106) rfl (fun h9 => ?_) (fun h9 => ?_)
          · skip
            refine QAt.no rfl rfl rfl rfl ?_
            refine QAt.no rfl rfl rfl rfl ?_
            refine QAt.no rfl rfl rfl rfl ?_
            refine QAt.no rfl rfl rfl rfl ?_
            refine QAt.val (Val.pickT rfl rfl) rfl rfl rfl ?_
            refine QAt.val (Val.move rfl) rfl rfl rfl ?_
            refine QAt.no rfl rfl rfl rfl ?_
            refine QAt.no rfl rfl rfl rfl ?_
            refine QAt.no rfl rfl rfl rfl ?_
            refine QAt.no rfl rfl rfl rfl ?_
            refine QAt.val (Val.pickT rfl rfl) rfl rfl rfl ?_
            refine QAt.fin ?_
            refine At.thenN ?_
            refine At.condT rfl ?_
            refine At.seq ?_
            refine At.region ?_
            refine At.val (Val.assign rfl) rfl rfl rfl ?_
            refine At.nil ?_
            refine At.thenN ?_
            refine At.retC ?_
            refine At.thenR ?_
            refine At.ret1 (.inl rfl) rfl rfl rfl (fun w hw => ?_)
            exact ⟨by first | rfl | simp_all, hw.mod⟩
          · skip
            have hbw := ne_of_beq h9
            refine QAt.yes rfl rfl ?_
            refine QAt.val (Val.move rfl) rfl rfl rfl ?_
            refine QAt.yes rfl rfl ?_
            refine QAt.val (Val.indexArr 0 rfl Tryd.underlying41 Tryd.sizeOf40 rfl rfl (by decide) (by decide)) rfl rfl rfl ?_
            refine QAt.yes rfl rfl ?_
            refine QAt.val (Val.load (i := 0) Tryd.isAgg40 rfl rfl rfl) rfl rfl rfl ?_
            refine QAt.yes rfl rfl ?_
            refine QAt.val (Val.bin rfl rfl rfl) rfl rfl rfl ?_
            refine QAt.val (Val.pickF rfl rfl) rfl rfl rfl ?_
            refine QAt.val (Val.move rfl) rfl rfl rfl ?_
            refine QAt.split (t := 112) rfl (fun h10 => ?_) (fun h10 => ?_)
            · skip
              refine QAt.no rfl rfl rfl rfl ?_
              refine QAt.no rfl rfl rfl rfl ?_
              refine QAt.no rfl rfl rfl rfl ?_
              refine QAt.no rfl rfl rfl rfl ?_
              refine QAt.val (Val.pickT rfl rfl) rfl rfl rfl ?_
              refine QAt.fin ?_
              refine At.thenN ?_
              refine At.condT rfl ?_
              refine At.seq ?_
              refine At.region ?_
              refine At.val (Val.assign rfl) rfl rfl rfl ?_
              refine At.nil ?_
              refine At.thenN ?_
              refine At.retC ?_
              refine At.thenR ?_
              refine At.ret1 (.inl rfl) rfl rfl rfl (fun w hw => ?_)
              exact ⟨by first | rfl | simp_all, hw.mod⟩
            · skip
              have hb0 := ne_zero_of_beq h10
              refine QAt.yes rfl rfl ?_
              refine QAt.val (Val.move rfl) rfl rfl rfl ?_
              refine QAt.yes rfl rfl ?_
              refine QAt.val (Val.indexArr 0 rfl Tryd.underlying41 Tryd.sizeOf40 rfl rfl (by decide) (by decide)) rfl rfl rfl ?_
              refine QAt.yes rfl rfl ?_
              refine QAt.val (Val.load (i := 3) Tryd.isAgg40 rfl rfl rfl) rfl rfl rfl ?_
              refine QAt.yes rfl rfl ?_
              refine QAt.val (Val.bin rfl rfl rfl) rfl rfl rfl ?_
              refine QAt.val (Val.pickF rfl rfl) rfl rfl rfl ?_
              refine QAt.fin ?_
              refine At.thenN ?_
              refine At.cond rfl (fun h11 => ?_) (fun h11 => ?_)
              · skip
                refine At.seq ?_
                refine At.region ?_
                refine At.val (Val.assign rfl) rfl rfl rfl ?_
                refine At.nil ?_
                refine At.thenN ?_
                refine At.retC ?_
                refine At.thenR ?_
                refine At.ret1 (.inl rfl) rfl rfl rfl (fun w hw => ?_)
                exact ⟨by first | rfl | simp_all, hw.mod⟩
              · skip
                have hw0 := ne_zero_of_beq h11
                refine At.skipC ?_
                refine At.thenN ?_
                refine At.seq ?_
                refine At.region ?_
                refine At.val (Val.move rfl) rfl rfl rfl ?_
                refine At.val (Val.loadAll (i := 0) Tryd.isAgg41 Tryd.sizeOf41 rfl rfl (by simp)) rfl rfl rfl ?_
                have hno : ¬ OkH p (x ^^^ (fl.setWidth 64 <<< sh)) y := fun h => word_told (F := fl.toNat) (sh := sh) hx hw0 hb0 (spoil_some hbw) fl.isLt hsh (spoil_nat x fl hsh) h.2.1
                refine At.callP (fun w hw => (by have := openHdr_p p (x ^^^ (fl.setWidth 64 <<< sh)) y w (ht.mod hw.mod); rwa [openHdr_no hno] at this)) Tryd.call30 rfl rfl ?_
                refine At.val (Val.move rfl) rfl rfl rfl ?_
                refine At.val (Val.extract rfl rfl) rfl rfl rfl ?_
                refine At.val (Val.extract rfl rfl) rfl rfl rfl ?_
                refine At.alloc Tryd.zeroValue39 rfl rfl (fun b12 => ?_)
                refine At.storeAll (i := 0) Tryd.sizeOf39 rfl rfl rfl (by simp [Value.oneCell']) rfl rfl ?_
                simp only [List.set_cons_zero, List.set_cons_succ]
                refine At.val (Val.assign rfl) rfl rfl rfl ?_
                refine At.nil ?_
                refine At.thenN ?_
                refine At.seq ?_
                refine At.region ?_
                refine At.val (Val.move rfl) rfl rfl rfl ?_
                refine At.val (Val.bin rfl rfl rfl) rfl rfl rfl ?_
                refine At.val (Val.move rfl) rfl rfl rfl ?_
                refine At.yes rfl rfl ?_
                refine At.val (Val.loadAll (i := 0) Tryd.isAgg39 Tryd.sizeOf39 rfl rfl rfl) rfl rfl rfl ?_
                refine At.yes rfl rfl ?_
                refine At.val (Val.build (fun a ha => by simp only [List.map_toArray, List.map_cons, List.map_nil] <;> rfl) (bld_39_)) rfl rfl rfl ?_
                refine At.yes rfl rfl ?_
                refine At.val (Val.eqAgg Tryd.eqGuardType39 (fun w => eq_39 _ _ _ _ w) rfl rfl) rfl rfl rfl ?_
                refine At.val (Val.pickT rfl rfl) rfl rfl rfl ?_
                refine At.val (Val.assign rfl) rfl rfl rfl ?_
                refine At.nil ?_
                refine At.thenN ?_
                refine At.retC ?_
                refine At.ret1 (.inl rfl) rfl rfl rfl (fun w hw => ?_)
                exact ⟨by first | rfl | simp_all, hw.mod⟩
        · skip
          rw [hk]
          refine At.val (Val.assign rfl) rfl rfl rfl ?_
          refine At.nil ?_
          refine At.thenN ?_
          refine At.seq ?_
          refine At.region ?_
          refine At.val (Val.loadAll (i := 2) Tryd.isAgg41 Tryd.sizeOf41 rfl rfl (by simp)) rfl rfl rfl ?_
          refine At.alloc zero_41 zc_41 rfl (fun b13 => ?_)
          refine At.storeAll (i := 0) Tryd.sizeOf41 rfl rfl rfl (by simp [Value.oneCell']) rfl (by simp) ?_
          simp only [List.set_cons_zero, List.set_cons_succ]
          refine At.nil ?_
          refine At.thenN ?_
          refine At.seq ?_
          refine At.tail 14 rfl (by decide +kernel) ?_
          simp only [List.take_succ_cons, List.take_zero, List.drop_succ_cons, List.drop_zero]
          refine QAt.val (Val.move rfl) rfl rfl rfl ?_
          refine QAt.val (Val.indexArr 1 rfl Tryd.underlying41 Tryd.sizeOf40 rfl rfl (by decide) (by decide)) rfl rfl rfl ?_
          refine QAt.val (Val.load (i := 0) Tryd.isAgg40 rfl rfl rfl) rfl rfl rfl ?_
          refine QAt.val (Val.field 1 rfl fo_50_1 rfl) rfl rfl rfl ?_
          refine QAt.val (Val.load (i := 5) Tryd.isAgg48 rfl rfl rfl) rfl rfl rfl ?_
          refine QAt.val (Val.conv Tryd.underlying48 Tryd.underlying40 rfl) rfl rfl rfl ?_
          rw [u64_of32]
          refine QAt.val (Val.field 0 rfl fo_50_0 rfl) rfl rfl rfl ?_
          refine QAt.val (Val.load (i := 5) Tryd.isAgg3 rfl rfl rfl) rfl rfl rfl ?_
          refine QAt.val (Val.quo rfl rfl (by decide)) rfl rfl rfl ?_
          rw [wrap_i64 (n := at'.tdiv 2) (by have := Int.tdiv_two_bounds hat; omega) (by have := Int.tdiv_two_bounds hat; omega)]
          refine QAt.callP (fun w hw => mod_p _ _ w (by decide) (by decide)) Tryd.call32 rfl rfl ?_
          refine QAt.val (Val.conv Tryd.underlying3 Tryd.underlying52 rfl) rfl rfl rfl ?_
          rw [← es, wrap_u64 (n := (sh : Int)) (by omega) (by omega)]
          refine QAt.val (Val.shl rfl rfl (by omega)) rfl rfl rfl ?_
          refine QAt.val (Val.bin rfl rfl rfl) rfl rfl rfl ?_
          rw [spoil_word y fl hsh]
          refine QAt.val (Val.indexArr 1 rfl Tryd.underlying41 Tryd.sizeOf40 rfl rfl (by decide) (by decide)) rfl rfl rfl ?_
          refine QAt.fin ?_
          refine At.store (i := 0) Tryd.sizeOf40 rfl rfl rfl rfl (by first | decide | simp) ?_
          simp only [List.set_cons_zero, List.set_cons_succ]
          refine At.nil ?_
          refine At.thenN ?_
          refine At.seq ?_
          refine At.seq ?_
          refine At.quiet rfl (by decide +kernel) ?_
          refine QAt.val (Val.move rfl) rfl rfl rfl ?_
          refine QAt.val (Val.indexArr 1 rfl Tryd.underlying41 Tryd.sizeOf40 rfl rfl (by decide) (by decide)) rfl rfl rfl ?_
          refine QAt.val (Val.load (i := 0) Tryd.isAgg40 rfl rfl rfl) rfl rfl rfl ?_
          refine QAt.val (Val.move rfl) rfl rfl rfl ?_
          refine QAt.val (Val.indexArr 1 rfl Tryd.underlying41 Tryd.sizeOf40 rfl rfl (by decide) (by decide)) rfl rfl rfl ?_
          refine QAt.val (Val.load (i := 3) Tryd.isAgg40 rfl rfl rfl) rfl rfl rfl ?_
          refine QAt.val (Val.bin rfl rfl rfl) rfl rfl rfl ?_
          refine QAt.val (Val.move rfl) rfl rfl rfl ?_
          refine QAt.split (t := 106) rfl (fun h14 => ?_) (fun h14 => ?_)
          · skip
            refine QAt.no rfl rfl rfl rfl ?_
            refine QAt.no rfl rfl rfl rfl ?_
            refine QAt.no rfl rfl rfl rfl ?_
            refine QAt.no rfl rfl rfl rfl ?_
            refine QAt.val (Val.pickT rfl rfl) rfl rfl rfl ?_
            refine QAt.val (Val.move rfl) rfl rfl rfl ?_
            refine QAt.no rfl rfl rfl rfl ?_
            refine QAt.no rfl rfl rfl rfl ?_
            refine QAt.no rfl rfl rfl rfl ?_
            refine QAt.no rfl rfl rfl rfl ?_
            refine QAt.val (Val.pickT rfl rfl) rfl rfl rfl ?_
            refine QAt.fin ?_
            refine At.thenN ?_
            refine At.condT rfl ?_
            refine At.seq ?_
            refine At.region ?_
            refine At.val (Val.assign rfl) rfl rfl rfl ?_
            refine At.nil ?_
            refine At.thenN ?_
            refine At.retC ?_
            refine At.thenR ?_
            refine At.ret1 (.inl rfl) rfl rfl rfl (fun w hw => ?_)
            exact ⟨by first | rfl | simp_all, hw.mod⟩
          · skip
            have hbw := ne_of_beq h14
            refine QAt.yes rfl rfl ?_
            refine QAt.val (Val.move rfl) rfl rfl rfl ?_
            refine QAt.yes rfl rfl ?_
            refine QAt.val (Val.indexArr 1 rfl Tryd.underlying41 Tryd.sizeOf40 rfl rfl (by decide) (by decide)) rfl rfl rfl ?_
            refine QAt.yes rfl rfl ?_
            refine QAt.val (Val.load (i := 0) Tryd.isAgg40 rfl rfl rfl) rfl rfl rfl ?_
            refine QAt.yes rfl rfl ?_
            refine QAt.val (Val.bin rfl rfl rfl) rfl rfl rfl ?_
            refine QAt.val (Val.pickF rfl rfl) rfl rfl rfl ?_
            refine QAt.val (Val.move rfl) rfl rfl rfl ?_
            refine QAt.split (t := 112) rfl (fun h15 => ?_) (fun h15 => ?_)
            · skip
              refine QAt.no rfl rfl rfl rfl ?_
              refine QAt.no rfl rfl rfl rfl ?_
              refine QAt.no rfl rfl rfl rfl ?_
              refine QAt.no rfl rfl rfl rfl ?_
              refine QAt.val (Val.pickT rfl rfl) rfl rfl rfl ?_
              refine QAt.fin ?_
              refine At.thenN ?_
              refine At.condT rfl ?_
              refine At.seq ?_
              refine At.region ?_
              refine At.val (Val.assign rfl) rfl rfl rfl ?_
              refine At.nil ?_
              refine At.thenN ?_
              refine At.retC ?_
              refine At.thenR ?_
              refine At.ret1 (.inl rfl) rfl rfl rfl (fun w hw => ?_)
              exact ⟨by first | rfl | simp_all, hw.mod⟩
            · skip
              have hb0 := ne_zero_of_beq h15
              refine QAt.yes rfl rfl ?_
              refine QAt.val (Val.move rfl) rfl rfl rfl ?_
              refine QAt.yes rfl rfl ?_
              refine QAt.val (Val.indexArr 1 rfl Tryd.underlying41 Tryd.sizeOf40 rfl rfl (by decide) (by decide)) rfl rfl rfl ?_
              refine QAt.yes rfl rfl ?_
              refine QAt.val (Val.load (i := 3) Tryd.isAgg40 rfl rfl rfl) rfl rfl rfl ?_
              refine QAt.yes rfl rfl ?_
              refine QAt.val (Val.bin rfl rfl rfl) rfl rfl rfl ?_
              refine QAt.val (Val.pickF rfl rfl) rfl rfl rfl ?_
              refine QAt.fin ?_
              refine At.thenN ?_
              refine At.cond rfl (fun h16 => ?_) (fun h16 => ?_)
              · skip
                refine At.seq ?_
                refine At.region ?_
                refine At.val (Val.assign rfl) rfl rfl rfl ?_
                refine At.nil ?_
                refine At.thenN ?_
                refine At.retC ?_
                refine At.thenR ?_
                refine At.ret1 (.inl rfl) rfl rfl rfl (fun w hw => ?_)
                exact ⟨by first | rfl | simp_all, hw.mod⟩
              · skip
                have hw0 := ne_zero_of_beq h16
                refine At.skipC ?_
                refine At.thenN ?_
                refine At.seq ?_
                refine At.region ?_
                refine At.val (Val.move rfl) rfl rfl rfl ?_
                refine At.val (Val.loadAll (i := 0) Tryd.isAgg41 Tryd.sizeOf41 rfl rfl (by simp)) rfl rfl rfl ?_
                have hno : ¬ OkH p x (y ^^^ (fl.setWidth 64 <<< sh)) := fun h => word_told (F := fl.toNat) (sh := sh) hy hw0 hb0 (spoil_some hbw) fl.isLt hsh (spoil_nat y fl hsh) h.2.2
                refine At.callP (fun w hw => (by have := openHdr_p p x (y ^^^ (fl.setWidth 64 <<< sh)) w (ht.mod hw.mod); rwa [openHdr_no hno] at this)) Tryd.call30 rfl rfl ?_
                refine At.val (Val.move rfl) rfl rfl rfl ?_
                refine At.val (Val.extract rfl rfl) rfl rfl rfl ?_
                refine At.val (Val.extract rfl rfl) rfl rfl rfl ?_
                refine At.alloc Tryd.zeroValue39 rfl rfl (fun b17 => ?_)
                refine At.storeAll (i := 0) Tryd.sizeOf39 rfl rfl rfl (by simp [Value.oneCell']) rfl rfl ?_
                simp only [List.set_cons_zero, List.set_cons_succ]
                refine At.val (Val.assign rfl) rfl rfl rfl ?_
                refine At.nil ?_
                refine At.thenN ?_
                refine At.seq ?_
                refine At.region ?_
                refine At.val (Val.move rfl) rfl rfl rfl ?_
                refine At.val (Val.bin rfl rfl rfl) rfl rfl rfl ?_
                refine At.val (Val.move rfl) rfl rfl rfl ?_
                refine At.yes rfl rfl ?_
                refine At.val (Val.loadAll (i := 0) Tryd.isAgg39 Tryd.sizeOf39 rfl rfl rfl) rfl rfl rfl ?_
                refine At.yes rfl rfl ?_
                refine At.val (Val.build (fun a ha => by simp only [List.map_toArray, List.map_cons, List.map_nil] <;> rfl) (bld_39_)) rfl rfl rfl ?_
                refine At.yes rfl rfl ?_
                refine At.val (Val.eqAgg Tryd.eqGuardType39 (fun w => eq_39 _ _ _ _ w) rfl rfl) rfl rfl rfl ?_
                refine At.val (Val.pickT rfl rfl) rfl rfl rfl ?_
                refine At.val (Val.assign rfl) rfl rfl rfl ?_
                refine At.nil ?_
                refine At.thenN ?_
                refine At.retC ?_
                refine At.ret1 (.inl rfl) rfl rfl rfl (fun w hw => ?_)
                exact ⟨by first | rfl | simp_all, hw.mod⟩
      · skip
        have hno : ¬ OkH q x y := fun h => place_told hy hy0 (addr_ne (by omega) (by omega) (by omega) (by omega) (by omega)) (addr_ofInt (by omega) (by omega)) (addr_ofInt (by omega) (by omega)) h.2.2
        refine At.callP (fun w hw => (by have := openHdr_p q x y w (ht.mod hw.mod); rwa [openHdr_no hno] at this)) Tryd.call30 rfl rfl ?_
        refine At.val (Val.move rfl) rfl rfl rfl ?_
        refine At.val (Val.extract rfl rfl) rfl rfl rfl ?_
        refine At.val (Val.extract rfl rfl) rfl rfl rfl ?_
        refine At.alloc Tryd.zeroValue39 rfl rfl (fun b18 => ?_)
        refine At.storeAll (i := 0) Tryd.sizeOf39 rfl rfl rfl (by simp [Value.oneCell']) rfl rfl ?_
        simp only [List.set_cons_zero, List.set_cons_succ]
        refine At.val (Val.assign rfl) rfl rfl rfl ?_
        refine At.nil ?_
        refine At.thenN ?_
        refine At.seq ?_
        refine At.seq ?_
        refine At.region ?_
        refine At.val (Val.move rfl) rfl rfl rfl ?_
        refine At.val (Val.move rfl) rfl rfl rfl ?_
        refine At.val (Val.bin rfl rfl rfl) rfl rfl rfl ?_
        rw [show (q != p) = true from by simpa using hqp]
        refine At.val (Val.move rfl) rfl rfl rfl ?_
        refine At.yes rfl rfl ?_
        refine At.val (Val.move rfl) rfl rfl rfl ?_
        refine At.yes rfl rfl ?_
        refine At.val (Val.bin rfl rfl rfl) rfl rfl rfl ?_
        refine At.yes rfl rfl ?_
        refine At.val (Val.move rfl) rfl rfl rfl ?_
        refine At.yes rfl rfl ?_
        refine At.val (Val.loadAll (i := 0) Tryd.isAgg39 Tryd.sizeOf39 rfl rfl rfl) rfl rfl rfl ?_
        refine At.yes rfl rfl ?_
        refine At.val (Val.build (fun a ha => by simp only [List.map_toArray, List.map_cons, List.map_nil] <;> rfl) (bld_39_)) rfl rfl rfl ?_
        refine At.yes rfl rfl ?_
        refine At.val (Val.neAgg (b := true) Tryd.eqGuardType39 (fun w => by simpa using eq_39 0 0 0 0 w) rfl rfl) rfl rfl rfl ?_
        refine At.yes rfl rfl ?_
        refine At.val (Val.pickF rfl rfl) rfl rfl rfl ?_
        refine At.val (Val.pickT rfl rfl) rfl rfl rfl ?_
        refine At.nil ?_
        refine At.thenN ?_
        refine At.condF rfl ?_
        refine At.skipC ?_
        refine At.thenN ?_
        refine At.seq ?_
        refine At.region ?_
        refine At.val (Val.field 0 rfl fo_50_0 rfl) rfl rfl rfl ?_
        refine At.val (Val.load (i := 4) Tryd.isAgg3 rfl rfl rfl) rfl rfl rfl ?_
        refine At.callP (fun w hw => mod_p _ _ w (by decide) (by decide)) Tryd.call32 rfl rfl ?_
        rcases (show at' % 2 = 0 ∨ at' % 2 = 1 by omega) with hk | hk
        · skip
          rw [hk]
          refine At.val (Val.assign rfl) rfl rfl rfl ?_
          refine At.nil ?_
          refine At.thenN ?_
          refine At.seq ?_
          refine At.region ?_
          refine At.val (Val.loadAll (i := 2) Tryd.isAgg41 Tryd.sizeOf41 rfl rfl (by simp)) rfl rfl rfl ?_
          refine At.alloc zero_41 zc_41 rfl (fun b19 => ?_)
          refine At.storeAll (i := 0) Tryd.sizeOf41 rfl rfl rfl (by simp [Value.oneCell']) rfl (by simp) ?_
          simp only [List.set_cons_zero, List.set_cons_succ]
          refine At.nil ?_
          refine At.thenN ?_
          refine At.seq ?_
          refine At.tail 14 rfl (by decide +kernel) ?_
          simp only [List.take_succ_cons, List.take_zero, List.drop_succ_cons, List.drop_zero]
          refine QAt.val (Val.move rfl) rfl rfl rfl ?_
          refine QAt.val (Val.indexArr 0 rfl Tryd.underlying41 Tryd.sizeOf40 rfl rfl (by decide) (by decide)) rfl rfl rfl ?_
          refine QAt.val (Val.load (i := 0) Tryd.isAgg40 rfl rfl rfl) rfl rfl rfl ?_
          refine QAt.val (Val.field 1 rfl fo_50_1 rfl) rfl rfl rfl ?_
          refine QAt.val (Val.load (i := 5) Tryd.isAgg48 rfl rfl rfl) rfl rfl rfl ?_
          refine QAt.val (Val.conv Tryd.underlying48 Tryd.underlying40 rfl) rfl rfl rfl ?_
          rw [u64_of32]
          refine QAt.val (Val.field 0 rfl fo_50_0 rfl) rfl rfl rfl ?_
          refine QAt.val (Val.load (i := 5) Tryd.isAgg3 rfl rfl rfl) rfl rfl rfl ?_
          refine QAt.val (Val.quo rfl rfl (by decide)) rfl rfl rfl ?_
          rw [wrap_i64 (n := at'.tdiv 2) (by have := Int.tdiv_two_bounds hat; omega) (by have := Int.tdiv_two_bounds hat; omega)]
          refine QAt.callP (fun w hw => mod_p _ _ w (by decide) (by decide)) Tryd.call32 rfl rfl ?_
          refine QAt.val (Val.conv Tryd.underlying3 Tryd.underlying52 rfl) rfl rfl rfl ?_
          rw [← es, wrap_u64 (n := (sh : Int)) (by omega) (by omega)]
          refine QAt.val (Val.shl rfl rfl (by omega)) rfl rfl rfl ?_
          refine QAt.val (Val.bin rfl rfl rfl) rfl rfl rfl ?_
          rw [spoil_word x fl hsh]
          refine QAt.val (Val.indexArr 0 rfl Tryd.underlying41 Tryd.sizeOf40 rfl rfl (by decide) (by decide)) rfl rfl rfl ?_
          refine QAt.fin ?_
          refine At.store (i := 0) Tryd.sizeOf40 rfl rfl rfl rfl (by first | decide | simp) ?_
          simp only [List.set_cons_zero, List.set_cons_succ]
          refine At.nil ?_
          refine At.thenN ?_
          refine At.seq ?_
          refine At.seq ?_
          refine At.quiet rfl (by decide +kernel) ?_
          refine QAt.val (Val.move rfl) rfl rfl rfl ?_
          refine QAt.val (Val.indexArr 0 rfl Tryd.underlying41 Tryd.sizeOf40 rfl rfl (by decide) (by decide)) rfl rfl rfl ?_
          refine QAt.val (Val.load (i := 0) Tryd.isAgg40 rfl rfl rfl) rfl rfl rfl ?_
          refine QAt.val (Val.move rfl) rfl rfl rfl ?_
          refine QAt.val (Val.indexArr 0 rfl Tryd.underlying41 Tryd.sizeOf40 rfl rfl (by decide) (by decide)) rfl rfl rfl ?_
          refine QAt.val (Val.load (i := 3) Tryd.isAgg40 rfl rfl rfl) rfl rfl rfl ?_
          refine QAt.val (Val.bin rfl rfl rfl) rfl rfl rfl ?_
          refine QAt.val (Val.move rfl) rfl rfl rfl ?_
          refine QAt.split (t := 106) rfl (fun h20 => ?_) (fun h20 => ?_)
          · skip
            refine QAt.no rfl rfl rfl rfl ?_
            refine QAt.no rfl rfl rfl rfl ?_
            refine QAt.no rfl rfl rfl rfl ?_
            refine QAt.no rfl rfl rfl rfl ?_
            refine QAt.val (Val.pickT rfl rfl) rfl rfl rfl ?_
            refine QAt.val (Val.move rfl) rfl rfl rfl ?_
            refine QAt.no rfl rfl rfl rfl ?_
            refine QAt.no rfl rfl rfl rfl ?_
            refine QAt.no rfl rfl rfl rfl ?_
            refine QAt.no rfl rfl rfl rfl ?_
            refine QAt.val (Val.pickT rfl rfl) rfl rfl rfl ?_
            refine QAt.fin ?_
            refine At.thenN ?_
            refine At.condT rfl ?_
            refine At.seq ?_
            refine At.region ?_
            refine At.val (Val.assign rfl) rfl rfl rfl ?_
            refine At.nil ?_
            refine At.thenN ?_
            refine At.retC ?_
            refine At.thenR ?_
            refine At.ret1 (.inl rfl) rfl rfl rfl (fun w hw => ?_)
            exact ⟨by first | rfl | simp_all, hw.mod⟩
          · skip
            have hbw := ne_of_beq h20
            refine QAt.yes rfl rfl ?_
            refine QAt.val (Val.move rfl) rfl rfl rfl ?_
            refine QAt.yes rfl rfl ?_
            refine QAt.val (Val.indexArr 0 rfl Tryd.underlying41 Tryd.sizeOf40 rfl rfl (by decide) (by decide)) rfl rfl rfl ?_
            refine QAt.yes rfl rfl ?_
            refine QAt.val (Val.load (i := 0) Tryd.isAgg40 rfl rfl rfl) rfl rfl rfl ?_
            refine QAt.yes rfl rfl ?_
            refine QAt.val (Val.bin rfl rfl rfl) rfl rfl rfl ?_
            refine QAt.val (Val.pickF rfl rfl) rfl rfl rfl ?_
            refine QAt.val (Val.move rfl) rfl rfl rfl ?_
            refine QAt.split (t := 112) rfl (fun h21 => ?_) (fun h21 => ?_)
            · skip
              refine QAt.no rfl rfl rfl rfl ?_
              refine QAt.no rfl rfl rfl rfl ?_
              refine QAt.no rfl rfl rfl rfl ?_
              refine QAt.no rfl rfl rfl rfl ?_
              refine QAt.val (Val.pickT rfl rfl) rfl rfl rfl ?_
              refine QAt.fin ?_
              refine At.thenN ?_
              refine At.condT rfl ?_
              refine At.seq ?_
              refine At.region ?_
              refine At.val (Val.assign rfl) rfl rfl rfl ?_
              refine At.nil ?_
              refine At.thenN ?_
              refine At.retC ?_
              refine At.thenR ?_
              refine At.ret1 (.inl rfl) rfl rfl rfl (fun w hw => ?_)
              exact ⟨by first | rfl | simp_all, hw.mod⟩
            · skip
              have hb0 := ne_zero_of_beq h21
              refine QAt.yes rfl rfl ?_
              refine QAt.val (Val.move rfl) rfl rfl rfl ?_
              refine QAt.yes rfl rfl ?_
              refine QAt.val (Val.indexArr 0 rfl Tryd.underlying41 Tryd.sizeOf40 rfl rfl (by decide) (by decide)) rfl rfl rfl ?_
              refine QAt.yes rfl rfl ?_
              refine QAt.val (Val.load (i := 3) Tryd.isAgg40 rfl rfl rfl) rfl rfl rfl ?_
              refine QAt.yes rfl rfl ?_
              refine QAt.val (Val.bin rfl rfl rfl) rfl rfl rfl ?_
              refine QAt.val (Val.pickF rfl rfl) rfl rfl rfl ?_
              refine QAt.fin ?_
              refine At.thenN ?_
              refine At.cond rfl (fun h22 => ?_) (fun h22 => ?_)
              · skip
                refine At.seq ?_
                refine At.region ?_
                refine At.val (Val.assign rfl) rfl rfl rfl ?_
                refine At.nil ?_
                refine At.thenN ?_
                refine At.retC ?_
                refine At.thenR ?_
                refine At.ret1 (.inl rfl) rfl rfl rfl (fun w hw => ?_)
                exact ⟨by first | rfl | simp_all, hw.mod⟩
              · skip
                have hw0 := ne_zero_of_beq h22
                refine At.skipC ?_
                refine At.thenN ?_
                refine At.seq ?_
                refine At.region ?_
                refine At.val (Val.move rfl) rfl rfl rfl ?_
                refine At.val (Val.loadAll (i := 0) Tryd.isAgg41 Tryd.sizeOf41 rfl rfl (by simp)) rfl rfl rfl ?_
                have hno : ¬ OkH p (x ^^^ (fl.setWidth 64 <<< sh)) y := fun h => word_told (F := fl.toNat) (sh := sh) hx hw0 hb0 (spoil_some hbw) fl.isLt hsh (spoil_nat x fl hsh) h.2.1
                refine At.callP (fun w hw => (by have := openHdr_p p (x ^^^ (fl.setWidth 64 <<< sh)) y w (ht.mod hw.mod); rwa [openHdr_no hno] at this)) Tryd.call30 rfl rfl ?_
                refine At.val (Val.move rfl) rfl rfl rfl ?_
                refine At.val (Val.extract rfl rfl) rfl rfl rfl ?_
                refine At.val (Val.extract rfl rfl) rfl rfl rfl ?_
                refine At.alloc Tryd.zeroValue39 rfl rfl (fun b23 => ?_)
                refine At.storeAll (i := 0) Tryd.sizeOf39 rfl rfl rfl (by simp [Value.oneCell']) rfl rfl ?_
                simp only [List.set_cons_zero, List.set_cons_succ]
                refine At.val (Val.assign rfl) rfl rfl rfl ?_
                refine At.nil ?_
                refine At.thenN ?_
                refine At.seq ?_
                refine At.region ?_
                refine At.val (Val.move rfl) rfl rfl rfl ?_
                refine At.val (Val.bin rfl rfl rfl) rfl rfl rfl ?_
                refine At.val (Val.move rfl) rfl rfl rfl ?_
                refine At.yes rfl rfl ?_
                refine At.val (Val.loadAll (i := 0) Tryd.isAgg39 Tryd.sizeOf39 rfl rfl rfl) rfl rfl rfl ?_
                refine At.yes rfl rfl ?_
                refine At.val (Val.build (fun a ha => by simp only [List.map_toArray, List.map_cons, List.map_nil] <;> rfl) (bld_39_)) rfl rfl rfl ?_
                refine At.yes rfl rfl ?_
                refine At.val (Val.eqAgg Tryd.eqGuardType39 (fun w => eq_39 _ _ _ _ w) rfl rfl) rfl rfl rfl ?_
                refine At.val (Val.pickT rfl rfl) rfl rfl rfl ?_
                refine At.val (Val.assign rfl) rfl rfl rfl ?_
                refine At.nil ?_
                refine At.thenN ?_
                refine At.retC ?_
                refine At.ret1 (.inl rfl) rfl rfl rfl (fun w hw => ?_)
                exact ⟨by first | rfl | simp_all, hw.mod⟩
        · skip
          rw [hk]
          refine At.val (Val.assign rfl) rfl rfl rfl ?_
          refine At.nil ?_
          refine At.thenN ?_
          refine At.seq ?_
          refine At.region ?_
          refine At.val (Val.loadAll (i := 2) Tryd.isAgg41 Tryd.sizeOf41 rfl rfl (by simp)) rfl rfl rfl ?_
          refine At.alloc zero_41 zc_41 rfl (fun b24 => ?_)
          refine At.storeAll (i := 0) Tryd.sizeOf41 rfl rfl rfl (by simp [Value.oneCell']) rfl (by simp) ?_
          simp only [List.set_cons_zero, List.set_cons_succ]
          refine At.nil ?_
          refine At.thenN ?_
          refine At.seq ?_
          refine At.tail 14 rfl (by decide +kernel) ?_
          simp only [List.take_succ_cons, List.take_zero, List.drop_succ_cons, List.drop_zero]
          refine QAt.val (Val.move rfl) rfl rfl rfl ?_
          refine QAt.val (Val.indexArr 1 rfl Tryd.underlying41 Tryd.sizeOf40 rfl rfl (by decide) (by decide)) rfl rfl rfl ?_
          refine QAt.val (Val.load (i := 0) Tryd.isAgg40 rfl rfl rfl) rfl rfl rfl ?_
          refine QAt.val (Val.field 1 rfl fo_50_1 rfl) rfl rfl rfl ?_
          refine QAt.val (Val.load (i := 5) Tryd.isAgg48 rfl rfl rfl) rfl rfl rfl ?_
          refine QAt.val (Val.conv Tryd.underlying48 Tryd.underlying40 rfl) rfl rfl rfl ?_
          rw [u64_of32]
          refine QAt.val (Val.field 0 rfl fo_50_0 rfl) rfl rfl rfl ?_
          refine QAt.val (Val.load (i := 5) Tryd.isAgg3 rfl rfl rfl) rfl rfl rfl ?_
          refine QAt.val (Val.quo rfl rfl (by decide)) rfl rfl rfl ?_
          rw [wrap_i64 (n := at'.tdiv 2) (by have := Int.tdiv_two_bounds hat; omega) (by have := Int.tdiv_two_bounds hat; omega)]
          refine QAt.callP (fun w hw => mod_p _ _ w (by decide) (by decide)) Tryd.call32 rfl rfl ?_
          refine QAt.val (Val.conv Tryd.underlying3 Tryd.underlying52 rfl) rfl rfl rfl ?_
          rw [← es, wrap_u64 (n := (sh : Int)) (by omega) (by omega)]
          refine QAt.val (Val.shl rfl rfl (by omega)) rfl rfl rfl ?_
          refine QAt.val (Val.bin rfl rfl rfl) rfl rfl rfl ?_
          rw [spoil_word y fl hsh]
          refine QAt.val (Val.indexArr 1 rfl Tryd.underlying41 Tryd.sizeOf40 rfl rfl (by decide) (by decide)) rfl rfl rfl ?_
          refine QAt.fin ?_
          refine At.store (i := 0) Tryd.sizeOf40 rfl rfl rfl rfl (by first | decide | simp) ?_
          simp only [List.set_cons_zero, List.set_cons_succ]
          refine At.nil ?_
          refine At.thenN ?_
          refine At.seq ?_
          refine At.seq ?_
          refine At.quiet rfl (by decide +kernel) ?_
          refine QAt.val (Val.move rfl) rfl rfl rfl ?_
          refine QAt.val (Val.indexArr 1 rfl Tryd.underlying41 Tryd.sizeOf40 rfl rfl (by decide) (by decide)) rfl rfl rfl ?_
          refine QAt.val (Val.load (i := 0) Tryd.isAgg40 rfl rfl rfl) rfl rfl rfl ?_
          refine QAt.val (Val.move rfl) rfl rfl rfl ?_
          refine QAt.val (Val.indexArr 1 rfl Tryd.underlying41 Tryd.sizeOf40 rfl rfl (by decide) (by decide)) rfl rfl rfl ?_
          refine QAt.val (Val.load (i := 3) Tryd.isAgg40 rfl rfl rfl) rfl rfl rfl ?_
          refine QAt.val (Val.bin rfl rfl rfl) rfl rfl rfl ?_
          refine QAt.val (Val.move rfl) rfl rfl rfl ?_
          refine QAt.split (t := 106) rfl (fun h25 => ?_) (fun h25 => ?_)
          · skip
            refine QAt.no rfl rfl rfl rfl ?_
            refine QAt.no rfl rfl rfl rfl ?_
            refine QAt.no rfl rfl rfl rfl ?_
            refine QAt.no rfl rfl rfl rfl ?_
            refine QAt.val (Val.pickT rfl rfl) rfl rfl rfl ?_
            refine QAt.val (Val.move rfl) rfl rfl rfl ?_
            refine QAt.no rfl rfl rfl rfl ?_
            refine QAt.no rfl rfl rfl rfl ?_
            refine QAt.no rfl rfl rfl rfl ?_
            refine QAt.no rfl rfl rfl rfl ?_
            refine QAt.val (Val.pickT rfl rfl) rfl rfl rfl ?_
            refine QAt.fin ?_
            refine At.thenN ?_
            refine At.condT rfl ?_
            refine At.seq ?_
            refine At.region ?_
            refine At.val (Val.assign rfl) rfl rfl rfl ?_
            refine At.nil ?_
            refine At.thenN ?_
            refine At.retC ?_
            refine At.thenR ?_
            refine At.ret1 (.inl rfl) rfl rfl rfl (fun w hw => ?_)
            exact ⟨by first | rfl | simp_all, hw.mod⟩
          · skip
            have hbw := ne_of_beq h25
            refine QAt.yes rfl rfl ?_
            refine QAt.val (Val.move rfl) rfl rfl rfl ?_
            refine QAt.yes rfl rfl ?_
            refine QAt.val (Val.indexArr 1 rfl Tryd.underlying41 Tryd.sizeOf40 rfl rfl (by decide) (by decide)) rfl rfl rfl ?_
            refine QAt.yes rfl rfl ?_
            refine QAt.val (Val.load (i := 0) Tryd.isAgg40 rfl rfl rfl) rfl rfl rfl ?_
            refine QAt.yes rfl rfl ?_
            refine QAt.val (Val.bin rfl rfl rfl) rfl rfl rfl ?_
            refine QAt.val (Val.pickF rfl rfl) rfl rfl rfl ?_
            refine QAt.val (Val.move rfl) rfl rfl rfl ?_
            refine QAt.split (t := 112) rfl (fun h26 => ?_) (fun h26 => ?_)
            · skip
              refine QAt.no rfl rfl rfl rfl ?_
              refine QAt.no rfl rfl rfl rfl ?_
              refine QAt.no rfl rfl rfl rfl ?_
              refine QAt.no rfl rfl rfl rfl ?_
              refine QAt.val (Val.pickT rfl rfl) rfl rfl rfl ?_
              refine QAt.fin ?_
              refine At.thenN ?_
              refine At.condT rfl ?_
              refine At.seq ?_
              refine At.region ?_
              refine At.val (Val.assign rfl) rfl rfl rfl ?_
              refine At.nil ?_
              refine At.thenN ?_
              refine At.retC ?_
              refine At.thenR ?_
              refine At.ret1 (.inl rfl) rfl rfl rfl (fun w hw => ?_)
              exact ⟨by first | rfl | simp_all, hw.mod⟩
            · skip
              have hb0 := ne_zero_of_beq h26
              refine QAt.yes rfl rfl ?_
              refine QAt.val (Val.move rfl) rfl rfl rfl ?_
              refine QAt.yes rfl rfl ?_
              refine QAt.val (Val.indexArr 1 rfl Tryd.underlying41 Tryd.sizeOf40 rfl rfl (by decide) (by decide)) rfl rfl rfl ?_
              refine QAt.yes rfl rfl ?_
              refine QAt.val (Val.load (i := 3) Tryd.isAgg40 rfl rfl rfl) rfl rfl rfl ?_
              refine QAt.yes rfl rfl ?_
              refine QAt.val (Val.bin rfl rfl rfl) rfl rfl rfl ?_
              refine QAt.val (Val.pickF rfl rfl) rfl rfl rfl ?_
              refine QAt.fin ?_
              refine At.thenN ?_
              refine At.cond rfl (fun h27 => ?_) (fun h27 => ?_)
              · skip
                refine At.seq ?_
                refine At.region ?_
                refine At.val (Val.assign rfl) rfl rfl rfl ?_
                refine At.nil ?_
                refine At.thenN ?_
                refine At.retC ?_
                refine At.thenR ?_
                refine At.ret1 (.inl rfl) rfl rfl rfl (fun w hw => ?_)
                exact ⟨by first | rfl | simp_all, hw.mod⟩
              · skip
                have hw0 := ne_zero_of_beq h27
                refine At.skipC ?_
                refine At.thenN ?_
                refine At.seq ?_
                refine At.region ?_
                refine At.val (Val.move rfl) rfl rfl rfl ?_
                refine At.val (Val.loadAll (i := 0) Tryd.isAgg41 Tryd.sizeOf41 rfl rfl (by simp)) rfl rfl rfl ?_
                have hno : ¬ OkH p x (y ^^^ (fl.setWidth 64 <<< sh)) := fun h => word_told (F := fl.toNat) (sh := sh) hy hw0 hb0 (spoil_some hbw) fl.isLt hsh (spoil_nat y fl hsh) h.2.2
                refine At.callP (fun w hw => (by have := openHdr_p p x (y ^^^ (fl.setWidth 64 <<< sh)) w (ht.mod hw.mod); rwa [openHdr_no hno] at this)) Tryd.call30 rfl rfl ?_
                refine At.val (Val.move rfl) rfl rfl rfl ?_
                refine At.val (Val.extract rfl rfl) rfl rfl rfl ?_
                refine At.val (Val.extract rfl rfl) rfl rfl rfl ?_
                refine At.alloc Tryd.zeroValue39 rfl rfl (fun b28 => ?_)
                refine At.storeAll (i := 0) Tryd.sizeOf39 rfl rfl rfl (by simp [Value.oneCell']) rfl rfl ?_
                simp only [List.set_cons_zero, List.set_cons_succ]
                refine At.val (Val.assign rfl) rfl rfl rfl ?_
                refine At.nil ?_
                refine At.thenN ?_
                refine At.seq ?_
                refine At.region ?_
                refine At.val (Val.move rfl) rfl rfl rfl ?_
                refine At.val (Val.bin rfl rfl rfl) rfl rfl rfl ?_
                refine At.val (Val.move rfl) rfl rfl rfl ?_
                refine At.yes rfl rfl ?_
                refine At.val (Val.loadAll (i := 0) Tryd.isAgg39 Tryd.sizeOf39 rfl rfl rfl) rfl rfl rfl ?_
                refine At.yes rfl rfl ?_
                refine At.val (Val.build (fun a ha => by simp only [List.map_toArray, List.map_cons, List.map_nil] <;> rfl) (bld_39_)) rfl rfl rfl ?_
                refine At.yes rfl rfl ?_
                refine At.val (Val.eqAgg Tryd.eqGuardType39 (fun w => eq_39 _ _ _ _ w) rfl rfl) rfl rfl rfl ?_
                refine At.val (Val.pickT rfl rfl) rfl rfl rfl ?_
                refine At.val (Val.assign rfl) rfl rfl rfl ?_
                refine At.nil ?_
                refine At.thenN ?_
                refine At.retC ?_
                refine At.ret1 (.inl rfl) rfl rfl rfl (fun w hw => ?_)
                exact ⟨by first | rfl | simp_all, hw.mod⟩
  · skip
    have hm : n3 % 1020 = 0 := by have := h4; simp at this; omega
    refine At.skipC ?_
    refine At.thenN ?_
    refine At.seq ?_
    refine At.region ?_
    refine At.val (Val.move rfl) rfl rfl rfl ?_
    refine At.val (Val.loadAll (i := 0) Tryd.isAgg39 Tryd.sizeOf39 rfl rfl rfl) rfl rfl rfl ?_
    refine At.callP (fun w hw => (by have := packHdr_p p (0) ow w (ht.mod hw.mod); rwa [packHdr_yes (by unfold GoodH; omega), hdr_cells] at this)) Tryd.call28 rfl rfl ?_
    obtain ⟨x, ex⟩ : ∃ x, x = sealW (BitVec.ofInt 64 (512 * p)) (BitVec.ofInt 32 (0)) := ⟨_, rfl⟩
    obtain ⟨y, ey⟩ : ∃ y, y = sealW (BitVec.ofInt 64 (512 * p + 8)) (BitVec.ofInt 32 ow) := ⟨_, rfl⟩
    rw [← ex, ← ey]
    · skip
      have hgood : GoodH p (0) ow := by unfold GoodH; omega
      have hx : sealW (BitVec.ofInt 64 (512 * p)) (x.setWidth 32) = x := by rw [ex, seal_low]
      have hy : sealW (BitVec.ofInt 64 (512 * p + 8)) (y.setWidth 32) = y := by rw [ey, seal_low]
      have xv : ((x.setWidth 32).toNat : Int) = 0 := by rw [ex, seal_low]; exact ofInt_val (by omega) (by omega)
      have yv : ((y.setWidth 32).toNat : Int) = ow := by rw [ey, seal_low]; exact ofInt_val (by omega) (by omega)
      have hok : OkH p x y := ⟨by rw [xv, yv]; exact hgood, hx, hy⟩
      have hy0 : y ≠ 0 := fun e => by rw [e] at yv; have h0 : (((0 : BitVec 64).setWidth 32).toNat : Int) = 0 := rfl; omega
      refine At.val (Val.move rfl) rfl rfl rfl ?_
      refine At.val (Val.extract rfl rfl) rfl rfl rfl ?_
      refine At.val (Val.extract rfl rfl) rfl rfl rfl ?_
      refine At.alloc zero_41 zc_41 rfl (fun b29 => ?_)
      refine At.storeAll (i := 0) Tryd.sizeOf41 rfl rfl rfl (by simp [Value.oneCell']) rfl (by simp) ?_
      simp only [List.set_cons_zero, List.set_cons_succ]
      refine At.val (Val.assign rfl) rfl rfl rfl ?_
      refine At.nil ?_
      refine At.thenN ?_
      refine At.seq ?_
      refine At.region ?_
      refine At.val (Val.move rfl) rfl rfl rfl ?_
      refine At.val (Val.loadAll (i := 0) Tryd.isAgg41 Tryd.sizeOf41 rfl rfl (by simp)) rfl rfl rfl ?_
      refine At.callP (fun w hw => (by have := openHdr_p p x y w (ht.mod hw.mod); rwa [openHdr_yes hok, xv, yv] at this)) Tryd.call30 rfl rfl ?_
      refine At.val (Val.move rfl) rfl rfl rfl ?_
      refine At.val (Val.extract rfl rfl) rfl rfl rfl ?_
      refine At.val (Val.extract rfl rfl) rfl rfl rfl ?_
      refine At.alloc Tryd.zeroValue39 rfl rfl (fun b30 => ?_)
      refine At.storeAll (i := 0) Tryd.sizeOf39 rfl rfl rfl (by simp [Value.oneCell']) rfl rfl ?_
      simp only [List.set_cons_zero, List.set_cons_succ]
      refine At.val (Val.assign rfl) rfl rfl rfl ?_
      refine At.nil ?_
      refine At.thenN ?_
      refine At.seq ?_
      refine At.seq ?_
      refine At.region ?_
      refine At.val (Val.move rfl) rfl rfl rfl ?_
      refine At.val (Val.bin rfl rfl rfl) rfl rfl rfl ?_
      refine At.val (Val.move rfl) rfl rfl rfl ?_
      refine At.yes rfl rfl ?_
      refine At.val (Val.move rfl) rfl rfl rfl ?_
      refine At.yes rfl rfl ?_
      refine At.val (Val.bin rfl rfl rfl) rfl rfl rfl ?_
      refine At.val (Val.pickF rfl rfl) rfl rfl rfl ?_
      refine At.val (Val.move rfl) rfl rfl rfl ?_
      refine At.yes rfl rfl ?_
      refine At.val (Val.loadAll (i := 0) Tryd.isAgg39 Tryd.sizeOf39 rfl rfl rfl) rfl rfl rfl ?_
      refine At.yes rfl rfl ?_
      refine At.val (Val.loadAll (i := 2) Tryd.isAgg39 Tryd.sizeOf39 rfl rfl rfl) rfl rfl rfl ?_
      refine At.yes rfl rfl ?_
      refine At.val (Val.neAgg (b := true) Tryd.eqGuardType39 (fun w => by simpa using eq_39 (0) ow (0) ow w) rfl rfl) rfl rfl rfl ?_
      refine At.val (Val.pickF rfl rfl) rfl rfl rfl ?_
      refine At.nil ?_
      refine At.thenN ?_
      refine At.condF rfl ?_
      refine At.skipC ?_
      refine At.thenN ?_
      refine At.seq ?_
      refine At.region ?_
      refine At.val (Val.move rfl) rfl rfl rfl ?_
      refine At.val (Val.loadAll (i := 1) Tryd.isAgg41 Tryd.sizeOf41 rfl rfl (by simp)) rfl rfl rfl ?_
      by_cases hqp : q = p
      · skip
        refine At.callP (fun w hw => (by have := openHdr_p q x y w (ht.mod hw.mod); rw [openHdr_yes (hqp ▸ hok), xv, yv] at this; exact this)) Tryd.call30 rfl rfl ?_
        refine At.val (Val.move rfl) rfl rfl rfl ?_
        refine At.val (Val.extract rfl rfl) rfl rfl rfl ?_
        refine At.val (Val.extract rfl rfl) rfl rfl rfl ?_
        refine At.alloc Tryd.zeroValue39 rfl rfl (fun b31 => ?_)
        refine At.storeAll (i := 0) Tryd.sizeOf39 rfl rfl rfl (by simp [Value.oneCell']) rfl rfl ?_
        simp only [List.set_cons_zero, List.set_cons_succ]
        refine At.val (Val.assign rfl) rfl rfl rfl ?_
        refine At.nil ?_
        refine At.thenN ?_
        refine At.seq ?_
        refine At.seq ?_
        refine At.region ?_
        refine At.val (Val.move rfl) rfl rfl rfl ?_
        refine At.val (Val.move rfl) rfl rfl rfl ?_
        refine At.val (Val.bin rfl rfl rfl) rfl rfl rfl ?_
        rw [show (q != p) = false from by simp [hqp]]
        refine At.val (Val.move rfl) rfl rfl rfl ?_
        refine At.no rfl rfl rfl rfl ?_
        refine At.no rfl rfl rfl rfl ?_
        refine At.no rfl rfl rfl rfl ?_
        refine At.noU rfl rfl rfl ?_
        refine At.noU rfl rfl rfl ?_
        refine At.noU rfl rfl rfl ?_
        refine At.no rfl rfl rfl rfl ?_
        refine At.val (Val.pickF rfl rfl) rfl rfl rfl ?_
        refine At.nil ?_
        refine At.thenN ?_
        refine At.condF rfl ?_
        refine At.skipC ?_
        refine At.thenN ?_
        refine At.seq ?_
        refine At.region ?_
        refine At.val (Val.field 0 rfl fo_50_0 rfl) rfl rfl rfl ?_
        refine At.val (Val.load (i := 4) Tryd.isAgg3 rfl rfl rfl) rfl rfl rfl ?_
        refine At.callP (fun w hw => mod_p _ _ w (by decide) (by decide)) Tryd.call32 rfl rfl ?_
        rcases (show at' % 2 = 0 ∨ at' % 2 = 1 by omega) with hk | hk
        · skip
          rw [hk]
          refine At.val (Val.assign rfl) rfl rfl rfl ?_
          refine At.nil ?_
          refine At.thenN ?_
          refine At.seq ?_
          refine At.region ?_
          refine At.val (Val.loadAll (i := 2) Tryd.isAgg41 Tryd.sizeOf41 rfl rfl (by simp)) rfl rfl rfl ?_
          refine At.alloc zero_41 zc_41 rfl (fun b32 => ?_)
          refine At.storeAll (i := 0) Tryd.sizeOf41 rfl rfl rfl (by simp [Value.oneCell']) rfl (by simp) ?_
          simp only [List.set_cons_zero, List.set_cons_succ]
          refine At.nil ?_
          refine At.thenN ?_
          refine At.seq ?_
          refine At.tail 14 rfl (by decide +kernel) ?_
          simp only [List.take_succ_cons, List.take_zero, List.drop_succ_cons, List.drop_zero]
          refine QAt.val (Val.move rfl) rfl rfl rfl ?_
          refine QAt.val (Val.indexArr 0 rfl Tryd.underlying41 Tryd.sizeOf40 rfl rfl (by decide) (by decide)) rfl rfl rfl ?_
          refine QAt.val (Val.load (i := 0) Tryd.isAgg40 rfl rfl rfl) rfl rfl rfl ?_
          refine QAt.val (Val.field 1 rfl fo_50_1 rfl) rfl rfl rfl ?_
          refine QAt.val (Val.load (i := 5) Tryd.isAgg48 rfl rfl rfl) rfl rfl rfl ?_
          refine QAt.val (Val.conv Tryd.underlying48 Tryd.underlying40 rfl) rfl rfl rfl ?_
          rw [u64_of32]
          refine QAt.val (Val.field 0 rfl fo_50_0 rfl) rfl rfl rfl ?_
          refine QAt.val (Val.load (i := 5) Tryd.isAgg3 rfl rfl rfl) rfl rfl rfl ?_
          refine QAt.val (Val.quo rfl rfl (by decide)) rfl rfl rfl ?_
          rw [wrap_i64 (n := at'.tdiv 2) (by have := Int.tdiv_two_bounds hat; omega) (by have := Int.tdiv_two_bounds hat; omega)]
          refine QAt.callP (fun w hw => mod_p _ _ w (by decide) (by decide)) Tryd.call32 rfl rfl ?_
          refine QAt.val (Val.conv Tryd.underlying3 Tryd.underlying52 rfl) rfl rfl rfl ?_
          rw [← es, wrap_u64 (n := (sh : Int)) (by omega) (by omega)]
          refine QAt.val (Val.shl rfl rfl (by omega)) rfl rfl rfl ?_
          refine QAt.val (Val.bin rfl rfl rfl) rfl rfl rfl ?_
          rw [spoil_word x fl hsh]
          refine QAt.val (Val.indexArr 0 rfl Tryd.underlying41 Tryd.sizeOf40 rfl rfl (by decide) (by decide)) rfl rfl rfl ?_
          refine QAt.fin ?_
          refine At.store (i := 0) Tryd.sizeOf40 rfl rfl rfl rfl (by first | decide | simp) ?_
          simp only [List.set_cons_zero, List.set_cons_succ]
          refine At.nil ?_
          refine At.thenN ?_
          refine At.seq ?_
          refine At.seq ?_
          refine At.quiet rfl (by decide +kernel) ?_
          refine QAt.val (Val.move rfl) rfl rfl rfl ?_
          refine QAt.val (Val.indexArr 0 rfl Tryd.underlying41 Tryd.sizeOf40 rfl rfl (by decide) (by decide)) rfl rfl rfl ?_
          refine QAt.val (Val.load (i := 0) Tryd.isAgg40 rfl rfl rfl) rfl rfl rfl ?_
          refine QAt.val (Val.move rfl) rfl rfl rfl ?_
          refine QAt.val (Val.indexArr 0 rfl Tryd.underlying41 Tryd.sizeOf40 rfl rfl (by decide) (by decide)) rfl rfl rfl ?_
          refine QAt.val (Val.load (i := 3) Tryd.isAgg40 rfl rfl rfl) rfl rfl rfl ?_
          refine QAt.val (Val.bin rfl rfl rfl) rfl rfl rfl ?_
          refine QAt.val (Val.move rfl) rfl rfl rfl ?_
          refine QAt.split (t := 106) rfl (fun h33 => ?_) (fun h33 => ?_)
          · skip
            refine QAt.no rfl rfl rfl rfl ?_
            refine QAt.no rfl rfl rfl rfl ?_
            refine QAt.no rfl rfl rfl rfl ?_
            refine QAt.no rfl rfl rfl rfl ?_
            refine QAt.val (Val.pickT rfl rfl) rfl rfl rfl ?_
            refine QAt.val (Val.move rfl) rfl rfl rfl ?_
            refine QAt.no rfl rfl rfl rfl ?_
            refine QAt.no rfl rfl rfl rfl ?_
            refine QAt.no rfl rfl rfl rfl ?_
            refine QAt.no rfl rfl rfl rfl ?_
            refine QAt.val (Val.pickT rfl rfl) rfl rfl rfl ?_
            refine QAt.fin ?_
            refine At.thenN ?_
            refine At.condT rfl ?_
            refine At.seq ?_
            refine At.region ?_
            refine At.val (Val.assign rfl) rfl rfl rfl ?_
            refine At.nil ?_
            refine At.thenN ?_
            refine At.retC ?_
            refine At.thenR ?_
            refine At.ret1 (.inl rfl) rfl rfl rfl (fun w hw => ?_)
            exact ⟨by first | rfl | simp_all, hw.mod⟩
          · skip
            have hbw := ne_of_beq h33
            refine QAt.yes rfl rfl ?_
            refine QAt.val (Val.move rfl) rfl rfl rfl ?_
            refine QAt.yes rfl rfl ?_
            refine QAt.val (Val.indexArr 0 rfl Tryd.underlying41 Tryd.sizeOf40 rfl rfl (by decide) (by decide)) rfl rfl rfl ?_
            refine QAt.yes rfl rfl ?_
            refine QAt.val (Val.load (i := 0) Tryd.isAgg40 rfl rfl rfl) rfl rfl rfl ?_
            refine QAt.yes rfl rfl ?_
            refine QAt.val (Val.bin rfl rfl rfl) rfl rfl rfl ?_
            refine QAt.val (Val.pickF rfl rfl) rfl rfl rfl ?_
            refine QAt.val (Val.move rfl) rfl rfl rfl ?_
            refine QAt.split (t := 112) rfl (fun h34 => ?_) (fun h34 => ?_)
            · skip
              refine QAt.no rfl rfl rfl rfl ?_
              refine QAt.no rfl rfl rfl rfl ?_
              refine QAt.no rfl rfl rfl rfl ?_
              refine QAt.no rfl rfl rfl rfl ?_
              refine QAt.val (Val.pickT rfl rfl) rfl rfl rfl ?_
              refine QAt.fin ?_
              refine At.thenN ?_
              refine At.condT rfl ?_
              refine At.seq ?_
              refine At.region ?_
              refine At.val (Val.assign rfl) rfl rfl rfl ?_
              refine At.nil ?_
              refine At.thenN ?_
              refine At.retC ?_
              refine At.thenR ?_
              refine At.ret1 (.inl rfl) rfl rfl rfl (fun w hw => ?_)
              exact ⟨by first | rfl | simp_all, hw.mod⟩
            · skip
              have hb0 := ne_zero_of_beq h34
              refine QAt.yes rfl rfl ?_
              refine QAt.val (Val.move rfl) rfl rfl rfl ?_
              refine QAt.yes rfl rfl ?_
              refine QAt.val (Val.indexArr 0 rfl Tryd.underlying41 Tryd.sizeOf40 rfl rfl (by decide) (by decide)) rfl rfl rfl ?_
              refine QAt.yes rfl rfl ?_
              refine QAt.val (Val.load (i := 3) Tryd.isAgg40 rfl rfl rfl) rfl rfl rfl ?_
              refine QAt.yes rfl rfl ?_
              refine QAt.val (Val.bin rfl rfl rfl) rfl rfl rfl ?_
              refine QAt.val (Val.pickF rfl rfl) rfl rfl rfl ?_
              refine QAt.fin ?_
              refine At.thenN ?_
              refine At.cond rfl (fun h35 => ?_) (fun h35 => ?_)
              · skip
                refine At.seq ?_
                refine At.region ?_
                refine At.val (Val.assign rfl) rfl rfl rfl ?_
                refine At.nil ?_
                refine At.thenN ?_
                refine At.retC ?_
                refine At.thenR ?_
                refine At.ret1 (.inl rfl) rfl rfl rfl (fun w hw => ?_)
                exact ⟨by first | rfl | simp_all, hw.mod⟩
              · skip
                have hw0 := ne_zero_of_beq h35
                refine At.skipC ?_
                refine At.thenN ?_
                refine At.seq ?_
                refine At.region ?_
                refine At.val (Val.move rfl) rfl rfl rfl ?_
                refine At.val (Val.loadAll (i := 0) Tryd.isAgg41 Tryd.sizeOf41 rfl rfl (by simp)) rfl rfl rfl ?_
                have hno : ¬ OkH p (x ^^^ (fl.setWidth 64 <<< sh)) y := fun h => word_told (F := fl.toNat) (sh := sh) hx hw0 hb0 (spoil_some hbw) fl.isLt hsh (spoil_nat x fl hsh) h.2.1
                refine At.callP (fun w hw => (by have := openHdr_p p (x ^^^ (fl.setWidth 64 <<< sh)) y w (ht.mod hw.mod); rwa [openHdr_no hno] at this)) Tryd.call30 rfl rfl ?_
                refine At.val (Val.move rfl) rfl rfl rfl ?_
                refine At.val (Val.extract rfl rfl) rfl rfl rfl ?_
                refine At.val (Val.extract rfl rfl) rfl rfl rfl ?_
                refine At.alloc Tryd.zeroValue39 rfl rfl (fun b36 => ?_)
                refine At.storeAll (i := 0) Tryd.sizeOf39 rfl rfl rfl (by simp [Value.oneCell']) rfl rfl ?_
                simp only [List.set_cons_zero, List.set_cons_succ]
                refine At.val (Val.assign rfl) rfl rfl rfl ?_
                refine At.nil ?_
                refine At.thenN ?_
                refine At.seq ?_
                refine At.region ?_
                refine At.val (Val.move rfl) rfl rfl rfl ?_
                refine At.val (Val.bin rfl rfl rfl) rfl rfl rfl ?_
                refine At.val (Val.move rfl) rfl rfl rfl ?_
                refine At.yes rfl rfl ?_
                refine At.val (Val.loadAll (i := 0) Tryd.isAgg39 Tryd.sizeOf39 rfl rfl rfl) rfl rfl rfl ?_
                refine At.yes rfl rfl ?_
                refine At.val (Val.build (fun a ha => by simp only [List.map_toArray, List.map_cons, List.map_nil] <;> rfl) (bld_39_)) rfl rfl rfl ?_
                refine At.yes rfl rfl ?_
                refine At.val (Val.eqAgg Tryd.eqGuardType39 (fun w => eq_39 _ _ _ _ w) rfl rfl) rfl rfl rfl ?_
                refine At.val (Val.pickT rfl rfl) rfl rfl rfl ?_
                refine At.val (Val.assign rfl) rfl rfl rfl ?_
                refine At.nil ?_
                refine At.thenN ?_
                refine At.retC ?_
                refine At.ret1 (.inl rfl) rfl rfl rfl (fun w hw => ?_)
                exact ⟨by first | rfl | simp_all, hw.mod⟩
        · skip
          rw [hk]
          refine At.val (Val.assign rfl) rfl rfl rfl ?_
          refine At.nil ?_
          refine At.thenN ?_
          refine At.seq ?_
          refine At.region ?_
          refine At.val (Val.loadAll (i := 2) Tryd.isAgg41 Tryd.sizeOf41 rfl rfl (by simp)) rfl rfl rfl ?_
          refine At.alloc zero_41 zc_41 rfl (fun b37 => ?_)
          refine At.storeAll (i := 0) Tryd.sizeOf41 rfl rfl rfl (by simp [Value.oneCell']) rfl (by simp) ?_
          simp only [List.set_cons_zero, List.set_cons_succ]
          refine At.nil ?_
          refine At.thenN ?_
          refine At.seq ?_
          refine At.tail 14 rfl (by decide +kernel) ?_
          simp only [List.take_succ_cons, List.take_zero, List.drop_succ_cons, List.drop_zero]
          refine QAt.val (Val.move rfl) rfl rfl rfl ?_
          refine QAt.val (Val.indexArr 1 rfl Tryd.underlying41 Tryd.sizeOf40 rfl rfl (by decide) (by decide)) rfl rfl rfl ?_
          refine QAt.val (Val.load (i := 0) Tryd.isAgg40 rfl rfl rfl) rfl rfl rfl ?_
          refine QAt.val (Val.field 1 rfl fo_50_1 rfl) rfl rfl rfl ?_
          refine QAt.val (Val.load (i := 5) Tryd.isAgg48 rfl rfl rfl) rfl rfl rfl ?_
          refine QAt.val (Val.conv Tryd.underlying48 Tryd.underlying40 rfl) rfl rfl rfl ?_
          rw [u64_of32]
          refine QAt.val (Val.field 0 rfl fo_50_0 rfl) rfl rfl rfl ?_
          refine QAt.val (Val.load (i := 5) Tryd.isAgg3 rfl rfl rfl) rfl rfl rfl ?_
          refine QAt.val (Val.quo rfl rfl (by decide)) rfl rfl rfl ?_
          rw [wrap_i64 (n := at'.tdiv 2) (by have := Int.tdiv_two_bounds hat; omega) (by have := Int.tdiv_two_bounds hat; omega)]
          refine QAt.callP (fun w hw => mod_p _ _ w (by decide) (by decide)) Tryd.call32 rfl rfl ?_
          refine QAt.val (Val.conv Tryd.underlying3 Tryd.underlying52 rfl) rfl rfl rfl ?_
          rw [← es, wrap_u64 (n := (sh : Int)) (by omega) (by omega)]
          refine QAt.val (Val.shl rfl rfl (by omega)) rfl rfl rfl ?_
          refine QAt.val (Val.bin rfl rfl rfl) rfl rfl rfl ?_
          rw [spoil_word y fl hsh]
          refine QAt.val (Val.indexArr 1 rfl Tryd.underlying41 Tryd.sizeOf40 rfl rfl (by decide) (by decide)) rfl rfl rfl ?_
          refine QAt.fin ?_
          refine At.store (i := 0) Tryd.sizeOf40 rfl rfl rfl rfl (by first | decide | simp) ?_
          simp only [List.set_cons_zero, List.set_cons_succ]
          refine At.nil ?_
          refine At.thenN ?_
          refine At.seq ?_
          refine At.seq ?_
          refine At.quiet rfl (by decide +kernel) ?_
          refine QAt.val (Val.move rfl) rfl rfl rfl ?_
          refine QAt.val (Val.indexArr 1 rfl Tryd.underlying41 Tryd.sizeOf40 rfl rfl (by decide) (by decide)) rfl rfl rfl ?_
          refine QAt.val (Val.load (i := 0) Tryd.isAgg40 rfl rfl rfl) rfl rfl rfl ?_
          refine QAt.val (Val.move rfl) rfl rfl rfl ?_
          refine QAt.val (Val.indexArr 1 rfl Tryd.underlying41 Tryd.sizeOf40 rfl rfl (by decide) (by decide)) rfl rfl rfl ?_
          refine QAt.val (Val.load (i := 3) Tryd.isAgg40 rfl rfl rfl) rfl rfl rfl ?_
          refine QAt.val (Val.bin rfl rfl rfl) rfl rfl rfl ?_
          refine QAt.val (Val.move rfl) rfl rfl rfl ?_
          refine QAt.split (t := 106) rfl (fun h38 => ?_) (fun h38 => ?_)
          · skip
            refine QAt.no rfl rfl rfl rfl ?_
            refine QAt.no rfl rfl rfl rfl ?_
            refine QAt.no rfl rfl rfl rfl ?_
            refine QAt.no rfl rfl rfl rfl ?_
            refine QAt.val (Val.pickT rfl rfl) rfl rfl rfl ?_
            refine QAt.val (Val.move rfl) rfl rfl rfl ?_
            refine QAt.no rfl rfl rfl rfl ?_
            refine QAt.no rfl rfl rfl rfl ?_
            refine QAt.no rfl rfl rfl rfl ?_
            refine QAt.no rfl rfl rfl rfl ?_
            refine QAt.val (Val.pickT rfl rfl) rfl rfl rfl ?_
            refine QAt.fin ?_
            refine At.thenN ?_
            refine At.condT rfl ?_
            refine At.seq ?_
            refine At.region ?_
            refine At.val (Val.assign rfl) rfl rfl rfl ?_
            refine At.nil ?_
            refine At.thenN ?_
            refine At.retC ?_
            refine At.thenR ?_
            refine At.ret1 (.inl rfl) rfl rfl rfl (fun w hw => ?_)
            exact ⟨by first | rfl | simp_all, hw.mod⟩
          · skip
            have hbw := ne_of_beq h38
            refine QAt.yes rfl rfl ?_
            refine QAt.val (Val.move rfl) rfl rfl rfl ?_
            refine QAt.yes rfl rfl ?_
            refine QAt.val (Val.indexArr 1 rfl Tryd.underlying41 Tryd.sizeOf40 rfl rfl (by decide) (by decide)) rfl rfl rfl ?_
            refine QAt.yes rfl rfl ?_
            refine QAt.val (Val.load (i := 0) Tryd.isAgg40 rfl rfl rfl) rfl rfl rfl ?_
            refine QAt.yes rfl rfl ?_
            refine QAt.val (Val.bin rfl rfl rfl) rfl rfl rfl ?_
            refine QAt.val (Val.pickF rfl rfl) rfl rfl rfl ?_
            refine QAt.val (Val.move rfl) rfl rfl rfl ?_
            refine QAt.split (t := 112) rfl (fun h39 => ?_) (fun h39 => ?_)
            · skip
              refine QAt.no rfl rfl rfl rfl ?_
              refine QAt.no rfl rfl rfl rfl ?_
              refine QAt.no rfl rfl rfl rfl ?_
              refine QAt.no rfl rfl rfl rfl ?_
              refine QAt.val (Val.pickT rfl rfl) rfl rfl rfl ?_
              refine QAt.fin ?_
              refine At.thenN ?_
              refine At.condT rfl ?_
              refine At.seq ?_
              refine At.region ?_
              refine At.val (Val.assign rfl) rfl rfl rfl ?_
              refine At.nil ?_
              refine At.thenN ?_
              refine At.retC ?_
              refine At.thenR ?_
              refine At.ret1 (.inl rfl) rfl rfl rfl (fun w hw => ?_)
              exact ⟨by first | rfl | simp_all, hw.mod⟩
            · skip
              have hb0 := ne_zero_of_beq h39
              refine QAt.yes rfl rfl ?_
              refine QAt.val (Val.move rfl) rfl rfl rfl ?_
              refine QAt.yes rfl rfl ?_
              refine QAt.val (Val.indexArr 1 rfl Tryd.underlying41 Tryd.sizeOf40 rfl rfl (by decide) (by decide)) rfl rfl rfl ?_
              refine QAt.yes rfl rfl ?_
              refine QAt.val (Val.load (i := 3) Tryd.isAgg40 rfl rfl rfl) rfl rfl rfl ?_
              refine QAt.yes rfl rfl ?_
              refine QAt.val (Val.bin rfl rfl rfl) rfl rfl rfl ?_
              refine QAt.val (Val.pickF rfl rfl) rfl rfl rfl ?_
              refine QAt.fin ?_
              refine At.thenN ?_
              refine At.cond rfl (fun h40 => ?_) (fun h40 => ?_)
              · skip
                refine At.seq ?_
                refine At.region ?_
                refine At.val (Val.assign rfl) rfl rfl rfl ?_
                refine At.nil ?_
                refine At.thenN ?_
                refine At.retC ?_
                refine At.thenR ?_
                refine At.ret1 (.inl rfl) rfl rfl rfl (fun w hw => ?_)
                exact ⟨by first | rfl | simp_all, hw.mod⟩
              · skip
                have hw0 := ne_zero_of_beq h40
                refine At.skipC ?_
                refine At.thenN ?_
                refine At.seq ?_
                refine At.region ?_
                refine At.val (Val.move rfl) rfl rfl rfl ?_
                refine At.val (Val.loadAll (i := 0) Tryd.isAgg41 Tryd.sizeOf41 rfl rfl (by simp)) rfl rfl rfl ?_
                have hno : ¬ OkH p x (y ^^^ (fl.setWidth 64 <<< sh)) := fun h => word_told (F := fl.toNat) (sh := sh) hy hw0 hb0 (spoil_some hbw) fl.isLt hsh (spoil_nat y fl hsh) h.2.2
                refine At.callP (fun w hw => (by have := openHdr_p p x (y ^^^ (fl.setWidth 64 <<< sh)) w (ht.mod hw.mod); rwa [openHdr_no hno] at this)) Tryd.call30 rfl rfl ?_
                refine At.val (Val.move rfl) rfl rfl rfl ?_
                refine At.val (Val.extract rfl rfl) rfl rfl rfl ?_
                refine At.val (Val.extract rfl rfl) rfl rfl rfl ?_
                refine At.alloc Tryd.zeroValue39 rfl rfl (fun b41 => ?_)
                refine At.storeAll (i := 0) Tryd.sizeOf39 rfl rfl rfl (by simp [Value.oneCell']) rfl rfl ?_
                simp only [List.set_cons_zero, List.set_cons_succ]
                refine At.val (Val.assign rfl) rfl rfl rfl ?_
                refine At.nil ?_
                refine At.thenN ?_
                refine At.seq ?_
                refine At.region ?_
                refine At.val (Val.move rfl) rfl rfl rfl ?_
                refine At.val (Val.bin rfl rfl rfl) rfl rfl rfl ?_
                refine At.val (Val.move rfl) rfl rfl rfl ?_
                refine At.yes rfl rfl ?_
                refine At.val (Val.loadAll (i := 0) Tryd.isAgg39 Tryd.sizeOf39 rfl rfl rfl) rfl rfl rfl ?_
                refine At.yes rfl rfl ?_
                refine At.val (Val.build (fun a ha => by simp only [List.map_toArray, List.map_cons, List.map_nil] <;> rfl) (bld_39_)) rfl rfl rfl ?_
                refine At.yes rfl rfl ?_
                refine At.val (Val.eqAgg Tryd.eqGuardType39 (fun w => eq_39 _ _ _ _ w) rfl rfl) rfl rfl rfl ?_
                refine At.val (Val.pickT rfl rfl) rfl rfl rfl ?_
                refine At.val (Val.assign rfl) rfl rfl rfl ?_
                refine At.nil ?_
                refine At.thenN ?_
                refine At.retC ?_
                refine At.ret1 (.inl rfl) rfl rfl rfl (fun w hw => ?_)
                exact ⟨by first | rfl | simp_all, hw.mod⟩
      · skip
        have hno : ¬ OkH q x y := fun h => place_told hy hy0 (addr_ne (by omega) (by omega) (by omega) (by omega) (by omega)) (addr_ofInt (by omega) (by omega)) (addr_ofInt (by omega) (by omega)) h.2.2
        refine At.callP (fun w hw => (by have := openHdr_p q x y w (ht.mod hw.mod); rwa [openHdr_no hno] at this)) Tryd.call30 rfl rfl ?_
        refine At.val (Val.move rfl) rfl rfl rfl ?_
        refine At.val (Val.extract rfl rfl) rfl rfl rfl ?_
        refine At.val (Val.extract rfl rfl) rfl rfl rfl ?_
        refine At.alloc Tryd.zeroValue39 rfl rfl (fun b42 => ?_)
        refine At.storeAll (i := 0) Tryd.sizeOf39 rfl rfl rfl (by simp [Value.oneCell']) rfl rfl ?_
        simp only [List.set_cons_zero, List.set_cons_succ]
        refine At.val (Val.assign rfl) rfl rfl rfl ?_
        refine At.nil ?_
        refine At.thenN ?_
        refine At.seq ?_
        refine At.seq ?_
        refine At.region ?_
        refine At.val (Val.move rfl) rfl rfl rfl ?_
        refine At.val (Val.move rfl) rfl rfl rfl ?_
        refine At.val (Val.bin rfl rfl rfl) rfl rfl rfl ?_
        rw [show (q != p) = true from by simpa using hqp]
        refine At.val (Val.move rfl) rfl rfl rfl ?_
        refine At.yes rfl rfl ?_
        refine At.val (Val.move rfl) rfl rfl rfl ?_
        refine At.yes rfl rfl ?_
        refine At.val (Val.bin rfl rfl rfl) rfl rfl rfl ?_
        refine At.yes rfl rfl ?_
        refine At.val (Val.move rfl) rfl rfl rfl ?_
        refine At.yes rfl rfl ?_
        refine At.val (Val.loadAll (i := 0) Tryd.isAgg39 Tryd.sizeOf39 rfl rfl rfl) rfl rfl rfl ?_
        refine At.yes rfl rfl ?_
        refine At.val (Val.build (fun a ha => by simp only [List.map_toArray, List.map_cons, List.map_nil] <;> rfl) (bld_39_)) rfl rfl rfl ?_
        refine At.yes rfl rfl ?_
        refine At.val (Val.neAgg (b := true) Tryd.eqGuardType39 (fun w => by simpa using eq_39 0 0 0 0 w) rfl rfl) rfl rfl rfl ?_
        refine At.yes rfl rfl ?_
        refine At.val (Val.pickF rfl rfl) rfl rfl rfl ?_
        refine At.val (Val.pickT rfl rfl) rfl rfl rfl ?_
        refine At.nil ?_
        refine At.thenN ?_
        refine At.condF rfl ?_
        refine At.skipC ?_
        refine At.thenN ?_
        refine At.seq ?_
        refine At.region ?_
        refine At.val (Val.field 0 rfl fo_50_0 rfl) rfl rfl rfl ?_
        refine At.val (Val.load (i := 4) Tryd.isAgg3 rfl rfl rfl) rfl rfl rfl ?_
        refine At.callP (fun w hw => mod_p _ _ w (by decide) (by decide)) Tryd.call32 rfl rfl ?_
        rcases (show at' % 2 = 0 ∨ at' % 2 = 1 by omega) with hk | hk
        · skip
          rw [hk]
          refine At.val (Val.assign rfl) rfl rfl rfl ?_
          refine At.nil ?_
          refine At.thenN ?_
          refine At.seq ?_
          refine At.region ?_
          refine At.val (Val.loadAll (i := 2) Tryd.isAgg41 Tryd.sizeOf41 rfl rfl (by simp)) rfl rfl rfl ?_
          refine At.alloc zero_41 zc_41 rfl (fun b43 => ?_)
          refine At.storeAll (i := 0) Tryd.sizeOf41 rfl rfl rfl (by simp [Value.oneCell']) rfl (by simp) ?_
          simp only [List.set_cons_zero, List.set_cons_succ]
          refine At.nil ?_
          refine At.thenN ?_
          refine At.seq ?_
          refine At.tail 14 rfl (by decide +kernel) ?_
          simp only [List.take_succ_cons, List.take_zero, List.drop_succ_cons, List.drop_zero]
          refine QAt.val (Val.move rfl) rfl rfl rfl ?_
          refine QAt.val (Val.indexArr 0 rfl Tryd.underlying41 Tryd.sizeOf40 rfl rfl (by decide) (by decide)) rfl rfl rfl ?_
          refine QAt.val (Val.load (i := 0) Tryd.isAgg40 rfl rfl rfl) rfl rfl rfl ?_
          refine QAt.val (Val.field 1 rfl fo_50_1 rfl) rfl rfl rfl ?_
          refine QAt.val (Val.load (i := 5) Tryd.isAgg48 rfl rfl rfl) rfl rfl rfl ?_
          refine QAt.val (Val.conv Tryd.underlying48 Tryd.underlying40 rfl) rfl rfl rfl ?_
          rw [u64_of32]
          refine QAt.val (Val.field 0 rfl fo_50_0 rfl) rfl rfl rfl ?_
          refine QAt.val (Val.load (i := 5) Tryd.isAgg3 rfl rfl rfl) rfl rfl rfl ?_
          refine QAt.val (Val.quo rfl rfl (by decide)) rfl rfl rfl ?_
          rw [wrap_i64 (n := at'.tdiv 2) (by have := Int.tdiv_two_bounds hat; omega) (by have := Int.tdiv_two_bounds hat; omega)]
          refine QAt.callP (fun w hw => mod_p _ _ w (by decide) (by decide)) Tryd.call32 rfl rfl ?_
          refine QAt.val (Val.conv Tryd.underlying3 Tryd.underlying52 rfl) rfl rfl rfl ?_
          rw [← es, wrap_u64 (n := (sh : Int)) (by omega) (by omega)]
          refine QAt.val (Val.shl rfl rfl (by omega)) rfl rfl rfl ?_
          refine QAt.val (Val.bin rfl rfl rfl) rfl rfl rfl ?_
          rw [spoil_word x fl hsh]
          refine QAt.val (Val.indexArr 0 rfl Tryd.underlying41 Tryd.sizeOf40 rfl rfl (by decide) (by decide)) rfl rfl rfl ?_
          refine QAt.fin ?_
          refine At.store (i := 0) Tryd.sizeOf40 rfl rfl rfl rfl (by first | decide | simp) ?_
          simp only [List.set_cons_zero, List.set_cons_succ]
          refine At.nil ?_
          refine At.thenN ?_
          refine At.seq ?_
          refine At.seq ?_
          refine At.quiet rfl (by decide +kernel) ?_
          refine QAt.val (Val.move rfl) rfl rfl rfl ?_
          refine QAt.val (Val.indexArr 0 rfl Tryd.underlying41 Tryd.sizeOf40 rfl rfl (by decide) (by decide)) rfl rfl rfl ?_
          refine QAt.val (Val.load (i := 0) Tryd.isAgg40 rfl rfl rfl) rfl rfl rfl ?_
          refine QAt.val (Val.move rfl) rfl rfl rfl ?_
          refine QAt.val (Val.indexArr 0 rfl Tryd.underlying41 Tryd.sizeOf40 rfl rfl (by decide) (by decide)) rfl rfl rfl ?_
          refine QAt.val (Val.load (i := 3) Tryd.isAgg40 rfl rfl rfl) rfl rfl rfl ?_
          refine QAt.val (Val.bin rfl rfl rfl) rfl rfl rfl ?_
          refine QAt.val (Val.move rfl) rfl rfl rfl ?_
          refine QAt.split (t := 106) rfl (fun h44 => ?_) (fun h44 => ?_)
          · skip
            refine QAt.no rfl rfl rfl rfl ?_
            refine QAt.no rfl rfl rfl rfl ?_
            refine QAt.no rfl rfl rfl rfl ?_
            refine QAt.no rfl rfl rfl rfl ?_
            refine QAt.val (Val.pickT rfl rfl) rfl rfl rfl ?_
            refine QAt.val (Val.move rfl) rfl rfl rfl ?_
            refine QAt.no rfl rfl rfl rfl ?_
            refine QAt.no rfl rfl rfl rfl ?_
            refine QAt.no rfl rfl rfl rfl ?_
            refine QAt.no rfl rfl rfl rfl ?_
            refine QAt.val (Val.pickT rfl rfl) rfl rfl rfl ?_
            refine QAt.fin ?_
            refine At.thenN ?_
            refine At.condT rfl ?_
            refine At.seq ?_
            refine At.region ?_
            refine At.val (Val.assign rfl) rfl rfl rfl ?_
            refine At.nil ?_
            refine At.thenN ?_
            refine At.retC ?_
            refine At.thenR ?_
            refine At.ret1 (.inl rfl) rfl rfl rfl (fun w hw => ?_)
            exact ⟨by first | rfl | simp_all, hw.mod⟩
          · skip
            have hbw := ne_of_beq h44
            refine QAt.yes rfl rfl ?_
            refine QAt.val (Val.move rfl) rfl rfl rfl ?_
            refine QAt.yes rfl rfl ?_
            refine QAt.val (Val.indexArr 0 rfl Tryd.underlying41 Tryd.sizeOf40 rfl rfl (by decide) (by decide)) rfl rfl rfl ?_
            refine QAt.yes rfl rfl ?_
            refine QAt.val (Val.load (i := 0) Tryd.isAgg40 rfl rfl rfl) rfl rfl rfl ?_
            refine QAt.yes rfl rfl ?_
            refine QAt.val (Val.bin rfl rfl rfl) rfl rfl rfl ?_
            refine QAt.val (Val.pickF rfl rfl) rfl rfl rfl ?_
            refine QAt.val (Val.move rfl) rfl rfl rfl ?_
            refine QAt.split (t := 112) rfl (fun h45 => ?_) (fun h45 => ?_)
            · skip
              refine QAt.no rfl rfl rfl rfl ?_
              refine QAt.no rfl rfl rfl rfl ?_
              refine QAt.no rfl rfl rfl rfl ?_
              refine QAt.no rfl rfl rfl rfl ?_
              refine QAt.val (Val.pickT rfl rfl) rfl rfl rfl ?_
              refine QAt.fin ?_
              refine At.thenN ?_
              refine At.condT rfl ?_
              refine At.seq ?_
              refine At.region ?_
              refine At.val (Val.assign rfl) rfl rfl rfl ?_
              refine At.nil ?_
              refine At.thenN ?_
              refine At.retC ?_
              refine At.thenR ?_
              refine At.ret1 (.inl rfl) rfl rfl rfl (fun w hw => ?_)
              exact ⟨by first | rfl | simp_all, hw.mod⟩
            · skip
              have hb0 := ne_zero_of_beq h45
              refine QAt.yes rfl rfl ?_
              refine QAt.val (Val.move rfl) rfl rfl rfl ?_
              refine QAt.yes rfl rfl ?_
              refine QAt.val (Val.indexArr 0 rfl Tryd.underlying41 Tryd.sizeOf40 rfl rfl (by decide) (by decide)) rfl rfl rfl ?_
              refine QAt.yes rfl rfl ?_
              refine QAt.val (Val.load (i := 3) Tryd.isAgg40 rfl rfl rfl) rfl rfl rfl ?_
              refine QAt.yes rfl rfl ?_
              refine QAt.val (Val.bin rfl rfl rfl) rfl rfl rfl ?_
              refine QAt.val (Val.pickF rfl rfl) rfl rfl rfl ?_
              refine QAt.fin ?_
              refine At.thenN ?_
              refine At.cond rfl (fun h46 => ?_) (fun h46 => ?_)
              · skip
                refine At.seq ?_
                refine At.region ?_
                refine At.val (Val.assign rfl) rfl rfl rfl ?_
                refine At.nil ?_
                refine At.thenN ?_
                refine At.retC ?_
                refine At.thenR ?_
                refine At.ret1 (.inl rfl) rfl rfl rfl (fun w hw => ?_)
                exact ⟨by first | rfl | simp_all, hw.mod⟩
              · skip
                have hw0 := ne_zero_of_beq h46
                refine At.skipC ?_
                refine At.thenN ?_
                refine At.seq ?_
                refine At.region ?_
                refine At.val (Val.move rfl) rfl rfl rfl ?_
                refine At.val (Val.loadAll (i := 0) Tryd.isAgg41 Tryd.sizeOf41 rfl rfl (by simp)) rfl rfl rfl ?_
                have hno : ¬ OkH p (x ^^^ (fl.setWidth 64 <<< sh)) y := fun h => word_told (F := fl.toNat) (sh := sh) hx hw0 hb0 (spoil_some hbw) fl.isLt hsh (spoil_nat x fl hsh) h.2.1
                refine At.callP (fun w hw => (by have := openHdr_p p (x ^^^ (fl.setWidth 64 <<< sh)) y w (ht.mod hw.mod); rwa [openHdr_no hno] at this)) Tryd.call30 rfl rfl ?_
                refine At.val (Val.move rfl) rfl rfl rfl ?_
                refine At.val (Val.extract rfl rfl) rfl rfl rfl ?_
                refine At.val (Val.extract rfl rfl) rfl rfl rfl ?_
                refine At.alloc Tryd.zeroValue39 rfl rfl (fun b47 => ?_)
                refine At.storeAll (i := 0) Tryd.sizeOf39 rfl rfl rfl (by simp [Value.oneCell']) rfl rfl ?_
                simp only [List.set_cons_zero, List.set_cons_succ]
                refine At.val (Val.assign rfl) rfl rfl rfl ?_
                refine At.nil ?_
                refine At.thenN ?_
                refine At.seq ?_
                refine At.region ?_
                refine At.val (Val.move rfl) rfl rfl rfl ?_
                refine At.val (Val.bin rfl rfl rfl) rfl rfl rfl ?_
                refine At.val (Val.move rfl) rfl rfl rfl ?_
                refine At.yes rfl rfl ?_
                refine At.val (Val.loadAll (i := 0) Tryd.isAgg39 Tryd.sizeOf39 rfl rfl rfl) rfl rfl rfl ?_
                refine At.yes rfl rfl ?_
                refine At.val (Val.build (fun a ha => by simp only [List.map_toArray, List.map_cons, List.map_nil] <;> rfl) (bld_39_)) rfl rfl rfl ?_
                refine At.yes rfl rfl ?_
                refine At.val (Val.eqAgg Tryd.eqGuardType39 (fun w => eq_39 _ _ _ _ w) rfl rfl) rfl rfl rfl ?_
                refine At.val (Val.pickT rfl rfl) rfl rfl rfl ?_
                refine At.val (Val.assign rfl) rfl rfl rfl ?_
                refine At.nil ?_
                refine At.thenN ?_
                refine At.retC ?_
                refine At.ret1 (.inl rfl) rfl rfl rfl (fun w hw => ?_)
                exact ⟨by first | rfl | simp_all, hw.mod⟩
        · skip
          rw [hk]
          refine At.val (Val.assign rfl) rfl rfl rfl ?_
          refine At.nil ?_
          refine At.thenN ?_
          refine At.seq ?_
          refine At.region ?_
          refine At.val (Val.loadAll (i := 2) Tryd.isAgg41 Tryd.sizeOf41 rfl rfl (by simp)) rfl rfl rfl ?_
          refine At.alloc zero_41 zc_41 rfl (fun b48 => ?_)
          refine At.storeAll (i := 0) Tryd.sizeOf41 rfl rfl rfl (by simp [Value.oneCell']) rfl (by simp) ?_
          simp only [List.set_cons_zero, List.set_cons_succ]
          refine At.nil ?_
          refine At.thenN ?_
          refine At.seq ?_
          refine At.tail 14 rfl (by decide +kernel) ?_
          simp only [List.take_succ_cons, List.take_zero, List.drop_succ_cons, List.drop_zero]
          refine QAt.val (Val.move rfl) rfl rfl rfl ?_
          refine QAt.val (Val.indexArr 1 rfl Tryd.underlying41 Tryd.sizeOf40 rfl rfl (by decide) (by decide)) rfl rfl rfl ?_
          refine QAt.val (Val.load (i := 0) Tryd.isAgg40 rfl rfl rfl) rfl rfl rfl ?_
          refine QAt.val (Val.field 1 rfl fo_50_1 rfl) rfl rfl rfl ?_
          refine QAt.val (Val.load (i := 5) Tryd.isAgg48 rfl rfl rfl) rfl rfl rfl ?_
          refine QAt.val (Val.conv Tryd.underlying48 Tryd.underlying40 rfl) rfl rfl rfl ?_
          rw [u64_of32]
          refine QAt.val (Val.field 0 rfl fo_50_0 rfl) rfl rfl rfl ?_
          refine QAt.val (Val.load (i := 5) Tryd.isAgg3 rfl rfl rfl) rfl rfl rfl ?_
          refine QAt.val (Val.quo rfl rfl (by decide)) rfl rfl rfl ?_
          rw [wrap_i64 (n := at'.tdiv 2) (by have := Int.tdiv_two_bounds hat; omega) (by have := Int.tdiv_two_bounds hat; omega)]
          refine QAt.callP (fun w hw => mod_p _ _ w (by decide) (by decide)) Tryd.call32 rfl rfl ?_
          refine QAt.val (Val.conv Tryd.underlying3 Tryd.underlying52 rfl) rfl rfl rfl ?_
          rw [← es, wrap_u64 (n := (sh : Int)) (by omega) (by omega)]
          refine QAt.val (Val.shl rfl rfl (by omega)) rfl rfl rfl ?_
          refine QAt.val (Val.bin rfl rfl rfl) rfl rfl rfl ?_
          rw [spoil_word y fl hsh]
          refine QAt.val (Val.indexArr 1 rfl Tryd.underlying41 Tryd.sizeOf40 rfl rfl (by decide) (by decide)) rfl rfl rfl ?_
          refine QAt.fin ?_
          refine At.store (i := 0) Tryd.sizeOf40 rfl rfl rfl rfl (by first | decide | simp) ?_
          simp only [List.set_cons_zero, List.set_cons_succ]
          refine At.nil ?_
          refine At.thenN ?_
          refine At.seq ?_
          refine At.seq ?_
          refine At.quiet rfl (by decide +kernel) ?_
          refine QAt.val (Val.move rfl) rfl rfl rfl ?_
          refine QAt.val (Val.indexArr 1 rfl Tryd.underlying41 Tryd.sizeOf40 rfl rfl (by decide) (by decide)) rfl rfl rfl ?_
          refine QAt.val (Val.load (i := 0) Tryd.isAgg40 rfl rfl rfl) rfl rfl rfl ?_
          refine QAt.val (Val.move rfl) rfl rfl rfl ?_
          refine QAt.val (Val.indexArr 1 rfl Tryd.underlying41 Tryd.sizeOf40 rfl rfl (by decide) (by decide)) rfl rfl rfl ?_
          refine QAt.val (Val.load (i := 3) Tryd.isAgg40 rfl rfl rfl) rfl rfl rfl ?_
          refine QAt.val (Val.bin rfl rfl rfl) rfl rfl rfl ?_
          refine QAt.val (Val.move rfl) rfl rfl rfl ?_
          refine QAt.split (t := 106) rfl (fun h49 => ?_) (fun h49 => ?_)
          · skip
            refine QAt.no rfl rfl rfl rfl ?_
            refine QAt.no rfl rfl rfl rfl ?_
            refine QAt.no rfl rfl rfl rfl ?_
            refine QAt.no rfl rfl rfl rfl ?_
            refine QAt.val (Val.pickT rfl rfl) rfl rfl rfl ?_
            refine QAt.val (Val.move rfl) rfl rfl rfl ?_
            refine QAt.no rfl rfl rfl rfl ?_
            refine QAt.no rfl rfl rfl rfl ?_
            refine QAt.no rfl rfl rfl rfl ?_
            refine QAt.no rfl rfl rfl rfl ?_
            refine QAt.val (Val.pickT rfl rfl) rfl rfl rfl ?_
            refine QAt.fin ?_
            refine At.thenN ?_
            refine At.condT rfl ?_
            refine At.seq ?_
            refine At.region ?_
            refine At.val (Val.assign rfl) rfl rfl rfl ?_
            refine At.nil ?_
            refine At.thenN ?_
            refine At.retC ?_
            refine At.thenR ?_
            refine At.ret1 (.inl rfl) rfl rfl rfl (fun w hw => ?_)
            exact ⟨by first | rfl | simp_all, hw.mod⟩
          · skip
            have hbw := ne_of_beq h49
            refine QAt.yes rfl rfl ?_
            refine QAt.val (Val.move rfl) rfl rfl rfl ?_
            refine QAt.yes rfl rfl ?_
            refine QAt.val (Val.indexArr 1 rfl Tryd.underlying41 Tryd.sizeOf40 rfl rfl (by decide) (by decide)) rfl rfl rfl ?_
            refine QAt.yes rfl rfl ?_
            refine QAt.val (Val.load (i := 0) Tryd.isAgg40 rfl rfl rfl) rfl rfl rfl ?_
            refine QAt.yes rfl rfl ?_
            refine QAt.val (Val.bin rfl rfl rfl) rfl rfl rfl ?_
            refine QAt.val (Val.pickF rfl rfl) rfl rfl rfl ?_
            refine QAt.val (Val.move rfl) rfl rfl rfl ?_
            refine QAt.split (t := 112) rfl (fun h50 => ?_) (fun h50 => ?_)
            · skip
              refine QAt.no rfl rfl rfl rfl ?_
              refine QAt.no rfl rfl rfl rfl ?_
              refine QAt.no rfl rfl rfl rfl ?_
              refine QAt.no rfl rfl rfl rfl ?_
              refine QAt.val (Val.pickT rfl rfl) rfl rfl rfl ?_
              refine QAt.fin ?_
              refine At.thenN ?_
              refine At.condT rfl ?_
              refine At.seq ?_
              refine At.region ?_
              refine At.val (Val.assign rfl) rfl rfl rfl ?_
              refine At.nil ?_
              refine At.thenN ?_
              refine At.retC ?_
              refine At.thenR ?_
              refine At.ret1 (.inl rfl) rfl rfl rfl (fun w hw => ?_)
              exact ⟨by first | rfl | simp_all, hw.mod⟩
            · skip
              have hb0 := ne_zero_of_beq h50
              refine QAt.yes rfl rfl ?_
              refine QAt.val (Val.move rfl) rfl rfl rfl ?_
              refine QAt.yes rfl rfl ?_
              refine QAt.val (Val.indexArr 1 rfl Tryd.underlying41 Tryd.sizeOf40 rfl rfl (by decide) (by decide)) rfl rfl rfl ?_
              refine QAt.yes rfl rfl ?_
              refine QAt.val (Val.load (i := 3) Tryd.isAgg40 rfl rfl rfl) rfl rfl rfl ?_
              refine QAt.yes rfl rfl ?_
              refine QAt.val (Val.bin rfl rfl rfl) rfl rfl rfl ?_
              refine QAt.val (Val.pickF rfl rfl) rfl rfl rfl ?_
              refine QAt.fin ?_
              refine At.thenN ?_
              refine At.cond rfl (fun h51 => ?_) (fun h51 => ?_)
              · skip
                refine At.seq ?_
                refine At.region ?_
                refine At.val (Val.assign rfl) rfl rfl rfl ?_
                refine At.nil ?_
                refine At.thenN ?_
                refine At.retC ?_
                refine At.thenR ?_
                refine At.ret1 (.inl rfl) rfl rfl rfl (fun w hw => ?_)
                exact ⟨by first | rfl | simp_all, hw.mod⟩
              · skip
                have hw0 := ne_zero_of_beq h51
                refine At.skipC ?_
                refine At.thenN ?_
                refine At.seq ?_
                refine At.region ?_
                refine At.val (Val.move rfl) rfl rfl rfl ?_
                refine At.val (Val.loadAll (i := 0) Tryd.isAgg41 Tryd.sizeOf41 rfl rfl (by simp)) rfl rfl rfl ?_
                have hno : ¬ OkH p x (y ^^^ (fl.setWidth 64 <<< sh)) := fun h => word_told (F := fl.toNat) (sh := sh) hy hw0 hb0 (spoil_some hbw) fl.isLt hsh (spoil_nat y fl hsh) h.2.2
                refine At.callP (fun w hw => (by have := openHdr_p p x (y ^^^ (fl.setWidth 64 <<< sh)) w (ht.mod hw.mod); rwa [openHdr_no hno] at this)) Tryd.call30 rfl rfl ?_
                refine At.val (Val.move rfl) rfl rfl rfl ?_
                refine At.val (Val.extract rfl rfl) rfl rfl rfl ?_
                refine At.val (Val.extract rfl rfl) rfl rfl rfl ?_
                refine At.alloc Tryd.zeroValue39 rfl rfl (fun b52 => ?_)
                refine At.storeAll (i := 0) Tryd.sizeOf39 rfl rfl rfl (by simp [Value.oneCell']) rfl rfl ?_
                simp only [List.set_cons_zero, List.set_cons_succ]
                refine At.val (Val.assign rfl) rfl rfl rfl ?_
                refine At.nil ?_
                refine At.thenN ?_
                refine At.seq ?_
                refine At.region ?_
                refine At.val (Val.move rfl) rfl rfl rfl ?_
                refine At.val (Val.bin rfl rfl rfl) rfl rfl rfl ?_
                refine At.val (Val.move rfl) rfl rfl rfl ?_
                refine At.yes rfl rfl ?_
                refine At.val (Val.loadAll (i := 0) Tryd.isAgg39 Tryd.sizeOf39 rfl rfl rfl) rfl rfl rfl ?_
                refine At.yes rfl rfl ?_
                refine At.val (Val.build (fun a ha => by simp only [List.map_toArray, List.map_cons, List.map_nil] <;> rfl) (bld_39_)) rfl rfl rfl ?_
                refine At.yes rfl rfl ?_
                refine At.val (Val.eqAgg Tryd.eqGuardType39 (fun w => eq_39 _ _ _ _ w) rfl rfl) rfl rfl rfl ?_
                refine At.val (Val.pickT rfl rfl) rfl rfl rfl ?_
                refine At.val (Val.assign rfl) rfl rfl rfl ?_
                refine At.nil ?_
                refine At.thenN ?_
                refine At.retC ?_
                refine At.ret1 (.inl rfl) rfl rfl rfl (fun w hw => ?_)
                exact ⟨by first | rfl | simp_all, hw.mod⟩

end Go.Proofs.YtlplkbbnpddihaaDoor
