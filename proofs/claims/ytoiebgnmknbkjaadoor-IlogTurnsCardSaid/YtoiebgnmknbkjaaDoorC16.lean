/- IlogTurns, walked. -/
import Derived.Test.YtoiebgnmknbkjaaDoorB36
import Derived.Test.YtoiebgnmknbkjaaDoorWv
set_option linter.unusedVariables false
set_option linter.unusedSimpArgs false
namespace Go.Proofs.YtoiebgnmknbkjaaDoor
open Go Go.Wk

theorem k_nil {K : List Nat} (hK : K ∈ KS) (h0 : 0 ∉ K) (h1 : 1 ∉ K) (h2 : 2 ∉ K) : K = [] := by
  have key : ∀ K ∈ KS, 0 ∉ K → 1 ∉ K → 2 ∉ K → K = [] := by decide +kernel
  exact key K hK h0 h1 h2

theorem lawTurns_p (n a0 a1 a2 a3 a4 p0 p1 p2 p3 p4 : Int) (y0 y1 y2 : BitVec 64) (w : World) (ht : Tab w) :
    PureC Tryd.prog 19 [.int .i64 n, .agg #[.int .i64 a0, .int .i64 a1, .int .i64 a2, .int .i64 a3, .int .i64 a4], .agg #[.int .i64 p0, .int .i64 p1, .int .i64 p2, .int .i64 p3, .int .i64 p4], .agg #[b64 y0, b64 y1, b64 y2]] (.bool true) w := by
  refine enter0 Tryd.func19 rfl Tryd.ntmps19 rfl ?_
  simp only [envOf]
  refine At.seq ?_
  refine At.region ?_
  refine At.box rfl rfl rfl (fun b1 => ?_)
  refine At.box rfl rfl rfl (fun b2 => ?_)
  refine At.box rfl rfl rfl (fun b3 => ?_)
  refine At.val (Val.assign rfl) rfl rfl rfl ?_
  refine At.nil ?_
  refine At.thenN ?_
  refine At.seq ?_
  refine At.region ?_
  refine At.val (Val.move rfl) rfl rfl rfl ?_
  refine At.callP (fun w hw => mod06_p _ _ w (by decide) (by decide)) Tryd.call71 rfl rfl ?_
  first | refine At.val (Val.addI rfl rfl (by omega) (by omega)) rfl rfl rfl ?_ | refine At.val (Val.bin rfl rfl rfl) rfl rfl rfl ?_
  skip
  · skip
    obtain ⟨i, hi, hi1, hi2⟩ : ∃ i : Int, 1 + n % 256 = i ∧ 1 ≤ i ∧ i ≤ 256 := ⟨_, rfl, by omega, by omega⟩
    rw [hi]
    have hino : isInoB i = true := ino_T.2 ⟨hi1, hi2⟩
    have hsl := slotAt_T hino
    refine At.val (Val.assign rfl) rfl rfl rfl ?_
    refine At.nil ?_
    refine At.thenN ?_
    refine At.seq ?_
    refine At.region ?_
    refine At.val (Val.loadAll (i := 2) Tryd.isAgg119 Tryd.sizeOf119 rfl rfl rfl) rfl rfl rfl ?_
    refine At.callX (fun w hw => slot06_x a0 a1 a2 a3 a4 w) Tryd.call72 rfl rfl (fun v4 hv5 => ?_)
    obtain ⟨k, l, h, t, rfl, gA⟩ := hv5
    have gA' := gA
    unfold GoodS GoodU GoodT at gA'
    have hb : -9223372036854775808 ≤ t ∧ t ≤ 9223372036854775807 := by omega
    refine At.alloc Tryd.zeroValue65 rfl rfl (fun b6 => ?_)
    refine At.storeAll (i := 0) Tryd.sizeOf65 rfl rfl rfl (by simp [Value.oneCell']) rfl rfl ?_
    simp only [List.set_cons_zero, List.set_cons_succ]
    refine At.nil ?_
    refine At.thenN ?_
    refine At.seq ?_
    refine At.region ?_
    refine At.val (Val.loadAll (i := 2) Tryd.isAgg119 Tryd.sizeOf119 rfl rfl rfl) rfl rfl rfl ?_
    refine At.callX (fun w hw => slot06_x p0 p1 p2 p3 p4 w) Tryd.call72 rfl rfl (fun v7 hv8 => ?_)
    obtain ⟨k', l', h', t', rfl, gB⟩ := hv8
    have gB' := gB
    unfold GoodS GoodU GoodT at gB'
    have hb' : -9223372036854775808 ≤ t' ∧ t' ≤ 9223372036854775807 := by omega
    refine At.alloc Tryd.zeroValue65 rfl rfl (fun b9 => ?_)
    refine At.storeAll (i := 0) Tryd.sizeOf65 rfl rfl rfl (by simp [Value.oneCell']) rfl rfl ?_
    simp only [List.set_cons_zero, List.set_cons_succ]
    refine At.nil ?_
    refine At.thenN ?_
    refine At.seq ?_
    refine At.region ?_
    refine At.val (Val.move rfl) rfl rfl rfl ?_
    refine At.val (Val.loadAll (i := 1) Tryd.isAgg65 Tryd.sizeOf65 rfl rfl rfl) rfl rfl rfl ?_
    refine At.callP (fun w hw => (show PureC _ _ _ (.tuple #[.agg #[b64 (w0_ i k l), b64 (w1_ i h), b64 (w2_ i t)], .int .i64 0]) w from by have := packSlot_p i k l h t w (ht.mod hw.mod) hb; rw [packSlot_yes ⟨hino, gA⟩] at this; exact this)) Tryd.call40 rfl rfl ?_
    refine At.val (Val.move rfl) rfl rfl rfl ?_
    refine At.val (Val.extract rfl rfl) rfl rfl rfl ?_
    refine At.val (Val.extract rfl rfl) rfl rfl rfl ?_
    refine At.alloc zero_66 zc_66 rfl (fun b10 => ?_)
    refine At.storeAll (i := 0) Tryd.sizeOf66 rfl rfl rfl (by simp [Value.oneCell']) rfl (by simp) ?_
    simp only [List.set_cons_zero, List.set_cons_succ]
    refine At.val (Val.assign rfl) rfl rfl rfl ?_
    refine At.nil ?_
    refine At.thenN ?_
    refine At.seq ?_
    refine At.seq ?_
    refine At.region ?_
    refine At.val (Val.move rfl) rfl rfl rfl ?_
    refine At.val (Val.bin rfl rfl rfl) rfl rfl rfl ?_
    refine At.nil ?_
    refine At.thenN ?_
    refine At.condF rfl ?_
    refine At.skipC ?_
    refine At.thenN ?_
    refine At.join (σ := BitVec 64 × BitVec 64) (fun s => (k ≠ 0 → s.2 = w2_ i t) ∧ (k ≠ 0 → t ≠ 0 → s.1 = w1_ i h)) (fun s => [(0, .int .i64 i), (9, .pointer (some ⟨b6, 0, none⟩)), (10, .pointer (some ⟨b9, 0, none⟩)), (11, .pointer (some ⟨b10, 0, none⟩))]) (fun s => [blk b10 66 [b64 (w0_ i k l), b64 s.1, b64 s.2], blk b9 65 [.int .i64 k', .int .i64 l', .int .i64 h', .int .i64 t'], blk b6 65 [.int .i64 k, .int .i64 l, .int .i64 h, .int .i64 t]]) ?_ ?_
    · skip
      refine At.seq ?_
      refine At.region ?_
      refine At.val (Val.field 0 rfl fo_65_0 rfl) rfl rfl rfl ?_
      refine At.val (Val.load (i := 2) Tryd.isAgg3 rfl rfl rfl) rfl rfl rfl ?_
      refine At.val (Val.bin rfl rfl rfl) rfl rfl rfl ?_
      refine At.nil ?_
      refine At.thenN ?_
      refine At.cond rfl (fun h11 => ?_) (fun h11 => ?_)
      · skip
        try simp only [vN_T, vN_F, nmE_T, nmE_F, wI_T, wI_F, data_T, data_F, ino_T, ino_F, notT, notF, bneT, bneF, beqT, beqF, decT, decF] at h11
        have hk0 : k = 0 := by omega
        refine At.seq ?_
        refine At.region ?_
        refine At.val (Val.indexArr 1 rfl Tryd.underlying66 Tryd.sizeOf40 rfl rfl (by decide) (by decide)) rfl rfl rfl ?_
        refine At.val (Val.load (i := 3) Tryd.isAgg40 rfl rfl rfl) rfl rfl rfl ?_
        refine At.val (Val.indexArr 1 rfl Tryd.underlying66 Tryd.sizeOf40 rfl rfl (by decide) (by decide)) rfl rfl rfl ?_
        refine At.store (i := 0) Tryd.sizeOf40 rfl rfl rfl rfl (by first | decide | simp) ?_
        simp only [List.set_cons_zero, List.set_cons_succ]
        refine At.nil ?_
        refine At.thenN ?_
        refine At.region ?_
        refine At.val (Val.indexArr 2 rfl Tryd.underlying66 Tryd.sizeOf40 rfl rfl (by decide) (by decide)) rfl rfl rfl ?_
        refine At.val (Val.load (i := 3) Tryd.isAgg40 rfl rfl rfl) rfl rfl rfl ?_
        refine At.val (Val.indexArr 2 rfl Tryd.underlying66 Tryd.sizeOf40 rfl rfl (by decide) (by decide)) rfl rfl rfl ?_
        refine At.store (i := 0) Tryd.sizeOf40 rfl rfl rfl rfl (by first | decide | simp) ?_
        simp only [List.set_cons_zero, List.set_cons_succ]
        refine At.nil ?_
        refine At.thenN ?_
        refine At.drop 5 ?_
        simp only [List.eraseIdx_cons_zero, List.eraseIdx_cons_succ]
        refine At.drop 4 ?_
        simp only [List.eraseIdx_cons_zero, List.eraseIdx_cons_succ]
        refine At.drop 3 ?_
        simp only [List.eraseIdx_cons_zero, List.eraseIdx_cons_succ]
        exact At.meets (y1, y2) ⟨fun q => absurd hk0 q, fun q => absurd hk0 q⟩ (Sub.cons rfl (Sub.cons rfl (Sub.cons rfl (Sub.cons rfl Sub.nil)))) (List.Perm.refl _)
      · skip
        try simp only [vN_T, vN_F, nmE_T, nmE_F, wI_T, wI_F, data_T, data_F, ino_T, ino_F, notT, notF, bneT, bneF, beqT, beqF, decT, decF] at h11
        refine At.seq ?_
        refine At.region ?_
        refine At.val (Val.field 3 rfl fo_65_3 rfl) rfl rfl rfl ?_
        refine At.val (Val.load (i := 2) Tryd.isAgg3 rfl rfl rfl) rfl rfl rfl ?_
        refine At.val (Val.bin rfl rfl rfl) rfl rfl rfl ?_
        refine At.nil ?_
        refine At.thenN ?_
        refine At.cond rfl (fun h12 => ?_) (fun h12 => ?_)
        · skip
          try simp only [vN_T, vN_F, nmE_T, nmE_F, wI_T, wI_F, data_T, data_F, ino_T, ino_F, notT, notF, bneT, bneF, beqT, beqF, decT, decF] at h12
          have ht0 : t = 0 := by omega
          refine At.region ?_
          refine At.val (Val.indexArr 1 rfl Tryd.underlying66 Tryd.sizeOf40 rfl rfl (by decide) (by decide)) rfl rfl rfl ?_
          refine At.val (Val.load (i := 3) Tryd.isAgg40 rfl rfl rfl) rfl rfl rfl ?_
          refine At.val (Val.indexArr 1 rfl Tryd.underlying66 Tryd.sizeOf40 rfl rfl (by decide) (by decide)) rfl rfl rfl ?_
          refine At.store (i := 0) Tryd.sizeOf40 rfl rfl rfl rfl (by first | decide | simp) ?_
          simp only [List.set_cons_zero, List.set_cons_succ]
          refine At.nil ?_
          refine At.thenN ?_
          refine At.drop 5 ?_
          simp only [List.eraseIdx_cons_zero, List.eraseIdx_cons_succ]
          refine At.drop 4 ?_
          simp only [List.eraseIdx_cons_zero, List.eraseIdx_cons_succ]
          refine At.drop 3 ?_
          simp only [List.eraseIdx_cons_zero, List.eraseIdx_cons_succ]
          exact At.meets (y1, w2_ i t) ⟨fun _ => rfl, fun _ q => absurd ht0 q⟩ (Sub.cons rfl (Sub.cons rfl (Sub.cons rfl (Sub.cons rfl Sub.nil)))) (List.Perm.refl _)
        · skip
          try simp only [vN_T, vN_F, nmE_T, nmE_F, wI_T, wI_F, data_T, data_F, ino_T, ino_F, notT, notF, bneT, bneF, beqT, beqF, decT, decF] at h12
          refine At.skipC ?_
          refine At.thenN ?_
          refine At.drop 5 ?_
          simp only [List.eraseIdx_cons_zero, List.eraseIdx_cons_succ]
          refine At.drop 4 ?_
          simp only [List.eraseIdx_cons_zero, List.eraseIdx_cons_succ]
          refine At.drop 3 ?_
          simp only [List.eraseIdx_cons_zero, List.eraseIdx_cons_succ]
          exact At.meets (w1_ i h, w2_ i t) ⟨fun _ => rfl, fun _ _ => rfl⟩ (Sub.cons rfl (Sub.cons rfl (Sub.cons rfl (Sub.cons rfl Sub.nil)))) (List.Perm.refl _)
    · skip
      intro s hs
      obtain ⟨X1, X2⟩ := s
      have hX := hs
      dsimp only at hX ⊢
      obtain ⟨K, hL, hK', hd0, hd1, hd2⟩ := or_lists (i := i) (k := k) (l := l) (h := h) (t := t) (k' := k') (l' := l') (h' := h') (t' := t')
      have hK : K ∈ KS := hK'
      obtain ⟨LK, hLK⟩ : ∃ LK, LK = K.map (fun m : Nat => (slotAt i + 8 * (m : Int), wd i k' l' h' t' m)) := ⟨_, rfl⟩
      rw [← hLK] at hL
      have hLKl : LK.length = K.length := by rw [hLK, List.length_map]
      have hK3 := ks_len K hK
      have hat : ∀ j m, K[j]? = some m → LK[j]? = some (slotAt i + 8 * ((m : Nat) : Int), wd i k' l' h' t' m) := fun j m q => by rw [hLK, List.getElem?_map, q]; rfl
      refine At.seq ?_
      refine At.region ?_
      refine At.val (Val.move rfl) rfl rfl rfl ?_
      refine At.val (Val.loadAll (i := 2) Tryd.isAgg65 Tryd.sizeOf65 rfl rfl rfl) rfl rfl rfl ?_
      refine At.val (Val.loadAll (i := 1) Tryd.isAgg65 Tryd.sizeOf65 rfl rfl rfl) rfl rfl rfl ?_
      refine At.callNT (g := (fun v => .tuple #[v, .int .i64 0])) (fun w hw => (show NewRowT Tryd.prog 68 _ (fun v => .tuple #[v, .int .i64 0]) 122 2 LK.length (prC LK) w from by have := changesI_T i k l h t k' l' h' t' w (ht.mod hw.mod) hb hb' ⟨hino, gA⟩ ⟨hino, gB⟩; rw [← hL]; exact this)) Tryd.call68 rfl rfl (fun v13 => ?_)
      refine At.val (Val.move rfl) rfl rfl rfl ?_
      refine At.val (Val.extract rfl rfl) rfl rfl rfl ?_
      refine At.val (Val.extract rfl rfl) rfl rfl rfl ?_
      refine At.val (Val.assign rfl) rfl rfl rfl ?_
      refine At.val (Val.assign rfl) rfl rfl rfl ?_
      refine At.nil ?_
      refine At.thenN ?_
      refine At.seq ?_
      refine At.seq ?_
      refine At.region ?_
      refine At.weaken [(0, _), (9, _), (10, _), (11, _), (55, _), (56, _), (57, _), (58, _), (54, _), (59, _), (60, _), (13, _), (14, _)] (Sub.cons rfl (Sub.cons rfl (Sub.cons rfl (Sub.cons rfl (Sub.cons rfl (Sub.cons rfl (Sub.cons rfl (Sub.cons rfl (Sub.cons rfl (Sub.cons rfl (Sub.cons rfl (Sub.cons rfl (Sub.cons rfl Sub.nil))))))))))))) ?_
      refine At.boolMeet 12 72 (false) ?_ ?_
      · skip
        simp only [List.take_succ_cons, List.take_zero]
        refine At.val (Val.move rfl) rfl rfl rfl ?_
        refine At.val (Val.bin rfl rfl rfl) rfl rfl rfl ?_
        refine At.val (Val.move rfl) rfl rfl rfl ?_
        refine At.yes rfl rfl ?_
        refine At.val (Val.loadAll (i := 3) Tryd.isAgg65 Tryd.sizeOf65 rfl rfl rfl) rfl rfl rfl ?_
        refine At.yes rfl rfl ?_
        refine At.val (Val.loadAll (i := 2) Tryd.isAgg65 Tryd.sizeOf65 rfl rfl rfl) rfl rfl rfl ?_
        refine At.yes rfl rfl ?_
        refine At.val (Val.eqAgg Tryd.eqGuardType65 (fun w => eq_65 _ _ _ _ _ _ _ _ w) rfl rfl) rfl rfl rfl ?_
        refine At.yes rfl rfl ?_
        refine At.val (Val.move rfl) rfl rfl rfl ?_
        refine At.split (t := 67) rfl (fun h14 => ?_) (fun h14 => ?_)
        · skip
          try simp only [vN_T, vN_F, nmE_T, nmE_F, wI_T, wI_F, data_T, data_F, ino_T, ino_F, notT, notF, bneT, bneF, beqT, beqF, decT, decF] at h14
          have heq := h14
          simp only [Bool.and_eq_true, beq_iff_eq, and_true] at heq
          have hnil : LK.length = 0 := by rw [hLKl, k_nil hK (fun q => by have := hd0.1 q; omega) (fun q => by have := hd1.1 q; omega) (fun q => by have := hd2.1 q; omega)]; rfl
          refine At.yes rfl rfl ?_
          refine At.val (Val.move rfl) rfl rfl rfl ?_
          refine At.yes rfl rfl ?_
          refine At.val (Val.lenRow (i := 0) Tryd.underlying114 rfl rfl) rfl rfl rfl ?_
          refine At.yes rfl rfl ?_
          refine At.val (Val.bin rfl rfl rfl) rfl rfl rfl ?_
          refine At.yes rfl rfl ?_
          refine At.val (Val.pickT rfl rfl) rfl rfl rfl ?_
          refine At.val (Val.pickF rfl rfl) rfl rfl rfl ?_
          refine At.nil ?_
          exact At.boolEnd rfl (by first | rfl | (rw [hnil]; rfl)) (by repeat (first | exact Sub.nil | refine Sub.cons rfl ?_))
        · skip
          try simp only [vN_T, vN_F, nmE_T, nmE_F, wI_T, wI_F, data_T, data_F, ino_T, ino_F, notT, notF, bneT, bneF, beqT, beqF, decT, decF] at h14
          refine At.no rfl rfl rfl rfl ?_
          refine At.no rfl rfl rfl rfl ?_
          refine At.no rfl rfl rfl rfl ?_
          refine At.yes rfl rfl ?_
          refine At.val (Val.pickF rfl rfl) rfl rfl rfl ?_
          refine At.val (Val.pickF rfl rfl) rfl rfl rfl ?_
          refine At.nil ?_
          exact At.boolEnd rfl (by first | rfl | (rw [hnil]; rfl)) (by repeat (first | exact Sub.nil | refine Sub.cons rfl ?_))
      · skip
        simp only [List.drop_succ_cons, List.drop_zero]
        refine At.nil ?_
        refine At.thenN ?_
        refine At.cond rfl (fun h15 => ?_) (fun h15 => ?_)
        · skip
          try simp only [vN_T, vN_F, nmE_T, nmE_F, wI_T, wI_F, data_T, data_F, ino_T, ino_F, notT, notF, bneT, bneF, beqT, beqF, decT, decF] at h15
          exact absurd h15 (by decide)
        · skip
          try simp only [vN_T, vN_F, nmE_T, nmE_F, wI_T, wI_F, data_T, data_F, ino_T, ino_F, notT, notF, bneT, bneF, beqT, beqF, decT, decF] at h15
          refine At.skipC ?_
          refine At.thenN ?_
          refine At.seq ?_
          refine At.region ?_
          refine At.val (Val.loadAll (i := 1) Tryd.isAgg66 Tryd.sizeOf66 rfl rfl (by simp)) rfl rfl rfl ?_
          refine At.alloc zero_66 zc_66 rfl (fun b16 => ?_)
          refine At.storeAll (i := 0) Tryd.sizeOf66 rfl rfl rfl (by simp [Value.oneCell']) rfl (by simp) ?_
          simp only [List.set_cons_zero, List.set_cons_succ]
          refine At.nil ?_
          refine At.thenN ?_
          refine At.seq ?_
          refine At.region ?_
          refine At.val (Val.assign rfl) rfl rfl rfl ?_
          refine At.nil ?_
          refine At.thenN ?_
          refine At.seq ?_
          refine At.seq ?_
          refine At.region ?_
          refine At.val (Val.assign rfl) rfl rfl rfl ?_
          refine At.nil ?_
          refine At.thenN ?_
          refine At.block ?_
          skip
          refine At.loop (σ := Nat) (fun j => j ≤ K.length) (fun j => [(0, .int .i64 i), (9, .pointer (some ⟨b6, 0, none⟩)), (10, .pointer (some ⟨b9, 0, none⟩)), (11, .pointer (some ⟨b10, 0, none⟩)), (13, v13), (15, .pointer (some ⟨b16, 0, none⟩)), (16, .int .i64 (pvA i K j)), (17, .int .i64 (j : Int))]) (fun j => [blk b16 66 (vW i k' l' h' t' (K.take j) (w0_ i k l) X1 X2), rowR v13 122 2 LK.length (prC LK), blk b10 66 ([b64 (w0_ i k l), b64 X1, b64 X2]), blk b9 65 ([.int .i64 k', .int .i64 l', .int .i64 h', .int .i64 t']), blk b6 65 ([.int .i64 k, .int .i64 l, .int .i64 h, .int .i64 t])]) (fun j => K.length - j) 0 (Nat.zero_le _) (Sub.cons rfl (Sub.cons rfl (Sub.cons rfl (Sub.cons rfl (Sub.cons rfl (Sub.cons rfl (Sub.cons rfl (Sub.cons rfl Sub.nil)))))))) (List.Perm.refl _) ?_
          intro j hs
          refine At.seq ?_
          refine At.seq ?_
          refine At.region ?_
          refine At.val (Val.move rfl) rfl rfl rfl ?_
          refine At.val (Val.move rfl) rfl rfl rfl ?_
          refine At.val (Val.lenRow (i := 1) Tryd.underlying114 rfl rfl) rfl rfl rfl ?_
          refine At.val (Val.bin rfl rfl rfl) rfl rfl rfl ?_
          refine At.nil ?_
          refine At.thenN ?_
          refine At.cond rfl (fun h17 => ?_) (fun h17 => ?_)
          · skip
            try simp only [vN_T, vN_F, nmE_T, nmE_F, wI_T, wI_F, data_T, data_F, ino_T, ino_F, notT, notF, bneT, bneF, beqT, beqF, decT, decF] at h17
            have hj : j < LK.length := by omega
            obtain ⟨m, hm⟩ : ∃ m, K[j]? = some m := ⟨_, List.getElem?_eq_getElem (by omega)⟩
            obtain ⟨hm2, _, _, htk⟩ := pv_at hK hm
            obtain ⟨hpl, hpn⟩ := pvA_lt (i := i) hK (by omega) hm
            have hp := prC_at (hat j m hm)
            obtain ⟨oo, hoo⟩ : ∃ oo, oo = j * 2 := ⟨_, rfl⟩
            rw [← hoo] at hp
            refine At.skipC ?_
            refine At.thenN ?_
            refine At.seq ?_
            refine At.block ?_
            refine At.seq ?_
            refine At.quiet rfl (by decide +kernel) ?_
            refine QAt.val (Val.move rfl) rfl rfl rfl ?_
            refine QAt.val (Val.move rfl) rfl rfl rfl ?_
            refine QAt.val (Val.indexRow (i := 1) (sz := 2) (n := LK.length) (j := (j : Int)) oo (by omega) Tryd.underlying114 Tryd.sizeOf122 rfl rfl rfl (by omega) (by omega)) rfl rfl rfl ?_
            refine QAt.val (Val.field oo rfl fo_122_0 rfl) rfl rfl rfl ?_
            refine QAt.val (Val.loadRow (i := 1) (u := .int .i64 (slotAt i + 8 * (m : Int))) Tryd.isAgg3 rfl rfl hp.1) rfl rfl rfl ?_
            refine QAt.val (Val.move rfl) rfl rfl rfl ?_
            refine QAt.callP (fun w hw => slotAt_p _ w) Tryd.call24 rfl rfl ?_
            first | refine QAt.val (Val.subI rfl rfl (by omega) (by omega)) rfl rfl rfl ?_ | refine QAt.val (Val.bin rfl rfl rfl) rfl rfl rfl ?_
            refine QAt.val (Val.quoI rfl rfl (by omega) (by omega) (by decide)) rfl rfl rfl ?_
            rw [show (slotAt i + 8 * (m : Int) - slotAt i) / 8 = (m : Int) from by omega]
            refine QAt.val (Val.assign rfl) rfl rfl rfl ?_
            refine QAt.fin ?_
            refine At.thenN ?_
            refine At.seq ?_
            refine At.seq ?_
            refine At.quiet rfl (by decide +kernel) ?_
            refine QAt.val (Val.move rfl) rfl rfl rfl ?_
            refine QAt.val (Val.move rfl) rfl rfl rfl ?_
            refine QAt.val (Val.indexRow (i := 1) (sz := 2) (n := LK.length) (j := (j : Int)) oo (by omega) Tryd.underlying114 Tryd.sizeOf122 rfl rfl rfl (by omega) (by omega)) rfl rfl rfl ?_
            refine QAt.val (Val.field oo rfl fo_122_0 rfl) rfl rfl rfl ?_
            refine QAt.val (Val.loadRow (i := 1) (u := .int .i64 (slotAt i + 8 * (m : Int))) Tryd.isAgg3 rfl rfl hp.1) rfl rfl rfl ?_
            refine QAt.val (Val.move rfl) rfl rfl rfl ?_
            refine QAt.val (Val.bin rfl rfl rfl) rfl rfl rfl ?_
            rw [show decide ((slotAt i + 8 * (m : Int)) ≤ pvA i K j) = false from decide_eq_false (by omega)]
            refine QAt.val (Val.move rfl) rfl rfl rfl ?_
            refine QAt.yes rfl rfl ?_
            refine QAt.val (Val.move rfl) rfl rfl rfl ?_
            refine QAt.yes rfl rfl ?_
            refine QAt.val (Val.move rfl) rfl rfl rfl ?_
            refine QAt.yes rfl rfl ?_
            refine QAt.val (Val.indexRow (i := 1) (sz := 2) (n := LK.length) (j := (j : Int)) oo (by omega) Tryd.underlying114 Tryd.sizeOf122 rfl rfl rfl (by omega) (by omega)) rfl rfl rfl ?_
            refine QAt.yes rfl rfl ?_
            refine QAt.val (Val.field oo rfl fo_122_0 rfl) rfl rfl rfl ?_
            refine QAt.yes rfl rfl ?_
            refine QAt.val (Val.loadRow (i := 1) (u := .int .i64 (slotAt i + 8 * (m : Int))) Tryd.isAgg3 rfl rfl hp.1) rfl rfl rfl ?_
            refine QAt.yes rfl rfl ?_
            refine QAt.val (Val.move rfl) rfl rfl rfl ?_
            refine QAt.yes rfl rfl ?_
            refine QAt.callP (fun w hw => slotAt_p _ w) Tryd.call24 rfl rfl ?_
            refine QAt.yes rfl rfl ?_
            refine QAt.val (Val.move rfl) rfl rfl rfl ?_
            refine QAt.yes rfl rfl ?_
            first | refine QAt.val (Val.mulI rfl rfl (by omega) (by omega)) rfl rfl rfl ?_ | refine QAt.val (Val.bin rfl rfl rfl) rfl rfl rfl ?_
            refine QAt.yes rfl rfl ?_
            first | refine QAt.val (Val.addI rfl rfl (by omega) (by omega)) rfl rfl rfl ?_ | refine QAt.val (Val.bin rfl rfl rfl) rfl rfl rfl ?_
            refine QAt.yes rfl rfl ?_
            refine QAt.val (Val.bin rfl rfl rfl) rfl rfl rfl ?_
            rw [show ((slotAt i + 8 * (m : Int)) != (slotAt i + 8 * (m : Int))) = false from bne_self_eq_false _]
            refine QAt.val (Val.pickF rfl rfl) rfl rfl rfl ?_
            refine QAt.val (Val.move rfl) rfl rfl rfl ?_
            refine QAt.yes rfl rfl ?_
            refine QAt.val (Val.move rfl) rfl rfl rfl ?_
            refine QAt.yes rfl rfl ?_
            refine QAt.val (Val.bin rfl rfl rfl) rfl rfl rfl ?_
            rw [show decide ((m : Int) < 0) = false from decide_eq_false (by omega)]
            refine QAt.val (Val.pickF rfl rfl) rfl rfl rfl ?_
            refine QAt.val (Val.move rfl) rfl rfl rfl ?_
            refine QAt.yes rfl rfl ?_
            refine QAt.val (Val.move rfl) rfl rfl rfl ?_
            refine QAt.yes rfl rfl ?_
            refine QAt.val (Val.bin rfl rfl rfl) rfl rfl rfl ?_
            rw [show decide ((m : Int) > 2) = false from decide_eq_false (by omega)]
            refine QAt.val (Val.pickF rfl rfl) rfl rfl rfl ?_
            refine QAt.fin ?_
            refine At.thenN ?_
            refine At.condF rfl ?_
            refine At.skipC ?_
            refine At.thenN ?_
            refine At.seq ?_
            refine At.region ?_
            refine At.val (Val.move rfl) rfl rfl rfl ?_
            refine At.val (Val.move rfl) rfl rfl rfl ?_
            refine At.val (Val.indexRow (i := 1) (sz := 2) (n := LK.length) (j := (j : Int)) oo (by omega) Tryd.underlying114 Tryd.sizeOf122 rfl rfl rfl (by omega) (by omega)) rfl rfl rfl ?_
            refine At.val (Val.field oo rfl fo_122_0 rfl) rfl rfl rfl ?_
            refine At.val (Val.loadRow (i := 1) (u := .int .i64 (slotAt i + 8 * (m : Int))) Tryd.isAgg3 rfl rfl hp.1) rfl rfl rfl ?_
            refine At.val (Val.assign rfl) rfl rfl rfl ?_
            refine At.nil ?_
            refine At.thenN ?_
            refine At.region ?_
            refine At.val (Val.move rfl) rfl rfl rfl ?_
            refine At.val (Val.move rfl) rfl rfl rfl ?_
            refine At.val (Val.move rfl) rfl rfl rfl ?_
            refine At.val (Val.indexRow (i := 1) (sz := 2) (n := LK.length) (j := (j : Int)) oo (by omega) Tryd.underlying114 Tryd.sizeOf122 rfl rfl rfl (by omega) (by omega)) rfl rfl rfl ?_
            refine At.val (Val.field (oo + 1) rfl fo_122_1 rfl) rfl rfl rfl ?_
            refine At.val (Val.loadRow (i := 1) (u := b64 (wd i k' l' h' t' m)) Tryd.isAgg40 rfl rfl hp.2) rfl rfl rfl ?_
            refine At.val (Val.indexArr m (by omega) Tryd.underlying66 Tryd.sizeOf40 rfl rfl (by omega) (by omega)) rfl rfl rfl ?_
            refine At.store (i := 0) (v := b64 (wd i k' l' h' t' m)) Tryd.sizeOf40 rfl rfl rfl rfl (by show m < 3; omega) ?_
            simp only [List.set_cons_zero, List.set_cons_succ]
            rw [vW_set hm2]
            refine At.nil ?_
            refine At.blkN ?_
            refine At.thenN ?_
            refine At.region ?_
            refine At.val (Val.move rfl) rfl rfl rfl ?_
            first | refine At.val (Val.addI rfl rfl (by omega) (by omega)) rfl rfl rfl ?_ | refine At.val (Val.bin rfl rfl rfl) rfl rfl rfl ?_
            refine At.val (Val.assign rfl) rfl rfl rfl ?_
            refine At.nil ?_
            refine At.thenN ?_
            exact At.again (j + 1) (by omega) (by omega) (Sub.cons rfl (Sub.cons rfl (Sub.cons rfl (Sub.cons rfl (Sub.cons rfl (Sub.cons rfl (Sub.cons (congrArg (fun z => some (Value.int IntKind.i64 z)) hpn.symm) (Sub.cons (congrArg (fun z => some (Value.int IntKind.i64 z)) (by omega)) Sub.nil)))))))) (by rw [htk])
          · skip
            try simp only [vN_T, vN_F, nmE_T, nmE_F, wI_T, wI_F, data_T, data_F, ino_T, ino_F, notT, notF, bneT, bneF, beqT, beqF, decT, decF] at h17
            obtain rfl : j = K.length := by omega
            rw [List.take_length]
            have he0 : (pick3 K 0 (w0_ i k' l') (w0_ i k l)) = w0_ i k' l' := by unfold pick3; split; rfl; rename_i q; have q' := (not_congr hd0).1 q; rw [show k = k' by omega, show l = l' by omega]
            have he2 : k' ≠ 0 → (pick3 K 2 (w2_ i t') X2) = w2_ i t' := fun hk' => by unfold pick3; split; rfl; rename_i q; have q' := (not_congr hd2).1 q; rw [hX.1 (by omega), show t = t' by omega]
            have he1 : k' ≠ 0 → t' > 0 → (pick3 K 1 (w1_ i h') X1) = w1_ i h' := fun hk' ht' => by unfold pick3; split; rfl; rename_i q; have q' := (not_congr hd1).1 q; rw [hX.2 (by omega) (by omega), show h = h' by omega]
            have hT := turn_ok hino gB he0 he2 he1
            refine At.exitC ?_
            refine At.thenX ?_
            refine At.thenX ?_
            refine At.blkX ?_
            refine At.thenN ?_
            refine At.seq ?_
            refine At.region ?_
            refine At.val (Val.move rfl) rfl rfl rfl ?_
            refine At.val (Val.loadAll (i := 0) Tryd.isAgg66 Tryd.sizeOf66 rfl rfl rfl) rfl rfl rfl ?_
            refine At.callP (fun w hw => (by have := openSlot_p i (pick3 K 0 (w0_ i k' l') (w0_ i k l)) (pick3 K 1 (w1_ i h') X1) (pick3 K 2 (w2_ i t') X2) w (ht.mod hw.mod); rwa [openSlot_yes hT.1, hT.2] at this)) Tryd.call42 rfl rfl ?_
            refine At.val (Val.move rfl) rfl rfl rfl ?_
            refine At.val (Val.extract rfl rfl) rfl rfl rfl ?_
            refine At.val (Val.extract rfl rfl) rfl rfl rfl ?_
            refine At.alloc Tryd.zeroValue65 rfl rfl (fun b18 => ?_)
            refine At.storeAll (i := 0) Tryd.sizeOf65 rfl rfl rfl (by simp [Value.oneCell']) rfl rfl ?_
            simp only [List.set_cons_zero, List.set_cons_succ]
            refine At.val (Val.assign rfl) rfl rfl rfl ?_
            refine At.nil ?_
            refine At.thenN ?_
            refine At.seq ?_
            refine At.seq ?_
            refine At.region ?_
            refine At.val (Val.move rfl) rfl rfl rfl ?_
            refine At.val (Val.bin rfl rfl rfl) rfl rfl rfl ?_
            refine At.val (Val.move rfl) rfl rfl rfl ?_
            refine At.yes rfl rfl ?_
            refine At.val (Val.loadAll (i := 0) Tryd.isAgg65 Tryd.sizeOf65 rfl rfl rfl) rfl rfl rfl ?_
            refine At.yes rfl rfl ?_
            refine At.val (Val.loadAll (i := 4) Tryd.isAgg65 Tryd.sizeOf65 rfl rfl rfl) rfl rfl rfl ?_
            refine At.yes rfl rfl ?_
            refine At.val (Val.neAgg (b := true) Tryd.eqGuardType65 (fun w => by simpa using eq_65 k' l' h' t' k' l' h' t' w) rfl rfl) rfl rfl rfl ?_
            refine At.val (Val.pickF rfl rfl) rfl rfl rfl ?_
            refine At.nil ?_
            refine At.thenN ?_
            refine At.condF rfl ?_
            refine At.skipC ?_
            refine At.thenN ?_
            refine At.seq ?_
            refine At.seq ?_
            refine At.region ?_
            refine At.val (Val.assign rfl) rfl rfl rfl ?_
            refine At.nil ?_
            refine At.thenN ?_
            refine At.block ?_
            skip
            refine At.loop (σ := Nat × Int × Int × Int × Int) (fun s => s.1 ≤ K.length) (fun s => [(0, .int .i64 i), (9, .pointer (some ⟨b6, 0, none⟩)), (10, .pointer (some ⟨b9, 0, none⟩)), (11, .pointer (some ⟨b10, 0, none⟩)), (13, v13), (15, .pointer (some ⟨b16, 0, none⟩)), (19, .pointer (some ⟨b18, 0, none⟩)), (21, .int .i64 (s.1 : Int))]) (fun s => [blk b18 65 [.int .i64 s.2.1, .int .i64 s.2.2.1, .int .i64 s.2.2.2.1, .int .i64 s.2.2.2.2], blk b16 66 (vW i k' l' h' t' (K) (w0_ i k l) X1 X2), rowR v13 122 2 LK.length (prC LK), blk b10 66 ([b64 (w0_ i k l), b64 X1, b64 X2]), blk b9 65 ([.int .i64 k', .int .i64 l', .int .i64 h', .int .i64 t']), blk b6 65 ([.int .i64 k, .int .i64 l, .int .i64 h, .int .i64 t])]) (fun s => K.length - s.1) (0, k', l', h', t') (Nat.zero_le _) (Sub.cons rfl (Sub.cons rfl (Sub.cons rfl (Sub.cons rfl (Sub.cons rfl (Sub.cons rfl (Sub.cons rfl (Sub.cons rfl Sub.nil)))))))) (List.Perm.refl _) ?_
            intro s hs
            obtain ⟨j, c0, c1, c2, c3⟩ := s
            dsimp only at hs ⊢
            refine At.seq ?_
            refine At.seq ?_
            refine At.region ?_
            refine At.val (Val.move rfl) rfl rfl rfl ?_
            refine At.val (Val.move rfl) rfl rfl rfl ?_
            refine At.val (Val.lenRow (i := 2) Tryd.underlying114 rfl rfl) rfl rfl rfl ?_
            refine At.val (Val.bin rfl rfl rfl) rfl rfl rfl ?_
            refine At.nil ?_
            refine At.thenN ?_
            refine At.cond rfl (fun h19 => ?_) (fun h19 => ?_)
            · skip
              try simp only [vN_T, vN_F, nmE_T, nmE_F, wI_T, wI_F, data_T, data_F, ino_T, ino_F, notT, notF, bneT, bneF, beqT, beqF, decT, decF] at h19
              have hj : j < LK.length := by omega
              obtain ⟨m, hm⟩ : ∃ m, K[j]? = some m := ⟨_, List.getElem?_eq_getElem (by omega)⟩
              obtain ⟨hm2, _, _, htk⟩ := pv_at hK hm
              obtain ⟨hpl, hpn⟩ := pvA_lt (i := i) hK (by omega) hm
              have hp := prC_at (hat j m hm)
              obtain ⟨oo, hoo⟩ : ∃ oo, oo = j * 2 := ⟨_, rfl⟩
              rw [← hoo] at hp
              refine At.skipC ?_
              refine At.thenN ?_
              refine At.seq ?_
              refine At.block ?_
              refine At.seq ?_
              refine At.quiet rfl (by decide +kernel) ?_
              refine QAt.val (Val.move rfl) rfl rfl rfl ?_
              refine QAt.val (Val.move rfl) rfl rfl rfl ?_
              refine QAt.val (Val.indexRow (i := 2) (sz := 2) (n := LK.length) (j := (j : Int)) oo (by omega) Tryd.underlying114 Tryd.sizeOf122 rfl rfl rfl (by omega) (by omega)) rfl rfl rfl ?_
              refine QAt.val (Val.field oo rfl fo_122_0 rfl) rfl rfl rfl ?_
              refine QAt.val (Val.loadRow (i := 2) (u := .int .i64 (slotAt i + 8 * (m : Int))) Tryd.isAgg3 rfl rfl hp.1) rfl rfl rfl ?_
              refine QAt.val (Val.move rfl) rfl rfl rfl ?_
              refine QAt.callP (fun w hw => slotAt_p _ w) Tryd.call24 rfl rfl ?_
              first | refine QAt.val (Val.subI rfl rfl (by omega) (by omega)) rfl rfl rfl ?_ | refine QAt.val (Val.bin rfl rfl rfl) rfl rfl rfl ?_
              refine QAt.val (Val.quoI rfl rfl (by omega) (by omega) (by decide)) rfl rfl rfl ?_
              rw [show (slotAt i + 8 * (m : Int) - slotAt i) / 8 = (m : Int) from by omega]
              refine QAt.val (Val.assign rfl) rfl rfl rfl ?_
              refine QAt.fin ?_
              refine At.thenN ?_
              refine At.seq ?_
              refine At.seq ?_
              refine At.region ?_
              refine At.weaken [(0, _), (9, _), (10, _), (11, _), (13, _), (15, _), (19, _), (21, _), (142, _), (143, _), (144, _), (145, _), (148, _), (149, _), (150, _), (151, _), (152, _), (153, _), (154, _), (155, _), (156, _), (22, _)] (Sub.cons rfl (Sub.cons rfl (Sub.cons rfl (Sub.cons rfl (Sub.cons rfl (Sub.cons rfl (Sub.cons rfl (Sub.cons rfl (Sub.cons rfl (Sub.cons rfl (Sub.cons rfl (Sub.cons rfl (Sub.cons rfl (Sub.cons rfl (Sub.cons rfl (Sub.cons rfl (Sub.cons rfl (Sub.cons rfl (Sub.cons rfl (Sub.cons rfl (Sub.cons rfl (Sub.cons rfl Sub.nil)))))))))))))))))))))) ?_
              refine At.boolMeet 16 172 (decide ((k = 0 ∧ 0 < m) ∨ (t = 0 ∧ m = 1))) ?_ ?_
              · skip
                simp only [List.take_succ_cons, List.take_zero]
                refine At.val (Val.field 0 rfl fo_65_0 rfl) rfl rfl rfl ?_
                refine At.val (Val.load (i := 5) Tryd.isAgg3 rfl rfl rfl) rfl rfl rfl ?_
                refine At.val (Val.bin rfl rfl rfl) rfl rfl rfl ?_
                refine At.val (Val.move rfl) rfl rfl rfl ?_
                refine At.split (t := 160) rfl (fun h20 => ?_) (fun h20 => ?_)
                · skip
                  try simp only [vN_T, vN_F, nmE_T, nmE_F, wI_T, wI_F, data_T, data_F, ino_T, ino_F, notT, notF, bneT, bneF, beqT, beqF, decT, decF] at h20
                  refine At.yes rfl rfl ?_
                  refine At.val (Val.move rfl) rfl rfl rfl ?_
                  refine At.yes rfl rfl ?_
                  refine At.val (Val.bin rfl rfl rfl) rfl rfl rfl ?_
                  refine At.val (Val.pickT rfl rfl) rfl rfl rfl ?_
                  refine At.val (Val.move rfl) rfl rfl rfl ?_
                  refine At.split (t := 164) rfl (fun h21 => ?_) (fun h21 => ?_)
                  · skip
                    try simp only [vN_T, vN_F, nmE_T, nmE_F, wI_T, wI_F, data_T, data_F, ino_T, ino_F, notT, notF, bneT, bneF, beqT, beqF, decT, decF] at h21
                    refine At.no rfl rfl rfl rfl ?_
                    refine At.no rfl rfl rfl rfl ?_
                    refine At.no rfl rfl rfl rfl ?_
                    refine At.no rfl rfl rfl rfl ?_
                    refine At.noU rfl rfl rfl ?_
                    refine At.noU rfl rfl rfl ?_
                    refine At.no rfl rfl rfl rfl ?_
                    refine At.val (Val.pickT rfl rfl) rfl rfl rfl ?_
                    refine At.nil ?_
                    exact At.boolEnd rfl (by first | rfl | exact (decide_eq_true (by omega)).symm | exact (decide_eq_false (by omega)).symm | (apply Bool.eq_iff_iff.2; simp only [decide_eq_true_eq, beq_iff_eq, bne_iff_ne, ne_eq, wI_T, data_T, ino_T, vN_T, nmE_T, Bool.not_eq_true', wI_F, data_F, ino_F, vN_F, nmE_F, decide_eq_false_iff_not]; omega)) (by repeat (first | exact Sub.nil | refine Sub.cons rfl ?_))
                  · skip
                    try simp only [vN_T, vN_F, nmE_T, nmE_F, wI_T, wI_F, data_T, data_F, ino_T, ino_F, notT, notF, bneT, bneF, beqT, beqF, decT, decF] at h21
                    refine At.yes rfl rfl ?_
                    refine At.val (Val.field 3 rfl fo_65_3 rfl) rfl rfl rfl ?_
                    refine At.yes rfl rfl ?_
                    refine At.val (Val.load (i := 5) Tryd.isAgg3 rfl rfl rfl) rfl rfl rfl ?_
                    refine At.yes rfl rfl ?_
                    refine At.val (Val.bin rfl rfl rfl) rfl rfl rfl ?_
                    refine At.yes rfl rfl ?_
                    refine At.val (Val.move rfl) rfl rfl rfl ?_
                    refine At.split (t := 168) rfl (fun h22 => ?_) (fun h22 => ?_)
                    · skip
                      try simp only [vN_T, vN_F, nmE_T, nmE_F, wI_T, wI_F, data_T, data_F, ino_T, ino_F, notT, notF, bneT, bneF, beqT, beqF, decT, decF] at h22
                      refine At.yes rfl rfl ?_
                      refine At.val (Val.move rfl) rfl rfl rfl ?_
                      refine At.yes rfl rfl ?_
                      refine At.val (Val.bin rfl rfl rfl) rfl rfl rfl ?_
                      refine At.yes rfl rfl ?_
                      refine At.val (Val.pickT rfl rfl) rfl rfl rfl ?_
                      refine At.val (Val.pickF rfl rfl) rfl rfl rfl ?_
                      refine At.nil ?_
                      exact At.boolEnd rfl (by first | rfl | exact (decide_eq_true (by omega)).symm | exact (decide_eq_false (by omega)).symm | (apply Bool.eq_iff_iff.2; simp only [decide_eq_true_eq, beq_iff_eq, bne_iff_ne, ne_eq, wI_T, data_T, ino_T, vN_T, nmE_T, Bool.not_eq_true', wI_F, data_F, ino_F, vN_F, nmE_F, decide_eq_false_iff_not]; omega)) (by repeat (first | exact Sub.nil | refine Sub.cons rfl ?_))
                    · skip
                      try simp only [vN_T, vN_F, nmE_T, nmE_F, wI_T, wI_F, data_T, data_F, ino_T, ino_F, notT, notF, bneT, bneF, beqT, beqF, decT, decF] at h22
                      refine At.no rfl rfl rfl rfl ?_
                      refine At.no rfl rfl rfl rfl ?_
                      refine At.yes rfl rfl ?_
                      refine At.val (Val.pickF rfl rfl) rfl rfl rfl ?_
                      refine At.val (Val.pickF rfl rfl) rfl rfl rfl ?_
                      refine At.nil ?_
                      exact At.boolEnd rfl (by first | rfl | exact (decide_eq_true (by omega)).symm | exact (decide_eq_false (by omega)).symm | (apply Bool.eq_iff_iff.2; simp only [decide_eq_true_eq, beq_iff_eq, bne_iff_ne, ne_eq, wI_T, data_T, ino_T, vN_T, nmE_T, Bool.not_eq_true', wI_F, data_F, ino_F, vN_F, nmE_F, decide_eq_false_iff_not]; omega)) (by repeat (first | exact Sub.nil | refine Sub.cons rfl ?_))
                · skip
                  try simp only [vN_T, vN_F, nmE_T, nmE_F, wI_T, wI_F, data_T, data_F, ino_T, ino_F, notT, notF, bneT, bneF, beqT, beqF, decT, decF] at h20
                  refine At.no rfl rfl rfl rfl ?_
                  refine At.no rfl rfl rfl rfl ?_
                  refine At.val (Val.pickF rfl rfl) rfl rfl rfl ?_
                  refine At.val (Val.move rfl) rfl rfl rfl ?_
                  refine At.yes rfl rfl ?_
                  refine At.val (Val.field 3 rfl fo_65_3 rfl) rfl rfl rfl ?_
                  refine At.yes rfl rfl ?_
                  refine At.val (Val.load (i := 5) Tryd.isAgg3 rfl rfl rfl) rfl rfl rfl ?_
                  refine At.yes rfl rfl ?_
                  refine At.val (Val.bin rfl rfl rfl) rfl rfl rfl ?_
                  refine At.yes rfl rfl ?_
                  refine At.val (Val.move rfl) rfl rfl rfl ?_
                  refine At.split (t := 168) rfl (fun h23 => ?_) (fun h23 => ?_)
                  · skip
                    try simp only [vN_T, vN_F, nmE_T, nmE_F, wI_T, wI_F, data_T, data_F, ino_T, ino_F, notT, notF, bneT, bneF, beqT, beqF, decT, decF] at h23
                    refine At.yes rfl rfl ?_
                    refine At.val (Val.move rfl) rfl rfl rfl ?_
                    refine At.yes rfl rfl ?_
                    refine At.val (Val.bin rfl rfl rfl) rfl rfl rfl ?_
                    refine At.yes rfl rfl ?_
                    refine At.val (Val.pickT rfl rfl) rfl rfl rfl ?_
                    refine At.val (Val.pickF rfl rfl) rfl rfl rfl ?_
                    refine At.nil ?_
                    exact At.boolEnd rfl (by first | rfl | exact (decide_eq_true (by omega)).symm | exact (decide_eq_false (by omega)).symm | (apply Bool.eq_iff_iff.2; simp only [decide_eq_true_eq, beq_iff_eq, bne_iff_ne, ne_eq, wI_T, data_T, ino_T, vN_T, nmE_T, Bool.not_eq_true', wI_F, data_F, ino_F, vN_F, nmE_F, decide_eq_false_iff_not]; omega)) (by repeat (first | exact Sub.nil | refine Sub.cons rfl ?_))
                  · skip
                    try simp only [vN_T, vN_F, nmE_T, nmE_F, wI_T, wI_F, data_T, data_F, ino_T, ino_F, notT, notF, bneT, bneF, beqT, beqF, decT, decF] at h23
                    refine At.no rfl rfl rfl rfl ?_
                    refine At.no rfl rfl rfl rfl ?_
                    refine At.yes rfl rfl ?_
                    refine At.val (Val.pickF rfl rfl) rfl rfl rfl ?_
                    refine At.val (Val.pickF rfl rfl) rfl rfl rfl ?_
                    refine At.nil ?_
                    exact At.boolEnd rfl (by first | rfl | exact (decide_eq_true (by omega)).symm | exact (decide_eq_false (by omega)).symm | (apply Bool.eq_iff_iff.2; simp only [decide_eq_true_eq, beq_iff_eq, bne_iff_ne, ne_eq, wI_T, data_T, ino_T, vN_T, nmE_T, Bool.not_eq_true', wI_F, data_F, ino_F, vN_F, nmE_F, decide_eq_false_iff_not]; omega)) (by repeat (first | exact Sub.nil | refine Sub.cons rfl ?_))
              · skip
                simp only [List.drop_succ_cons, List.drop_zero]
                refine At.nil ?_
                refine At.thenN ?_
                refine At.cond rfl (fun h24 => ?_) (fun h24 => ?_)
                · skip
                  try simp only [vN_T, vN_F, nmE_T, nmE_F, wI_T, wI_F, data_T, data_F, ino_T, ino_F, notT, notF, bneT, bneF, beqT, beqF, decT, decF] at h24
                  refine At.exitC ?_
                  refine At.thenX ?_
                  refine At.blkX ?_
                  refine At.thenN ?_
                  refine At.region ?_
                  refine At.val (Val.move rfl) rfl rfl rfl ?_
                  first | refine At.val (Val.addI rfl rfl (by omega) (by omega)) rfl rfl rfl ?_ | refine At.val (Val.bin rfl rfl rfl) rfl rfl rfl ?_
                  refine At.val (Val.assign rfl) rfl rfl rfl ?_
                  refine At.nil ?_
                  refine At.thenN ?_
                  exact At.again (j + 1, c0, c1, c2, c3) (show j + 1 ≤ _ by omega) (by dsimp only; omega) (Sub.cons rfl (Sub.cons rfl (Sub.cons rfl (Sub.cons rfl (Sub.cons rfl (Sub.cons rfl (Sub.cons rfl (Sub.cons (congrArg (fun z => some (Value.int IntKind.i64 z)) (by omega)) Sub.nil)))))))) (List.Perm.refl _)
                · skip
                  try simp only [vN_T, vN_F, nmE_T, nmE_F, wI_T, wI_F, data_T, data_F, ino_T, ino_F, notT, notF, bneT, bneF, beqT, beqF, decT, decF] at h24
                  have hskip : ¬ ((k = 0 ∧ 0 < m) ∨ (t = 0 ∧ m = 1)) := by simpa using h24
                  have hmin : slotOf (if m = 0 then (x3 (w0_ i k l) X1 X2 m) else (pick3 K 0 (w0_ i k' l') (w0_ i k l))) (if m = 1 then (x3 (w0_ i k l) X1 X2 m) else (pick3 K 1 (w1_ i h') X1)) (if m = 2 then (x3 (w0_ i k l) X1 X2 m) else (pick3 K 2 (w2_ i t') X2)) ≠ .agg #[.int .i64 k', .int .i64 l', .int .i64 h', .int .i64 t'] := by
                    have hmem := List.mem_of_getElem? hm
                    clear hm hpl hpn hp htk
                    rcases (show m = 0 ∨ m = 1 ∨ m = 2 by omega) with rfl | rfl | rfl
                    · exact turn_min gA gB (m := 0) (.inl ⟨rfl, rfl, hd0.1 hmem⟩)
                    · have q := hd1.1 hmem
                      exact turn_min gA gB (m := 1) (.inr (.inl ⟨rfl, q.1, q.2.1, by omega, by omega, by omega, he0, hX.2 (by omega) (by omega), he2 q.1⟩))
                    · have q := hd2.1 hmem
                      exact turn_min gA gB (m := 2) (.inr (.inr ⟨rfl, q.1, by omega, by omega, he0, hX.1 (by omega)⟩))
                  refine At.skipC ?_
                  refine At.thenN ?_
                  refine At.seq ?_
                  refine At.region ?_
                  refine At.val (Val.loadAll (i := 1) Tryd.isAgg66 Tryd.sizeOf66 rfl rfl rfl) rfl rfl rfl ?_
                  refine At.alloc zero_66 zc_66 rfl (fun b25 => ?_)
                  refine At.storeAll (i := 0) Tryd.sizeOf66 rfl rfl rfl (by intro u hu; simp only [vW, List.mem_cons, List.not_mem_nil, or_false] at hu; rcases hu with rfl | rfl | rfl <;> rfl) rfl (by simp) ?_
                  simp only [List.set_cons_zero, List.set_cons_succ]
                  refine At.nil ?_
                  refine At.thenN ?_
                  refine At.seq ?_
                  refine At.region ?_
                  refine At.val (Val.move rfl) rfl rfl rfl ?_
                  refine At.val (Val.move rfl) rfl rfl rfl ?_
                  refine At.val (Val.indexArr m (by omega) Tryd.underlying66 Tryd.sizeOf40 rfl rfl (by omega) (by omega)) rfl rfl rfl ?_
                  refine At.val (Val.load (i := 4) (v := b64 (x3 (w0_ i k l) X1 X2 m)) Tryd.isAgg40 rfl rfl (x3_at hm2)) rfl rfl rfl ?_
                  refine At.val (Val.indexArr m (by omega) Tryd.underlying66 Tryd.sizeOf40 rfl rfl (by omega) (by omega)) rfl rfl rfl ?_
                  refine At.store (i := 0) (v := b64 (x3 (w0_ i k l) X1 X2 m)) Tryd.sizeOf40 rfl rfl rfl rfl (by show m < 3; omega) ?_
                  simp only [List.set_cons_zero, List.set_cons_succ]
                  rw [show (vW i k' l' h' t' K (w0_ i k l) X1 X2).set m (b64 (x3 (w0_ i k l) X1 X2 m)) = uW (pick3 K 0 (w0_ i k' l') (w0_ i k l)) (pick3 K 1 (w1_ i h') X1) (pick3 K 2 (w2_ i t') X2) (x3 (w0_ i k l) X1 X2 m) m from uW_set hm2]
                  refine At.nil ?_
                  refine At.thenN ?_
                  refine At.seq ?_
                  refine At.region ?_
                  refine At.val (Val.move rfl) rfl rfl rfl ?_
                  refine At.val (Val.loadAll (i := 0) Tryd.isAgg66 Tryd.sizeOf66 rfl rfl rfl) rfl rfl rfl ?_
                  refine At.callX (fun w hw => openMin_x i (if m = 0 then (x3 (w0_ i k l) X1 X2 m) else (pick3 K 0 (w0_ i k' l') (w0_ i k l))) (if m = 1 then (x3 (w0_ i k l) X1 X2 m) else (pick3 K 1 (w1_ i h') X1)) (if m = 2 then (x3 (w0_ i k l) X1 X2 m) else (pick3 K 2 (w2_ i t') X2)) k' l' h' t' w (ht.mod hw.mod) hmin) Tryd.call42 rfl rfl (fun v26 hv27 => ?_)
                  obtain ⟨a, b, c, d, e, rfl, hne⟩ := hv27
                  refine At.val (Val.move rfl) rfl rfl rfl ?_
                  refine At.val (Val.extract rfl rfl) rfl rfl rfl ?_
                  refine At.val (Val.extract rfl rfl) rfl rfl rfl ?_
                  refine At.storeAll (i := 1) Tryd.sizeOf65 rfl rfl rfl (by simp [Value.oneCell']) rfl rfl ?_
                  simp only [List.set_cons_zero, List.set_cons_succ]
                  refine At.val (Val.assign rfl) rfl rfl rfl ?_
                  refine At.nil ?_
                  refine At.thenN ?_
                  refine At.seq ?_
                  refine At.region ?_
                  refine At.val (Val.move rfl) rfl rfl rfl ?_
                  refine At.val (Val.bin rfl rfl rfl) rfl rfl rfl ?_
                  refine At.val (Val.move rfl) rfl rfl rfl ?_
                  refine At.split (t := 187) rfl (fun h28 => ?_) (fun h28 => ?_)
                  · skip
                    try simp only [vN_T, vN_F, nmE_T, nmE_F, wI_T, wI_F, data_T, data_F, ino_T, ino_F, notT, notF, bneT, bneF, beqT, beqF, decT, decF] at h28
                    have hez : e = 0 := by omega
                    refine At.yes rfl rfl ?_
                    refine At.val (Val.loadAll (i := 1) Tryd.isAgg65 Tryd.sizeOf65 rfl rfl rfl) rfl rfl rfl ?_
                    refine At.yes rfl rfl ?_
                    refine At.val (Val.loadAll (i := 5) Tryd.isAgg65 Tryd.sizeOf65 rfl rfl rfl) rfl rfl rfl ?_
                    refine At.yes rfl rfl ?_
                    refine At.val (Val.eqAgg Tryd.eqGuardType65 (fun w => eq_65 _ _ _ _ _ _ _ _ w) rfl rfl) rfl rfl rfl ?_
                    refine At.val (Val.pickT rfl rfl) rfl rfl rfl ?_
                    refine At.nil ?_
                    refine At.thenN ?_
                    refine At.cond rfl (fun h29 => ?_) (fun h29 => ?_)
                    · skip
                      try simp only [vN_T, vN_F, nmE_T, nmE_F, wI_T, wI_F, data_T, data_F, ino_T, ino_F, notT, notF, bneT, bneF, beqT, beqF, decT, decF] at h29
                      have q := h29; simp only [Bool.and_eq_true, beq_iff_eq, and_true] at q; exact (hne ⟨hez, q.1, q.2.1, q.2.2.1, q.2.2.2⟩).elim
                    · skip
                      try simp only [vN_T, vN_F, nmE_T, nmE_F, wI_T, wI_F, data_T, data_F, ino_T, ino_F, notT, notF, bneT, bneF, beqT, beqF, decT, decF] at h29
                      refine At.skipC ?_
                      refine At.blkN ?_
                      refine At.thenN ?_
                      refine At.region ?_
                      refine At.val (Val.move rfl) rfl rfl rfl ?_
                      first | refine At.val (Val.addI rfl rfl (by omega) (by omega)) rfl rfl rfl ?_ | refine At.val (Val.bin rfl rfl rfl) rfl rfl rfl ?_
                      refine At.val (Val.assign rfl) rfl rfl rfl ?_
                      refine At.nil ?_
                      refine At.thenN ?_
                      refine At.drop 0 ?_
                      simp only [List.eraseIdx_cons_zero, List.eraseIdx_cons_succ]
                      exact At.again (j + 1, a, b, c, d) (show j + 1 ≤ _ by omega) (by dsimp only; omega) (Sub.cons rfl (Sub.cons rfl (Sub.cons rfl (Sub.cons rfl (Sub.cons rfl (Sub.cons rfl (Sub.cons rfl (Sub.cons (congrArg (fun z => some (Value.int IntKind.i64 z)) (by omega)) Sub.nil)))))))) (List.Perm.refl _)
                  · skip
                    try simp only [vN_T, vN_F, nmE_T, nmE_F, wI_T, wI_F, data_T, data_F, ino_T, ino_F, notT, notF, bneT, bneF, beqT, beqF, decT, decF] at h28
                    refine At.no rfl rfl rfl rfl ?_
                    refine At.no rfl rfl rfl rfl ?_
                    refine At.no rfl rfl rfl rfl ?_
                    refine At.val (Val.pickF rfl rfl) rfl rfl rfl ?_
                    refine At.nil ?_
                    refine At.thenN ?_
                    refine At.condF rfl ?_
                    refine At.skipC ?_
                    refine At.blkN ?_
                    refine At.thenN ?_
                    refine At.region ?_
                    refine At.val (Val.move rfl) rfl rfl rfl ?_
                    first | refine At.val (Val.addI rfl rfl (by omega) (by omega)) rfl rfl rfl ?_ | refine At.val (Val.bin rfl rfl rfl) rfl rfl rfl ?_
                    refine At.val (Val.assign rfl) rfl rfl rfl ?_
                    refine At.nil ?_
                    refine At.thenN ?_
                    refine At.drop 0 ?_
                    simp only [List.eraseIdx_cons_zero, List.eraseIdx_cons_succ]
                    exact At.again (j + 1, a, b, c, d) (show j + 1 ≤ _ by omega) (by dsimp only; omega) (Sub.cons rfl (Sub.cons rfl (Sub.cons rfl (Sub.cons rfl (Sub.cons rfl (Sub.cons rfl (Sub.cons rfl (Sub.cons (congrArg (fun z => some (Value.int IntKind.i64 z)) (by omega)) Sub.nil)))))))) (List.Perm.refl _)
            · skip
              try simp only [vN_T, vN_F, nmE_T, nmE_F, wI_T, wI_F, data_T, data_F, ino_T, ino_F, notT, notF, bneT, bneF, beqT, beqF, decT, decF] at h19
              refine At.exitC ?_
              refine At.thenX ?_
              refine At.thenX ?_
              refine At.blkX ?_
              refine At.thenN ?_
              refine At.seq ?_
              refine At.region ?_
              refine At.val (Val.assign rfl) rfl rfl rfl ?_
              refine At.nil ?_
              refine At.thenN ?_
              refine At.retC ?_
              refine At.ret1 (.inl rfl) rfl rfl rfl (fun w hw => ?_)
              exact ⟨rfl, hw.mod⟩

end Go.Proofs.YtoiebgnmknbkjaaDoor
