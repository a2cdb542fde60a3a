/- Parts of the proof, joined: see the law's text. -/
import Derived.Test.YtfchinibjhcejaaDoorU3
import Derived.Test.YtfchinibjhcejaaDoorU2
set_option linter.unusedVariables false
set_option linter.unusedSimpArgs false
namespace Go.Proofs.YtfchinibjhcejaaDoor
open Go Go.Wk
theorem image_n (p i c : Int) (bare : Bool) (vW vU : Value) (W U : List (Int × BitVec 64)) (w : World) (hvW : RdP w vW W) (hvU : RdP w vU U) (hWl : W.length ≤ 140737488355328) (hUl : U.length ≤ 140737488355328) (hpb : -9223372036854775808 ≤ p ∧ p ≤ 9223372036854775807) :
    NewRowT Tryd.prog 12 [.agg #[.int .i64 p, .int .i64 i, .int .i64 c, .bool bare, vW, vU]] (fun v => .tuple #[v, .agg #[.int .i64 (supS p i c).1, .int .i64 (supS p i c).2.1, .int .i64 (supS p i c).2.2, .int .i64 (4 + (supS p i c).2.1 / 8)]]) 5 1 (imgE (supS p i c) bare W U).length ((imgE (supS p i c) bare W U).map bv) w := by
 refine enter0 Tryd.func12 rfl Tryd.ntmps12 rfl ?_
 obtain ⟨A, B, C, D, e, hfe, hfc⟩ := fit_ex p i c
 simp only [envOf]
 refine tR (At.box rfl rfl rfl (fun b1 => (tA rfl rfl (At.alloc Tryd.zeroValue31 rfl rfl (fun b2 => (tE (tR (tV (Val.field 0 rfl fo_27_0 rfl) rfl (tV (Val.loadPart (i := 1) Tryd.isAgg23 Tryd.sizeOf23 rfl rfl rfl rfl) rfl (At.alloc Tryd.zeroValue23 rfl rfl (fun b3 => (At.storeAll (i := 0) Tryd.sizeOf23 rfl rfl rfl (by simp [Value.oneCell']) rfl rfl ?_))))))))))))
 simp only [sc0, scS]
 refine tE (tR (tV (Val.loadAll (i := 0) Tryd.isAgg23 Tryd.sizeOf23 rfl rfl rfl) rfl ?_))
 refine At.callP (fun w hw => (by have h0 := fitR_p p i c w hpb; rw [hfe] at h0; exact h0)) Tryd.call25 rfl rfl (tM rfl rfl (tV (Val.extract rfl rfl) rfl (tV (Val.extract rfl rfl) rfl (At.alloc Tryd.zeroValue31 rfl rfl (fun b4 => (At.storeAll (i := 0) Tryd.sizeOf31 rfl rfl rfl (by simp [Value.oneCell']) rfl rfl ?_))))))
 simp only [sc0, scS]
 refine tA rfl rfl (tE ?_)
 refine At.join (σ := Int × Int × Int) (fun s => s = supS p i c) (fun s => [(1, .pointer (some ⟨b1, 0, none⟩)), (3, .pointer (some ⟨b2, 0, none⟩)), (4, .pointer (some ⟨b3, 0, none⟩)), (5, .pointer (some ⟨b4, 0, none⟩))]) (fun s => [blk b4 31 ([.int .i64 s.1, .int .i64 s.2.1, .int .i64 s.2.2, .int .i64 (4 + s.2.1 / 8)]), blk b3 23 ([.int .i64 s.1, .int .i64 s.2.1, .int .i64 s.2.2]), blk b2 31 ([.int .i64 0, .int .i64 0, .int .i64 0, .int .i64 0]), blk b1 27 ([.int .i64 p, .int .i64 i, .int .i64 c, .bool bare, vW, vU])]) ?_ ?_
 ·refine tR (tM rfl rfl (tV (Val.bin rfl rfl rfl) rfl (tE ?_)))
  refine At.cond rfl (fun h5 => ?_) (fun h5 => ?_)
  ·try simp only [hasB, isSizeB, sB] at h5
   have hno : ¬ GoodSup p i c := by rcases hfc with ⟨h1, _⟩ | ⟨_, h2⟩; exact absurd h1 h5; exact h2
   refine tR ?_
   refine tV (Val.build (fun a ha => by simp only [List.map_toArray, List.map_cons, List.map_nil, ha.eval (x := (.const (.int .i64 (24)))) rfl, ha.eval (x := (.const (.int .i64 (8)))) rfl, ha.eval (x := (.const (.int .i64 (1)))) rfl] <;> rfl) (bld_23_0_1_2 _ _ _ )) rfl (At.storeAll (i := 1) Tryd.sizeOf23 rfl rfl rfl (by simp [Value.oneCell']) rfl rfl ?_)
   simp only [sc0, scS]
   refine tE (At.region (tV (Val.loadAll (i := 1) Tryd.isAgg23 Tryd.sizeOf23 rfl rfl rfl) rfl ?_))
   refine At.callP (fun w hw => (by have h0 := fitR_p 24 8 1 w (by decide); rw [fit_yes (by decide)] at h0; exact h0)) Tryd.call25 rfl rfl (tM rfl rfl (tV (Val.extract rfl rfl) rfl (tV (Val.extract rfl rfl) rfl (At.storeAll (i := 0) Tryd.sizeOf31 rfl rfl rfl (by simp [Value.oneCell']) rfl rfl ?_))))
   simp only [sc0, scS]
   refine tE ?_
   exact At.meets (24, 8, 1) (supS_no (by assumption)).symm (Sub.cons rfl (Sub.cons rfl (Sub.cons rfl (Sub.cons rfl Sub.nil)))) (List.Perm.refl _)
  ·try simp only [hasB, isSizeB, sB] at h5
   obtain ⟨hyes, e1, e2, e3, e4⟩ : GoodSup p i c ∧ p = A ∧ i = B ∧ c = C ∧ 4 + i / 8 = D := by rcases hfc with ⟨_, g0, g1, g2, g3, g4⟩ | ⟨h1, _⟩; exact ⟨g0, g1.symm, g2.symm, g3.symm, g4.symm⟩; exact absurd h5 h1
   subst e1 e2 e3 e4
   refine At.skipC (At.thenN ?_)
   exact At.meets (p, i, c) (supS_yes (by assumption)).symm (Sub.cons rfl (Sub.cons rfl (Sub.cons rfl (Sub.cons rfl Sub.nil)))) (List.Perm.refl _)
 ·intro s hs
  have hsS := hs
  have hg : GoodSup s.1 s.2.1 s.2.2 := by rw [hs]; exact supS_good p i c
  have hg2 := hg
  unfold GoodSup at hg2
  clear hfe hfc
  refine tR (tV (Val.field 0 rfl fo_31_0 rfl) rfl (tV (Val.load (i := 0) Tryd.isAgg3 rfl rfl rfl) rfl ?_))
  first | refine tV (Val.mulI rfl rfl (by omega) (by omega)) rfl ?_ | refine tV (Val.bin rfl rfl rfl) rfl ?_
  rw [show 512 * s.1 = (((512 * s.1.toNat) : Nat) : Int) from by omega]
  refine At.makeRowB (n := (512 * s.1.toNat)) Tryd.underlying29 info_5 rfl rfl rfl rfl rfl (by omega) rfl (fun v6 => (tA rfl rfl (tE (At.seq (tR (tA rfl rfl (tE (At.block ?_))))))))
  skip
  refine At.loop (σ := Nat) (fun k => k ≤ W.length) (fun k => [(1, .pointer (some ⟨b1, 0, none⟩)), (3, .pointer (some ⟨b2, 0, none⟩)), (4, .pointer (some ⟨b3, 0, none⟩)), (5, .pointer (some ⟨b4, 0, none⟩)), (7, v6), (8, .int .i64 (k : Int))]) (fun k => [rowR v6 5 1 (((wordsI (zs (512 * s.1.toNat)) (W.take k))).length) (((wordsI (zs (512 * s.1.toNat)) (W.take k))).map bv), blk b4 31 ([.int .i64 s.1, .int .i64 s.2.1, .int .i64 s.2.2, .int .i64 (4 + s.2.1 / 8)]), blk b3 23 ([.int .i64 s.1, .int .i64 s.2.1, .int .i64 s.2.2]), blk b2 31 ([.int .i64 0, .int .i64 0, .int .i64 0, .int .i64 0]), blk b1 27 ([.int .i64 p, .int .i64 i, .int .i64 c, .bool bare, vW, vU])]) (fun k => W.length - k) 0 (Nat.zero_le _) (Sub.cons rfl (Sub.cons rfl (Sub.cons rfl (Sub.cons rfl (Sub.cons rfl (Sub.cons rfl Sub.nil)))))) (List.Perm.refl _) ?_
  intro k hk0
  have hml : (wordsI (zs (512 * s.1.toNat)) (W.take k)).length = (512 * s.1.toNat) := by rw [wordsI_len, zs_length]
  refine At.seq (tR (tM rfl rfl (tV (Val.field 4 rfl fo_27_2 rfl) rfl (tV (Val.load (i := 4) Tryd.isAgg24 rfl rfl rfl) rfl (tV (Val.lenRd hvW Tryd.underlying24 rfl) rfl (tV (Val.bin rfl rfl rfl) rfl (tE ?_)))))))
  refine At.cond rfl (fun h7 => ?_) (fun h7 => ?_)
  ·try simp only [hasB, isSizeB, sB] at h7
   obtain ⟨q, hq⟩ : ∃ q, W[k]? = some q := ⟨_, List.getElem?_eq_getElem (by omega)⟩
   refine At.skipC (At.thenN (At.seq (At.block (At.tail 13 rfl (by decide +kernel) ?_))))
   simp only [List.take_succ_cons, List.take_zero, List.drop_succ_cons, List.drop_zero]
   refine qM rfl rfl (qV (Val.field 4 rfl fo_27_2 rfl) rfl (qV (Val.load (i := 4) Tryd.isAgg24 rfl rfl rfl) rfl (qM rfl rfl (QAt.idxP hvW Tryd.underlying24 Tryd.sizeOf46 rfl rfl (by omega) (by omega) rfl rfl (fun bx ox q1 hq1 hc0 hc1 => ?_)))))
   rw [Int.toNat_natCast] at hq1
   obtain rfl : q = q1 := Option.some.inj (hq.symm.trans hq1)
   refine qV (Val.field ox rfl fo_46_0 rfl) rfl (qV (Val.loadOld Tryd.isAgg3 rfl hc0 (fun h => h)) rfl (qV (Val.field 4 rfl fo_27_2 rfl) rfl (qV (Val.load (i := 4) Tryd.isAgg24 rfl rfl rfl) rfl (qM rfl rfl (QAt.idxP hvW Tryd.underlying24 Tryd.sizeOf46 rfl rfl (by omega) (by omega) rfl rfl (fun bx ox q1 hq1 hc0 hc1 => ?_))))))
   rw [Int.toNat_natCast] at hq1
   obtain rfl : q = q1 := Option.some.inj (hq.symm.trans hq1)
   refine qV (Val.field (ox + 1) rfl fo_46_1 rfl) rfl (qV (Val.loadOld Tryd.isAgg38 rfl hc1 (fun h => h)) rfl (QAt.fin (At.call1 0 rfl (fun w hw hr => lay_r _ (wordsI (zs (512 * s.1.toNat)) (W.take k)) _ _ w (by omega) hr) Tryd.call26 rfl rfl ?_)))
   simp only [sc0, scS]
   refine At.nil (At.blkN (At.thenN (At.region (tM rfl rfl ?_))))
   first | refine tV (Val.addI rfl rfl (by omega) (by omega)) rfl ?_ | refine tV (Val.bin rfl rfl rfl) rfl ?_
   refine tA rfl rfl (tE ?_)
   exact At.again (k + 1) (show k + 1 ≤ _ by omega) (by omega) (Sub.cons rfl (Sub.cons rfl (Sub.cons rfl (Sub.cons rfl (Sub.cons rfl (Sub.cons (congrArg (fun z => some (Value.int IntKind.i64 z)) (by omega)) Sub.nil)))))) (by rw [wordsI_snoc hq])
  ·try simp only [hasB, isSizeB, sB] at h7
   refine At.exitC (At.thenX (At.thenX (At.blkX (At.thenN (At.seq ?_)))))
   obtain rfl : k = W.length := by omega
   rw [List.take_length] at hml ⊢
   obtain ⟨l1, hl1⟩ : ∃ l, l = wordsI (zs (512 * s.1.toNat)) W := ⟨_, rfl⟩
   rw [← hl1] at hml ⊢
   have hpb := packB_le U
   refine At.region (tV (Val.field 5 rfl fo_27_3 rfl) rfl (tV (Val.load (i := 4) Tryd.isAgg25 rfl rfl rfl) rfl (At.callNT (g := (fun v => .tuple #[v, .int .i64 (packE U)])) (fun w hw => packUnR_n _ U w (hvU.mod hw.mod) hUl) Tryd.call27 rfl rfl (fun v8 => (tM rfl rfl (tV (Val.extract rfl rfl) rfl (tV (Val.extract rfl rfl) rfl (tA rfl rfl (tA rfl rfl (tE ?_))))))))))
   refine At.join (σ := Unit) (fun _u => True) (fun _u => [(1, .pointer (some ⟨b1, 0, none⟩)), (3, .pointer (some ⟨b2, 0, none⟩)), (4, .pointer (some ⟨b3, 0, none⟩)), (5, .pointer (some ⟨b4, 0, none⟩)), (7, v6)]) (fun _u => [rowR v6 5 1 (((undoI l1 U)).length) (((undoI l1 U)).map bv), blk b4 31 ([.int .i64 s.1, .int .i64 s.2.1, .int .i64 s.2.2, .int .i64 (4 + s.2.1 / 8)]), blk b3 23 ([.int .i64 s.1, .int .i64 s.2.1, .int .i64 s.2.2]), blk b2 31 ([.int .i64 0, .int .i64 0, .int .i64 0, .int .i64 0]), blk b1 27 ([.int .i64 p, .int .i64 i, .int .i64 c, .bool bare, vW, vU])]) ?_ ?_
   ·refine tR (tM rfl rfl (tV (Val.bin rfl rfl rfl) rfl (tE ?_)))
    refine At.cond rfl (fun h9 => ?_) (fun h9 => ?_)
    ·try simp only [hasB, isSizeB, sB] at h9
     refine tR (tA rfl rfl (tE (At.block ?_)))
     skip
     refine At.loop (σ := Nat) (fun k => k ≤ (packB U).length) (fun k => [(1, .pointer (some ⟨b1, 0, none⟩)), (3, .pointer (some ⟨b2, 0, none⟩)), (4, .pointer (some ⟨b3, 0, none⟩)), (5, .pointer (some ⟨b4, 0, none⟩)), (7, v6), (9, v8), (11, .int .i64 (k : Int))]) (fun k => [rowR v8 5 1 ((packB U).length) ((packB U).map bv), rowR v6 5 1 (((overK l1 512 (packB U) k)).length) (((overK l1 512 (packB U) k)).map bv), blk b4 31 ([.int .i64 s.1, .int .i64 s.2.1, .int .i64 s.2.2, .int .i64 (4 + s.2.1 / 8)]), blk b3 23 ([.int .i64 s.1, .int .i64 s.2.1, .int .i64 s.2.2]), blk b2 31 ([.int .i64 0, .int .i64 0, .int .i64 0, .int .i64 0]), blk b1 27 ([.int .i64 p, .int .i64 i, .int .i64 c, .bool bare, vW, vU])]) (fun k => (packB U).length - k) 0 (Nat.zero_le _) (Sub.cons rfl (Sub.cons rfl (Sub.cons rfl (Sub.cons rfl (Sub.cons rfl (Sub.cons rfl (Sub.cons rfl Sub.nil))))))) (by rw [overK_zero]) ?_
     intro k hs
     have hol : (overK l1 512 (packB U) k).length = l1.length := overK_len (by omega) hs
     refine At.seq (tR (tM rfl rfl (tM rfl rfl (tV (Val.lenRow (i := 0) Tryd.underlying29 rfl rfl) rfl (tV (Val.bin rfl rfl rfl) rfl (tE ?_))))))
     refine At.cond rfl (fun h10 => ?_) (fun h10 => ?_)
     ·try simp only [hasB, isSizeB, sB] at h10
      have hk : k < (packB U).length := by omega
      obtain ⟨cc, hcc⟩ : ∃ cc, (packB U)[k]? = some cc := ⟨_, List.getElem?_eq_getElem hk⟩
      refine At.skipC (At.thenN (At.seq (At.block (At.region (tM rfl rfl (tM rfl rfl ?_))))))
      first | refine tV (Val.addI rfl rfl (by omega) (by omega)) rfl ?_ | refine tV (Val.bin rfl rfl rfl) rfl ?_
      refine tM rfl rfl (tM rfl rfl (tV (Val.indexRow (i := 0) k (by omega) Tryd.underlying29 Tryd.sizeOf5 rfl rfl rfl (by omega) (by omega)) rfl ?_))
      refine tV (Val.loadRow (u := bv cc) (i := 0) Tryd.isAgg5 rfl rfl (by rw [List.getElem?_map, hcc]; rfl)) rfl ?_
      refine tV (Val.indexRow (i := 1) (512 + k) (by omega) Tryd.underlying29 Tryd.sizeOf5 rfl rfl rfl (by omega) (by omega)) rfl (At.storeRowB (i := 1) Tryd.sizeOf5 rfl rfl rfl (by omega) ?_)
      simp only [sc0, scS]
      rw [overK_step hcc (by omega)]
      refine At.nil (At.blkN (At.thenN (At.region (tM rfl rfl ?_))))
      first | refine tV (Val.addI rfl rfl (by omega) (by omega)) rfl ?_ | refine tV (Val.bin rfl rfl rfl) rfl ?_
      refine tA rfl rfl (tE ?_)
      exact At.again (k + 1) (show k + 1 ≤ _ by omega) (by omega) (Sub.cons rfl (Sub.cons rfl (Sub.cons rfl (Sub.cons rfl (Sub.cons rfl (Sub.cons rfl (Sub.cons (congrArg (fun z => some (Value.int IntKind.i64 z)) (by omega)) Sub.nil))))))) (List.Perm.refl _)
     ·try simp only [hasB, isSizeB, sB] at h10
      obtain rfl : k = (packB U).length := by omega
      rw [show overK l1 512 (packB U) (packB U).length = undoI l1 U from rfl]
      refine At.exitC (At.thenX (At.thenX (At.blkX (At.thenN (At.drop 0 ?_)))))
      simp only [ec0, ecS]
      exact At.meets () trivial (Sub.cons rfl (Sub.cons rfl (Sub.cons rfl (Sub.cons rfl (Sub.cons rfl Sub.nil))))) (by first | exact List.Perm.refl _ | (rw [undoI_no (by assumption)]))
    ·try simp only [hasB, isSizeB, sB] at h9
     refine At.skipC (At.thenN (At.drop 0 ?_))
     simp only [ec0, ecS]
     exact At.meets () trivial (Sub.cons rfl (Sub.cons rfl (Sub.cons rfl (Sub.cons rfl (Sub.cons rfl Sub.nil))))) (by first | exact List.Perm.refl _ | (rw [undoI_no (by assumption)]))
   ·intro _u hs
    obtain ⟨l2, hl2⟩ : ∃ l, l = undoI l1 U := ⟨_, rfl⟩
    rw [← hl2]
    have hl2l : l2.length = (512 * s.1.toNat) := by rw [hl2, undoI_len (by omega)]; exact hml
    refine tR (tV (Val.loadAll (i := 2) Tryd.isAgg23 Tryd.sizeOf23 rfl rfl rfl) rfl ?_)
    refine At.callP (fun w hw => (by have h0 := packSupR_p s.1 s.2.1 s.2.2 w (by omega); rw [packSup_yes hg] at h0; exact h0)) Tryd.call28 rfl rfl (tM rfl rfl (tV (Val.extract rfl rfl) rfl (tV (Val.extract rfl rfl) rfl (At.alloc zero_81 zc_81 rfl (fun b11 => ?_)))))
    refine At.storeAll (i := 0) Tryd.sizeOf81 rfl rfl (lineV_length (by rw [superB_length]; decide)) (by simp [Value.oneCell']) rfl (by simp) ?_
    simp only [sc0, scS]
    refine tA rfl rfl (tE (At.seq (tR (tA rfl rfl (tE (At.block ?_))))))
    skip
    refine At.loop (σ := Nat) (fun k => k ≤ 64 ∧ (bare = true → k = 0)) (fun k => [(1, .pointer (some ⟨b1, 0, none⟩)), (3, .pointer (some ⟨b2, 0, none⟩)), (4, .pointer (some ⟨b3, 0, none⟩)), (5, .pointer (some ⟨b4, 0, none⟩)), (7, v6), (12, .pointer (some ⟨b11, 0, none⟩)), (14, .int .i64 (k : Int))]) (fun k => [blk b11 81 ((supLn s).map bv), rowR v6 5 1 (((supR l2 (supLn s) k)).length) (((supR l2 (supLn s) k)).map bv), blk b4 31 ([.int .i64 s.1, .int .i64 s.2.1, .int .i64 s.2.2, .int .i64 (4 + s.2.1 / 8)]), blk b3 23 ([.int .i64 s.1, .int .i64 s.2.1, .int .i64 s.2.2]), blk b2 31 ([.int .i64 0, .int .i64 0, .int .i64 0, .int .i64 0]), blk b1 27 ([.int .i64 p, .int .i64 i, .int .i64 c, .bool bare, vW, vU])]) (fun k => 64 - k) 0 ⟨Nat.zero_le _, fun _ => rfl⟩ (Sub.cons rfl (Sub.cons rfl (Sub.cons rfl (Sub.cons rfl (Sub.cons rfl (Sub.cons rfl (Sub.cons rfl Sub.nil))))))) (List.Perm.refl _) ?_
    intro k hs
    have hrl : (supR l2 (supLn s) k).length = l2.length := supR_len ..
    have hll : ((supLn s).map bv).length = 64 := by rw [List.length_map, supLn_len]
    refine At.seq (tR (At.weaken [(1, _), (3, _), (4, _), (5, _), (7, _), (12, _), (14, _)] (Sub.cons rfl (Sub.cons rfl (Sub.cons rfl (Sub.cons rfl (Sub.cons rfl (Sub.cons rfl (Sub.cons rfl Sub.nil))))))) ?_))
    refine At.boolMeet 7 88 (decide (k < 64 ∧ bare = false)) ?_ ?_
    ·simp only [List.take_succ_cons, List.take_zero]
     refine tM rfl rfl (tV (Val.bin rfl rfl rfl) rfl (tM rfl rfl ?_))
     refine At.split (t := 84) rfl (fun h12 => ?_) (fun h12 => ?_)
     ·try simp only [hasB, isSizeB, sB] at h12
      refine At.yes rfl rfl (tV (Val.field 3 rfl fo_27_1 rfl) rfl (At.yes rfl rfl (tV (Val.load (i := 5) Tryd.isAgg4 rfl rfl rfl) rfl (At.yes rfl rfl (tV (Val.not rfl) rfl (tV (Val.pickT rfl rfl) rfl (At.nil ?_)))))))
      exact At.boolEnd rfl (by rw [eq_comm]; cases bare <;> simp <;> omega) (by repeat (first | exact Sub.nil | refine Sub.cons rfl ?_))
     ·try simp only [hasB, isSizeB, sB] at h12
      refine At.no rfl rfl rfl rfl (At.no rfl rfl rfl rfl (At.no rfl rfl rfl rfl (tV (Val.pickF rfl rfl) rfl (At.nil ?_))))
      exact At.boolEnd rfl (by rw [eq_comm]; cases bare <;> simp <;> omega) (by repeat (first | exact Sub.nil | refine Sub.cons rfl ?_))
    ·simp only [List.drop_succ_cons, List.drop_zero]
     refine tE ?_
     refine At.cond rfl (fun h13 => ?_) (fun h13 => ?_)
     ·try simp only [hasB, isSizeB, sB] at h13
      obtain ⟨hk, hba⟩ := h13
      obtain ⟨cc, hcc⟩ : ∃ cc, (supLn s)[k]? = some cc := ⟨_, List.getElem?_eq_getElem (by rw [supLn_len]; exact hk)⟩
      have hcd : (supLn s).getD k 0 = cc := by rw [List.getD_eq_getElem?_getD, hcc]; rfl
      refine At.skipC (At.thenN (At.seq (At.block (tR (tM rfl rfl (tM rfl rfl (tM rfl rfl (tV (Val.indexArr k (by omega) Tryd.underlying81 Tryd.sizeOf5 rfl rfl (by omega) (by omega)) rfl ?_))))))))
      refine tV (Val.load (i := 0) (v := bv cc) Tryd.isAgg5 rfl rfl (by rw [List.getElem?_map, hcc]; rfl)) rfl ?_
      refine tV (Val.indexRow (i := 1) (k) (by omega) Tryd.underlying29 Tryd.sizeOf5 rfl rfl rfl (by omega) (by first | omega | (rw [List.length_set]; omega))) rfl ?_
      refine At.storeRowB (i := 1) Tryd.sizeOf5 rfl rfl rfl (by first | omega | (rw [List.length_set]; omega)) ?_
      simp only [sc0, scS]
      refine tE (At.region (tM rfl rfl (tM rfl rfl ?_)))
      first | refine tV (Val.addI rfl rfl (by omega) (by omega)) rfl ?_ | refine tV (Val.bin rfl rfl rfl) rfl ?_
      refine tM rfl rfl (tV (Val.indexArr k (by omega) Tryd.underlying81 Tryd.sizeOf5 rfl rfl (by omega) (by omega)) rfl ?_)
      refine tV (Val.load (i := 0) (v := bv cc) Tryd.isAgg5 rfl rfl (by rw [List.getElem?_map, hcc]; rfl)) rfl ?_
      refine tV (Val.indexRow (i := 1) (64 + k) (by omega) Tryd.underlying29 Tryd.sizeOf5 rfl rfl rfl (by omega) (by first | omega | (rw [List.length_set]; omega))) rfl ?_
      refine At.storeRowB (i := 1) Tryd.sizeOf5 rfl rfl rfl (by first | omega | (rw [List.length_set]; omega)) ?_
      simp only [sc0, scS]
      refine At.nil (At.blkN (At.thenN (At.region (tM rfl rfl ?_))))
      first | refine tV (Val.addI rfl rfl (by omega) (by omega)) rfl ?_ | refine tV (Val.bin rfl rfl rfl) rfl ?_
      refine tA rfl rfl (tE ?_)
      exact At.again (k + 1) ⟨(by omega), fun hb9 => by rw [hb9] at hba; exact absurd hba (by decide)⟩ (by omega) (Sub.cons rfl (Sub.cons rfl (Sub.cons rfl (Sub.cons rfl (Sub.cons rfl (Sub.cons rfl (Sub.cons (congrArg (fun z => some (Value.int IntKind.i64 z)) (by omega)) Sub.nil))))))) (by rw [supR_succ, hcd])
     ·try simp only [hasB, isSizeB, sB] at h13
      have hex := h13
      refine At.exitC (At.thenX (At.thenX (At.blkX (At.thenN (At.seq ?_)))))
      have hfin : supR l2 (supLn s) k = imgE s bare W U := by
        have hl1' := hl1
        subst hl1'
        subst hl2
        unfold imgE
        cases hb9 : bare with
        | true => rw [if_pos rfl, hs.2 hb9]; rfl
        | false => rw [if_neg (by decide), show k = 64 from Classical.byContradiction fun g => hex ⟨by omega, hb9⟩]
      rw [hfin]
      refine At.tail 3 rfl (by decide +kernel) ?_
      simp only [List.take_succ_cons, List.take_zero, List.drop_succ_cons, List.drop_zero]
      refine qM rfl rfl (qV (Val.loadAll (i := 2) Tryd.isAgg31 Tryd.sizeOf31 rfl rfl rfl) rfl (qV (Val.assign rfl) rfl (QAt.fin (At.storeAll (i := 4) Tryd.sizeOf31 rfl rfl rfl (by simp [Value.oneCell']) rfl rfl ?_))))
      simp only [sc0, scS]
      refine tE (At.retC (At.ret2 (.inl rfl) rfl rfl rfl (ResOf.all (i := 4) Tryd.isAgg31 Tryd.sizeOf31 rfl rfl rfl) (fun w hw => ?_)))
      subst hsS
      exact ⟨_, rfl, (hw.drop (List.singleton_sublist.2 (List.mem_of_getElem? (i := 1) rfl))).f0⟩
end Go.Proofs.YtfchinibjhcejaaDoor
namespace Go.Proofs.YtfchinibjhcejaaDoor
open Go Go.Wk
def twA (i n : Int) : Int := 2048 + 64 * (n % (3 * i) / 3) + 8 * (n % (3 * i) % 3)
theorem twA_ok {i : Int} (h : 0 < i) (n : Int) : TW (twA i n) i := by
  have h1 := Int.emod_nonneg n (show 3 * i ≠ 0 by omega)
  have h2 := Int.emod_lt_of_pos n (show 0 < 3 * i by omega)
  unfold TW twA
  generalize n % (3 * i) = z at *
  omega
def chF (i : Int) (acc : List (Int × BitVec 64)) (t : Int × BitVec 64) : List (Int × BitVec 64) := if acc.length < 8 ∧ ∀ q ∈ acc, q.1 ≠ twA i t.1 then acc ++ [(twA i t.1, t.2)] else acc
def chL0 (i : Int) (T : List (Int × BitVec 64)) : List (Int × BitVec 64) := T.foldl (chF i) []
def chL (i : Int) (T : List (Int × BitVec 64)) : List (Int × BitVec 64) := if (chL0 i T).length = 0 then [(2056, 7)] else chL0 i T
theorem chL0_snoc {i : Int} {T : List (Int × BitVec 64)} {k : Nat} {t : Int × BitVec 64} (h : T[k]? = some t) : chL0 i (T.take (k + 1)) = chF i (chL0 i (T.take k)) t := by unfold chL0; rw [List.take_succ_of_get h, List.foldl_append]; rfl
theorem chF_full {i : Int} {acc : List (Int × BitVec 64)} (h : 8 ≤ acc.length) : ∀ T : List (Int × BitVec 64), T.foldl (chF i) acc = acc
  | [] => rfl
  | t :: T => by
    show T.foldl (chF i) (chF i acc t) = acc
    rw [show chF i acc t = acc from if_neg (fun g => by omega)]
    exact chF_full h T
theorem chL0_end {i : Int} {T : List (Int × BitVec 64)} {k : Nat} (h : 8 ≤ (chL0 i (T.take k)).length) : chL0 i T = chL0 i (T.take k) := by
  conv => lhs; rw [← List.take_append_drop k T]
  unfold chL0 at *
  rw [List.foldl_append, chF_full h]
theorem chF_inv {i : Int} (hi : 0 < i) {acc : List (Int × BitVec 64)} (h : acc.length ≤ 8 ∧ PlK i acc acc.length) (t : Int × BitVec 64) : (chF i acc t).length ≤ 8 ∧ PlK i (chF i acc t) (chF i acc t).length := by
  unfold chF
  split
  · rename_i hc
    refine ⟨by rw [List.length_append, List.length_singleton]; omega, fun j q hj hq => ?_⟩
    rw [List.length_append, List.length_singleton] at hj
    rcases Nat.lt_or_ge j acc.length with g | g
    · rw [List.getElem?_append_left g] at hq
      rw [List.take_append_of_le_length (Nat.le_of_lt g)]
      exact h.2 j q g hq
    · obtain rfl : j = acc.length := by omega
      rw [List.getElem?_append_right (Nat.le_refl _), Nat.sub_self] at hq
      obtain rfl := Option.some.inj hq
      rw [List.take_append_of_le_length (Nat.le_refl _), List.take_length]
      refine ⟨twA_ok hi t.1, fun hm => ?_⟩
      obtain ⟨c, hcm, hce⟩ := List.mem_map.1 hm
      exact hc.2 c hcm hce
  · exact h
theorem chL0_ok {i : Int} (hi : 0 < i) (T : List (Int × BitVec 64)) : (chL0 i T).length ≤ 8 ∧ PlK i (chL0 i T) (chL0 i T).length := by
  unfold chL0
  have key : ∀ (T acc : List (Int × BitVec 64)), (acc.length ≤ 8 ∧ PlK i acc acc.length) → (T.foldl (chF i) acc).length ≤ 8 ∧ PlK i (T.foldl (chF i) acc) (T.foldl (chF i) acc).length := by
    intro T
    induction T with
    | nil => intro acc h; exact h
    | cons t T ih => intro acc h; exact ih _ (chF_inv hi h t)
  exact key T [] ⟨Nat.zero_le _, fun j q hj _ => absurd hj (Nat.not_lt_zero _)⟩
theorem chL_ok {i : Int} (hi : 0 < i) (T : List (Int × BitVec 64)) : 1 ≤ (chL i T).length ∧ (chL i T).length ≤ 8 ∧ PlK i (chL i T) (chL i T).length := by
  obtain ⟨h1, h2⟩ := chL0_ok hi T
  unfold chL
  split
  · refine ⟨Nat.le_refl _, by decide, fun j q hj hq => ?_⟩
    match j, hj, hq with
    | 0, _, hq => (obtain rfl := Option.some.inj hq; exact ⟨by unfold TW; omega, fun h => by cases h⟩)
  · exact ⟨by omega, h1, h2⟩
theorem has_snoc {L : List (Int × BitVec 64)} {k : Nat} {q : Int × BitVec 64} {a : Int} (h : L[k]? = some q) : hasAt (L.take (k + 1)) a = (hasAt (L.take k) a || (q.1 == a)) := by
  unfold hasAt
  rw [List.take_succ_of_get h, List.any_append]
  simp
theorem has_no {L : List (Int × BitVec 64)} {a : Int} : hasAt L a = false ↔ ∀ q ∈ L, q.1 ≠ a := by
  unfold hasAt
  rw [List.any_eq_false]
  constructor
  · intro h q hq e; exact h q hq (by simpa using e)
  · intro h q hq e; exact h q hq (by simpa using e)
theorem em_tm {c n : Int} (hn : 0 < n) : c % n = if c.tmod n < 0 then c.tmod n + n else c.tmod n := by
  have h1 := Int.mul_tdiv_add_tmod c n
  have h2 := Int.lt_tmod_of_pos c hn
  have h3 := Int.tmod_lt_of_pos c hn
  have h4 : c % n = c.tmod n % n := by
    conv => lhs; rw [← h1, Int.add_comm, Int.add_mul_emod_self_left]
  rw [h4]
  split
  · rw [← Int.add_emod_right, Int.emod_eq_of_lt (by omega) (by omega)]
  · exact Int.emod_eq_of_lt (by omega) h3
def inT (W : List (Int × BitVec 64)) : List (Int × BitVec 64) := W.filter fun q => decide (1024 ≤ q.1)
theorem inT_snoc {W : List (Int × BitVec 64)} {k : Nat} {q : Int × BitVec 64} (h : W[k]? = some q) : inT (W.take (k + 1)) = inT (W.take k) ++ (if 1024 ≤ q.1 then [q] else []) := by
  unfold inT
  rw [List.take_succ_of_get h, List.filter_append, List.filter_cons]
  by_cases hq : 1024 ≤ q.1
  · simp [hq]
  · simp [hq]
theorem inT_le (W : List (Int × BitVec 64)) : (inT W).length ≤ W.length := List.length_filter_le ..
theorem restJ_p (c n : Int) (w : World) (hn : 0 < n ∧ n ≤ 1000000000) :
    PureC Tryd.prog 6 [.int .i64 c, .int .i64 n] (.int .i64 (c % n)) w := by
 refine enter0 Tryd.func6 rfl Tryd.ntmps6 rfl ?_
 simp only [envOf]
 refine tR (tA rfl rfl (tE (tR (tM rfl rfl (tM rfl rfl (tV (Val.rem rfl rfl (by omega)) rfl ?_))))))
 have hb1 := Int.lt_tmod_of_pos c hn.1
 have hb2 := Int.tmod_lt_of_pos c hn.1
 have hem := em_tm (c := c) hn.1
 refine tA rfl rfl (tE (At.seq (tR (tM rfl rfl (tV (Val.bin rfl rfl rfl) rfl (tE ?_))))))
 refine At.cond rfl (fun h1 => ?_) (fun h1 => ?_)
 ·try simp only [hasB, isSizeB, sB] at h1
  refine At.region (tM rfl rfl (tM rfl rfl (tV (Val.addI rfl rfl (by omega) (by omega)) rfl (tA rfl rfl (tE (tR (tM rfl rfl (tA rfl rfl (tE (At.retC (At.ret1 (.inl rfl) rfl rfl rfl (fun w hw => ?_))))))))))))
  rw [hem, if_pos (by assumption)]
  exact ⟨rfl, hw.mod⟩
 ·try simp only [hasB, isSizeB, sB] at h1
  refine At.skipC (At.thenN (tR (tM rfl rfl (tA rfl rfl (tE (At.retC (At.ret1 (.inl rfl) rfl rfl rfl (fun w hw => ?_))))))))
  rw [hem, if_neg (by assumption)]
  exact ⟨rfl, hw.mod⟩
end Go.Proofs.YtfchinibjhcejaaDoor
namespace Go.Proofs.YtfchinibjhcejaaDoor
open Go Go.Wk
theorem changesJ_n (v : Value) (T : List (Int × BitVec 64)) (a0 i a2 a3 : Int) (w : World) (hv : RdP w v T) (hT : T.length ≤ 140737488355328) (hi : 0 < i ∧ i ≤ 1000) :
    NewRow Tryd.prog 7 [v, .agg #[.int .i64 a0, .int .i64 i, .int .i64 a2, .int .i64 a3]] 46 2 (chL i T).length (prC (chL i T)) w := by
 refine enter (feet []) [] Tryd.func7 rfl Tryd.ntmps7 rfl ⟨by simp, by simp, by simp, Mod.refl _ _⟩ ?_
 simp only [envOf]
 refine tR (At.box rfl rfl rfl (fun b1 => (tA rfl rfl (tE (tR (tA rfl rfl (At.nil (At.rowNilP 46 (At.thenN (At.seq (tR (tA rfl rfl (tE (At.block ?_))))))))))))))
 skip
 refine At.loop (σ := Nat × Value) (fun s => s.1 ≤ T.length) (fun s => [(0, v), (3, .pointer (some ⟨b1, 0, none⟩)), (5, s.2), (6, .int .i64 (s.1 : Int))]) (fun s => [rowR s.2 46 2 (chL0 i (T.take s.1)).length (prC (chL0 i (T.take s.1))), blk b1 31 ([.int .i64 a0, .int .i64 i, .int .i64 a2, .int .i64 a3])]) (fun s => T.length - s.1) (0, .slice none 0 0) (Nat.zero_le _) (Sub.cons rfl (Sub.cons rfl (Sub.cons rfl (Sub.cons rfl Sub.nil)))) (List.Perm.refl _) ?_
 intro s hs
 obtain ⟨k, vr⟩ := s
 dsimp only at hs ⊢
 have hA := chL0_ok hi.1 (T.take k)
 refine At.seq (tR (tM rfl rfl (tM rfl rfl (tV (Val.lenRd hv Tryd.underlying28 rfl) rfl (tV (Val.bin rfl rfl rfl) rfl (At.weaken [(0, _), (3, _), (5, _), (6, _), (14, _)] (Sub.cons rfl (Sub.cons rfl (Sub.cons rfl (Sub.cons rfl (Sub.cons rfl Sub.nil))))) ?_))))))
 refine At.boolMeet 5 19 (decide (k < T.length ∧ (chL0 i (T.take k)).length < 8)) ?_ ?_
 ·simp only [List.take_succ_cons, List.take_zero]
  refine tM rfl rfl ?_
  refine At.split (t := 15) rfl (fun h2 => ?_) (fun h2 => ?_)
  ·try simp only [hasB, isSizeB, sB] at h2
   refine At.yes rfl rfl (tM rfl rfl (At.yes rfl rfl (tV (Val.lenRow (i := 0) Tryd.underlying24 rfl rfl) rfl (At.yes rfl rfl (tV (Val.bin rfl rfl rfl) rfl (tV (Val.pickT rfl rfl) rfl (At.nil ?_)))))))
   exact At.boolEnd rfl (by apply Bool.eq_iff_iff.2; (simp only [decide_eq_true_eq, Bool.false_eq_true, false_iff, true_iff, gt_iff_lt, ge_iff_le]) <;> omega) (by repeat (first | exact Sub.nil | refine Sub.cons rfl ?_))
  ·try simp only [hasB, isSizeB, sB] at h2
   refine At.no rfl rfl rfl rfl (At.no rfl rfl rfl rfl (At.no rfl rfl rfl rfl (tV (Val.pickF rfl rfl) rfl (At.nil ?_))))
   exact At.boolEnd rfl (by apply Bool.eq_iff_iff.2; (simp only [decide_eq_true_eq, Bool.false_eq_true, false_iff, true_iff, gt_iff_lt, ge_iff_le]) <;> omega) (by repeat (first | exact Sub.nil | refine Sub.cons rfl ?_))
 ·simp only [List.drop_succ_cons, List.drop_zero]
  refine tE ?_
  refine At.cond rfl (fun h3 => ?_) (fun h3 => ?_)
  ·try simp only [hasB, isSizeB, sB] at h3
   obtain ⟨t, ht⟩ : ∃ t, T[k]? = some t := ⟨_, List.getElem?_eq_getElem (by omega)⟩
   refine At.skipC (At.thenN (At.seq (At.block (At.seq (At.quiet rfl (by decide +kernel) (qM rfl rfl (qM rfl rfl (QAt.idxP hv Tryd.underlying28 Tryd.sizeOf40 rfl rfl (by omega) (by omega) rfl rfl (fun bx ox q1 hq1 hc0 hc1 => ?_)))))))))
   rw [Int.toNat_natCast] at hq1
   obtain rfl : t = q1 := Option.some.inj (ht.symm.trans hq1)
   refine qV (Val.field ox rfl fo_40_0 rfl) rfl (qV (Val.loadOld Tryd.isAgg3 rfl hc0 (fun h => by simp [feet] at h)) rfl (qV (Val.field 1 rfl fo_31_1 rfl) rfl (qV (Val.load (i := 1) Tryd.isAgg3 rfl rfl rfl) rfl (qV (Val.mulI rfl rfl (by omega) (by omega)) rfl (QAt.callP (fun w hw => restJ_p t.1 (3 * i) w (by omega)) Tryd.call6 rfl rfl (qV (Val.assign rfl) rfl (QAt.fin (At.thenN (At.seq ?_)))))))))
   obtain ⟨z, hz⟩ : ∃ z, z = t.1 % (3 * i) := ⟨_, rfl⟩
   have hz0 := Int.emod_nonneg t.1 (show 3 * i ≠ 0 by omega)
   have hz1 := Int.emod_lt_of_pos t.1 (show 0 < 3 * i by omega)
   rw [← hz] at hz0 hz1
   rw [← hz]
   refine At.region (tM rfl rfl (tV (Val.quoI rfl rfl (by omega) (by omega) (by decide)) rfl (tV (Val.mulI rfl rfl (by omega) (by omega)) rfl (tV (Val.addI rfl rfl (by omega) (by omega)) rfl (tM rfl rfl (tV (Val.remI rfl rfl (by omega) (by omega)) rfl (tV (Val.mulI rfl rfl (by omega) (by omega)) rfl (tV (Val.addI rfl rfl (by omega) (by omega)) rfl (tA rfl rfl (At.nil ?_))))))))))
   rw [show 2048 + 64 * (z / 3) + 8 * (z % 3) = twA i t.1 from by unfold twA; rw [hz]]
   refine At.thenN (tR (tA rfl rfl (tE (At.seq (tR (tA rfl rfl (tE (At.block ?_))))))))
   skip
   refine At.loop (σ := Nat) (fun m => m ≤ (chL0 i (T.take k)).length) (fun m => [(0, v), (3, .pointer (some ⟨b1, 0, none⟩)), (5, vr), (6, .int .i64 (k : Int)), (8, .int .i64 (twA i t.1)), (9, .bool (hasAt ((chL0 i (T.take k)).take m) (twA i t.1))), (10, .int .i64 (m : Int))]) (fun m => [rowR vr 46 2 (((chL0 i (T.take k))).length) (prC ((chL0 i (T.take k)))), blk b1 31 ([.int .i64 a0, .int .i64 i, .int .i64 a2, .int .i64 a3])]) (fun m => (chL0 i (T.take k)).length - m) 0 (Nat.zero_le _) (Sub.cons rfl (Sub.cons rfl (Sub.cons rfl (Sub.cons rfl (Sub.cons rfl (Sub.cons (by rw [List.take_zero]; rfl) (Sub.cons rfl Sub.nil))))))) (List.Perm.refl _) ?_
   intro m hm
   refine At.seq (tR (tM rfl rfl (tM rfl rfl (tV (Val.lenRow (i := 0) Tryd.underlying24 rfl rfl) rfl (tV (Val.bin rfl rfl rfl) rfl (tE ?_))))))
   refine At.cond rfl (fun h4 => ?_) (fun h4 => ?_)
   ·try simp only [hasB, isSizeB, sB] at h4
    obtain ⟨c, hc⟩ : ∃ c, (chL0 i (T.take k))[m]? = some c := ⟨_, List.getElem?_eq_getElem (by omega)⟩
    refine At.skipC (At.thenN (At.seq (At.block (At.region (tM rfl rfl (tM rfl rfl ?_))))))
    refine At.split (t := 46) rfl (fun h5 => ?_) (fun h5 => ?_)
    ·try simp only [hasB, isSizeB, sB] at h5
     refine At.no rfl rfl rfl rfl (At.no rfl rfl rfl rfl (At.no rfl rfl rfl rfl (At.no rfl rfl rfl rfl (At.no rfl rfl rfl rfl (At.no rfl rfl rfl rfl (At.no rfl rfl rfl rfl (tV (Val.pickT rfl rfl) rfl (tA rfl rfl (At.nil (At.blkN (At.thenN (At.region (tM rfl rfl ?_)))))))))))))
     first | refine tV (Val.addI rfl rfl (by omega) (by omega)) rfl ?_ | refine tV (Val.bin rfl rfl rfl) rfl ?_
     refine tA rfl rfl (tE ?_)
     exact At.again (m + 1) (show m + 1 ≤ _ by omega) (by omega) (Sub.cons rfl (Sub.cons rfl (Sub.cons rfl (Sub.cons rfl (Sub.cons rfl (Sub.cons (congrArg (fun t => some (Value.bool t)) (by rw [has_snoc hc]; simp_all)) (Sub.cons (congrArg (fun z => some (Value.int IntKind.i64 z)) (by omega)) Sub.nil))))))) (List.Perm.refl _)
    ·try simp only [hasB, isSizeB, sB] at h5
     refine At.yes rfl rfl (tM rfl rfl (At.yes rfl rfl (tM rfl rfl (At.yes rfl rfl (tV (Val.indexRow (i := 0) (m * 2) (by omega) Tryd.underlying24 Tryd.sizeOf46 rfl rfl rfl (by omega) (by omega)) rfl (At.yes rfl rfl (tV (Val.field ((m * 2 + 0)) rfl fo_46_0 rfl) rfl (At.yes rfl rfl (tV (Val.loadRow (u := .int .i64 c.1) (i := 0) Tryd.isAgg3 rfl rfl (prC_at hc).1) rfl (At.yes rfl rfl (tM rfl rfl (At.yes rfl rfl (tV (Val.bin rfl rfl rfl) rfl (tV (Val.pickF rfl rfl) rfl (tA rfl rfl (At.nil (At.blkN (At.thenN (At.region (tM rfl rfl ?_))))))))))))))))))))
     first | refine tV (Val.addI rfl rfl (by omega) (by omega)) rfl ?_ | refine tV (Val.bin rfl rfl rfl) rfl ?_
     refine tA rfl rfl (tE ?_)
     exact At.again (m + 1) (show m + 1 ≤ _ by omega) (by omega) (Sub.cons rfl (Sub.cons rfl (Sub.cons rfl (Sub.cons rfl (Sub.cons rfl (Sub.cons (congrArg (fun t => some (Value.bool t)) (by rw [has_snoc hc]; simp_all)) (Sub.cons (congrArg (fun z => some (Value.int IntKind.i64 z)) (by omega)) Sub.nil))))))) (List.Perm.refl _)
   ·try simp only [hasB, isSizeB, sB] at h4
    obtain rfl : m = (chL0 i (T.take k)).length := by omega
    refine At.exitC (At.thenX (At.thenX (At.blkX (At.thenN (tR (tM rfl rfl (tV (Val.not rfl) rfl (tE ?_))))))))
    refine At.cond rfl (fun h6 => ?_) (fun h6 => ?_)
    ·try simp only [hasB, isSizeB, sB] at h6
     have hno := h6
     refine At.region (tM rfl rfl (tM rfl rfl (tM rfl rfl (tM rfl rfl (At.idxP hv Tryd.underlying28 Tryd.sizeOf40 rfl rfl (by omega) (by omega) rfl rfl (fun bx ox q1 hq1 hc0 hc1 => ?_))))))
     rw [Int.toNat_natCast] at hq1
     obtain rfl : t = q1 := Option.some.inj (ht.symm.trans hq1)
     refine tV (Val.field (ox + 1) rfl fo_40_1 rfl) rfl (tV (Val.loadOld Tryd.isAgg38 rfl hc1 (fun h => by simp [feet] at h)) rfl ?_)
     refine tV (Val.build (fun a ha => by simp only [List.map_toArray, List.map_cons, List.map_nil, ha.eval (x := (.tmp 58)) rfl, ha.eval (x := (.tmp 63)) rfl] <;> rfl) (bld_46_0_1 _ _ )) rfl (At.buildSl (fun a ha => by simp only [List.map_toArray, List.map_cons, List.map_nil, ha.eval (x := (.tmp 64)) rfl]; try rfl) (bs_24_1 _ _ ) rfl (fun b7 => (At.appendP1 (i := 1) (j := 0) (by_ := 16) Tryd.underlying24 info_46 rfl rfl rfl rfl rfl rfl rfl rfl (by omega) (by omega) rfl (fun v8 => ?_))))
     simp only [sc0, scS]
     refine At.drop 0 ?_
     simp only [ec0, ecS]
     refine tA rfl rfl (At.nil (At.blkN (At.thenN (At.region (tM rfl rfl ?_)))))
     first | refine tV (Val.addI rfl rfl (by omega) (by omega)) rfl ?_ | refine tV (Val.bin rfl rfl rfl) rfl ?_
     refine tA rfl rfl (tE ?_)
     exact At.again (k + 1, v8) (show k + 1 ≤ _ by omega) (by dsimp only; omega) (Sub.cons rfl (Sub.cons rfl (Sub.cons rfl (Sub.cons (congrArg (fun z => some (Value.int IntKind.i64 z)) (by omega)) Sub.nil)))) (by dsimp only; rw [chL0_snoc ht, show chF i (chL0 i (T.take k)) t = (chL0 i (T.take k)) ++ [(twA i t.1, t.2)] from if_pos ⟨by omega, has_no.1 (by rw [List.take_of_length_le (by omega)] at hno; exact hno)⟩])
    ·try simp only [hasB, isSizeB, sB] at h6
     have hno := h6
     refine At.skipC (At.blkN (At.thenN (At.region (tM rfl rfl ?_))))
     first | refine tV (Val.addI rfl rfl (by omega) (by omega)) rfl ?_ | refine tV (Val.bin rfl rfl rfl) rfl ?_
     refine tA rfl rfl (tE ?_)
     exact At.again (k + 1, vr) (show k + 1 ≤ _ by omega) (by dsimp only; omega) (Sub.cons rfl (Sub.cons rfl (Sub.cons rfl (Sub.cons (congrArg (fun z => some (Value.int IntKind.i64 z)) (by omega)) Sub.nil)))) (by dsimp only; rw [chL0_snoc ht, show chF i (chL0 i (T.take k)) t = (chL0 i (T.take k)) from if_neg (fun g => by rw [List.take_of_length_le (by omega)] at hno; rw [has_no.2 g.2] at hno; cases hno)])
  ·try simp only [hasB, isSizeB, sB] at h3
   have hend : (chL0 i (T.take k)) = chL0 i T := by
     rcases Nat.lt_or_ge k T.length with h9 | h9
     · exact (chL0_end (by omega)).symm
     · rw [List.take_of_length_le h9]
   refine At.exitC (At.thenX (At.thenX (At.blkX (At.thenN (At.seq (At.seq ?_))))))
   rw [hend]
   refine At.region (tM rfl rfl (tV (Val.lenRow (i := 0) Tryd.underlying24 rfl rfl) rfl (tV (Val.bin rfl rfl rfl) rfl (tE ?_))))
   refine At.cond rfl (fun h9 => ?_) (fun h9 => ?_)
   ·try simp only [hasB, isSizeB, sB] at h9
    refine At.region (tM rfl rfl ?_)
    refine tV (Val.build (fun a ha => by simp only [List.map_toArray, List.map_cons, List.map_nil, ha.eval (x := (.const (.int .i64 (2056)))) rfl, ha.eval (x := (.const (.int .u64 (7)))) rfl] <;> rfl) (bld_46_0_1 _ _ )) rfl (At.buildSl (fun a ha => by simp only [List.map_toArray, List.map_cons, List.map_nil, ha.eval (x := (.tmp 71)) rfl]; try rfl) (bs_24_1 _ _ ) rfl (fun b10 => (At.appendP1 (i := 1) (j := 0) (a := 2056) (w' := 7) (by_ := 16) Tryd.underlying24 info_46 rfl rfl rfl rfl rfl rfl rfl rfl (by omega) (by omega) rfl (fun v11 => ?_))))
    simp only [sc0, scS]
    refine At.drop 0 ?_
    simp only [ec0, ecS]
    refine tA rfl rfl (tE (tR (tM rfl rfl (tA rfl rfl (tE (At.retC (At.ret1 (.inl rfl) rfl rfl rfl (fun w hw => ?_))))))))
    have e : chL i T = chL0 i T ++ [((2056 : Int), (7 : BitVec 64))] := by unfold chL; rw [if_pos (by omega), List.eq_nil_of_length_eq_zero (l := chL0 i T) (by omega)]; rfl
    rw [e]
    exact ⟨_, rfl, (hw.drop (List.singleton_sublist.2 (List.mem_of_getElem? (i := 0) rfl)))⟩
   ·try simp only [hasB, isSizeB, sB] at h9
    refine At.skipC (At.thenN (tR (tM rfl rfl (tA rfl rfl (tE (At.retC (At.ret1 (.inl rfl) rfl rfl rfl (fun w hw => ?_))))))))
    have e : chL i T = chL0 i T := if_neg (by omega)
    rw [e]
    exact ⟨_, rfl, (hw.drop (List.singleton_sublist.2 (List.mem_of_getElem? (i := 0) rfl)))⟩
end Go.Proofs.YtfchinibjhcejaaDoor
namespace Go.Proofs.YtfchinibjhcejaaDoor
open Go Go.Wk
def devE (l : List UInt8) (m : Int) : Ds := if m < 0 then loadD l else armD (loadD l) m.toNat
theorem bld_27_0_2 (p i c : Int) (A : Option Addr) (n k : Nat) (w : World) : (Instr.build 27 #[(0, .agg #[.int .i64 p, .int .i64 i, .int .i64 c]), (2, .slice A n k)]).run Tryd.prog w = .ok (.agg #[.int .i64 p, .int .i64 i, .int .i64 c, .bool false, .slice A n k, .slice none 0 0]) w := by kernel_rfl
theorem dead_load (l : List UInt8) : deadB (loadD l) = false := rfl
theorem inTable_n (v : Value) (W : List (Int × BitVec 64)) (w : World) (hv : RdP w v W) (hW : W.length ≤ 8796093022208) :
    NewRow Tryd.prog 11 [v] 46 2 (inT W).length (prC (inT W)) w := by
 refine enter (feet []) [] Tryd.func11 rfl Tryd.ntmps11 rfl ⟨by simp, by simp, by simp, Mod.refl _ _⟩ ?_
 simp only [envOf]
 refine tR (tA rfl rfl (tE (tR (tA rfl rfl (At.nil (At.rowNilP 46 (At.thenN (At.seq (tR (tA rfl rfl (tE (At.block ?_))))))))))))
 skip
 refine At.loop (σ := Nat × Value) (fun s => s.1 ≤ W.length) (fun s => [(0, v), (3, s.2), (4, .int .i64 (s.1 : Int))]) (fun s => [rowR s.2 46 2 (inT (W.take s.1)).length (prC (inT (W.take s.1)))]) (fun s => W.length - s.1) (0, .slice none 0 0) (Nat.zero_le _) (Sub.cons rfl (Sub.cons rfl (Sub.cons rfl Sub.nil))) (List.Perm.refl _) ?_
 intro s hs
 obtain ⟨k, vr⟩ := s
 dsimp only at hs ⊢
 refine At.seq (tR (tM rfl rfl (tM rfl rfl (tV (Val.lenRd hv Tryd.underlying24 rfl) rfl (tV (Val.bin rfl rfl rfl) rfl (tE ?_))))))
 refine At.cond rfl (fun h1 => ?_) (fun h1 => ?_)
 ·try simp only [hasB, isSizeB, sB] at h1
  obtain ⟨q, hq⟩ : ∃ q, W[k]? = some q := ⟨_, List.getElem?_eq_getElem (by omega)⟩
  have hil := inT_le (W.take k)
  rw [List.length_take] at hil
  refine At.skipC (At.thenN (At.seq (At.block (tR (tM rfl rfl (tM rfl rfl (At.idxP hv Tryd.underlying24 Tryd.sizeOf46 rfl rfl (by omega) (by omega) rfl rfl (fun bx ox q1 hq1 hc0 hc1 => ?_))))))))
  rw [Int.toNat_natCast] at hq1
  obtain rfl : q = q1 := Option.some.inj (hq.symm.trans hq1)
  refine tV (Val.field ox rfl fo_46_0 rfl) rfl (tV (Val.loadOld Tryd.isAgg3 rfl hc0 (fun h => by simp [feet] at h)) rfl (tV (Val.bin rfl rfl rfl) rfl (tE ?_)))
  refine At.cond rfl (fun h2 => ?_) (fun h2 => ?_)
  ·try simp only [hasB, isSizeB, sB] at h2
   have h16 := h2
   refine At.region (tM rfl rfl (tM rfl rfl (tM rfl rfl (At.idxP hv Tryd.underlying24 Tryd.sizeOf46 rfl rfl (by omega) (by omega) rfl rfl (fun bx ox q1 hq1 hc0 hc1 => ?_)))))
   rw [Int.toNat_natCast] at hq1
   obtain rfl : q = q1 := Option.some.inj (hq.symm.trans hq1)
   refine tV (Val.loadPair Tryd.isAgg46 Tryd.sizeOf46 rfl hc0 hc1 (fun h => by simp [feet] at h)) rfl (At.buildSl (fun a ha => by simp only [List.map_toArray, List.map_cons, List.map_nil, ha.eval (x := (.tmp 21)) rfl]; try rfl) (bs_24_1 _ _ ) rfl (fun b3 => (At.appendP1 (i := 1) (j := 0) (by_ := 16) Tryd.underlying24 info_46 rfl rfl rfl rfl rfl rfl rfl rfl (by omega) (by omega) rfl (fun v4 => ?_))))
   simp only [sc0, scS]
   refine At.drop 0 ?_
   simp only [ec0, ecS]
   refine tA rfl rfl (At.nil (At.blkN (At.thenN (At.region (tM rfl rfl ?_)))))
   first | refine tV (Val.addI rfl rfl (by omega) (by omega)) rfl ?_ | refine tV (Val.bin rfl rfl rfl) rfl ?_
   refine tA rfl rfl (tE ?_)
   exact At.again (k + 1, v4) (show k + 1 ≤ _ by omega) (by dsimp only; omega) (Sub.cons rfl (Sub.cons rfl (Sub.cons (congrArg (fun z => some (Value.int IntKind.i64 z)) (by omega)) Sub.nil))) (by dsimp only; rw [inT_snoc hq, if_pos (by omega)])
  ·try simp only [hasB, isSizeB, sB] at h2
   have h16 := h2
   refine At.skipC (At.blkN (At.thenN (At.region (tM rfl rfl ?_))))
   first | refine tV (Val.addI rfl rfl (by omega) (by omega)) rfl ?_ | refine tV (Val.bin rfl rfl rfl) rfl ?_
   refine tA rfl rfl (tE ?_)
   exact At.again (k + 1, vr) (show k + 1 ≤ _ by omega) (by dsimp only; omega) (Sub.cons rfl (Sub.cons rfl (Sub.cons (congrArg (fun z => some (Value.int IntKind.i64 z)) (by omega)) Sub.nil))) (by dsimp only; rw [inT_snoc hq, if_neg (by omega), List.append_nil])
 ·try simp only [hasB, isSizeB, sB] at h1
  obtain rfl : k = W.length := by omega
  rw [List.take_length]
  refine At.exitC (At.thenX (At.thenX (At.blkX (At.thenN (tR (tM rfl rfl (tA rfl rfl (tE (At.retC (At.ret1 (.inl rfl) rfl rfl rfl (fun w hw => ?_)))))))))))
  exact ⟨_, rfl, hw⟩
theorem clean_n (p i c : Int) (bare : Bool) (vW vU : Value) (W U : List (Int × BitVec 64)) (w : World) (hvW : RdP w vW W) (hWl : W.length ≤ 8796093022208) (hpb : -9223372036854775808 ≤ p ∧ p ≤ 9223372036854775807) :
    NewRowT Tryd.prog 4 [.agg #[.int .i64 p, .int .i64 i, .int .i64 c, .bool bare, vW, vU]] (fun v => .tuple #[v, .agg #[.int .i64 (supS p i c).1, .int .i64 (supS p i c).2.1, .int .i64 (supS p i c).2.2, .int .i64 (4 + (supS p i c).2.1 / 8)]]) 5 1 (imgE (supS p i c) false (inT W) []).length ((imgE (supS p i c) false (inT W) []).map bv) w := by
 refine enter0 Tryd.func4 rfl Tryd.ntmps4 rfl ?_
 simp only [envOf]
 refine tR (At.box rfl rfl rfl (fun b1 => (tA rfl rfl (At.alloc Tryd.zeroValue31 rfl rfl (fun b2 => (tE (At.seq ?_)))))))
 apply At.any (t := 10)
 · rfl
 refine KAt.pin (fun w hw => hw.drop (List.Sublist.cons _ (List.Sublist.cons_cons _ (List.Sublist.refl _)))) (KAt.take 0 (Val.field 0 rfl fo_27_0 rfl) rfl rfl rfl rfl (fun w hw => hw.drop (List.Sublist.cons _ (List.Sublist.cons_cons _ (List.Sublist.refl _)))) (by decide +kernel) (KAt.take 1 (Val.loadPart (i := 0) Tryd.isAgg23 Tryd.sizeOf23 rfl rfl rfl rfl) rfl rfl rfl rfl (fun w hw => hw.drop (List.Sublist.cons _ (List.Sublist.cons_cons _ (List.Sublist.refl _)))) (by decide +kernel) (KAt.take 2 (Val.field 4 rfl fo_27_2 rfl) rfl rfl rfl rfl (fun w hw => hw.drop (List.Sublist.cons _ (List.Sublist.cons_cons _ (List.Sublist.refl _)))) (by decide +kernel) (KAt.take 3 (Val.load (i := 0) Tryd.isAgg24 rfl rfl rfl) rfl rfl rfl rfl (fun w hw => hw.drop (List.Sublist.cons _ (List.Sublist.cons_cons _ (List.Sublist.refl _)))) (by decide +kernel) (KAt.only 4 rfl (by decide +kernel) (At.callN (fun w hw => inTable_n vW W w (hvW.mod hw.mod) hWl) Tryd.call11 rfl rfl (fun v3 => (At.rowIs (i := 0) rfl (fun A4 c5 hv => ?_)))))))))
 subst hv
 refine At.nil (KAt.go (fun w hw => hw.drop (List.Sublist.cons _ (List.Sublist.cons _ (List.Sublist.cons_cons _ (List.Sublist.refl _))))) ?_)
 refine KAt.take 5 (Val.build (fun a ha => by simp only [List.map_toArray, List.map_cons, List.map_nil, ha.eval (x := (.tmp 5)) rfl, ha.eval (x := (.tmp 8)) rfl] <;> rfl) (bld_27_0_2 _ _ _ _ _ _ )) rfl rfl rfl rfl (fun w hw => hw.drop (List.Sublist.cons _ (List.Sublist.cons _ (List.Sublist.cons_cons _ (List.Sublist.refl _))))) (by decide +kernel) (KAt.only 6 rfl (by decide +kernel) ?_)
 refine At.callNT (g := (fun v => .tuple #[v, .agg #[.int .i64 (supS p i c).1, .int .i64 (supS p i c).2.1, .int .i64 (supS p i c).2.2, .int .i64 (4 + (supS p i c).2.1 / 8)]])) (fun w hw => image_n p i c false _ (.slice none 0 0) (inT W) [] w (row_rd (hw.row (i := 0) rfl) (by decide)) (Rd.nil w 2) (by have := inT_le W; omega) (by decide) hpb) Tryd.call12 rfl rfl (fun v6 => (At.nil (KAt.go (fun w hw => hw.drop (List.Sublist.cons _ (List.Sublist.cons _ (List.Sublist.cons _ (List.Sublist.cons_cons _ (List.Sublist.refl _)))))) (KAt.take 7 (Val.extract rfl rfl) rfl rfl rfl rfl (fun w hw => hw.drop (List.Sublist.cons _ (List.Sublist.cons _ (List.Sublist.cons _ (List.Sublist.cons_cons _ (List.Sublist.refl _)))))) (by decide +kernel) (KAt.take 8 (Val.extract rfl rfl) rfl rfl rfl rfl (fun w hw => hw.drop (List.Sublist.cons _ (List.Sublist.cons _ (List.Sublist.cons _ (List.Sublist.cons_cons _ (List.Sublist.refl _)))))) (by decide +kernel) (KAt.take 9 (Val.assign rfl) rfl rfl rfl rfl (fun w hw => hw.drop (List.Sublist.cons _ (List.Sublist.cons _ (List.Sublist.cons _ (List.Sublist.cons_cons _ (List.Sublist.refl _)))))) (by decide +kernel) (KAt.only 10 rfl (by decide +kernel) (At.storeAll (i := 2) Tryd.sizeOf31 rfl rfl rfl (by simp [Value.oneCell']) rfl rfl ?_))))))))
 simp only [sc0, scS]
 refine At.nil (KAt.goT rfl (KAt.done (by decide +kernel) (At.thenN (At.retC (At.ret2 (.inl rfl) rfl rfl rfl (ResOf.all (i := 2) Tryd.isAgg31 Tryd.sizeOf31 rfl rfl rfl) (fun w hw => ?_))))))
 exact ⟨_, rfl, (hw.drop (List.singleton_sublist.2 (List.mem_of_getElem? (i := 0) rfl))).f0⟩
theorem device_n (v : Value) (l : List UInt8) (m : Int) (w : World) (hv : RdB w v l) (hsz : isSizeB (l.length : Int) = true) (hm : m ≤ 1000000) :
    NewDevB Tryd.prog 5 [v, .int .i64 m] (devE l m) w := by
 refine enter0 Tryd.func5 rfl Tryd.ntmps5 rfl ?_
 simp only [envOf]
 refine tR (tA rfl rfl (tA rfl rfl (tE (tR (tM rfl rfl (At.callND (fun w hw => load_d _ l w (hv.mod hw.mod) hsz) Tryd.call13 rfl rfl (fun p1 y2 => (tM rfl rfl (tV (Val.extract rfl rfl) rfl (tV (Val.extract rfl rfl) rfl (tA rfl rfl (tA rfl rfl (tE (At.seq (tR (tM rfl rfl (tV (Val.eqNil (t := 34) (by kernel_rfl) rfl) rfl (tM rfl rfl (At.yes rfl rfl (tM rfl rfl (At.yes rfl rfl (tV (Val.bin rfl rfl rfl) rfl (tV (Val.pickF rfl rfl) rfl (tE (At.condF rfl (At.skipC (At.thenN (At.seq (tR (tM rfl rfl (tV (Val.bin rfl rfl rfl) rfl (tE ?_))))))))))))))))))))))))))))))))
 refine At.cond rfl (fun h3 => ?_) (fun h3 => ?_)
 ·try simp only [hasB, isSizeB, sB] at h3
  refine tR (tM rfl rfl (tM rfl rfl ?_))
  refine At.callD 0 rfl (fun w hw hr => (by have h0 := arm_d _ _ _ m.toNat w (by omega) (dead_load l) hr; rwa [show ((m.toNat : Nat) : Int) = m from by omega] at h0)) Tryd.call14 rfl rfl (fun y4 => ?_)
  simp only [sc0, scS]
  refine tA rfl rfl (tE (tR (tM rfl rfl (tM rfl rfl (tV (Val.bin rfl rfl rfl) rfl (tA rfl rfl (tA rfl rfl (tE (At.retC (At.thenR (At.ret2 (.inl rfl) rfl rfl rfl rfl (fun w hw => ?_))))))))))))
  rw [show devE l m = armD (loadD l) m.toNat from if_neg (by omega)]
  exact ⟨_, _, rfl, hw.f0⟩
 ·try simp only [hasB, isSizeB, sB] at h3
  refine At.skipC (At.thenN (tR (tM rfl rfl (tA rfl rfl (tA rfl rfl (tE (At.retC (At.ret2 (.inl rfl) rfl rfl rfl rfl (fun w hw => ?_)))))))))
  rw [show devE l m = loadD l from if_pos (by omega)]
  exact ⟨_, _, rfl, hw.f0⟩
end Go.Proofs.YtfchinibjhcejaaDoor
namespace Go.Proofs.YtfchinibjhcejaaDoor
open Go Go.Wk
def undW (L : List (Int × BitVec 64)) : List (BitVec 64) := L.flatMap fun (u : Int × BitVec 64) => [BitVec.ofInt 64 u.1, u.2]
theorem undW_len : ∀ (L : List (Int × BitVec 64)), (undW L).length = 2 * L.length
  | [] => rfl
  | u :: L => by
    show (_ ++ undW L).length = _
    rw [List.length_append, undW_len L]; simp only [List.length_cons, List.length_nil]; omega
theorem wbytes_ext {xs ys : List (BitVec 64)} {j r : Nat} (h : xs[j]? = ys[j]?) (hr : r < 8) : (wbytes xs)[8 * j + r]? = (wbytes ys)[8 * j + r]? := by
  cases hx : xs[j]? with
  | none =>
    have h1 := List.getElem?_eq_none_iff.1 hx
    have h2 := List.getElem?_eq_none_iff.1 (h.symm.trans hx)
    rw [List.getElem?_eq_none (by rw [wbytes_length]; omega), List.getElem?_eq_none (by rw [wbytes_length]; omega)]
  | some x =>
    have e := (wbytes_take hx).trans (wbytes_take (h.symm.trans hx)).symm
    have := congrArg (fun l : List UInt8 => l[r]?) e
    simp only [List.getElem?_take, List.getElem?_drop] at this
    rwa [if_pos hr, if_pos hr] at this
def unF (σ : Ds) (cs : List (Int × BitVec 64)) : List (Int × BitVec 64) := cs.map fun (q : Int × BitVec 64) => (q.1, nowAt σ (q.1 / 8).toNat)
theorem unF_w {σ : Ds} {cs : List (Int × BitVec 64)} (h : cs.map Prod.fst = (ksOf cs).map adF) : undW (unF σ cs) = recW σ (ksOf cs) := by
  unfold undW unF recW ksOf at *
  rw [List.flatMap_map, List.flatMap_map]
  rw [List.map_map] at h
  rw [List.flatMap_def, List.flatMap_def]
  refine congrArg List.flatten (List.map_congr_left fun q hq => ?_)
  have h1 : q.1 = 8 * (((q.1 / 8).toNat : Nat) : Int) := by
    obtain ⟨j, hj⟩ := List.getElem?_of_mem hq
    have := congrArg (fun l : List Int => l[j]?) h
    simp only [List.getElem?_map, hj] at this
    exact Option.some.inj this
  rw [show BitVec.ofInt 64 (8 * (((q.1 / 8).toNat : Nat) : Int)) = BitVec.ofInt 64 q.1 from by rw [← h1]]
def mkC (vs : List (BitVec 64)) : List Wd := vs.map fun v => ⟨v, [], 0⟩
theorem mkC_length (vs : List (BitVec 64)) : (mkC vs).length = vs.length := List.length_map ..
theorem mkC_at {vs : List (BitVec 64)} {j : Nat} {v : BitVec 64} (h : vs[j]? = some v) : (mkC vs)[j]? = some ⟨v, [], 0⟩ := by unfold mkC; rw [List.getElem?_map, h]; rfl
theorem mkC_view (vs : List (BitVec 64)) : viewWs (mkC vs) = vs := by
  unfold viewWs mkC; rw [List.map_map]
  conv => rhs; rw [← List.map_id vs]
  exact List.map_congr_left fun v _ => rfl
def setP (vs : List (BitVec 64)) (P : List (Nat × BitVec 64)) : List (BitVec 64) := P.foldl (fun v c => v.set c.1 c.2) vs
theorem setP_len : ∀ (P : List (Nat × BitVec 64)) (vs : List (BitVec 64)), (setP vs P).length = vs.length
  | [], _ => rfl
  | c :: P, vs => (setP_len P (vs.set c.1 c.2)).trans (List.length_set ..)
theorem setP_out : ∀ (P : List (Nat × BitVec 64)) (vs : List (BitVec 64)) {j : Nat}, j ∉ P.map Prod.fst → (setP vs P)[j]? = vs[j]?
  | [], _, _, _ => rfl
  | c :: P, vs, j, h => by
    rw [List.map_cons, List.mem_cons, not_or] at h
    show (setP (vs.set c.1 c.2) P)[j]? = _
    rw [setP_out P _ h.2, List.getElem?_set_ne (Ne.symm h.1)]
theorem setP_in : ∀ (P : List (Nat × BitVec 64)) (vs : List (BitVec 64)) {j : Nat} {x : BitVec 64}, (P.map Prod.fst).Nodup → (j, x) ∈ P → j < vs.length → (setP vs P)[j]? = some x
  | c :: P, vs, j, x, hn, hm, hj => by
    rw [List.map_cons, List.nodup_cons] at hn
    show (setP (vs.set c.1 c.2) P)[j]? = _
    rcases List.mem_cons.1 hm with e | hm
    · subst e
      rw [setP_out P _ hn.1, List.getElem?_set_self hj]
    · exact setP_in P _ hn.2 hm (by rw [List.length_set]; exact hj)
abbrev Ph := List (Nat × BitVec 64) × List Nat
def phA (p : Ph) : List Ac := p.1.map (fun c => Ac.st c.1 c.2) ++ (p.2.map Ac.fl ++ [.fe])
theorem phA_len (p : Ph) : (phA p).length = p.1.length + p.2.length + 1 := by unfold phA; simp only [List.length_append, List.length_map, List.length_singleton]; omega
structure PhOk (n : Nat) (p : Ph) : Prop where
  nd : (p.1.map Prod.fst).Nodup
  lt : ∀ c ∈ p.1, c.1 < n
  ln : ∀ c ∈ p.1, c.1 / 8 ∈ p.2
  fl : ∀ l ∈ p.2, 8 * l < n
theorem PhOk.ac {n : Nat} {p : Ph} (h : PhOk n p) : ∀ a ∈ phA p, AcOk n a := by
  intro a ha
  unfold phA at ha
  rcases List.mem_append.1 ha with ha | ha
  · obtain ⟨c, hc, rfl⟩ := List.mem_map.1 ha; exact h.lt c hc
  rcases List.mem_append.1 ha with ha | ha
  · obtain ⟨l, hl, rfl⟩ := List.mem_map.1 ha; exact h.fl l hl
  · rw [List.mem_singleton.1 ha]; trivial
theorem stP_out : ∀ (P : List (Nat × BitVec 64)) (σ : Ds) {j : Nat} {w : Wd}, σ.armed = false → j ∉ P.map Prod.fst → σ.ws[j]? = some w → (actsE σ (P.map fun c => Ac.st c.1 c.2)).2.ws[j]? = some w
  | [], σ, j, w, _, _, h => h
  | c :: P, σ, j, w, ha, hj, h => by
    rw [List.map_cons, List.mem_cons, not_or] at hj
    rw [List.map_cons, actsE_live (dead_of ha)]
    have har : (storeD σ c.1 c.2).armed = false := by unfold storeD; split <;> exact ha
    refine stP_out P _ har hj.2 ?_
    show (storeD σ c.1 c.2).ws[j]? = _
    unfold storeD
    cases hk : σ.ws[c.1]? with
    | none => exact h
    | some wk => exact setD_at (σ := stepD σ) h (Ne.symm hj.1)
theorem stP_in : ∀ (P : List (Nat × BitVec 64)) (σ : Ds) {j : Nat} {x : BitVec 64} {w : Wd}, σ.armed = false → (P.map Prod.fst).Nodup → (j, x) ∈ P → σ.ws[j]? = some w → (actsE σ (P.map fun c => Ac.st c.1 c.2)).2.ws[j]? = some (pushW w x)
  | c :: P, σ, j, x, w, ha, hn, hm, h => by
    rw [List.map_cons, List.nodup_cons] at hn
    rw [List.map_cons, actsE_live (dead_of ha)]
    have har : (storeD σ c.1 c.2).armed = false := by unfold storeD; split <;> exact ha
    rcases List.mem_cons.1 hm with e | hm
    · subst e
      refine stP_out P _ har hn.1 ?_
      show (storeD σ j x).ws[j]? = _
      rw [storeD_some h]; exact setD_self (σ := stepD σ) h
    · have hne : c.1 ≠ j := fun e => hn.1 (e ▸ List.mem_map.2 ⟨(j, x), hm, rfl⟩)
      refine stP_in P _ har hn.2 hm ?_
      show (storeD σ c.1 c.2).ws[j]? = _
      unfold storeD
      cases hk : σ.ws[c.1]? with
      | none => exact h
      | some wk => exact setD_at (σ := stepD σ) h hne
theorem flF_at : ∀ (F : List Nat) (τ : Ds) {j : Nat} {w : Wd}, τ.armed = false → τ.ws[j]? = some w → ∃ m, (actsE τ (F.map Ac.fl)).2.ws[j]? = some { w with mark := m } ∧ (m = w.mark ∨ m = w.news.length) ∧ (j / 8 ∈ F → m = w.news.length)
  | [], τ, j, w, _, h => ⟨w.mark, h, .inl rfl, fun h => by cases h⟩
  | l :: F, τ, j, w, ha, h => by
    rw [List.map_cons, actsE_live (dead_of ha)]
    obtain ⟨m, h1, h2, h3⟩ := flushK_at (σ := stepD τ) (f := 8 * l) h 8
    obtain ⟨_, r2, _⟩ := flushK_rest (stepD τ) (8 * l) 8
    obtain ⟨m', g1, g2, g3⟩ := flF_at F (lineD τ l) (r2.trans ha) h1
    refine ⟨m', g1, ?_, fun hm => ?_⟩
    · rcases g2 with g2 | g2
      · by_cases hin : 8 * l ≤ j ∧ j < 8 * l + 8
        · exact .inr (g2.trans (h2 hin.1 hin.2))
        · exact .inl (g2.trans (h3 hin))
      · exact .inr g2
    · by_cases e : j / 8 = l
      · have hm' : m = w.news.length := h2 (by omega) (by omega)
        rcases g2 with g2 | g2
        · exact g2.trans hm'
        · exact g2
      · rcases List.mem_cons.1 hm with e' | hm
        · exact absurd e' e
        · exact g3 hm
theorem phase_full {σ : Ds} {vs : List (BitVec 64)} {p : Ph} (hws : σ.ws = mkC vs) (ha : σ.armed = false) (ok : PhOk vs.length p) :
    (actsE σ (phA p)).1 = 0 ∧ (actsE σ (phA p)).2.ws = mkC (setP vs p.1) ∧ (actsE σ (phA p)).2.armed = false ∧ (actsE σ (phA p)).2.steps = σ.steps + (phA p).length := by
  have hl : σ.ws.length = vs.length := by rw [hws, mkC_length]
  have okA : ∀ a ∈ phA p, AcOk σ.ws.length a := by rw [hl]; exact ok.ac
  obtain ⟨_, _, r3, r4⟩ := actsE_rest _ σ okA
  obtain ⟨r4, r5⟩ := r4 ha
  refine ⟨r4, ?_, r3.trans ha, r5⟩
  have okS : ∀ a ∈ p.1.map (fun c => Ac.st c.1 c.2), AcOk σ.ws.length a := fun a h => okA a (List.mem_append_left _ h)
  obtain ⟨s1, s2, s3, s4⟩ := actsE_rest _ σ okS
  obtain ⟨s4, _⟩ := s4 ha
  have hout := fun (j : Nat) (w : Wd) => stP_out p.1 σ (j := j) (w := w) ha
  have hin := fun (j : Nat) (x : BitVec 64) (w : Wd) => stP_in p.1 σ (j := j) (x := x) (w := w) ha ok.nd
  unfold phA
  rw [actsE_go s4]
  generalize (actsE σ (p.1.map fun c => Ac.st c.1 c.2)).2 = τ at *
  have ht : τ.armed = false := s3.trans ha
  have okF : ∀ a ∈ p.2.map Ac.fl, AcOk τ.ws.length a := fun a h => by rw [s1]; exact okA a (List.mem_append_right _ (List.mem_append_left _ h))
  obtain ⟨q1, q2, q3, q4⟩ := actsE_rest _ τ okF
  obtain ⟨q4, _⟩ := q4 ht
  have hfl := fun (j : Nat) (w : Wd) => flF_at p.2 τ (j := j) (w := w) ht
  rw [actsE_go q4]
  generalize (actsE τ (p.2.map Ac.fl)).2 = υ at *
  rw [actsE_live (dead_of (q3.trans ht))]
  show (fenceD (stepD υ)).ws = _
  apply List.ext_getElem?
  intro j
  rcases Nat.lt_or_ge j vs.length with hj | hj
  · have hv : vs[j]? = some (vs[j]'hj) := List.getElem?_eq_getElem hj
    have h0 : σ.ws[j]? = some ⟨vs[j]'hj, [], 0⟩ := by rw [hws]; exact mkC_at hv
    by_cases hc : j ∈ p.1.map Prod.fst
    · obtain ⟨⟨j', x⟩, hm, e⟩ := List.mem_map.1 hc
      obtain rfl : j' = j := e
      rw [mkC_at (setP_in p.1 vs ok.nd hm hj)]
      obtain ⟨m, g1, _, g3⟩ := hfl j' _ (hin j' x _ hm h0)
      rw [fenceD_at (σ := stepD υ) g1]
      have hm1 : m = 1 := g3 (ok.ln _ hm)
      subst hm1
      exact congrArg some (by simp [fenceW, pushW])
    · rw [mkC_at ((setP_out p.1 vs hc).trans hv)]
      obtain ⟨m, g1, g2, _⟩ := hfl j _ (hout j _ hc h0)
      have hm : m = 0 := by rcases g2 with g | g <;> exact g
      subst hm
      rw [fenceD_at (σ := stepD υ) g1]
      exact congrArg some (if_pos rfl)
  · rw [List.getElem?_eq_none, List.getElem?_eq_none (by rw [mkC_length, setP_len]; exact hj)]
    have : (fenceD (stepD υ)).ws.length = υ.ws.length := by simp [fenceD, stepD]
    omega
def phsA (l : List Ph) : List Ac := (l.map phA).flatten
def setPs (vs : List (BitVec 64)) (l : List Ph) : List (BitVec 64) := l.foldl (fun v p => setP v p.1) vs
theorem phs_full : ∀ (l : List Ph) {σ : Ds} {vs : List (BitVec 64)}, σ.ws = mkC vs → σ.armed = false → (∀ p ∈ l, PhOk vs.length p) → (actsE σ (phsA l)).1 = 0 ∧ (actsE σ (phsA l)).2.ws = mkC (setPs vs l) ∧ (actsE σ (phsA l)).2.armed = false ∧ (actsE σ (phsA l)).2.steps = σ.steps + (phsA l).length
  | [], σ, vs, h, ha, _ => ⟨rfl, h, ha, rfl⟩
  | p :: l, σ, vs, h, ha, ok => by
    obtain ⟨a1, a2, a3, a4⟩ := phase_full h ha (ok p (List.mem_cons_self ..))
    obtain ⟨b1, b2, b3, b4⟩ := phs_full l (σ := (actsE σ (phA p)).2) a2 a3 (fun q hq => by rw [setP_len]; exact ok q (List.mem_cons_of_mem _ hq))
    have e : phsA (p :: l) = phA p ++ phsA l := rfl
    rw [e, actsE_go a1]
    exact ⟨b1, b2, b3, by rw [b4, a4, List.length_append]; omega⟩
theorem num_app {a b : List UInt8} {n x p : Nat} (ha : a.length = p) (hx : x < 256 ^ n) : num (a ++ (le n x ++ b)) p n = x := by
  unfold num
  rw [← ha, List.drop_left, List.take_left' (le_length n x), fromLe_le n x hx]
theorem super_num {p i c : Nat} (hp : p < 256 ^ 4) (hi : i < 256 ^ 4) (hc : c < 256 ^ 4) : num (lineL (superB p i c)) 8 4 = p ∧ num (lineL (superB p i c)) 12 4 = i ∧ num (lineL (superB p i c)) 16 4 = c := by
  rw [lineL_row (by rw [superB_length]; decide)]
  generalize le 4 (sumOn 0 (superB p i c ++ zs (60 - (superB p i c).length))).toNat = s4
  generalize zs (60 - (superB p i c).length) = z
  refine ⟨?_, ?_, ?_⟩
  · exact Eq.trans (congrArg (fun l => num l 8 4) (by simp only [superB, List.append_assoc])) (num_app (a := [70, 85, 82, 82, 79, 87, 48, 49]) (b := le 4 i ++ (le 4 c ++ (z ++ s4))) (p := 8) rfl hp)
  · exact Eq.trans (congrArg (fun l => num l 12 4) (by simp only [superB, List.append_assoc])) (num_app (a := [70, 85, 82, 82, 79, 87, 48, 49] ++ le 4 p) (b := le 4 c ++ (z ++ s4)) (p := 12) (by simp [le_length]) hi)
  · exact Eq.trans (congrArg (fun l => num l 16 4) (by simp only [superB, List.append_assoc])) (num_app (a := [70, 85, 82, 82, 79, 87, 48, 49] ++ le 4 p ++ le 4 i) (b := z ++ s4) (p := 16) (by simp [le_length]) hc)
theorem super_ok {p i c : Int} (hg : GoodSup p i c) : OkSup (lineL (superB p.toNat i.toNat c.toNat)) ∧ ((num (lineL (superB p.toNat i.toNat c.toNat)) 8 4 : Nat) : Int) = p ∧ ((num (lineL (superB p.toNat i.toNat c.toNat)) 12 4 : Nat) : Int) = i ∧ ((num (lineL (superB p.toNat i.toNat c.toNat)) 16 4 : Nat) : Int) = c := by
  have hg' := hg
  unfold GoodSup at hg'
  obtain ⟨h1, h2, h3⟩ := super_num (p := p.toNat) (i := i.toNat) (c := c.toNat) (by omega) (by omega) (by omega)
  have e1 : ((num (lineL (superB p.toNat i.toNat c.toNat)) 8 4 : Nat) : Int) = p := by rw [h1]; omega
  have e2 : ((num (lineL (superB p.toNat i.toNat c.toNat)) 12 4 : Nat) : Int) = i := by rw [h2]; omega
  have e3 : ((num (lineL (superB p.toNat i.toNat c.toNat)) 16 4 : Nat) : Int) = c := by rw [h3]; omega
  exact ⟨⟨by rw [e1, e2, e3]; exact hg, by unfold SupLine; rw [h1, h2, h3]⟩, e1, e2, e3⟩
theorem num_page (l : List UInt8) {a n : Nat} (h : a + n ≤ 512) : num (page l) a n = num l (512 + a) n := by
  unfold num page
  rw [List.drop_take, List.take_take, List.drop_drop, Nat.min_eq_left (by omega)]
theorem wd_page (l : List UInt8) {a : Nat} (h : a + 8 ≤ 512) : wordA (page l) a = wdA l (512 + a) := by unfold wordA wdA; rw [num_page l h]
theorem page_len {l : List UInt8} (h : 1024 ≤ l.length) : (page l).length = 512 := by unfold page; rw [List.length_take, List.length_drop]; omega
theorem und0 {l : List UInt8} (hl : 1024 ≤ l.length) (h : wdA l 512 = 0) : openUnE (page l) = 0 ∧ openUnL (page l) = [] := by
  have h0 : wordA (page l) 0 = 0 := (wd_page l (by decide)).trans h
  have hn : unN (page l) = 0 := by unfold unN; rw [h0]; rfl
  have ok : OkUn (page l) := ⟨page_len hl, by rw [h0]; unfold Sl; exact seal_zero (by decide), .inl hn⟩
  exact ⟨openUnE_yes ok, openUnL_0 ok hn⟩
structure SupIm (l : List UInt8) (s : Int × Int × Int) : Prop where
  g : GoodSup s.1 s.2.1 s.2.2
  len : l.length = 512 * s.1.toNat
  hd : l.take 64 = supLn s
theorem SupIm.sup {l : List UInt8} {s : Int × Int × Int} (h : SupIm l s) : supK l = some 0 ∧ supI l 0 = s.2.1 := by
  obtain ⟨o1, o2, o3, o4⟩ := super_ok h.g
  have hg := h.g
  unfold GoodSup at hg
  have hl := h.len
  have e : lineAt l 0 = supLn s := by unfold lineAt; exact h.hd
  have hk : 128 ≤ l.length ∧ HasSup l 0 := ⟨by omega, by rw [e]; exact o1, by rw [e]; show num (lineL (superB s.1.toNat s.2.1.toNat s.2.2.toNat)) 8 4 * 512 = _; omega⟩
  refine ⟨by unfold supK; rw [if_pos hk], ?_⟩
  unfold supI
  rw [e]; exact o3
theorem SupIm.of {l l' : List UInt8} {s : Int × Int × Int} (h : SupIm l s) (hl : l'.length = l.length) (ht : ∀ i, i < 64 → l'[i]? = l[i]?) : SupIm l' s := ⟨h.g, hl.trans h.len, by
  rw [← h.hd]
  apply List.ext_getElem?
  intro i
  rw [List.getElem?_take, List.getElem?_take]
  split
  · exact ht i (by assumption)
  · rfl⟩
def wds (l : List UInt8) : List (BitVec 64) := wordsL l (l.length / 8)
theorem wds_len (l : List UInt8) : (wds l).length = l.length / 8 := wordsL_length ..
theorem wds_load (l : List UInt8) : (loadD l).ws = mkC (wds l) := by
  show loadWs l = _
  unfold loadWs mkC wds wordsL
  rw [List.map_map]; rfl
theorem wds_bytes {l : List UInt8} (h : l.length % 8 = 0) : wbytes (wds l) = l := by
  apply List.ext_getElem?
  intro i
  rcases Nat.lt_or_ge i l.length with hi | hi
  · have hk : (wds l)[i / 8]? = some (wdA l (8 * (i / 8))) := wordsL_at (by omega)
    have h1 := wbytes_byte hk (b := i % 8) (by omega)
    rw [show 8 * (i / 8) + i % 8 = i by omega] at h1
    rw [h1]
    have e : le8 (wdA l (8 * (i / 8))) = (l.drop (8 * (i / 8))).take 8 := by
      unfold le8
      rw [wdA_nat]
      exact le_num (by omega)
    have h2 := wbytes_take hk
    have h3 := congrArg (fun m : List UInt8 => m[i % 8]?) (h2.trans e)
    simp only [List.getElem?_take, List.getElem?_drop] at h3
    rw [if_pos (by omega), if_pos (by omega), show 8 * (i / 8) + i % 8 = i by omega, h1] at h3
    exact h3
  · rw [List.getElem?_eq_none (by rw [wbytes_length, wds_len]; omega), List.getElem?_eq_none hi]
theorem wdA_wb {xs : List (BitVec 64)} {k : Nat} {x : BitVec 64} (h : xs[k]? = some x) {a : Nat} (ha : a = 8 * k) : wdA (wbytes xs) a = x := by subst ha; exact wbytes_word h
def kU (U : List (Int × BitVec 64)) : List (Nat × BitVec 64) := U.map fun u => ((u.1 / 8).toNat, u.2)
theorem kU_fst (U : List (Int × BitVec 64)) : (kU U).map Prod.fst = ksOf U := by unfold kU ksOf; rw [List.map_map]; rfl
theorem kU_zip (U : List (Int × BitVec 64)) : (ksOf U).zip (U.map Prod.snd) = kU U := by
  unfold ksOf kU
  induction U with
  | nil => rfl
  | cons u U ih => simp only [List.map_cons, List.zip_cons_cons, ih]
theorem pl_nodup {i : Int} {L : List (Int × BitVec 64)} (hp : PlK i L L.length) : ((kU L).map Prod.fst).Nodup := by
  rw [kU_fst]
  unfold ksOf
  rw [List.Nodup, List.pairwise_map]
  rw [List.pairwise_iff_getElem]
  intro a b ha hb hab e
  obtain ⟨t1, n1⟩ := hp b _ hb (List.getElem?_eq_getElem hb)
  obtain ⟨t2, _⟩ := hp a _ ha (List.getElem?_eq_getElem ha)
  unfold TW at t1 t2
  refine n1 (List.mem_map.2 ⟨L[a], List.mem_of_getElem? (i := a) (by rw [List.getElem?_take, if_pos hab, List.getElem?_eq_getElem ha]), by omega⟩)
theorem put8_low {l : List UInt8} {o : Nat} {x : BitVec 64} {i : Nat} (h : i < o) (ho : o ≤ l.length) : (put8 l o x)[i]? = l[i]? := by
  unfold put8 putK
  rw [List.append_assoc, List.getElem?_append_left (by rw [List.length_take]; omega), List.getElem?_take, if_pos h]
theorem wordsI_low : ∀ (W : List (Int × BitVec 64)) {l : List UInt8} {i n : Nat}, (∀ q ∈ W, (n : Int) ≤ q.1) → i < n → (wordsI l W)[i]? = l[i]?
  | [], _, _, _, _, _ => rfl
  | q :: W, l, i, n, h, hi => by
    show (wordsI (layI l q.1 q.2) W)[i]? = _
    rw [wordsI_low W (fun x hx => h x (List.mem_cons_of_mem _ hx)) hi]
    have hq := h q (List.mem_cons_self ..)
    unfold layI
    split
    · rfl
    · exact put8_low (by omega) (by omega)
theorem supR_get (l : List UInt8) {L : List UInt8} (hl : 128 ≤ l.length) (hL : L.length = 64) : ∀ (k i : Nat), k ≤ 64 → (supR l L k)[i]? = if i < k then L[i]? else if 64 ≤ i ∧ i < 64 + k then L[i - 64]? else l[i]?
  | 0, i, _ => by rw [if_neg (Nat.not_lt_zero _), if_neg (by omega)]; rfl
  | k + 1, i, hk => by
    have hlen := supR_len l L k
    have hLk : L[k]? = some (L.getD k 0) := by rw [List.getD_eq_getElem?_getD, List.getElem?_eq_getElem (by omega)]; rfl
    rw [supR_succ]
    by_cases e1 : i = 64 + k
    · subst e1
      rw [List.getElem?_set_self (by rw [List.length_set, hlen]; omega), if_neg (by omega), if_pos (by omega), show 64 + k - 64 = k by omega, hLk]
    · rw [List.getElem?_set_ne (Ne.symm e1)]
      by_cases e2 : i = k
      · subst e2
        rw [List.getElem?_set_self (by rw [hlen]; omega), if_pos (by omega), hLk]
      · rw [List.getElem?_set_ne (Ne.symm e2), supR_get l hl hL k i (by omega)]
        by_cases h1 : i < k
        · rw [if_pos h1, if_pos (show i < k + 1 by omega)]
        · have h3 : ¬ i < k + 1 := by omega
          rw [if_neg h1, if_neg h3]
          by_cases h2 : 64 ≤ i ∧ i < 64 + k
          · rw [if_pos h2, if_pos (show 64 ≤ i ∧ i < 64 + (k + 1) by omega)]
          · rw [if_neg h2, if_neg (show ¬ (64 ≤ i ∧ i < 64 + (k + 1)) by omega)]
theorem img_sup {s : Int × Int × Int} (hg : GoodSup s.1 s.2.1 s.2.2) (W U : List (Int × BitVec 64)) : SupIm (imgE s false W U) s := by
  refine ⟨hg, imgE_len hg false W U, ?_⟩
  unfold GoodSup at hg
  have hu : (undoI (wordsI (zs (512 * s.1.toNat)) W) U).length = 512 * s.1.toNat := by rw [undoI_len (by rw [wordsI_len, zs_length]; omega), wordsI_len, zs_length]
  unfold imgE
  rw [if_neg (by decide)]
  apply List.ext_getElem?
  intro i
  rw [List.getElem?_take]
  split
  · rename_i h
    rw [supR_get _ (by omega) (supLn_len s) 64 i (by decide), if_pos h]
  · rename_i h
    rw [List.getElem?_eq_none (by rw [supLn_len]; omega)]
theorem img_high {s : Int × Int × Int} (hg : GoodSup s.1 s.2.1 s.2.2) (W U : List (Int × BitVec 64)) {i : Nat} (hi : 128 ≤ i) : (imgE s false W U)[i]? = (undoI (wordsI (zs (512 * s.1.toNat)) W) U)[i]? := by
  unfold GoodSup at hg
  have hu : (undoI (wordsI (zs (512 * s.1.toNat)) W) U).length = 512 * s.1.toNat := by rw [undoI_len (by rw [wordsI_len, zs_length]; omega), wordsI_len, zs_length]
  unfold imgE
  rw [if_neg (by decide), supR_get _ (by omega) (supLn_len s) 64 i (by decide), if_neg (by omega), if_neg (by omega)]
theorem num_ext {l m : List UInt8} {a b n : Nat} (h : ∀ i, i < n → l[a + i]? = m[b + i]?) : num l a n = num m b n := by
  unfold num
  congr 1
  apply List.ext_getElem?
  intro i
  rw [List.getElem?_take, List.getElem?_take]
  split
  · rw [List.getElem?_drop, List.getElem?_drop]; exact h i (by assumption)
  · rfl
theorem wdA_ext {l m : List UInt8} {a b : Nat} (h : ∀ i, i < 8 → l[a + i]? = m[b + i]?) : wdA l a = wdA m b := by unfold wdA; rw [num_ext h]
theorem img_0 {s : Int × Int × Int} (hg : GoodSup s.1 s.2.1 s.2.2) {W : List (Int × BitVec 64)} (hW : ∀ q ∈ W, 1024 ≤ q.1) : wdA (imgE s false W []) 512 = 0 := by
  have hg2 := hg
  unfold GoodSup at hg2
  have e : wdA (imgE s false W []) 512 = wdA (zs (512 * s.1.toNat)) 512 := wdA_ext fun i hi => by
    rw [img_high hg W [] (by omega), undoI_no (by rw [packE_F (fun g => absurd g.1 (by decide))]; decide), wordsI_low W (n := 1024) hW (by omega)]
  rw [e]
  have hz : wdA (zs (512 * s.1.toNat)) 512 = wdA (wbytes (List.replicate (64 * s.1.toNat) 0)) 512 := by rw [wbytes_zero]; congr 2; omega
  rw [hz]
  exact wdA_wb (k := 64) (by rw [List.getElem?_replicate, if_pos (by omega)]) rfl
theorem mem_lnK {ks : List Nat} {l : Nat} : l ∈ lnK ks ↔ ∃ k ∈ ks, k / 8 = l := by
  unfold lnK
  rw [List.mem_map]
  constructor
  · rintro ⟨x, hx, rfl⟩
    obtain ⟨k, hk, e⟩ := ((lnL_ok ks).2 x).1 hx
    refine ⟨k, hk, ?_⟩
    unfold lnF at e; omega
  · rintro ⟨k, hk, rfl⟩
    refine ⟨lnF k, ((lnL_ok ks).2 _).2 ⟨k, hk, rfl⟩, ?_⟩
    unfold lnF; omega
abbrev phU (U : List (Int × BitVec 64)) : Ph := (kU U, lnK (ksOf U))
abbrev ph64 (x : BitVec 64) : Ph := ([(64, x)], lnK [64])
theorem chA_ph (U : List (Int × BitVec 64)) : chA (ksOf U) (U.map Prod.snd) = phA (phU U) := by unfold chA phA stlA; rw [kU_zip]
theorem phU_ok {i : Int} {U : List (Int × BitVec 64)} {n : Nat} (hp : PlK i U U.length) (hn : 2048 + 64 * i ≤ 8 * (n : Int)) : PhOk n (phU U) := by
  have hk : ∀ c ∈ kU U, c.1 ∈ ksOf U := fun c hc => by rw [← kU_fst]; exact List.mem_map.2 ⟨c, hc, rfl⟩
  have hlt := ks_lt (n := n) (pl_all hp) hn
  refine ⟨pl_nodup hp, fun c hc => hlt _ (hk c hc), fun c hc => mem_lnK.2 ⟨_, hk c hc, rfl⟩, fun l hl => ?_⟩
  obtain ⟨k, hkm, rfl⟩ := mem_lnK.1 hl
  have := hlt k hkm
  omega
theorem ph64_ok {n : Nat} (x : BitVec 64) (h : 64 < n) : PhOk n (ph64 x) := by
  refine ⟨by simp, fun c hc => ?_, fun c hc => ?_, fun l hl => ?_⟩
  · rw [List.mem_singleton.1 hc]; exact h
  · rw [List.mem_singleton.1 hc]; exact mem_lnK.2 ⟨64, by simp, rfl⟩
  · obtain ⟨k, hk, rfl⟩ := mem_lnK.1 hl
    rw [List.mem_singleton.1 hk]; omega
theorem kU_key {i : Int} {U : List (Int × BitVec 64)} (hp : ∀ q ∈ U, TW q.1 i) {j : Nat} (h : j ∈ (kU U).map Prod.fst) : 256 ≤ j := by
  rw [kU_fst] at h
  obtain ⟨q, hq, rfl⟩ := List.mem_map.1 h
  have := hp q hq
  unfold TW at this; omega
theorem kU_mem {U : List (Int × BitVec 64)} {q : Int × BitVec 64} (h : q ∈ U) : ((q.1 / 8).toNat, q.2) ∈ kU U := List.mem_map.2 ⟨q, h, rfl⟩
theorem plk_addr {i : Int} {U : List (Int × BitVec 64)} {n : Nat} (hp : ∀ q ∈ U, TW q.1 i) (hn : 2048 + 64 * i ≤ 8 * (n : Int)) : ∀ u ∈ U, u.1 = 8 * ((u.1 / 8).toNat : Int) ∧ (u.1 / 8).toNat < n := fun u hu => by
  have := hp u hu
  unfold TW at this; omega
theorem inT_all (W : List (Int × BitVec 64)) : ∀ q ∈ inT W, 1024 ≤ q.1 := fun q hq => by
  have := (List.mem_filter.1 hq).2
  simpa using this
def ixP : Nat → List (BitVec 64) → List (Nat × BitVec 64)
  | _, [] => []
  | k, x :: l => (k, x) :: ixP (k + 1) l
theorem stA_ix : ∀ (l : List (BitVec 64)) (k : Nat), stA k l = (ixP k l).map fun c => Ac.st c.1 c.2
  | [], _ => rfl
  | x :: l, k => by rw [stA, ixP, List.map_cons, stA_ix l]
theorem ixP_len : ∀ (l : List (BitVec 64)) (k : Nat), (ixP k l).length = l.length
  | [], _ => rfl
  | x :: l, k => by rw [ixP, List.length_cons, ixP_len l, List.length_cons]
theorem ixP_mem : ∀ {l : List (BitVec 64)} {k j : Nat} {x : BitVec 64}, (j, x) ∈ ixP k l → k ≤ j ∧ j < k + l.length
  | y :: l, k, j, x, h => by
    rw [ixP] at h
    rw [List.length_cons]
    rcases List.mem_cons.1 h with e | h
    · simp only [Prod.mk.injEq] at e; omega
    · have := ixP_mem h; omega
theorem ixP_nd : ∀ (l : List (BitVec 64)) (k : Nat), ((ixP k l).map Prod.fst).Nodup
  | [], _ => by simp [ixP]
  | x :: l, k => by
    rw [ixP, List.map_cons, List.nodup_cons]
    refine ⟨fun h => ?_, ixP_nd l (k + 1)⟩
    obtain ⟨⟨j, y⟩, hm, e⟩ := List.mem_map.1 h
    have := ixP_mem hm
    simp only at e; omega
def rnF : Nat → Nat → List Nat
  | _, 0 => []
  | l, c + 1 => l :: rnF (l + 1) c
theorem flA_rn : ∀ (c l : Nat), flA l c = (rnF l c).map Ac.fl
  | 0, _ => rfl
  | c + 1, l => by rw [flA, rnF, List.map_cons, flA_rn c]
theorem rnF_len : ∀ (c l : Nat), (rnF l c).length = c
  | 0, _ => rfl
  | c + 1, l => by rw [rnF, List.length_cons, rnF_len c]
theorem rnF_mem : ∀ {c l x : Nat}, x ∈ rnF l c ↔ l ≤ x ∧ x < l + c
  | 0, l, x => by simp only [rnF, List.not_mem_nil, false_iff]; omega
  | c + 1, l, x => by rw [rnF, List.mem_cons, rnF_mem (c := c)]; omega
def sealN (n : Nat) : BitVec 64 := sealW (BitVec.ofInt 64 512) (BitVec.ofInt 32 (n : Int))
def seal65 (W : List (BitVec 64)) : BitVec 64 := sealW (BitVec.ofInt 64 520) (sumOn 0 (wbytes W))
abbrev ph65 (W : List (BitVec 64)) : Ph := (ixP 72 W ++ [(65, seal65 W)], rnF 8 (cntL 512 (64 + 8 * W.length)))
theorem wrA_ph (W : List (BitVec 64)) : wrA W = phA (ph65 W) := by
  unfold wrA wrB phA
  rw [stA_ix, flA_rn, List.map_append, List.append_assoc]; rfl
theorem ph65_ok {W : List (BitVec 64)} {n : Nat} (hW : W.length ≤ 16) (hn : 128 ≤ n) : PhOk n (ph65 W) := by
  have hk : ∀ c ∈ (ph65 W).1, c.1 = 65 ∨ 72 ≤ c.1 ∧ c.1 < 72 + W.length := fun c hc => by
    rcases List.mem_append.1 hc with hc | hc
    · exact .inr (ixP_mem (x := c.2) hc)
    · rw [List.mem_singleton.1 hc]; exact .inl rfl
  refine ⟨?_, fun c hc => by have := hk c hc; omega, fun c hc => ?_, fun l hl => ?_⟩
  · rw [List.map_append, List.nodup_append]
    refine ⟨ixP_nd W 72, by simp, fun a ha b hb e => ?_⟩
    obtain ⟨⟨j, y⟩, hm, e'⟩ := List.mem_map.1 ha
    have := ixP_mem hm
    simp only [List.map_cons, List.map_nil, List.mem_singleton] at hb
    simp only at e'; omega
  · have := hk c hc
    refine rnF_mem.2 ?_
    unfold cntL
    rw [if_neg (by omega)]; omega
  · have := rnF_mem.1 hl
    unfold cntL at this
    rw [if_neg (by omega)] at this; omega
theorem com_ph (σ : Ds) (cs : List (Int × BitVec 64)) : (comL σ (ksOf cs) (cs.map Prod.snd)).flatten = phsA [ph65 (recW σ (ksOf cs)), ph64 (sealN cs.length), phU cs, ph64 0] := by
  unfold comL phsA
  rw [wrA_ph, chA_ph, ksOf_len]; rfl
theorem lnK64 : (lnK [64]).length = 1 := by
  have h1 := lnL_len [64]
  rw [lnK_len]
  have h2 : 8 ∈ lnK [64] := mem_lnK.2 ⟨64, by simp, rfl⟩
  have h3 : 0 < (lnK [64]).length := List.length_pos_of_mem h2
  rw [lnK_len] at h3
  simp only [List.length_singleton] at h1
  omega
theorem ph64_len (x : BitVec 64) : (phA (ph64 x)).length = 3 := by rw [phA_len]; show 1 + (lnK [64]).length + 1 = 3; rw [lnK64]
theorem ph65_len {W : List (BitVec 64)} {n : Nat} (h : W.length = 2 * n) : (phA (ph65 W)).length = 2 * n + (n + 3) / 4 + 3 := by
  rw [phA_len, List.length_append, ixP_len, rnF_len, List.length_singleton]
  unfold cntL
  rw [if_neg (by omega)]; omega
theorem kU_len (U : List (Int × BitVec 64)) : (kU U).length = U.length := List.length_map ..
theorem nowAt_C {σ : Ds} {vs : List (BitVec 64)} (h : σ.ws = mkC vs) {j : Nat} {v : BitVec 64} (hv : vs[j]? = some v) : nowAt σ j = v := by
  rw [nowAt_some (by rw [h]; exact mkC_at hv)]; rfl
section
variable {vs us : List (BitVec 64)} {s : Int × Int × Int}
theorem SupIm.w (h : SupIm (wbytes vs) s) (hl : us.length = vs.length) (hj : ∀ j, j < 8 → us[j]? = vs[j]?) : SupIm (wbytes us) s :=
  h.of (by rw [wbytes_length, wbytes_length, hl]) fun i hi => by
    have := wbytes_ext (j := i / 8) (r := i % 8) (hj (i / 8) (by omega)) (by omega)
    rwa [show 8 * (i / 8) + i % 8 = i by omega] at this
theorem SupIm.wl (h : SupIm (wbytes vs) s) : 24 ≤ s.1 ∧ s.1 ≤ 1024 ∧ 8 ≤ s.2.1 ∧ s.2.1 ≤ 256 ∧ vs.length = 64 * s.1.toNat ∧ 2048 + 64 * s.2.1 ≤ 8 * (vs.length : Int) := by
  have hg := h.g
  unfold GoodSup at hg
  have hl := h.len
  rw [wbytes_length] at hl
  omega
end
def olds0 (vs : List (BitVec 64)) (cs : List (Int × BitVec 64)) : List (Int × BitVec 64) := cs.map fun q => (q.1, vs.getD (q.1 / 8).toNat 0)
theorem olds0_len (vs : List (BitVec 64)) (cs : List (Int × BitVec 64)) : (olds0 vs cs).length = cs.length := List.length_map ..
def pg (j : Nat) : Prop := 64 ≤ j ∧ j < 128
theorem ks_pg {i : Int} {cs : List (Int × BitVec 64)} (hp : ∀ q ∈ cs, TW q.1 i) {j : Nat} (h : j ∈ ksOf cs) : ¬ pg j ∧ 256 ≤ j := by
  have := kU_key hp (by rw [kU_fst]; exact h)
  unfold pg; omega
section
variable {vs : List (BitVec 64)} {s : Int × Int × Int} {cs : List (Int × BitVec 64)} {σ : Ds}
theorem rec_undW (hws : σ.ws = mkC vs) (hp : PlK s.2.1 cs cs.length) (hn : 2048 + 64 * s.2.1 ≤ 8 * (vs.length : Int)) : recW σ (ksOf cs) = undW (olds0 vs cs) := by
  rw [← unF_w (σ := σ) (ks_ad (pl_all hp))]
  congr 1
  unfold unF olds0
  refine List.map_congr_left fun q hq => ?_
  have hk : (q.1 / 8).toNat < vs.length := ks_lt (n := vs.length) (pl_all hp) hn _ (List.mem_map.2 ⟨q, hq, rfl⟩)
  rw [nowAt_C hws (List.getElem?_eq_getElem hk), List.getD_eq_getElem?_getD, List.getElem?_eq_getElem hk]; rfl
abbrev comP (vs : List (BitVec 64)) (cs : List (Int × BitVec 64)) : List Ph := [ph65 (undW (olds0 vs cs)), ph64 (sealN cs.length), phU cs, ph64 0]
theorem comP_ok (h8 : cs.length ≤ 8) (hp : PlK s.2.1 cs cs.length) (hn : 2048 + 64 * s.2.1 ≤ 8 * (vs.length : Int)) (hl : 128 ≤ vs.length) : ∀ p ∈ comP vs cs, PhOk vs.length p := fun p hm => by
  simp only [comP, List.mem_cons, List.not_mem_nil, or_false] at hm
  rcases hm with rfl | rfl | rfl | rfl
  · exact ph65_ok (by rw [undW_len, olds0_len]; omega) hl
  · exact ph64_ok _ (by omega)
  · exact phU_ok hp hn
  · exact ph64_ok _ (by omega)
def first (n : Nat) : Nat := 2 * n + (n + 3) / 4 + 6
theorem p65_out {W : List (BitVec 64)} (hW : W.length ≤ 16) {j : Nat} (h : j ≠ 65 ∧ ¬ (72 ≤ j ∧ j < 88)) : j ∉ (ph65 W).1.map Prod.fst := fun hm => by
  obtain ⟨⟨k, x⟩, hc, e⟩ := List.mem_map.1 hm
  simp only at e
  rcases List.mem_append.1 hc with hc | hc
  · have := ixP_mem hc; omega
  · have := congrArg Prod.fst (List.mem_singleton.1 hc); simp only at this; omega
end
theorem comP_len (vs : List (BitVec 64)) (cs : List (Int × BitVec 64)) : (phsA (comP vs cs)).length = first cs.length + (cs.length + (lnK (ksOf cs)).length + 1) + 3 := by
  have e5 : (phsA (comP vs cs)).length = (phA (ph65 (undW (olds0 vs cs)))).length + ((phA (ph64 (sealN cs.length))).length + ((phA (phU cs)).length + (phA (ph64 0)).length)) := by unfold phsA; simp only [comP, List.map_cons, List.map_nil, List.flatten_cons, List.flatten_nil, List.append_nil, List.length_append]
  rw [e5, ph65_len (n := cs.length) (by rw [undW_len, olds0_len]), ph64_len, ph64_len, phA_len]
  show _ + (3 + ((kU cs).length + (lnK (ksOf cs)).length + 1 + 3)) = _
  rw [kU_len]
  unfold first; omega
structure Rdy (σ : Ds) (s : Int × Int × Int) (vs : List (BitVec 64)) : Prop where
  ws : σ.ws = mkC vs
  ar : σ.armed = false
  sup : SupIm (wbytes vs) s
  z : vs[64]? = some 0
section
variable {σ : Ds} {s : Int × Int × Int} {vs : List (BitVec 64)} {cs : List (Int × BitVec 64)}
theorem Rdy.fit (h : Rdy σ s vs) : GoodSup s.1 s.2.1 s.2.2 ∧ (4 + s.2.1 / 8 : Int) = 4 + s.2.1 / 8 ∧ 8 * (σ.ws.length : Int) = 512 * s.1 := by
  have hn := h.sup.wl
  refine ⟨h.sup.g, rfl, ?_⟩
  rw [h.ws, mkC_length]; omega
theorem Rdy.un (h : Rdy σ s vs) : openUnE (page (wbytes (viewWs σ.ws))) = 0 ∧ openUnL (page (wbytes (viewWs σ.ws))) = [] := by
  have hn := h.sup.wl
  rw [h.ws, mkC_view]
  exact und0 (by rw [wbytes_length]; omega) (wdA_wb h.z rfl)
theorem comP_len' (vs : List (BitVec 64)) (cs : List (Int × BitVec 64)) : (phsA (comP vs cs)).length = 3 * cs.length + (cs.length + 3) / 4 + (lnK (ksOf cs)).length + 10 := by
  rw [comP_len]
  unfold first; omega
theorem Rdy.com (h : Rdy σ s vs) (h1 : 1 ≤ cs.length) (h8 : cs.length ≤ 8) (hp : PlK s.2.1 cs cs.length) : ∃ τ us, comE σ s.1 s.2.1 s.2.2 (4 + s.2.1 / 8) cs = (0, τ) ∧ Rdy τ s us ∧ τ.ws.length = σ.ws.length ∧ τ.steps = σ.steps + (3 * cs.length + (cs.length + 3) / 4 + (lnK (ksOf cs)).length + 10) ∧ ∀ q ∈ cs, us[(q.1 / 8).toNat]? = some q.2 := by
  have hn := h.sup.wl
  have hW : (undW (olds0 vs cs)).length ≤ 16 := by rw [undW_len, olds0_len]; omega
  obtain ⟨a1, a2, a3, a4⟩ := phs_full (comP vs cs) h.ws h.ar (comP_ok h8 hp hn.2.2.2.2.2 (by omega))
  have e : setPs vs (comP vs cs) = setP (setP (setP (setP vs (ph65 (undW (olds0 vs cs))).1) (ph64 (sealN cs.length)).1) (kU cs)) (ph64 0).1 := rfl
  rw [e] at a2
  have k64 : ∀ (x : BitVec 64) (v : List (BitVec 64)) (j : Nat), j ≠ 64 → (setP v (ph64 x).1)[j]? = v[j]? := fun x v j h => setP_out _ _ (by simp only [ph64, List.map_cons, List.map_nil, List.mem_singleton]; exact h)
  have k1 : ∀ j, j ≠ 65 → ¬ (72 ≤ j ∧ j < 88) → (setP vs (ph65 (undW (olds0 vs cs))).1)[j]? = vs[j]? := fun j a b => setP_out _ _ (p65_out hW ⟨a, b⟩)
  have nk : ∀ j, j < 256 → j ∉ (kU cs).map Prod.fst := fun j hj h => by rw [kU_fst] at h; have := (ks_pg (pl_all hp) h).2; omega
  have hul : (setP (setP (setP (setP vs (ph65 (undW (olds0 vs cs))).1) (ph64 (sealN cs.length)).1) (kU cs)) (ph64 0).1).length = vs.length := by rw [setP_len, setP_len, setP_len, setP_len]
  have hg : comE σ s.1 s.2.1 s.2.2 (4 + s.2.1 / 8) cs = actsE σ (phsA (comP vs cs)) := by
    rw [com_go h.fit (by omega) hp h.un, com_ph, rec_undW h.ws hp hn.2.2.2.2.2]
  refine ⟨(actsE σ (phsA (comP vs cs))).2, _, hg.trans (Prod.ext a1 rfl), ⟨a2, a3, h.sup.w hul fun j hj => ?_, setP_in _ _ (by simp [ph64]) (List.mem_singleton.2 rfl) (by rw [setP_len, setP_len, setP_len]; omega)⟩, by rw [a2, mkC_length, hul, h.ws, mkC_length], by rw [a4, comP_len'], fun q hq => ?_⟩
  · rw [k64 _ _ j (by omega), setP_out _ _ (nk j (by omega)), k64 _ _ j (by omega), k1 j (by omega) (by omega)]
  · have ht := pl_all hp q hq
    have hk := plk_addr (n := vs.length) (pl_all hp) hn.2.2.2.2.2 q hq
    unfold TW at ht
    rw [k64 _ _ _ (by omega)]
    exact setP_in _ _ (pl_nodup hp) (kU_mem hq) (by rw [setP_len, setP_len]; exact hk.2)
theorem Rdy.ref41 (h : Rdy σ s vs) (h1 : cs.length = 0 ∨ 8 < cs.length) : comE σ s.1 s.2.1 s.2.2 (4 + s.2.1 / 8) cs = (41, σ) := com_41 h.fit h1
theorem Rdy.ref40 (h : Rdy σ s vs) (h1 : ¬ (cs.length = 0 ∨ 8 < cs.length)) (h2 : ¬ PlK s.2.1 cs cs.length) : comE σ s.1 s.2.1 s.2.2 (4 + s.2.1 / 8) cs = (40, σ) := com_40 h.fit h1 h2
end
theorem rdy_img {s : Int × Int × Int} (hg : GoodSup s.1 s.2.1 s.2.2) (W : List (Int × BitVec 64)) : Rdy (loadD (imgE s false (inT W) [])) s (wds (imgE s false (inT W) [])) := by
  have hg2 := hg
  unfold GoodSup at hg2
  have hl := imgE_len hg false (inT W) []
  have hz := img_0 hg (inT_all W)
  have hs : SupIm (imgE s false (inT W) []) s := img_sup hg _ _
  generalize imgE s false (inT W) [] = l at *
  have h64 := wordsL_at (l := l) (m := l.length / 8) (j := 64) (by omega)
  rw [show 8 * 64 = 512 from rfl, hz] at h64
  exact ⟨wds_load l, rfl, by rw [wds_bytes (by omega)]; exact hs, h64⟩
def lnS (L : List (Int × BitVec 64)) : List Int := L.foldl (fun Z q => if Z.any (fun z => z == q.1 / 64) then Z else Z ++ [q.1 / 64]) []
theorem lnS_snoc {L : List (Int × BitVec 64)} {k : Nat} {q : Int × BitVec 64} (h : L[k]? = some q) : lnS (L.take (k + 1)) = if (lnS (L.take k)).any (fun z => z == q.1 / 64) then lnS (L.take k) else lnS (L.take k) ++ [q.1 / 64] := by
  unfold lnS; rw [List.take_succ_of_get h, List.foldl_append]; rfl
theorem lnS_ok : ∀ (L : List (Int × BitVec 64)) (Z : List Int), Z.Nodup → (L.foldl (fun Z q => if Z.any (fun z => z == q.1 / 64) then Z else Z ++ [q.1 / 64]) Z).Nodup ∧ ∀ x, x ∈ (L.foldl (fun Z q => if Z.any (fun z => z == q.1 / 64) then Z else Z ++ [q.1 / 64]) Z) ↔ x ∈ Z ∨ ∃ q ∈ L, q.1 / 64 = x
  | [], Z, h => ⟨h, fun x => by simp⟩
  | q :: L, Z, h => by
    rw [List.foldl_cons]
    by_cases hc : Z.any (fun z => z == q.1 / 64) = true
    · rw [if_pos hc]
      obtain ⟨h1, h2⟩ := lnS_ok L Z h
      refine ⟨h1, fun x => ?_⟩
      rw [h2 x]
      obtain ⟨z, hz, e⟩ := List.any_eq_true.1 hc
      rw [beq_iff_eq] at e
      constructor
      · rintro (g | ⟨c, hc', e'⟩)
        · exact .inl g
        · exact .inr ⟨c, List.mem_cons_of_mem _ hc', e'⟩
      · rintro (g | ⟨c, hc', e'⟩)
        · exact .inl g
        · rcases List.mem_cons.1 hc' with rfl | hc'
          · exact .inl (by rw [← e', ← e]; exact hz)
          · exact .inr ⟨c, hc', e'⟩
    · rw [if_neg hc]
      have hn : q.1 / 64 ∉ Z := fun g => hc (List.any_eq_true.2 ⟨_, g, by simp⟩)
      obtain ⟨h1, h2⟩ := lnS_ok L (Z ++ [q.1 / 64]) (by
        rw [List.nodup_append]
        exact ⟨h, by simp, fun a ha b hb e => hn (by rw [List.mem_singleton.1 hb] at e; rw [← e]; exact ha)⟩)
      refine ⟨h1, fun x => ?_⟩
      rw [h2 x, List.mem_append, List.mem_singleton]
      constructor
      · rintro ((g | g) | ⟨c, hc', e'⟩)
        · exact .inl g
        · exact .inr ⟨q, List.mem_cons_self .., g.symm⟩
        · exact .inr ⟨c, List.mem_cons_of_mem _ hc', e'⟩
      · rintro (g | ⟨c, hc', e'⟩)
        · exact .inl (.inl g)
        · rcases List.mem_cons.1 hc' with rfl | hc'
          · exact .inl (.inr e'.symm)
          · exact .inr ⟨c, hc', e'⟩
theorem lnK_nodup (ks : List Nat) : (lnK ks).Nodup := by
  obtain ⟨h1, h2⟩ := lnL_ok ks
  unfold lnK
  rw [List.Nodup, List.pairwise_map]
  refine h1.imp_of_mem fun {a b} ha hb hab e => ?_
  obtain ⟨k, _, ea⟩ := (h2 a).1 ha
  obtain ⟨k', _, eb⟩ := (h2 b).1 hb
  unfold lnF at ea eb
  omega
theorem lnS_len {i : Int} {L : List (Int × BitVec 64)} (hp : ∀ q ∈ L, TW q.1 i) : (lnS L).length = (lnK (ksOf L)).length := by
  obtain ⟨h1, h2⟩ := lnS_ok L [] (by simp)
  have h0 : ∀ x ∈ lnS L, 0 ≤ x := fun x hx => by
    rcases (h2 x).1 hx with g | ⟨q, hq, e⟩
    · cases g
    · have := hp q hq
      unfold TW at this; omega
  have hm : ((lnS L).map Int.toNat).Nodup := by
    rw [List.Nodup, List.pairwise_map]
    refine (show (lnS L).Pairwise (· ≠ ·) from h1).imp_of_mem fun {a b} ha hb hab e => ?_
    have ha0 := h0 a ha
    have hb0 := h0 b hb
    omega
  have hperm := (List.perm_ext_iff_of_nodup hm (lnK_nodup (ksOf L))).2 fun a => by
    rw [List.mem_map, mem_lnK]
    constructor
    · rintro ⟨x, hx, rfl⟩
      rcases (h2 x).1 hx with g | ⟨q, hq, e⟩
      · cases g
      · have := hp q hq
        unfold TW at this
        exact ⟨(q.1 / 8).toNat, List.mem_map.2 ⟨q, hq, rfl⟩, by omega⟩
    · rintro ⟨k, hk, e⟩
      obtain ⟨q, hq, rfl⟩ := List.mem_map.1 hk
      have := hp q hq
      unfold TW at this
      exact ⟨q.1 / 64, (h2 _).2 (.inr ⟨q, hq, rfl⟩), by omega⟩
  have := hperm.length_eq
  rwa [List.length_map] at this
theorem lnS_le : ∀ (L : List (Int × BitVec 64)), (lnS L).length ≤ L.length := by
  have key : ∀ (L : List (Int × BitVec 64)) (Z : List Int), (L.foldl (fun Z q => if Z.any (fun z => z == q.1 / 64) then Z else Z ++ [q.1 / 64]) Z).length ≤ Z.length + L.length := by
    intro L
    induction L with
    | nil => intro Z; exact Nat.le_refl _
    | cons q L ih =>
      intro Z
      rw [List.foldl_cons]
      have := ih (if Z.any (fun z => z == q.1 / 64) then Z else Z ++ [q.1 / 64])
      refine Nat.le_trans this ?_
      split
      · rw [List.length_cons]; omega
      · rw [List.length_append, List.length_singleton, List.length_cons]; omega
  intro L
  have := key L []
  rwa [List.length_nil, Nat.zero_add] at this
theorem prC_drop : ∀ (l : List (Int × BitVec 64)) (k : Nat), prC (l.drop k) = (prC l).drop (k * 2)
  | [], k => by simp [prC]
  | c :: l, 0 => by simp
  | c :: l, k + 1 => by
    rw [List.drop_succ_cons, prC_drop l k, show (k + 1) * 2 = k * 2 + 1 + 1 by omega]; rfl
theorem QAt.cutPL {P : Program} {Γ : Ctx} {E : Env} {H : List Res} {ops : Array Oper} {rest : List Oper} {ψ : Act → Prop} {d : Nat} {ty : TypeId} {pos : String} {after : Array Edge} {g : Option (Nat × Bool)} {x : Operand} {v : Value} {t el : Nat} {L : List (Int × BitVec 64)} {lo hi : Option Operand} (a b : Nat) (hr : RdP Γ.w0 v L) (hu : P.underlying t = some (.slice el)) (hs : ∀ w, (sizeOf el).run P w = .ok 2 w) (hx : ev E x = some v) (hl : Bd E lo 0 a) (hh : Bd E hi L.length b) (h1 : a ≤ b) (h2 : b ≤ L.length)
    (hg : g = none) (hn : Nat.blt d Γ.n = true) (k : ∀ v', RdP Γ.w0 v' ((L.drop a).take (b - a)) → QAt P Γ ops ((d, v') :: E) H rest ψ) :
    QAt P Γ ops E H ({ dst := some d, op := .slice t x lo hi .none, type := ty, pos, after, guard := g } :: rest) ψ := by
  have hr0 := hr
  obtain ⟨A, c, rfl, _⟩ := hr
  refine QAt.val (Val.cutRd hr0 hu hs hx hl hh h1 h2) hg rfl hn (k _ ?_)
  have := Rd.cut hr0 h1 h2
  rw [← prC_drop, ← prC_take] at this
  unfold RdP
  rw [List.length_take, List.length_drop, Nat.min_eq_left (by omega)]
  exact this
def nineC : List (Int × BitVec 64) := [(2048, 0), (2056, 0), (2064, 0), (2112, 0), (2120, 0), (2128, 0), (2176, 0), (2184, 0), (2192, 0)]
theorem plk_of {i : Int} {L : List (Int × BitVec 64)} (ht : ∀ q ∈ L, TW q.1 i) (hn : (L.map Prod.fst).Nodup) : PlK i L L.length := fun j q hj hq => by
  refine ⟨ht q (List.mem_of_getElem? hq), fun hm => ?_⟩
  obtain ⟨c, hc, e⟩ := List.mem_map.1 hm
  obtain ⟨k, hk⟩ := List.getElem?_of_mem hc
  rw [List.getElem?_take] at hk
  split at hk
  · rename_i hkj
    have hk' : (L.map Prod.fst)[k]? = some q.1 := by rw [List.getElem?_map, hk, ← e]; rfl
    have hj' : (L.map Prod.fst)[j]? = some q.1 := by rw [List.getElem?_map, hq]; rfl
    have := (List.getElem?_inj (List.getElem?_eq_some_iff.1 hk').1 hn).1 (hk'.trans hj'.symm)
    omega
  · cases hk
theorem plk_nine {i : Int} (h : 8 ≤ i) : PlK i (nineC.take 8) (nineC.take 8).length := plk_of (fun q hq => by
  simp only [nineC, List.take, List.mem_cons, List.not_mem_nil, or_false] at hq
  rcases hq with rfl | rfl | rfl | rfl | rfl | rfl | rfl | rfl <;> (unfold TW; simp only; omega)) (by decide)
def trioC : List (Int × BitVec 64) := [(2048, 0), (2056, 0), (2048, 0)]
theorem plk_trio (i : Int) : ¬ PlK i trioC trioC.length := fun h => (h 2 (2048, 0) (by decide) rfl).2 (by decide)
theorem plk_two {i a : Int} (h : 8 ≤ i) : PlK i [((2048 : Int), (3 : BitVec 64)), (a, 3)] 2 ↔ TW a i ∧ a ≠ 2048 := by
  constructor
  · intro g
    obtain ⟨g1, g2⟩ := g 1 (a, 3) (by decide) rfl
    exact ⟨g1, fun e => g2 (by simp [e])⟩
  · rintro ⟨g1, g2⟩
    exact plk_of (L := [((2048 : Int), (3 : BitVec 64)), (a, 3)]) (fun q hq => by
      simp only [List.mem_cons, List.not_mem_nil, or_false] at hq
      rcases hq with rfl | rfl
      · unfold TW; simp only; omega
      · exact g1) (by simp only [List.map_cons, List.map_nil, List.nodup_cons, List.mem_singleton, List.not_mem_nil, not_false_iff, List.nodup_nil, and_true]; exact fun e => g2 e.symm)
theorem rd_blkC {w : World} {b U n : Nat} {L : List (Int × BitVec 64)} (h : Holds w b U (prC L)) (hn : L.length = n) : RdP w (.slice (some ⟨b, 0, none⟩) n n) L := by
  subst hn
  exact ⟨some ⟨b, 0, none⟩, L.length, rfl, fun j u hj => ⟨b, 0, rfl, by rw [Nat.zero_add]; exact (h.cell j).trans hj⟩, prC_length L, Nat.le_refl _, (fun e => by cases e), (fun _ a' e => by cases e; rfl)⟩
theorem off_blkC {b n m : Nat} {xs : List Value} {S : Nat → Prop} (h : ¬ S b) : Off (.slice (some ⟨b, 0, none⟩) n m) xs S := fun _ b' o s n c e => by
  simp only [Value.slice.injEq, Option.some.injEq, Addr.mk.injEq] at e
  rw [← e.1.1]; exact h
theorem RdP.cut0 {w : World} {A : Option Addr} {c h : Nat} {L : List (Int × BitVec 64)} (hr : RdP w (.slice A L.length c) L) (h2 : h ≤ L.length) : RdP w (.slice (cutA A c 0 2) (h - 0) (c - 0)) (L.take h) := by
  have := Rd.cut hr (Nat.zero_le h) h2
  simp only [Nat.zero_mul, List.drop_zero, Nat.sub_zero] at this ⊢
  unfold RdP
  rw [prC_take, List.length_take, Nat.min_eq_left h2]
  exact this
theorem cut_offB {b n c k l : Nat} {ys : List Value} {T : Nat → Prop} (h : ¬ T b) : Off (.slice (cutA (some ⟨b, 0, none⟩) c l 2) n k) ys T := fun hne b2 o s n' c' e => by
  simp only [cutA, Value.slice.injEq, Option.some.injEq, Addr.mk.injEq] at e
  rw [← e.1.1]; exact h
theorem Val.cutBlk {P : Program} {Γ : Ctx} {E : Env} {H : List Res} {dst : Option Nat} {ty : TypeId} {pos : String} {after : Array Edge} {g : Option (Nat × Bool)} {x : Operand} {i t el b U n h : Nat} {L : List (Int × BitVec 64)} {hi : Option Operand} (hi' : H[i]? = some (blk b U (prC L))) (hn : L.length = n) (hu : P.underlying t = some (.slice el)) (hs : ∀ w, (sizeOf el).run P w = .ok 2 w) (hx : ev E x = some (.slice (some ⟨b, 0, none⟩) n n)) (hh : Bd E hi n h) (h2 : h ≤ n) :
    Val P Γ E H ⟨dst, .slice t x .none hi .none, ty, pos, after, g⟩ (.slice (cutA (some ⟨b, 0, none⟩) n 0 2) (h - 0) (n - 0)) := fun a w ha hw => by
  subst hn
  exact Val.cutRd (lo := .none) (rd_blkC (hw.blk hi') rfl) hu hs hx rfl hh (Nat.zero_le _) h2 a w ha hw
end Go.Proofs.YtfchinibjhcejaaDoor
namespace Go.Proofs.YtfchinibjhcejaaDoor
open Go Go.Wk
set_option maxHeartbeats 4000000 in
theorem lawSteps_p (p i c : Int) (bare : Bool) (vW vU : Value) (W U : List (Int × BitVec 64)) (v : Value) (T : List (Int × BitVec 64)) (wr : Int) (w : World) (ht : Tab w) (hvW : RdP w vW W) (hWl : W.length ≤ 8796093022208) (hpb : -9223372036854775808 ≤ p ∧ p ≤ 9223372036854775807) (hv : RdP w v T) (hT : T.length ≤ 140737488355328) (hwr : -9223372036854775808 ≤ wr ∧ wr ≤ 9223372036854775807) :
    PureC Tryd.prog 3 [.agg #[.int .i64 p, .int .i64 i, .int .i64 c, .bool bare, vW, vU], v, .int .i64 wr] (.bool true) w := by
 refine enter0 Tryd.func3 rfl Tryd.ntmps3 rfl ?_
 have hgS := supS_good p i c
 have hg2 := hgS
 unfold GoodSup at hg2
 have hsi : 0 < (supS p i c).2.1 ∧ (supS p i c).2.1 ≤ 1000 := by omega
 obtain ⟨l, hl⟩ : ∃ l, l = (imgE (supS p i c) false (inT W) []) := ⟨_, rfl⟩
 have hr0 : Rdy (loadD l) (supS p i c) (wds l) := by rw [hl]; exact rdy_img hgS W
 have hll : l.length = 512 * (supS p i c).1.toNat := by rw [hl]; exact imgE_len hgS false (inT W) []
 have hls : (loadD l).steps = 0 := rfl
 have hsz : isSizeB (l.length : Int) = true := by unfold isSizeB; rw [decide_eq_true_eq]; omega
 simp only [envOf]
 refine tR (At.box rfl rfl rfl (fun b1 => (tA rfl rfl (tE (tR (tV (Val.loadAll (i := 0) Tryd.isAgg27 Tryd.sizeOf27 rfl rfl rfl) rfl (At.callNT (g := (fun v => .tuple #[v, .agg #[.int .i64 (supS p i c).1, .int .i64 (supS p i c).2.1, .int .i64 (supS p i c).2.2, .int .i64 (4 + (supS p i c).2.1 / 8)]])) (fun w hw => clean_n p i c bare vW vU W U w (hvW.mod hw.mod) hWl hpb) Tryd.call4 rfl rfl (fun v2 => ?_))))))))
 rw [← hl]
 refine tM rfl rfl (tV (Val.extract rfl rfl) rfl (tV (Val.extract rfl rfl) rfl (At.alloc Tryd.zeroValue31 rfl rfl (fun b3 => (tA rfl rfl (At.storeAll (i := 0) Tryd.sizeOf31 rfl rfl rfl (by simp [Value.oneCell']) rfl rfl ?_))))))
 simp only [sc0, scS]
 refine tE (tR (tM rfl rfl (At.callNB (fun w hw => device_n _ l (-1) w (row_rd (hw.row (i := 1) rfl) (by decide)) hsz (by decide)) Tryd.call5 rfl rfl (fun p4 y5 => ?_))))
 rw [show devE l (-1) = loadD l from rfl]
 refine tM rfl rfl (tV (Val.extract rfl rfl) rfl (tV (Val.extract rfl rfl) rfl (tA rfl rfl (tA rfl rfl (At.nil (At.drop 2 ?_))))))
 simp only [ec0, ecS]
 refine At.drop 2 ?_
 simp only [ec0, ecS]
 refine At.thenN (At.seq (tR (tM rfl rfl (tV (Val.not rfl) rfl (tE (At.condF rfl (At.skipC (At.thenN (tR (tA rfl rfl (tE (At.seq (tR (tA rfl rfl (tE (At.block ?_))))))))))))))))
 skip
 refine At.loop (σ := Nat × Gh × Ds × List (BitVec 64)) (fun s => s.1 ≤ T.length ∧ s.1 ≤ 60 ∧ Rdy s.2.2.1 (supS p i c) s.2.2.2 ∧ s.2.2.1.steps ≤ s.1 * 60) (fun s => [(1, v), (2, .int .i64 wr), (8, .pointer (some ⟨b3, 0, none⟩)), (9, .pointer (some ⟨p4, 0, none⟩)), (11, .int .i64 (s.2.2.1.steps : Int)), (12, .int .i64 (s.1 : Int))]) (fun s => [Dev p4 s.2.1 s.2.2.1, blk b3 31 ([.int .i64 (supS p i c).1, .int .i64 (supS p i c).2.1, .int .i64 (supS p i c).2.2, .int .i64 (4 + (supS p i c).2.1 / 8)])]) (fun s => T.length - s.1) (0, y5, loadD l, wds l) ⟨Nat.zero_le _, Nat.zero_le _, hr0, Nat.le_refl _⟩ (Sub.cons rfl (Sub.cons rfl (Sub.cons rfl (Sub.cons rfl (Sub.cons rfl (Sub.cons rfl Sub.nil)))))) (List.Perm.refl _) ?_
 intro s hs
 obtain ⟨k, γ, σ, vs⟩ := s
 dsimp only at hs ⊢
 obtain ⟨hk1, hk2, hry, hst⟩ := hs
 refine At.seq (tR (tM rfl rfl (tM rfl rfl (tV (Val.lenRd hv Tryd.underlying28 rfl) rfl (tV (Val.bin rfl rfl rfl) rfl (At.weaken [(1, _), (2, _), (8, _), (9, _), (11, _), (12, _), (43, _)] (Sub.cons rfl (Sub.cons rfl (Sub.cons rfl (Sub.cons rfl (Sub.cons rfl (Sub.cons rfl (Sub.cons rfl Sub.nil))))))) ?_))))))
 refine At.boolMeet 4 47 (decide (k < T.length ∧ k < 60)) ?_ ?_
 ·simp only [List.take_succ_cons, List.take_zero]
  refine tM rfl rfl ?_
  refine At.split (t := 44) rfl (fun h6 => ?_) (fun h6 => ?_)
  ·try simp only [hasB, isSizeB, sB] at h6
   refine At.yes rfl rfl (tM rfl rfl (At.yes rfl rfl (tV (Val.bin rfl rfl rfl) rfl (tV (Val.pickT rfl rfl) rfl (At.nil ?_)))))
   exact At.boolEnd rfl (by apply Bool.eq_iff_iff.2; (simp only [decide_eq_true_eq, Bool.false_eq_true, false_iff, true_iff, gt_iff_lt, ge_iff_le]) <;> omega) (by repeat (first | exact Sub.nil | refine Sub.cons rfl ?_))
  ·try simp only [hasB, isSizeB, sB] at h6
   refine At.no rfl rfl rfl rfl (At.no rfl rfl rfl rfl (tV (Val.pickF rfl rfl) rfl (At.nil ?_)))
   exact At.boolEnd rfl (by apply Bool.eq_iff_iff.2; (simp only [decide_eq_true_eq, Bool.false_eq_true, false_iff, true_iff, gt_iff_lt, ge_iff_le]) <;> omega) (by repeat (first | exact Sub.nil | refine Sub.cons rfl ?_))
 ·simp only [List.drop_succ_cons, List.drop_zero]
  refine tE ?_
  refine At.cond rfl (fun h7 => ?_) (fun h7 => ?_)
  ·try simp only [hasB, isSizeB, sB] at h7
   obtain ⟨t, ht'⟩ : ∃ t, T[k]? = some t := ⟨_, List.getElem?_eq_getElem (by omega)⟩
   refine At.skipC (At.thenN (At.seq (At.block (tR (tM rfl rfl (tV (Val.addI rfl rfl (by omega) (by omega)) rfl (tM rfl rfl (tM rfl rfl (At.idxP hv Tryd.underlying28 Tryd.sizeOf40 rfl rfl (by omega) (by omega) rfl rfl (fun bx ox q1 hq1 hc0 hc1 => ?_))))))))))
   rw [Int.toNat_natCast] at hq1
   obtain rfl : t = q1 := Option.some.inj (ht'.symm.trans hq1)
   refine tV (Val.field ox rfl fo_40_0 rfl) rfl (tV (Val.loadOld Tryd.isAgg3 rfl hc0 (fun h => h)) rfl (At.callP (fun w hw => restJ_p t.1 8 w (by decide)) Tryd.call6 rfl rfl ?_))
   have hm0 := Int.emod_nonneg t.1 (show (8 : Int) ≠ 0 by decide)
   have hm1 := Int.emod_lt_of_pos t.1 (show (0 : Int) < 8 by decide)
   refine tV (Val.addI rfl rfl (by omega) (by omega)) rfl (tA rfl rfl (At.nil ?_))
   obtain ⟨b, hb⟩ : ∃ b : Nat, (k : Int) + 1 + t.1 % 8 = (b : Int) := ⟨((k : Int) + 1 + t.1 % 8).toNat, by have := Int.emod_nonneg t.1 (show (8 : Int) ≠ 0 by decide); omega⟩
   have hbk : k < b := by have := Int.emod_nonneg t.1 (show (8 : Int) ≠ 0 by decide); omega
   rw [hb]
   refine At.thenN ?_
   refine At.join (σ := Nat) (fun b => k < b ∧ b ≤ T.length) (fun b => [(1, v), (2, .int .i64 wr), (8, .pointer (some ⟨b3, 0, none⟩)), (9, .pointer (some ⟨p4, 0, none⟩)), (11, .int .i64 (σ.steps : Int)), (12, .int .i64 (k : Int)), (13, .int .i64 (b : Int))]) (fun b => [Dev p4 γ (σ), blk b3 31 ([.int .i64 (supS p i c).1, .int .i64 (supS p i c).2.1, .int .i64 (supS p i c).2.2, .int .i64 (4 + (supS p i c).2.1 / 8)])]) ?_ ?_
   ·refine tR (tM rfl rfl (tM rfl rfl (tV (Val.lenRd hv Tryd.underlying28 rfl) rfl (tV (Val.bin rfl rfl rfl) rfl (tE ?_)))))
    refine At.cond rfl (fun h8 => ?_) (fun h8 => ?_)
    ·try simp only [hasB, isSizeB, sB] at h8
     refine At.region (tM rfl rfl (tV (Val.lenRd hv Tryd.underlying28 rfl) rfl (tA rfl rfl (tE ?_))))
     exact At.meets T.length ⟨(by omega), (by omega)⟩ (Sub.cons rfl (Sub.cons rfl (Sub.cons rfl (Sub.cons rfl (Sub.cons rfl (Sub.cons rfl (Sub.cons rfl Sub.nil))))))) (List.Perm.refl _)
    ·try simp only [hasB, isSizeB, sB] at h8
     refine At.skipC (At.thenN ?_)
     exact At.meets b ⟨(by omega), (by omega)⟩ (Sub.cons rfl (Sub.cons rfl (Sub.cons rfl (Sub.cons rfl (Sub.cons rfl (Sub.cons rfl (Sub.cons rfl Sub.nil))))))) (List.Perm.refl _)
   ·intro b hs
    obtain ⟨hb1, hb2⟩ := hs
    refine At.seq (At.tail 5 rfl (by decide +kernel) ?_)
    simp only [List.take_succ_cons, List.take_zero, List.drop_succ_cons, List.drop_zero]
    refine qM rfl rfl (qM rfl rfl (qM rfl rfl (QAt.cutPL k b hv Tryd.underlying28 Tryd.sizeOf40 rfl ⟨_, _, rfl, by omega, by omega⟩ ⟨_, _, rfl, by omega, by omega⟩ (by omega) hb2 rfl rfl (fun v12 hv12 => (qV (Val.loadAll (i := 1) Tryd.isAgg31 Tryd.sizeOf31 rfl rfl rfl) rfl (QAt.fin ?_))))))
    refine At.callN (fun w hw => changesJ_n v12 ((T.drop k).take (b - k)) (supS p i c).1 (supS p i c).2.1 (supS p i c).2.2 (4 + (supS p i c).2.1 / 8) w (hv12.mod hw.mod) (by rw [List.length_take, List.length_drop]; omega) hsi) Tryd.call7 rfl rfl (fun v9 => ?_)
    obtain ⟨L, hL⟩ : ∃ L, L = chL (supS p i c).2.1 ((T.drop k).take (b - k)) := ⟨_, rfl⟩
    rw [← hL]
    obtain ⟨hL1, hL8, hLp⟩ : 1 ≤ L.length ∧ L.length ≤ 8 ∧ PlK (supS p i c).2.1 L L.length := by rw [hL]; exact chL_ok hsi.1 _
    obtain ⟨τ, us, hcm, hry2, htl, hts, huq⟩ := hry.com hL1 hL8 hLp
    have hZl := lnS_len (pl_all hLp)
    have hZ8 := lnS_le L
    have hLb : ∀ q ∈ L, 2048 ≤ q.1 ∧ q.1 ≤ 1000000 ∧ q.1 = 8 * (((q.1 / 8).toNat : Nat) : Int) := fun q hq => by have := pl_all hLp q hq; unfold TW at this; omega
    refine tA rfl rfl (tE (tR (tM rfl rfl (tV (Val.loadAll (i := 2) Tryd.isAgg31 Tryd.sizeOf31 rfl rfl rfl) rfl (tM rfl rfl (At.callD 1 rfl (fun w hw hr => commit_d _ _ _ (supS p i c).1 (supS p i c).2.1 (supS p i c).2.2 (4 + (supS p i c).2.1 / 8) _ L w (ht.mod hw.mod) (Rep.off0 hw ht (fun h => h) (i := 1) rfl) (row_rd (hw.row (i := 0) rfl) (by decide)) (Rep.offRow (i := 0) (j := 1) hw rfl rfl (by decide)) (fun q hq => by have := hLb q hq; omega) (by first | decide | omega | (simp only [List.length_cons, List.length_nil]; omega)) (by show (σ).steps + 200 ≤ _; omega) hr) Tryd.call8 rfl rfl (fun y10 => ?_)))))))
    simp only [sc0, scS]
    rw [hcm]
    refine tA rfl rfl (tE (tR (tA rfl rfl (At.nil (At.rowNilI 3 (At.thenN (At.seq (tR (tA rfl rfl (tE (At.block ?_)))))))))))
    skip
    refine At.loop (σ := Nat × Value) (fun s => s.1 ≤ L.length) (fun s => [(1, v), (2, .int .i64 wr), (8, .pointer (some ⟨b3, 0, none⟩)), (9, .pointer (some ⟨p4, 0, none⟩)), (11, .int .i64 (σ.steps : Int)), (12, .int .i64 (k : Int)), (14, v9), (15, .int .i64 0), (16, s.2), (17, .int .i64 (s.1 : Int))]) (fun s => [irow 3 s.2 (lnS (L.take s.1)), rowR v9 46 2 ((L).length) (prC (L)), Dev p4 y10 (τ), blk b3 31 ([.int .i64 (supS p i c).1, .int .i64 (supS p i c).2.1, .int .i64 (supS p i c).2.2, .int .i64 (4 + (supS p i c).2.1 / 8)])]) (fun s => L.length - s.1) (0, .slice none 0 0) (Nat.zero_le _) (Sub.cons rfl (Sub.cons rfl (Sub.cons rfl (Sub.cons rfl (Sub.cons rfl (Sub.cons rfl (Sub.cons rfl (Sub.cons rfl (Sub.cons rfl (Sub.cons rfl Sub.nil)))))))))) (List.Perm.refl _) ?_
    intro s hs
    obtain ⟨m, vz⟩ := s
    dsimp only at hs ⊢
    have hZm := lnS_le (L.take m)
    rw [List.length_take] at hZm
    refine At.seq (tR (tM rfl rfl (tM rfl rfl (tV (Val.lenRow (i := 1) Tryd.underlying24 rfl rfl) rfl (tV (Val.bin rfl rfl rfl) rfl (tE ?_))))))
    refine At.cond rfl (fun h11 => ?_) (fun h11 => ?_)
    ·try simp only [hasB, isSizeB, sB] at h11
     obtain ⟨q, hq⟩ : ∃ q, L[m]? = some q := ⟨_, List.getElem?_eq_getElem (by omega)⟩
     have hqb := hLb q (List.mem_of_getElem? hq)
     refine At.skipC (At.thenN (At.seq (At.block (tR (tA rfl rfl (tE (At.seq (tR (tA rfl rfl (tE (At.block ?_)))))))))))
     skip
     refine At.loop (σ := Nat) (fun j => j ≤ (lnS (L.take m)).length) (fun j => [(1, v), (2, .int .i64 wr), (8, .pointer (some ⟨b3, 0, none⟩)), (9, .pointer (some ⟨p4, 0, none⟩)), (11, .int .i64 (σ.steps : Int)), (12, .int .i64 (k : Int)), (14, v9), (15, .int .i64 0), (16, vz), (17, .int .i64 (m : Int)), (18, .bool (((lnS (L.take m)).take j).any fun z => z == q.1 / 64)), (19, .int .i64 (j : Int))]) (fun j => [rowR vz 3 1 (((lnS (L.take m))).length) (((lnS (L.take m))).map (Value.int .i64)), rowR v9 46 2 ((L).length) (prC (L)), Dev p4 y10 (τ), blk b3 31 ([.int .i64 (supS p i c).1, .int .i64 (supS p i c).2.1, .int .i64 (supS p i c).2.2, .int .i64 (4 + (supS p i c).2.1 / 8)])]) (fun j => (lnS (L.take m)).length - j) 0 (Nat.zero_le _) (Sub.cons rfl (Sub.cons rfl (Sub.cons rfl (Sub.cons rfl (Sub.cons rfl (Sub.cons rfl (Sub.cons rfl (Sub.cons rfl (Sub.cons rfl (Sub.cons rfl (Sub.cons (by rw [List.take_zero]; rfl) (Sub.cons rfl Sub.nil)))))))))))) (List.Perm.refl _) ?_
     intro j hj
     refine At.seq (tR (tM rfl rfl (tM rfl rfl (tV (Val.lenRow (i := 0) Tryd.underlying44 rfl rfl) rfl (tV (Val.bin rfl rfl rfl) rfl (tE ?_))))))
     refine At.cond rfl (fun h12 => ?_) (fun h12 => ?_)
     ·try simp only [hasB, isSizeB, sB] at h12
      obtain ⟨z, hz⟩ : ∃ z, (lnS (L.take m))[j]? = some z := ⟨_, List.getElem?_eq_getElem (by omega)⟩
      refine At.skipC (At.thenN (At.seq (At.block (At.quiet rfl (by decide +kernel) (qM rfl rfl (qM rfl rfl ?_))))))
      refine QAt.split (t := 88) rfl (fun h13 => ?_) (fun h13 => ?_)
      ·try simp only [hasB, isSizeB, sB] at h13
       refine QAt.no rfl rfl rfl rfl (QAt.no rfl rfl rfl rfl (QAt.no rfl rfl rfl rfl (QAt.no rfl rfl rfl rfl (QAt.no rfl rfl rfl rfl (QAt.no rfl rfl rfl rfl (QAt.no rfl rfl rfl rfl (QAt.no rfl rfl rfl rfl (QAt.no rfl rfl rfl rfl (QAt.no rfl rfl rfl rfl (QAt.no rfl rfl rfl rfl (qV (Val.pickT rfl rfl) rfl (qV (Val.assign rfl) rfl (QAt.fin (At.blkN (At.thenN (At.region (tM rfl rfl ?_)))))))))))))))))
       first | refine tV (Val.addI rfl rfl (by omega) (by omega)) rfl ?_ | refine tV (Val.bin rfl rfl rfl) rfl ?_
       refine tA rfl rfl (tE ?_)
       exact At.again (j + 1) (show j + 1 ≤ _ by omega) (by omega) (Sub.cons rfl (Sub.cons rfl (Sub.cons rfl (Sub.cons rfl (Sub.cons rfl (Sub.cons rfl (Sub.cons rfl (Sub.cons rfl (Sub.cons rfl (Sub.cons rfl (Sub.cons (congrArg (fun t => some (Value.bool t)) (by rw [List.take_succ_of_get hz, List.any_append]; first | (rw [show (((lnS (L.take m)).take j).any fun z => z == q.1 / 64) = true from by assumption]; rfl) | (rw [show (((lnS (L.take m)).take j).any fun z => z == q.1 / 64) = false from by assumption, Bool.false_or, List.any_cons, List.any_nil, Bool.or_false]))) (Sub.cons (congrArg (fun z => some (Value.int IntKind.i64 z)) (by omega)) Sub.nil)))))))))))) (List.Perm.refl _)
      ·try simp only [hasB, isSizeB, sB] at h13
       refine QAt.yes rfl rfl (qM rfl rfl (QAt.yes rfl rfl (qM rfl rfl (QAt.yes rfl rfl (qV (Val.indexRow (i := 0) j (by omega) Tryd.underlying44 Tryd.sizeOf3 rfl rfl rfl (by omega) (by omega)) rfl (QAt.yes rfl rfl ?_))))))
       refine qV (Val.loadRow (u := .int .i64 z) (i := 0) Tryd.isAgg3 rfl rfl (by rw [List.getElem?_map, hz]; rfl)) rfl ?_
       refine QAt.yes rfl rfl (qM rfl rfl (QAt.yes rfl rfl (qM rfl rfl (QAt.yes rfl rfl (qV (Val.indexRow (i := 1) (m * 2) (by omega) Tryd.underlying24 Tryd.sizeOf46 rfl rfl rfl (by omega) (by omega)) rfl (QAt.yes rfl rfl (qV (Val.field ((m * 2 + 0)) rfl fo_46_0 rfl) rfl (QAt.yes rfl rfl (qV (Val.loadRow (u := .int .i64 q.1) (i := 1) Tryd.isAgg3 rfl rfl (prC_at hq).1) rfl (QAt.yes rfl rfl (qV (Val.quoI rfl rfl (by omega) (by omega) (by decide)) rfl (QAt.yes rfl rfl (qV (Val.bin rfl rfl rfl) rfl (qV (Val.pickF rfl rfl) rfl (qV (Val.assign rfl) rfl (QAt.fin (At.blkN (At.thenN (At.region (tM rfl rfl ?_))))))))))))))))))))
       first | refine tV (Val.addI rfl rfl (by omega) (by omega)) rfl ?_ | refine tV (Val.bin rfl rfl rfl) rfl ?_
       refine tA rfl rfl (tE ?_)
       exact At.again (j + 1) (show j + 1 ≤ _ by omega) (by omega) (Sub.cons rfl (Sub.cons rfl (Sub.cons rfl (Sub.cons rfl (Sub.cons rfl (Sub.cons rfl (Sub.cons rfl (Sub.cons rfl (Sub.cons rfl (Sub.cons rfl (Sub.cons (congrArg (fun t => some (Value.bool t)) (by rw [List.take_succ_of_get hz, List.any_append]; first | (rw [show (((lnS (L.take m)).take j).any fun z => z == q.1 / 64) = true from by assumption]; rfl) | (rw [show (((lnS (L.take m)).take j).any fun z => z == q.1 / 64) = false from by assumption, Bool.false_or, List.any_cons, List.any_nil, Bool.or_false]))) (Sub.cons (congrArg (fun z => some (Value.int IntKind.i64 z)) (by omega)) Sub.nil)))))))))))) (List.Perm.refl _)
     ·try simp only [hasB, isSizeB, sB] at h12
      obtain rfl : j = (lnS (L.take m)).length := by omega
      rw [List.take_length]
      refine At.exitC (At.thenX (At.thenX (At.blkX (At.thenN (At.seq (tR (tM rfl rfl (tV (Val.not rfl) rfl (tE ?_)))))))))
      refine At.cond rfl (fun h14 => ?_) (fun h14 => ?_)
      ·try simp only [hasB, isSizeB, sB] at h14
       have hkn : ((lnS (L.take m)).any fun z => z == q.1 / 64) = false := by simpa using h14
       refine At.region (tM rfl rfl (tM rfl rfl (tM rfl rfl (tV (Val.indexRow (i := 1) (m * 2) (by omega) Tryd.underlying24 Tryd.sizeOf46 rfl rfl rfl (by omega) (by omega)) rfl (tV (Val.field ((m * 2 + 0)) rfl fo_46_0 rfl) rfl (tV (Val.loadRow (u := .int .i64 q.1) (i := 1) Tryd.isAgg3 rfl rfl (prC_at hq).1) rfl (tV (Val.quoI rfl rfl (by omega) (by omega) (by decide)) rfl (At.buildSl (fun a ha => by simp only [List.map_toArray, List.map_cons, List.map_nil, ha.eval (x := (.tmp 109)) rfl]; try rfl) (bs_44_1 _ ) rfl (fun b15 => (At.appendI1 (i := 1) (j := 0) (by_ := 8) Tryd.underlying44 info_3 rfl rfl rfl rfl rfl rfl rfl rfl (by omega) (by omega) rfl (fun v16 => ?_)))))))))))
       simp only [sc0, scS]
       refine At.drop 0 ?_
       simp only [ec0, ecS]
       refine tA rfl rfl (tE (tR (tM rfl rfl (tM rfl rfl (tM rfl rfl (tV (Val.indexRow (i := 1) (m * 2) (by omega) Tryd.underlying24 Tryd.sizeOf46 rfl rfl rfl (by omega) (by omega)) rfl (tV (Val.field ((m * 2 + 0)) rfl fo_46_0 rfl) rfl (tV (Val.loadRow (u := .int .i64 q.1) (i := 1) Tryd.isAgg3 rfl rfl (prC_at hq).1) rfl ?_))))))))
       refine At.callK 2 rfl (fun w hw hr => (by have h0 := word_k _ _ τ (q.1 / 8).toNat ⟨q.2, [], 0⟩ w (by rw [hry2.ws]; exact mkC_at (huq q (List.mem_of_getElem? hq))) hr; rwa [← hqb.2.2] at h0)) Tryd.call9 rfl rfl (tM rfl rfl (tV (Val.extract rfl rfl) rfl (tV (Val.extract rfl rfl) rfl (tA rfl rfl (tA rfl rfl (tE (tR (tM rfl rfl (tV (Val.bin rfl rfl rfl) rfl (tM rfl rfl (At.yes rfl rfl (tM rfl rfl (At.yes rfl rfl (tM rfl rfl (At.yes rfl rfl (tM rfl rfl (At.yes rfl rfl (tV (Val.indexRow (i := 1) (m * 2) (by omega) Tryd.underlying24 Tryd.sizeOf46 rfl rfl rfl (by omega) (by omega)) rfl (At.yes rfl rfl (tV (Val.field ((m * 2 + 1)) rfl fo_46_1 rfl) rfl (At.yes rfl rfl (tV (Val.loadRow (u := b64 q.2) (i := 1) Tryd.isAgg38 rfl rfl (prC_at hq).2) rfl (At.yes rfl rfl (tV (Val.bin rfl rfl rfl) rfl ?_))))))))))))))))))))))))
       rw [show nowW ⟨q.2, [], 0⟩ = q.2 from rfl, bne_self_eq_false]
       refine tV (Val.pickF rfl rfl) rfl (tE (At.condF rfl (At.skipC (At.blkN (At.thenN (At.region (tM rfl rfl ?_)))))))
       first | refine tV (Val.addI rfl rfl (by omega) (by omega)) rfl ?_ | refine tV (Val.bin rfl rfl rfl) rfl ?_
       refine tA rfl rfl (tE ?_)
       exact At.again (m + 1, v16) (show m + 1 ≤ _ by omega) (by dsimp only; omega) (Sub.cons rfl (Sub.cons rfl (Sub.cons rfl (Sub.cons rfl (Sub.cons rfl (Sub.cons rfl (Sub.cons rfl (Sub.cons rfl (Sub.cons rfl (Sub.cons (congrArg (fun z => some (Value.int IntKind.i64 z)) (by omega)) Sub.nil)))))))))) (by dsimp only; rw [lnS_snoc hq, if_neg (by rw [hkn]; decide)])
      ·try simp only [hasB, isSizeB, sB] at h14
       have hkn : ((lnS (L.take m)).any fun z => z == q.1 / 64) = true := by simpa using h14
       refine At.skipC (At.thenN (tR (tM rfl rfl (tM rfl rfl (tM rfl rfl (tV (Val.indexRow (i := 1) (m * 2) (by omega) Tryd.underlying24 Tryd.sizeOf46 rfl rfl rfl (by omega) (by omega)) rfl (tV (Val.field ((m * 2 + 0)) rfl fo_46_0 rfl) rfl (tV (Val.loadRow (u := .int .i64 q.1) (i := 1) Tryd.isAgg3 rfl rfl (prC_at hq).1) rfl ?_))))))))
       refine At.callK 2 rfl (fun w hw hr => (by have h0 := word_k _ _ τ (q.1 / 8).toNat ⟨q.2, [], 0⟩ w (by rw [hry2.ws]; exact mkC_at (huq q (List.mem_of_getElem? hq))) hr; rwa [← hqb.2.2] at h0)) Tryd.call9 rfl rfl (tM rfl rfl (tV (Val.extract rfl rfl) rfl (tV (Val.extract rfl rfl) rfl (tA rfl rfl (tA rfl rfl (tE (tR (tM rfl rfl (tV (Val.bin rfl rfl rfl) rfl (tM rfl rfl (At.yes rfl rfl (tM rfl rfl (At.yes rfl rfl (tM rfl rfl (At.yes rfl rfl (tM rfl rfl (At.yes rfl rfl (tV (Val.indexRow (i := 1) (m * 2) (by omega) Tryd.underlying24 Tryd.sizeOf46 rfl rfl rfl (by omega) (by omega)) rfl (At.yes rfl rfl (tV (Val.field ((m * 2 + 1)) rfl fo_46_1 rfl) rfl (At.yes rfl rfl (tV (Val.loadRow (u := b64 q.2) (i := 1) Tryd.isAgg38 rfl rfl (prC_at hq).2) rfl (At.yes rfl rfl (tV (Val.bin rfl rfl rfl) rfl ?_))))))))))))))))))))))))
       rw [show nowW ⟨q.2, [], 0⟩ = q.2 from rfl, bne_self_eq_false]
       refine tV (Val.pickF rfl rfl) rfl (tE (At.condF rfl (At.skipC (At.blkN (At.thenN (At.region (tM rfl rfl ?_)))))))
       first | refine tV (Val.addI rfl rfl (by omega) (by omega)) rfl ?_ | refine tV (Val.bin rfl rfl rfl) rfl ?_
       refine tA rfl rfl (tE ?_)
       exact At.again (m + 1, vz) (show m + 1 ≤ _ by omega) (by dsimp only; omega) (Sub.cons rfl (Sub.cons rfl (Sub.cons rfl (Sub.cons rfl (Sub.cons rfl (Sub.cons rfl (Sub.cons rfl (Sub.cons rfl (Sub.cons rfl (Sub.cons (congrArg (fun z => some (Value.int IntKind.i64 z)) (by omega)) Sub.nil)))))))))) (by dsimp only; rw [lnS_snoc hq, if_pos hkn])
    ·try simp only [hasB, isSizeB, sB] at h11
     obtain rfl : m = L.length := by omega
     rw [List.take_length]
     refine At.exitC (At.thenX (At.thenX (At.blkX (At.thenN (tR (tM rfl rfl (tM rfl rfl (tV (Val.lenRow (i := 1) Tryd.underlying24 rfl rfl) rfl (tV (Val.mulI rfl rfl (by omega) (by omega)) rfl (tV (Val.addI rfl rfl (by omega) (by omega)) rfl (tM rfl rfl (tV (Val.lenRow (i := 1) Tryd.underlying24 rfl rfl) rfl (tV (Val.addI rfl rfl (by omega) (by omega)) rfl (tV (Val.quoI rfl rfl (by omega) (by omega) (by decide)) rfl (tV (Val.addI rfl rfl (by omega) (by omega)) rfl (tM rfl rfl (tV (Val.lenRow (i := 0) Tryd.underlying44 rfl rfl) rfl (tV (Val.addI rfl rfl (by omega) (by omega)) rfl (tV (Val.addI rfl rfl (by omega) (by omega)) rfl (tA rfl rfl (At.nil ?_)))))))))))))))))))))
     rw [show (σ.steps : Int) + 3 * (L.length : Int) + ((L.length : Int) + 3) / 4 + ((lnS L).length : Int) + 10 = ((τ.steps : Nat) : Int) from by rw [hts, ← hZl]; omega]
     refine At.thenN (tR (tM rfl rfl (tV (Val.bin rfl rfl rfl) rfl (tM rfl rfl (At.yes rfl rfl (tM rfl rfl (At.yes rfl rfl (At.callK 2 rfl (fun w hw hr => steps_k _ _ _ w hr) Tryd.call10 rfl rfl (At.yes rfl rfl (tM rfl rfl (At.yes rfl rfl (tV (Val.bin rfl rfl rfl) rfl ?_))))))))))))
     rw [bne_self_eq_false]
     refine tV (Val.pickF rfl rfl) rfl (At.nil (At.drop 0 ?_))
     simp only [ec0, ecS]
     refine At.drop 0 ?_
     simp only [ec0, ecS]
     refine At.thenN (At.condF rfl (At.skipC (At.blkN (At.thenN (At.region (tM rfl rfl ?_))))))
     first | refine tV (Val.addI rfl rfl (by omega) (by omega)) rfl ?_ | refine tV (Val.bin rfl rfl rfl) rfl ?_
     refine tA rfl rfl (tE ?_)
     exact At.again (k + 1, y10, τ, us) ⟨(show k + 1 ≤ _ by omega), (show k + 1 ≤ 60 by omega), hry2, (by dsimp only; omega)⟩ (by dsimp only; omega) (Sub.cons rfl (Sub.cons rfl (Sub.cons rfl (Sub.cons rfl (Sub.cons rfl (Sub.cons (congrArg (fun z => some (Value.int IntKind.i64 z)) (by dsimp only; omega)) Sub.nil)))))) (List.Perm.refl _)
  ·try simp only [hasB, isSizeB, sB] at h7
   refine At.exitC (At.thenX (At.thenX (At.blkX (At.thenN (tR ?_)))))
   refine tV (Val.build (fun a ha => by simp only [List.map_toArray, List.map_cons, List.map_nil, ha.eval (x := (.const (.int .i64 (2048)))) rfl] <;> rfl) (bld_46_0 _ )) rfl ?_
   refine tV (Val.build (fun a ha => by simp only [List.map_toArray, List.map_cons, List.map_nil, ha.eval (x := (.const (.int .i64 (2056)))) rfl] <;> rfl) (bld_46_0 _ )) rfl ?_
   refine tV (Val.build (fun a ha => by simp only [List.map_toArray, List.map_cons, List.map_nil, ha.eval (x := (.const (.int .i64 (2064)))) rfl] <;> rfl) (bld_46_0 _ )) rfl ?_
   refine tV (Val.build (fun a ha => by simp only [List.map_toArray, List.map_cons, List.map_nil, ha.eval (x := (.const (.int .i64 (2112)))) rfl] <;> rfl) (bld_46_0 _ )) rfl ?_
   refine tV (Val.build (fun a ha => by simp only [List.map_toArray, List.map_cons, List.map_nil, ha.eval (x := (.const (.int .i64 (2120)))) rfl] <;> rfl) (bld_46_0 _ )) rfl ?_
   refine tV (Val.build (fun a ha => by simp only [List.map_toArray, List.map_cons, List.map_nil, ha.eval (x := (.const (.int .i64 (2128)))) rfl] <;> rfl) (bld_46_0 _ )) rfl ?_
   refine tV (Val.build (fun a ha => by simp only [List.map_toArray, List.map_cons, List.map_nil, ha.eval (x := (.const (.int .i64 (2176)))) rfl] <;> rfl) (bld_46_0 _ )) rfl ?_
   refine tV (Val.build (fun a ha => by simp only [List.map_toArray, List.map_cons, List.map_nil, ha.eval (x := (.const (.int .i64 (2184)))) rfl] <;> rfl) (bld_46_0 _ )) rfl ?_
   refine tV (Val.build (fun a ha => by simp only [List.map_toArray, List.map_cons, List.map_nil, ha.eval (x := (.const (.int .i64 (2192)))) rfl] <;> rfl) (bld_46_0 _ )) rfl (At.buildSl (fun a ha => by simp only [List.map_toArray, List.map_cons, List.map_nil, ha.eval (x := (.tmp 155)) rfl, ha.eval (x := (.tmp 156)) rfl, ha.eval (x := (.tmp 157)) rfl, ha.eval (x := (.tmp 158)) rfl, ha.eval (x := (.tmp 159)) rfl, ha.eval (x := (.tmp 160)) rfl, ha.eval (x := (.tmp 161)) rfl, ha.eval (x := (.tmp 162)) rfl, ha.eval (x := (.tmp 163)) rfl]; try rfl) (bs_24_9 _ _ _ _ _ _ _ _ _ _ _ _ _ _ _ _ _ _ ) rfl (fun b17 => (tA rfl rfl (tE (tR (tM rfl rfl (tV (Val.loadAll (i := 2) Tryd.isAgg31 Tryd.sizeOf31 rfl rfl rfl) rfl (tM rfl rfl ?_))))))))
   refine At.callD 1 rfl (fun w hw hr => commit_d _ _ _ (supS p i c).1 (supS p i c).2.1 (supS p i c).2.2 (4 + (supS p i c).2.1 / 8) _ nineC w (ht.mod hw.mod) (Rep.off0 hw ht (fun h => h) (i := 1) rfl) (rd_blkC (L := nineC) (hw.blk (i := 0) rfl) rfl) (off_blkC (Rep.offBlk hw (i := 0) (j := 1) rfl rfl (by decide))) (by intro q hq; simp only [nineC, trioC, List.take, List.mem_cons, List.not_mem_nil, or_false] at hq; rcases hq with rfl | rfl | rfl | rfl | rfl | rfl | rfl | rfl | rfl <;> decide) (by first | decide | omega | (simp only [List.length_cons, List.length_nil]; omega)) (by show (σ).steps + 200 ≤ _; omega) hr) Tryd.call8 rfl rfl (fun y18 => ?_)
   simp only [sc0, scS]
   rw [hry.ref41 (.inr (by decide))]
   refine tA rfl rfl (tE (tR (tM rfl rfl (tV (Val.loadAll (i := 2) Tryd.isAgg31 Tryd.sizeOf31 rfl rfl rfl) rfl (At.callD 1 rfl (fun w hw hr => commit_d _ _ _ (supS p i c).1 (supS p i c).2.1 (supS p i c).2.2 (4 + (supS p i c).2.1 / 8) _ [] w (ht.mod hw.mod) (Rep.off0 hw ht (fun h => h) (i := 1) rfl) (Rd.nil w 2) (fun hne => absurd rfl hne) (fun q hq => by cases hq) (by first | decide | omega | (simp only [List.length_cons, List.length_nil]; omega)) (by show (σ).steps + 200 ≤ _; omega) hr) Tryd.call8 rfl rfl (fun y19 => ?_))))))
   simp only [sc0, scS]
   rw [hry.ref41 (.inl rfl)]
   refine tA rfl rfl (tE (tR (tM rfl rfl (tV (Val.loadAll (i := 2) Tryd.isAgg31 Tryd.sizeOf31 rfl rfl rfl) rfl ?_))))
   refine tV (Val.build (fun a ha => by simp only [List.map_toArray, List.map_cons, List.map_nil, ha.eval (x := (.const (.int .i64 (2048)))) rfl] <;> rfl) (bld_46_0 _ )) rfl ?_
   refine tV (Val.build (fun a ha => by simp only [List.map_toArray, List.map_cons, List.map_nil, ha.eval (x := (.const (.int .i64 (2056)))) rfl] <;> rfl) (bld_46_0 _ )) rfl ?_
   refine tV (Val.build (fun a ha => by simp only [List.map_toArray, List.map_cons, List.map_nil, ha.eval (x := (.const (.int .i64 (2048)))) rfl] <;> rfl) (bld_46_0 _ )) rfl (At.buildSl (fun a ha => by simp only [List.map_toArray, List.map_cons, List.map_nil, ha.eval (x := (.tmp 174)) rfl, ha.eval (x := (.tmp 175)) rfl, ha.eval (x := (.tmp 176)) rfl]; try rfl) (bs_24_3 _ _ _ _ _ _ ) rfl (fun b20 => ?_))
   refine At.callD 2 rfl (fun w hw hr => commit_d _ _ _ (supS p i c).1 (supS p i c).2.1 (supS p i c).2.2 (4 + (supS p i c).2.1 / 8) _ trioC w (ht.mod hw.mod) (Rep.off0 hw ht (fun h => h) (i := 2) rfl) (rd_blkC (L := trioC) (hw.blk (i := 0) rfl) rfl) (off_blkC (Rep.offBlk hw (i := 0) (j := 2) rfl rfl (by decide))) (by intro q hq; simp only [nineC, trioC, List.take, List.mem_cons, List.not_mem_nil, or_false] at hq; rcases hq with rfl | rfl | rfl <;> decide) (by first | decide | omega | (simp only [List.length_cons, List.length_nil]; omega)) (by show (σ).steps + 200 ≤ _; omega) hr) Tryd.call8 rfl rfl (fun y21 => ?_)
   simp only [sc0, scS]
   rw [hry.ref40 (by decide) (plk_trio _)]
   refine tA rfl rfl (At.nil (At.drop 0 ?_))
   simp only [ec0, ecS]
   refine At.thenN (At.seq ?_)
   obtain ⟨τ, us, hcm, hry2, htl, hts, huq⟩ := hry.com (cs := nineC.take 8) (by decide) (by decide) (plk_nine (by omega))
   have hZ8 : (lnK (ksOf (nineC.take 8))).length ≤ 8 := by rw [lnK_len]; have := lnL_len (ksOf (nineC.take 8)); rw [ksOf_len] at this; exact this
   have hn8 : (nineC.take 8).length = 8 := rfl
   refine At.tail 4 rfl (by decide +kernel) ?_
   simp only [List.take_succ_cons, List.take_zero, List.drop_succ_cons, List.drop_zero]
   refine qM rfl rfl (qV (Val.loadAll (i := 2) Tryd.isAgg31 Tryd.sizeOf31 rfl rfl rfl) rfl (qM rfl rfl (qV (Val.cutBlk (i := 0) (L := nineC) (n := 9) (h := 8) rfl rfl Tryd.underlying24 Tryd.sizeOf46 rfl ⟨_, _, rfl, by decide, by decide⟩ (by decide)) rfl (QAt.fin ?_))))
   refine At.callD 1 rfl (fun w hw hr => commit_d _ _ _ (supS p i c).1 (supS p i c).2.1 (supS p i c).2.2 (4 + (supS p i c).2.1 / 8) _ (nineC.take 8) w (ht.mod hw.mod) (Rep.off0 hw ht (fun h => h) (i := 1) rfl) (RdP.cut0 (L := nineC) (h := 8) (rd_blkC (L := nineC) (hw.blk (i := 0) rfl) rfl) (by decide)) (cut_offB (Rep.offBlk hw (i := 0) (j := 1) rfl rfl (by decide))) (by intro q hq; simp only [nineC, trioC, List.take, List.mem_cons, List.not_mem_nil, or_false] at hq; rcases hq with rfl | rfl | rfl | rfl | rfl | rfl | rfl | rfl <;> decide) (by first | decide | omega | (simp only [List.length_cons, List.length_nil]; omega)) (by show (σ).steps + 200 ≤ _; omega) hr) Tryd.call8 rfl rfl (fun y22 => ?_)
   simp only [sc0, scS]
   rw [hcm]
   refine tA rfl rfl (At.nil (At.drop 0 ?_))
   simp only [ec0, ecS]
   refine At.thenN (At.seq (tR (tM rfl rfl (tV (Val.bin rfl rfl rfl) rfl (tM rfl rfl (At.yes rfl rfl (tM rfl rfl (At.yes rfl rfl (tV (Val.bin rfl rfl rfl) rfl (tV (Val.pickF rfl rfl) rfl (tM rfl rfl (At.yes rfl rfl (tM rfl rfl (At.yes rfl rfl (tV (Val.bin rfl rfl rfl) rfl (tV (Val.pickF rfl rfl) rfl (tM rfl rfl (At.yes rfl rfl (tM rfl rfl (At.yes rfl rfl (tV (Val.bin rfl rfl rfl) rfl (tV (Val.pickF rfl rfl) rfl (tE (At.condF rfl (At.skipC (At.thenN (tR (tM rfl rfl (At.callK 0 rfl (fun w hw hr => steps_k _ _ _ w hr) Tryd.call10 rfl rfl (tA rfl rfl (tE (tR (tM rfl rfl (tV (Val.bin rfl rfl rfl) rfl (At.weaken [(1, _), (2, _), (8, _), (9, _), (11, _), (12, _), (43, _), (47, _), (155, _), (156, _), (157, _), (158, _), (159, _), (160, _), (161, _), (162, _), (163, _), (164, _), (22, _), (165, _), (166, _), (167, _), (168, _), (23, _), (169, _), (170, _), (171, _), (24, _), (172, _), (173, _), (174, _), (175, _), (176, _), (177, _), (178, _), (25, _), (179, _), (180, _), (181, _), (182, _), (183, _), (26, _), (184, _), (185, _), (186, _), (187, _), (188, _), (189, _), (190, _), (191, _), (192, _), (193, _), (194, _), (195, _), (196, _), (197, _), (198, _), (199, _), (201, _)] (Sub.cons rfl (Sub.cons rfl (Sub.cons rfl (Sub.cons rfl (Sub.cons rfl (Sub.cons rfl (Sub.cons rfl (Sub.cons rfl (Sub.cons rfl (Sub.cons rfl (Sub.cons rfl (Sub.cons rfl (Sub.cons rfl (Sub.cons rfl (Sub.cons rfl (Sub.cons rfl (Sub.cons rfl (Sub.cons rfl (Sub.cons rfl (Sub.cons rfl (Sub.cons rfl (Sub.cons rfl (Sub.cons rfl (Sub.cons rfl (Sub.cons rfl (Sub.cons rfl (Sub.cons rfl (Sub.cons rfl (Sub.cons rfl (Sub.cons rfl (Sub.cons rfl (Sub.cons rfl (Sub.cons rfl (Sub.cons rfl (Sub.cons rfl (Sub.cons rfl (Sub.cons rfl (Sub.cons rfl (Sub.cons rfl (Sub.cons rfl (Sub.cons rfl (Sub.cons rfl (Sub.cons rfl (Sub.cons rfl (Sub.cons rfl (Sub.cons rfl (Sub.cons rfl (Sub.cons rfl (Sub.cons rfl (Sub.cons rfl (Sub.cons rfl (Sub.cons rfl (Sub.cons rfl (Sub.cons rfl (Sub.cons rfl (Sub.cons rfl (Sub.cons rfl (Sub.cons rfl (Sub.cons rfl Sub.nil))))))))))))))))))))))))))))))))))))))))))))))))))))))))))) ?_)))))))))))))))))))))))))))))))))))
   refine At.boolMeet 18 219 (decide (TW wr (supS p i c).2.1)) ?_ ?_
   ·simp only [List.take_succ_cons, List.take_zero]
    refine tM rfl rfl ?_
    refine At.split (t := 202) rfl (fun h23 => ?_) (fun h23 => ?_)
    ·try simp only [hasB, isSizeB, sB] at h23
     refine At.yes rfl rfl (tM rfl rfl (At.yes rfl rfl (tV (Val.field 1 rfl fo_31_1 rfl) rfl (At.yes rfl rfl (tV (Val.load (i := 1) Tryd.isAgg3 rfl rfl rfl) rfl (At.yes rfl rfl (tV (Val.mulI rfl rfl (by omega) (by omega)) rfl (At.yes rfl rfl (tV (Val.addI rfl rfl (by omega) (by omega)) rfl (At.yes rfl rfl (tV (Val.bin rfl rfl rfl) rfl (tV (Val.pickT rfl rfl) rfl (tM rfl rfl ?_)))))))))))))
     refine At.split (t := 210) rfl (fun h24 => ?_) (fun h24 => ?_)
     ·try simp only [hasB, isSizeB, sB] at h24
      refine At.yes rfl rfl (tM rfl rfl (At.yes rfl rfl (tV (Val.remI rfl rfl (by omega) (by omega)) rfl (At.yes rfl rfl (tV (Val.bin rfl rfl rfl) rfl (tV (Val.pickT rfl rfl) rfl (tM rfl rfl ?_)))))))
      refine At.split (t := 215) rfl (fun h25 => ?_) (fun h25 => ?_)
      ·try simp only [hasB, isSizeB, sB] at h25
       refine At.yes rfl rfl (tM rfl rfl (At.yes rfl rfl (tV (Val.remI rfl rfl (by omega) (by omega)) rfl (At.yes rfl rfl (tV (Val.bin rfl rfl rfl) rfl (tV (Val.pickT rfl rfl) rfl (At.nil ?_)))))))
       exact At.boolEnd rfl (by apply Bool.eq_iff_iff.2; simp only [decide_eq_true_eq, beq_iff_eq, Bool.false_eq_true, false_iff, true_iff]; unfold TW; omega) (by repeat (first | exact Sub.nil | refine Sub.cons rfl ?_))
      ·try simp only [hasB, isSizeB, sB] at h25
       refine At.no rfl rfl rfl rfl (At.no rfl rfl rfl rfl (At.no rfl rfl rfl rfl (tV (Val.pickF rfl rfl) rfl (At.nil ?_))))
       exact At.boolEnd rfl (by apply Bool.eq_iff_iff.2; simp only [decide_eq_true_eq, beq_iff_eq, Bool.false_eq_true, false_iff, true_iff]; unfold TW; omega) (by repeat (first | exact Sub.nil | refine Sub.cons rfl ?_))
     ·try simp only [hasB, isSizeB, sB] at h24
      refine At.no rfl rfl rfl rfl (At.no rfl rfl rfl rfl (At.no rfl rfl rfl rfl (tV (Val.pickF rfl rfl) rfl (tM rfl rfl (At.no rfl rfl rfl rfl (At.no rfl rfl rfl rfl (At.no rfl rfl rfl rfl (tV (Val.pickF rfl rfl) rfl (At.nil ?_)))))))))
      exact At.boolEnd rfl (by apply Bool.eq_iff_iff.2; simp only [decide_eq_true_eq, beq_iff_eq, Bool.false_eq_true, false_iff, true_iff]; unfold TW; omega) (by repeat (first | exact Sub.nil | refine Sub.cons rfl ?_))
    ·try simp only [hasB, isSizeB, sB] at h23
     refine At.no rfl rfl rfl rfl (At.no rfl rfl rfl rfl (At.no rfl rfl rfl rfl (At.no rfl rfl rfl rfl (At.no rfl rfl rfl rfl (At.no rfl rfl rfl rfl (tV (Val.pickF rfl rfl) rfl (tM rfl rfl (At.no rfl rfl rfl rfl (At.no rfl rfl rfl rfl (At.no rfl rfl rfl rfl (tV (Val.pickF rfl rfl) rfl (tM rfl rfl (At.no rfl rfl rfl rfl (At.no rfl rfl rfl rfl (At.no rfl rfl rfl rfl (tV (Val.pickF rfl rfl) rfl (At.nil ?_)))))))))))))))))
     exact At.boolEnd rfl (by apply Bool.eq_iff_iff.2; simp only [decide_eq_true_eq, beq_iff_eq, Bool.false_eq_true, false_iff, true_iff]; unfold TW; omega) (by repeat (first | exact Sub.nil | refine Sub.cons rfl ?_))
   ·simp only [List.drop_succ_cons, List.drop_zero]
    refine tA rfl rfl (tE (At.seq ?_))
    rcases Classical.em (TW wr (supS p i c).2.1 ∧ wr ≠ 2048) with hin | hin
    ·obtain ⟨τ2, us2, hcm2, hry3, _, hts2, _⟩ := hry2.com (cs := [((2048 : Int), (3 : BitVec 64)), (wr, 3)]) (by show 1 ≤ 2; omega) (by show 2 ≤ 8; omega) ((plk_two (by omega)).2 hin)
     rw [decide_eq_true hin.1]
     refine At.region (tM rfl rfl (tV (Val.loadAll (i := 1) Tryd.isAgg31 Tryd.sizeOf31 rfl rfl rfl) rfl ?_))
     refine tV (Val.build (fun a ha => by simp only [List.map_toArray, List.map_cons, List.map_nil, ha.eval (x := (.const (.int .i64 (2048)))) rfl, ha.eval (x := (.const (.int .u64 (3)))) rfl] <;> rfl) (bld_46_0_1 _ _ )) rfl (tM rfl rfl ?_)
     refine tV (Val.build (fun a ha => by simp only [List.map_toArray, List.map_cons, List.map_nil, ha.eval (x := (.tmp 223)) rfl, ha.eval (x := (.const (.int .u64 (3)))) rfl] <;> rfl) (bld_46_0_1 _ _ )) rfl (At.buildSl (fun a ha => by simp only [List.map_toArray, List.map_cons, List.map_nil, ha.eval (x := (.tmp 222)) rfl, ha.eval (x := (.tmp 224)) rfl]; try rfl) (bs_24_2 _ _ _ _ ) rfl (fun b26 => ?_))
     refine At.callD 1 rfl (fun w hw hr => commit_d _ _ _ (supS p i c).1 (supS p i c).2.1 (supS p i c).2.2 (4 + (supS p i c).2.1 / 8) _ [((2048 : Int), (3 : BitVec 64)), (wr, 3)] w (ht.mod hw.mod) (Rep.off0 hw ht (fun h => h) (i := 1) rfl) (rd_blkC (L := [((2048 : Int), (3 : BitVec 64)), (wr, 3)]) (hw.blk (i := 0) rfl) rfl) (off_blkC (Rep.offBlk hw (i := 0) (j := 1) rfl rfl (by decide))) (by intro q hq; simp only [List.mem_cons, List.not_mem_nil, or_false] at hq; rcases hq with rfl | rfl; decide; exact hwr) (by first | decide | omega | (simp only [List.length_cons, List.length_nil]; omega)) (by show (τ).steps + 200 ≤ _; omega) hr) Tryd.call8 rfl rfl (fun y27 => ?_)
     simp only [sc0, scS]
     rw [hcm2]
     refine tA rfl rfl (tE (At.seq (tR (tM rfl rfl (tE (At.condT rfl (tR (tM rfl rfl (tV (Val.bin rfl rfl rfl) rfl ?_)))))))))
     rw [show (wr == 2048) = false from beq_eq_false_iff_ne.2 hin.2]
     refine tM rfl rfl (At.no rfl rfl rfl rfl (At.no rfl rfl rfl rfl (tV (Val.pickF rfl rfl) rfl (tM rfl rfl (At.yes rfl rfl (tM rfl rfl (At.yes rfl rfl (tV (Val.bin rfl rfl rfl) rfl ?_))))))))
     rw [show (wr != 2048) = true from bne_iff_ne.2 hin.2]
     refine At.yes rfl rfl (tM rfl rfl (At.yes rfl rfl (tM rfl rfl (At.yes rfl rfl (tV (Val.bin rfl rfl rfl) rfl (At.yes rfl rfl (tV (Val.pickT rfl rfl) rfl (tV (Val.pickF rfl rfl) rfl (tA rfl rfl (tE (At.retC (At.thenR (At.ret1 (.inl rfl) rfl rfl rfl (fun w hw => ?_))))))))))))))
     exact ⟨rfl, hw.mod⟩
    ·have hno := hry2.ref40 (cs := [((2048 : Int), (3 : BitVec 64)), (wr, 3)]) (by simp only [List.length_cons, List.length_nil]; omega) (fun g => hin ((plk_two (by omega)).1 g))
     refine At.region (tM rfl rfl (tV (Val.loadAll (i := 1) Tryd.isAgg31 Tryd.sizeOf31 rfl rfl rfl) rfl ?_))
     refine tV (Val.build (fun a ha => by simp only [List.map_toArray, List.map_cons, List.map_nil, ha.eval (x := (.const (.int .i64 (2048)))) rfl, ha.eval (x := (.const (.int .u64 (3)))) rfl] <;> rfl) (bld_46_0_1 _ _ )) rfl (tM rfl rfl ?_)
     refine tV (Val.build (fun a ha => by simp only [List.map_toArray, List.map_cons, List.map_nil, ha.eval (x := (.tmp 223)) rfl, ha.eval (x := (.const (.int .u64 (3)))) rfl] <;> rfl) (bld_46_0_1 _ _ )) rfl (At.buildSl (fun a ha => by simp only [List.map_toArray, List.map_cons, List.map_nil, ha.eval (x := (.tmp 222)) rfl, ha.eval (x := (.tmp 224)) rfl]; try rfl) (bs_24_2 _ _ _ _ ) rfl (fun b28 => ?_))
     refine At.callD 1 rfl (fun w hw hr => commit_d _ _ _ (supS p i c).1 (supS p i c).2.1 (supS p i c).2.2 (4 + (supS p i c).2.1 / 8) _ [((2048 : Int), (3 : BitVec 64)), (wr, 3)] w (ht.mod hw.mod) (Rep.off0 hw ht (fun h => h) (i := 1) rfl) (rd_blkC (L := [((2048 : Int), (3 : BitVec 64)), (wr, 3)]) (hw.blk (i := 0) rfl) rfl) (off_blkC (Rep.offBlk hw (i := 0) (j := 1) rfl rfl (by decide))) (by intro q hq; simp only [List.mem_cons, List.not_mem_nil, or_false] at hq; rcases hq with rfl | rfl; decide; exact hwr) (by first | decide | omega | (simp only [List.length_cons, List.length_nil]; omega)) (by show (τ).steps + 200 ≤ _; omega) hr) Tryd.call8 rfl rfl (fun y29 => ?_)
     simp only [sc0, scS]
     rw [hno]
     refine tA rfl rfl (tE (At.seq (tR (tM rfl rfl (tE ?_)))))
     refine At.cond rfl (fun h30 => ?_) (fun h30 => ?_)
     ·try simp only [hasB, isSizeB, sB] at h30
      refine tR (tM rfl rfl (tV (Val.bin rfl rfl rfl) rfl ?_))
      rw [show (wr == 2048) = true from beq_iff_eq.2 (by apply Classical.byContradiction; intro g; exact hin ⟨by assumption, g⟩)]
      refine tM rfl rfl (At.yes rfl rfl (tM rfl rfl (At.yes rfl rfl (tV (Val.bin rfl rfl rfl) rfl (tV (Val.pickT rfl rfl) rfl (tM rfl rfl (At.no rfl rfl rfl rfl (At.no rfl rfl rfl rfl (At.no rfl rfl rfl rfl (At.noU rfl rfl rfl (At.noU rfl rfl rfl (At.no rfl rfl rfl rfl (tV (Val.pickT rfl rfl) rfl (tA rfl rfl (tE (At.retC (At.thenR (At.ret1 (.inl rfl) rfl rfl rfl (fun w hw => ?_)))))))))))))))))))
      exact ⟨rfl, hw.mod⟩
     ·try simp only [hasB, isSizeB, sB] at h30
      refine At.skipC (At.thenN (tR (tM rfl rfl (tV (Val.bin rfl rfl rfl) rfl (tM rfl rfl (At.yes rfl rfl (tM rfl rfl (At.yes rfl rfl (At.callK 1 rfl (fun w hw hr => steps_k _ _ _ w hr) Tryd.call10 rfl rfl (At.yes rfl rfl (tM rfl rfl (At.yes rfl rfl (tV (Val.bin rfl rfl rfl) rfl ?_)))))))))))))
      rw [beq_self_eq_true]
      refine tV (Val.pickT rfl rfl) rfl (tA rfl rfl (tE (At.retC (At.ret1 (.inl rfl) rfl rfl rfl (fun w hw => ?_)))))
      exact ⟨rfl, hw.mod⟩
end Go.Proofs.YtfchinibjhcejaaDoor
namespace Go.Proofs.YtfchinibjhcejaaDoor
open Go Go.Wk
open Go.ChangeShapes Go.WideShapes Go.ChangeAt Go.RowKit
section
variable {H : Type} {enc : TypeId × Value → H} {P : Program} {W : World} {r : Reach} {base b0 : Nat} {held : Bool}
theorem all_of {p : Nat → Bool} {e : TypeId} : ∀ {ds : List (DataW H)} {i : Nat} {d : DataW H}, (DataW.weightsAll P e ds).all p = true → ds[i]? = some d → (DataW.weights P e d).all p = true
  | d' :: ds, 0, d, h, hd => by
    simp only [DataW.weightsAll, List.all_append, Bool.and_eq_true] at h
    obtain rfl : d' = d := by simpa using hd
    exact h.1
  | d' :: ds, i + 1, d, h, hd => by
    simp only [DataW.weightsAll, List.all_append, Bool.and_eq_true] at h
    exact all_of h.2 (by simpa using hd)
  | [], i, d, h, hd => by simp at hd
def Fl (enc : TypeId × Value → H) (P : Program) (W : World) (b0 : Nat) (held : Bool) (t : TypeId) (c : Value) : Prop :=
  ∃ fuel x, DataW.trod enc P W b0 (fun _ => true) held fuel t [c] = some x ∧ (DataW.weights P t x.1).all (· ≤ reachBytes) = true
theorem Fl.int {t : TypeId} {c : Value} (u : P.underlying t = some (.int .i64)) (h : Fl enc P W b0 held t c) : ∃ n, c = .int .i64 n ∧ Fits n := by
  obtain ⟨fuel, x, hf, _⟩ := h
  obtain ⟨n, g, _, w⟩ := DataW.trod_int u hf
  exact ⟨n, by simpa using g, has64 (by simpa [Lit.wf, IntKind.has] using w)⟩
theorem Fl.word {t : TypeId} {c : Value} (u : P.underlying t = some (.int .u64)) (h : Fl enc P W b0 held t c) : ∃ x, c = b64 x := by
  obtain ⟨fuel, x, hf, _⟩ := h
  obtain ⟨n, g, _, w⟩ := DataW.trod_int u hf
  obtain ⟨x, rfl⟩ := hasU64 (n := n) (by simpa [Lit.wf, IntKind.has] using w)
  exact ⟨x, by simpa using g⟩
theorem Fl.nums {t e : TypeId} {k : IntKind} {c : Value} (hu : P.underlying t = some (.slice e)) (he : P.underlying e = some (.int k)) (hc : P.cellsOf e = 1) (h : Fl enc P W b0 held t c) :
    ∃ zs : List Int, Rd W c 1 zs.length (zs.map (Value.int k)) ∧ zs.length * P.bytesOf e ≤ reachBytes ∧ ∀ z ∈ zs, (Lit.int k z).wf = true := by
  obtain ⟨fuel, x, hf, hw⟩ := h
  rcases open_ints hu he hc hf with ⟨h0, _⟩ | ⟨a, len, cap, zs, h0, _, hl, _, hz, hx, hcell, hwf⟩
  · obtain rfl : c = .slice none 0 0 := by simpa using h0
    exact ⟨[], Rd.nil W 1, by simp, by simp⟩
  · obtain rfl : c = .slice (some a) len cap := by simpa using h0
    simp only [if_true] at hz
    have hxe : x.1 = _ := congrArg Prod.fst hx
    have hdw : zs.length * P.bytesOf e ≤ reachBytes := by
      have hall := List.all_eq_true.1 hw
      rw [hxe] at hall
      unfold DataW.weights at hall
      rw [hu] at hall
      have := hall _ (List.mem_cons_self ..)
      simp only [decide_eq_true_eq, lits, List.length_map] at this
      rw [← List.length_append, List.take_append_drop] at this
      exact this
    have hln : (zs.take len).length = len := by rw [List.length_take]; omega
    have hsp : ∀ j, j < zs.length → a.spot = none := fun j hj => by
      have := World.cell?_spot (hcell 0 (by omega))
      simpa [Addr.add] using this
    refine ⟨zs.take len, ⟨some a, cap, by rw [hln], fun j u hj => ?_, by rw [List.length_map, Nat.mul_one], by omega, (fun h => by cases h), (fun hc0 a' ha => by cases ha; exact hsp 0 (by omega))⟩, Nat.le_trans (Nat.mul_le_mul_right _ (by omega)) hdw, fun z hm => hwf z (List.mem_of_mem_take hm)⟩
    rw [List.getElem?_map, List.getElem?_take] at hj
    split at hj
    · rename_i hlt
      have hjl : j < zs.length := by omega
      have hs := hsp j hjl
      obtain ⟨b, o, s⟩ := a
      have hs' : s = none := hs
      subst hs'
      refine ⟨b, o, rfl, ?_⟩
      have h1 := hcell j hjl
      rw [Addr.add_off] at h1
      rw [h1, ← hj, List.getElem?_eq_getElem hjl]
      simp [List.getD, hjl]
    · cases hj
theorem Fl.bytes {t e : TypeId} {c : Value} (hu : P.underlying t = some (.slice e)) (he : P.underlying e = some (.int .u8)) (hc : P.cellsOf e = 1) (hby : P.bytesOf e = 1) (h : Fl enc P W b0 held t c) :
    ∃ L : List UInt8, RdB W c L ∧ L.length ≤ 140737488355328 := by
  obtain ⟨zs, h1, h2, h3⟩ := Fl.nums hu he hc h
  rw [hby] at h2
  unfold reachBytes at h2
  have he : zs.map (Value.int .u8) = (zs.map (fun z => UInt8.ofNat z.toNat)).map bv := by
    rw [List.map_map]
    refine List.map_congr_left fun z hz => ?_
    obtain ⟨q, rfl⟩ := hasU8 (n := z) (by simpa [Lit.wf, IntKind.has] using h3 z hz)
    simp [bv]
  refine ⟨zs.map (fun z => UInt8.ofNat z.toNat), ?_, by rw [List.length_map]; omega⟩
  unfold RdB
  rw [List.length_map, ← he]
  exact h1
theorem elems_of {t e : TypeId} {v : Value} {fuel n : Nat} {x : DataW H × List MemPlace} (hu : P.underlying t = some (.slice e)) (hc : P.cellsOf e = n)
    (hf : DataW.trod enc P W b0 (fun _ => true) held fuel t [v] = some x) (hw : (DataW.weights P t x.1).all (· ≤ reachBytes) = true) :
    v = .slice none 0 0 ∨ ∃ a len cap, v = .slice (some a) len cap ∧ len ≤ cap ∧ len * P.bytesOf e ≤ reachBytes ∧ ∀ i, i < len → ∃ cs fuel y, cs.length = n ∧ (∀ j, j < n → W.cell? ((a.add (i * n)).add j) = cs[j]?) ∧ DataW.trod enc P W b0 (fun _ => true) held fuel e cs = some y ∧ (DataW.weights P e y.1).all (· ≤ reachBytes) = true := by
  rcases DataW.trod_slice hu hf with ⟨h0, _⟩ | ⟨a, len, cap, elems, rest, m, _, h0, rfl, hb, hl, hm, hlen, hel, hsp, hns⟩
  · left; simpa using h0
  · right
    refine ⟨a, len, cap, by simpa using h0, hl, ?_, fun i hi => ?_⟩
    · have hall := List.all_eq_true.1 hw
      unfold DataW.weights at hall
      rw [hu] at hall
      have := hall _ (List.mem_cons_self ..)
      simp only [decide_eq_true_eq, List.length_map, hlen] at this
      exact Nat.le_trans (Nat.mul_le_mul_right _ (Nat.le_add_right _ _)) this
    · have h1 := hel i hi
      rw [hc, List.getElem?_eq_getElem (by omega), Option.bind_eq_some_iff] at h1
      obtain ⟨cs, h2, h3⟩ := h1
      have h4 := World.cells?_some h2
      refine ⟨cs, m, _, h4.2.1, h4.2.2, h3, ?_⟩
      · unfold DataW.weights at hw
        rw [hu] at hw
        simp only [List.all_cons, List.all_append, Bool.and_eq_true] at hw
        exact all_of (i := i) hw.2.1 (by rw [List.getElem?_map, List.getElem?_eq_getElem (show i < elems.length by omega)]; rfl)
end
structure OpT where
  kd : Int
  ad : Int
  n : Int
  x : BitVec 64
  sp : Int
  si : Int
  sc : Int
  sd : Int
  vC : Value
  C : List (Int × BitVec 64)
  vL : Value
  cs : List Int
  vB : Value
  lB : List UInt8
def opC (o : OpT) : List Value := [.int .i64 o.kd, .int .i64 o.ad, .int .i64 o.n, b64 o.x, .int .i64 o.sp, .int .i64 o.si, .int .i64 o.sc, .int .i64 o.sd, o.vC, o.vL, o.vB]
def oC (L : List OpT) : List Value := L.flatMap opC
def In64 (L : List (Int × BitVec 64)) : Prop := ∀ q ∈ L, -9223372036854775808 ≤ q.1 ∧ q.1 ≤ 9223372036854775807
structure OpOk (w : World) (o : OpT) : Prop where
  c : RdP w o.vC o.C
  l : RdI w o.vL o.cs
  b : RdB w o.vB o.lB
  cb : In64 o.C
  cl : o.C.length ≤ 8796093022208
  ll : o.cs.length ≤ 17592186044416
  bl : o.lB.length ≤ 140737488355328
  n : -9223372036854775808 ≤ o.n ∧ o.n ≤ 9223372036854775807
  a : -9223372036854775808 ≤ o.ad ∧ o.ad ≤ 9223372036854775807
  p : -9223372036854775808 ≤ o.sp ∧ o.sp ≤ 9223372036854775807
def RdO (w : World) (v : Value) (L : List OpT) : Prop := Rd w v 11 L.length (oC L) ∧ ∀ o ∈ L, OpOk w o
theorem OpOk.mod {w w' : World} {o : OpT} (h : OpOk w o) (hm : Mod (fun _ => False) w w') : OpOk w' o := by obtain ⟨a, b, c, d, e, f, g, i, j, k⟩ := h; exact ⟨a.mod hm, b.mod hm, c.mod hm, d, e, f, g, i, j, k⟩
theorem RdO.mod {w w' : World} {v : Value} {L : List OpT} (h : RdO w v L) (hm : Mod (fun _ => False) w w') : RdO w' v L := ⟨h.1.mod hm, fun o ho => (h.2 o ho).mod hm⟩
section
variable {H : Type} {enc : TypeId × Value → H} {P : Program} {W : World} {base b0 : Nat} {held : Bool}
def FlL (enc : TypeId × Value → H) (P : Program) (W : World) (b0 : Nat) (held : Bool) (t : TypeId) (cs : List Value) : Prop :=
  ∃ fuel x, DataW.trod enc P W b0 (fun _ => true) held fuel t cs = some x ∧ (DataW.weights P t x.1).all (· ≤ reachBytes) = true
theorem flL_field {t u : TypeId} {fs : Array Field} {cs : List Value} {i o n : Nat} {f : Field} (ht : P.underlying t = some (.struct fs)) (h : FlL enc P W b0 held t cs) (hfi : fs[i]? = some f) (ho : f.offset = o) (hu : f.type = u) (hn : P.cellsOf u = n) : FlL enc P W b0 held u ((cs.drop o).take n) := by
  obtain ⟨fuel, x, hf, hw⟩ := h
  obtain ⟨xs, m, rfl, hx, _, hsz, hfl⟩ := DataW.trod_struct ht hf
  have h1 := hfl i f hfi
  rw [ho, hu, hn] at h1
  have hil : i < fs.size := (Array.getElem?_eq_some_iff.1 hfi).1
  have hxl : i < xs.length := by rw [hsz]; exact hil
  rw [List.getElem?_eq_getElem hxl] at h1
  refine ⟨m, _, h1, ?_⟩
  have hxe : x.1 = _ := congrArg Prod.fst hx
  rw [hxe] at hw
  unfold DataW.weights at hw
  rw [ht] at hw
  refine each_of hw (i := i) ?_ (by rw [List.getElem?_map, List.getElem?_eq_getElem hxl]; rfl)
  rw [List.getElem?_map, Array.getElem?_toList, hfi]
  exact congrArg some hu
theorem slice_spot {t e : TypeId} {fuel n len cap : Nat} {a : Addr} {x : DataW H × List MemPlace} (hu : P.underlying t = some (.slice e)) (hc : P.cellsOf e = n) (hn : 0 < n) (hf : DataW.trod enc P W b0 (fun _ => true) held fuel t [.slice (some a) len cap] = some x) (h0 : 0 < cap) : a.spot = none := by
  rcases DataW.trod_slice hu hf with ⟨h, _⟩ | ⟨a', len', cap', elems, rest, m, _, h1, rfl, hb, hl, hm, hlen, hel, hsp, hns⟩
  · simp at h
  · simp only [List.cons.injEq, Value.slice.injEq, Option.some.injEq, and_true] at h1
    obtain ⟨rfl, rfl, rfl⟩ := h1
    have key : ∀ y, (W.cells? b0 (a.add (0 * P.cellsOf e)) (P.cellsOf e)).bind (DataW.trod enc P W b0 (fun _ => true) held m e) = some y → a.spot = none := fun y hy => by
      rw [hc, Option.bind_eq_some_iff] at hy
      obtain ⟨cs, h2, _⟩ := hy
      have h4 := World.cells?_some h2
      have h5 := h4.2.2 0 hn
      rw [List.getElem?_eq_getElem (by rw [h4.2.1]; exact hn)] at h5
      have := World.cell?_spot h5
      simpa [Addr.add] using this
    rcases Nat.eq_zero_or_pos len with h | h
    · obtain ⟨g1, g2⟩ := hsp rfl
      have g3 := g2 0 (by omega)
      obtain ⟨y, hy⟩ : ∃ y, rest[0]? = some y := ⟨_, List.getElem?_eq_getElem (by omega)⟩
      rw [hy, h, Nat.zero_add] at g3
      exact key _ g3
    · have g3 := hel 0 h
      rw [List.getElem?_eq_getElem (by omega)] at g3
      exact key _ g3
end
section
variable {H : Type} {enc : TypeId × Value → H} {P : Program} {W : World} {base b0 : Nat} {held : Bool}
theorem Fl.pairs {t e ti tu : TypeId} {fs : Array Field} {f0 f1 : Field} {c : Value} (hu : P.underlying t = some (.slice e)) (he : P.underlying e = some (.struct fs)) (hc : P.cellsOf e = 2) (hby : P.bytesOf e = 16)
    (hf0 : fs[0]? = some f0) (hf1 : fs[1]? = some f1) (o0 : f0.offset = 0) (o1 : f1.offset = 1) (t0 : f0.type = ti) (t1 : f1.type = tu) (ui : P.underlying ti = some (.int .i64)) (uu : P.underlying tu = some (.int .u64)) (ci : P.cellsOf ti = 1) (cu : P.cellsOf tu = 1) (h : Fl enc P W b0 held t c) :
    ∃ L : List (Int × BitVec 64), RdP W c L ∧ L.length ≤ 8796093022208 ∧ In64 L := by
  obtain ⟨fuel, x, hf, hw⟩ := h
  rcases elems_of (n := 2) hu hc hf hw with rfl | ⟨a, len, cap, rfl, hlc, hb, hel⟩
  · exact ⟨[], Rd.nil W 2, by simp, fun q hq => by cases hq⟩
  · rw [hby] at hb
    unfold reachBytes at hb
    obtain ⟨L, hLl, hL⟩ := choose_list' (Q := fun j (z : Int × BitVec 64) => W.cell? ((a.add (j * 2)).add 0) = some (.int .i64 z.1) ∧ W.cell? ((a.add (j * 2)).add 1) = some (b64 z.2) ∧ (-9223372036854775808 ≤ z.1 ∧ z.1 ≤ 9223372036854775807)) len (fun j hj => by
      obtain ⟨cs, fu, y, h1, h2, h3, h4⟩ := hel j hj
      obtain ⟨c0, c1, rfl⟩ : ∃ c0 c1, cs = [c0, c1] := by match cs, h1 with | [c0, c1], _ => exact ⟨c0, c1, rfl⟩
      obtain ⟨n0, rfl, hn0⟩ := Fl.int ui (flL_field he ⟨fu, y, h3, h4⟩ hf0 o0 t0 ci)
      obtain ⟨n1, rfl⟩ := Fl.word uu (flL_field he ⟨fu, y, h3, h4⟩ hf1 o1 t1 cu)
      exact ⟨(n0, n1), h2 0 (by decide), h2 1 (by decide), hn0⟩)
    subst hLl
    have hsp : 0 < cap → a.spot = none := slice_spot hu hc (by decide) hf
    refine ⟨L, ⟨some a, cap, rfl, fun j u hj => ?_, prC_length L, hlc, (fun h => by cases h), (fun hc0 a' ha => by cases ha; exact hsp hc0)⟩, by omega, fun q hq => by obtain ⟨i, hi⟩ := List.getElem?_of_mem hq; exact (hL i q hi).2.2⟩
    have hjl : j < L.length * 2 := by rw [← prC_length L]; exact (List.getElem?_eq_some_iff.1 hj).1
    have hq : L[j / 2]? = some (L[j / 2]'(by omega)) := List.getElem?_eq_getElem _
    have hz := hL (j / 2) _ hq
    have hp := prC_at hq
    have hs := hsp (by omega)
    obtain ⟨b, o, s⟩ := a
    have hs' : s = none := hs
    subst hs'
    refine ⟨b, o, rfl, ?_⟩
    rcases Nat.mod_two_eq_zero_or_one j with hm | hm
    · have e : j / 2 * 2 = j := by omega
      rw [e] at hp hz
      rw [hj] at hp
      rw [Option.some.inj hp.1]
      have := hz.1
      rwa [Addr.add_off, Addr.add_off, Nat.add_zero] at this
    · have e : j / 2 * 2 + 1 = j := by omega
      rw [e] at hp
      rw [hj] at hp
      rw [Option.some.inj hp.2]
      have := hz.2.1
      rwa [Addr.add_off, Addr.add_off, Nat.add_assoc, e] at this
end
section
variable {H : Type} {enc : TypeId × Value → H} {W : World} {base b0 : Nat} {held : Bool}
theorem fl_pairs_c {c : Value} (h : Fl enc Tryd.prog W b0 held 24 c) : ∃ L : List (Int × BitVec 64), RdP W c L ∧ L.length ≤ 8796093022208 ∧ In64 L :=
  Fl.pairs (ti := 3) (tu := 38) Tryd.underlying24 Tryd.underlying46 (by kernel_rfl) (by kernel_rfl) rfl rfl rfl rfl rfl rfl Tryd.underlying3 Tryd.underlying38 (by kernel_rfl) (by kernel_rfl) h
end
section
variable {H : Type} {enc : TypeId × Value → H} {W : World} {base b0 : Nat} {held : Bool}
set_option maxRecDepth 100000 in
theorem arg_start {r : Reach} {v : Value} {d : DataW H} {ps : List MemPlace} (h : Value.okWide Tryd.prog W r base 27 v) (hd : DataW.Trod enc Tryd.prog W b0 (fun _ => true) held 27 v d ps) (hw : (DataW.weights Tryd.prog 27 d).all (· ≤ reachBytes) = true) :
    ∃ (p i c : Int) (bare : Bool) (vW vU : Value) (Ws Us : List (Int × BitVec 64)), v = .agg #[.int .i64 p, .int .i64 i, .int .i64 c, .bool bare, vW, vU] ∧ RdP W vW Ws ∧ Ws.length ≤ 8796093022208 ∧ RdP W vU Us ∧ Us.length ≤ 8796093022208 ∧ In64 Ws ∧ In64 Us ∧ (-9223372036854775808 ≤ p ∧ p ≤ 9223372036854775807) := by
  obtain ⟨fuel, hf⟩ := hd
  have U := Tryd.underlying27
  obtain ⟨cs, rfl, hl, _⟩ := arg_struct U h
  rw [show Tryd.prog.cellsOf 27 = 6 by kernel_rfl] at hl
  have hcs : (Value.agg cs.toArray).cells.toList = cs := by simp [Value.cells]
  rw [hcs] at hf
  obtain ⟨c0, c1, c2, c3, c4, c5, rfl⟩ : ∃ c0 c1 c2 c3 c4 c5, cs = [c0, c1, c2, c3, c4, c5] := by
    match cs, hl with
    | [c0, c1, c2, c3, c4, c5], _ => exact ⟨c0, c1, c2, c3, c4, c5, rfl⟩
  have hr : FlL enc Tryd.prog W b0 held 27 [c0, c1, c2, c3, c4, c5] := ⟨fuel, _, hf, hw⟩
  have hs := flL_field (i := 0) (o := 0) (n := 3) (u := 23) U hr rfl rfl rfl (by kernel_rfl)
  have V := Tryd.underlying23
  obtain ⟨p, rfl, hp⟩ := Fl.int Tryd.underlying3 (flL_field (i := 0) (o := 0) (n := 1) (u := 3) V hs rfl rfl rfl (by kernel_rfl))
  obtain ⟨i, rfl, _⟩ := Fl.int Tryd.underlying3 (flL_field (i := 1) (o := 1) (n := 1) (u := 3) V hs rfl rfl rfl (by kernel_rfl))
  obtain ⟨c, rfl, _⟩ := Fl.int Tryd.underlying3 (flL_field (i := 2) (o := 2) (n := 1) (u := 3) V hs rfl rfl rfl (by kernel_rfl))
  obtain ⟨bare, rfl⟩ : ∃ bare, c3 = .bool bare := by
    obtain ⟨f3, y3, h3, _⟩ := flL_field (i := 1) (o := 3) (n := 1) (u := 4) U hr rfl rfl rfl (by kernel_rfl)
    obtain ⟨b, g, _⟩ := DataW.trod_bool Tryd.underlying4 h3
    exact ⟨b, by simpa using g⟩
  obtain ⟨lW, hW, hWl, hWb⟩ := fl_pairs_c (flL_field (i := 2) (o := 4) (n := 1) (u := 24) U hr rfl rfl rfl (by kernel_rfl))
  obtain ⟨lU, hU, hUl, hUb⟩ := Fl.pairs (ti := 3) (tu := 38) Tryd.underlying25 Tryd.underlying108 (by kernel_rfl) (by kernel_rfl) rfl rfl rfl rfl rfl rfl Tryd.underlying3 Tryd.underlying38 (by kernel_rfl) (by kernel_rfl) (flL_field (i := 3) (o := 5) (n := 1) (u := 25) U hr rfl rfl rfl (by kernel_rfl))
  exact ⟨p, i, c, bare, c4, c5, lW, lU, rfl, hW, hWl, hU, hUl, hWb, hUb, hp⟩
end
end Go.Proofs.YtfchinibjhcejaaDoor
