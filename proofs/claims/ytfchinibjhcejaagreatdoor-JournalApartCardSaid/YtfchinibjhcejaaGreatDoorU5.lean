/- Parts of the proof, joined: see the law's text. -/
import Derived.Test.YtfchinibjhcejaaGreatDoorU4
import Derived.Test.YtfchinibjhcejaaGreatDoorU3
import Derived.Deep.DeepAppendWide
import Derived.Test.YtfchinibjhcejaaGreatDoorU2
import Derived.Laws.AppendOwn
set_option linter.unusedVariables false
set_option linter.unusedSimpArgs false
namespace Go.Proofs.YtfchinibjhcejaaGreatDoor
open Go Go.Wk
theorem image_n (p i c : Int) (bare : Bool) (vW vU : Value) (W U : List (Int × BitVec 64)) (w : World) (hvW : RdP w vW W) (hvU : RdP w vU U) (hWl : W.length ≤ 140737488355328) (hUl : U.length ≤ 140737488355328) (hpb : -9223372036854775808 ≤ p ∧ p ≤ 9223372036854775807) :
    NewRowT Tryz.prog 14 [.agg #[.int .i64 p, .int .i64 i, .int .i64 c, .bool bare, vW, vU]] (fun v => .tuple #[v, .agg #[.int .i64 (supS p i c).1, .int .i64 (supS p i c).2.1, .int .i64 (supS p i c).2.2, .int .i64 (4 + (supS p i c).2.1 / 8)]]) 5 1 (imgE (supS p i c) bare W U).length ((imgE (supS p i c) bare W U).map bv) w := by
 refine enter0 Tryz.func14 rfl Tryz.ntmps14 rfl ?_
 obtain ⟨A, B, C, D, e, hfe, hfc⟩ := fit_ex p i c
 simp only [envOf]
 refine tR (At.box rfl rfl rfl (fun b1 => (tA rfl rfl (At.alloc Tryz.zeroValue31 rfl rfl (fun b2 => (tE (tR (tV (Val.field 0 rfl fo_27_0 rfl) rfl (tV (Val.loadPart (i := 1) Tryz.isAgg23 Tryz.sizeOf23 rfl rfl rfl rfl) rfl (At.alloc Tryz.zeroValue23 rfl rfl (fun b3 => (At.storeAll (i := 0) Tryz.sizeOf23 rfl rfl rfl (by simp [Value.oneCell']) rfl rfl ?_))))))))))))
 simp only [sc0, scS]
 refine tE (tR (tV (Val.loadAll (i := 0) Tryz.isAgg23 Tryz.sizeOf23 rfl rfl rfl) rfl ?_))
 refine At.callP (fun w hw => (by have h0 := fitR_p p i c w hpb; rw [hfe] at h0; exact h0)) Tryz.call33 rfl rfl (tM rfl rfl (tV (Val.extract rfl rfl) rfl (tV (Val.extract rfl rfl) rfl (At.alloc Tryz.zeroValue31 rfl rfl (fun b4 => (At.storeAll (i := 0) Tryz.sizeOf31 rfl rfl rfl (by simp [Value.oneCell']) rfl rfl ?_))))))
 simp only [sc0, scS]
 refine tA rfl rfl (tE ?_)
 refine At.join (σ := Int × Int × Int) (fun s => s = supS p i c) (fun s => [(1, .pointer (some ⟨b1, 0, none⟩)), (3, .pointer (some ⟨b2, 0, none⟩)), (4, .pointer (some ⟨b3, 0, none⟩)), (5, .pointer (some ⟨b4, 0, none⟩))]) (fun s => [blk b4 31 ([.int .i64 s.1, .int .i64 s.2.1, .int .i64 s.2.2, .int .i64 (4 + s.2.1 / 8)]), blk b3 23 ([.int .i64 s.1, .int .i64 s.2.1, .int .i64 s.2.2]), blk b2 31 ([.int .i64 0, .int .i64 0, .int .i64 0, .int .i64 0]), blk b1 27 ([.int .i64 p, .int .i64 i, .int .i64 c, .bool bare, vW, vU])]) ?_ ?_
 ·refine tR (tM rfl rfl (tV (Val.bin rfl rfl rfl) rfl (tE ?_)))
  refine At.cond rfl (fun h5 => ?_) (fun h5 => ?_)
  ·try simp only [hasB, isSizeB, sB] at h5
   have hno : ¬ GoodSup p i c := by rcases hfc with ⟨h1, _⟩ | ⟨_, h2⟩; exact absurd h1 h5; exact h2
   refine tR ?_
   refine tV (Val.build (fun a ha => by simp only [List.map_toArray, List.map_cons, List.map_nil, ha.eval (x := (.const (.int .i64 (24)))) rfl, ha.eval (x := (.const (.int .i64 (8)))) rfl, ha.eval (x := (.const (.int .i64 (1)))) rfl] <;> rfl) (bld_23_0_1_2 _ _ _ )) rfl (At.storeAll (i := 1) Tryz.sizeOf23 rfl rfl rfl (by simp [Value.oneCell']) rfl rfl ?_)
   simp only [sc0, scS]
   refine tE (At.region (tV (Val.loadAll (i := 1) Tryz.isAgg23 Tryz.sizeOf23 rfl rfl rfl) rfl ?_))
   refine At.callP (fun w hw => (by have h0 := fitR_p 24 8 1 w (by decide); rw [fit_yes (by decide)] at h0; exact h0)) Tryz.call33 rfl rfl (tM rfl rfl (tV (Val.extract rfl rfl) rfl (tV (Val.extract rfl rfl) rfl (At.storeAll (i := 0) Tryz.sizeOf31 rfl rfl rfl (by simp [Value.oneCell']) rfl rfl ?_))))
   simp only [sc0, scS]
   refine tE ?_
   exact At.meets (24, 8, 1) (supS_no (by assumption)).symm (Sub.cons rfl (Sub.cons rfl (Sub.cons rfl (Sub.cons rfl Sub.nil)))) (List.Perm.refl _)
  ·try simp only [hasB, isSizeB, sB] at h5
   obtain ⟨hyes, e1, e2, e3, e4⟩ : GoodSup p i c ∧ p = A ∧ i = B ∧ c = C ∧ 4 + i / 8 = D := by rcases hfc with ⟨_, g0, g1, g2, g3, g4⟩ | ⟨h1, _⟩; exact ⟨g0, g1.symm, g2.symm, g3.symm, g4.symm⟩; exact absurd h5 h1
   subst e1 e2 e3 e4
   refine At.skipC (At.thenN ?_)
   exact At.meets (p, i, c) (supS_yes (by assumption)).symm (Sub.cons rfl (Sub.cons rfl (Sub.cons rfl (Sub.cons rfl Sub.nil)))) (List.Perm.refl _)
 ·intro s hs
  have hsS := hs
  have hg : GoodSup s.1 s.2.1 s.2.2 := by rw [hs]; exact supS_good p i c
  have hg2 := hg
  unfold GoodSup at hg2
  clear hfe hfc
  refine tR (tV (Val.field 0 rfl fo_31_0 rfl) rfl (tV (Val.load (i := 0) Tryz.isAgg3 rfl rfl rfl) rfl ?_))
  first | refine tV (Val.mulI rfl rfl (by omega) (by omega)) rfl ?_ | refine tV (Val.bin rfl rfl rfl) rfl ?_
  rw [show 512 * s.1 = (((512 * s.1.toNat) : Nat) : Int) from by omega]
  refine At.makeRowB (n := (512 * s.1.toNat)) Tryz.underlying29 info_5 rfl rfl rfl rfl rfl (by omega) rfl (fun v6 => (tA rfl rfl (tE (At.seq (tR (tA rfl rfl (tE (At.block ?_))))))))
  skip
  refine At.loop (σ := Nat) (fun k => k ≤ W.length) (fun k => [(1, .pointer (some ⟨b1, 0, none⟩)), (3, .pointer (some ⟨b2, 0, none⟩)), (4, .pointer (some ⟨b3, 0, none⟩)), (5, .pointer (some ⟨b4, 0, none⟩)), (7, v6), (8, .int .i64 (k : Int))]) (fun k => [rowR v6 5 1 (((wordsI (zs (512 * s.1.toNat)) (W.take k))).length) (((wordsI (zs (512 * s.1.toNat)) (W.take k))).map bv), blk b4 31 ([.int .i64 s.1, .int .i64 s.2.1, .int .i64 s.2.2, .int .i64 (4 + s.2.1 / 8)]), blk b3 23 ([.int .i64 s.1, .int .i64 s.2.1, .int .i64 s.2.2]), blk b2 31 ([.int .i64 0, .int .i64 0, .int .i64 0, .int .i64 0]), blk b1 27 ([.int .i64 p, .int .i64 i, .int .i64 c, .bool bare, vW, vU])]) (fun k => W.length - k) 0 (Nat.zero_le _) (Sub.cons rfl (Sub.cons rfl (Sub.cons rfl (Sub.cons rfl (Sub.cons rfl (Sub.cons rfl Sub.nil)))))) (List.Perm.refl _) ?_
  intro k hk0
  have hml : (wordsI (zs (512 * s.1.toNat)) (W.take k)).length = (512 * s.1.toNat) := by rw [wordsI_len, zs_length]
  refine At.seq (tR (tM rfl rfl (tV (Val.field 4 rfl fo_27_2 rfl) rfl (tV (Val.load (i := 4) Tryz.isAgg24 rfl rfl rfl) rfl (tV (Val.lenRd hvW Tryz.underlying24 rfl) rfl (tV (Val.bin rfl rfl rfl) rfl (tE ?_)))))))
  refine At.cond rfl (fun h7 => ?_) (fun h7 => ?_)
  ·try simp only [hasB, isSizeB, sB] at h7
   obtain ⟨q, hq⟩ : ∃ q, W[k]? = some q := ⟨_, List.getElem?_eq_getElem (by omega)⟩
   refine At.skipC (At.thenN (At.seq (At.block (At.tail 13 rfl (by decide +kernel) ?_))))
   simp only [List.take_succ_cons, List.take_zero, List.drop_succ_cons, List.drop_zero]
   refine qM rfl rfl (qV (Val.field 4 rfl fo_27_2 rfl) rfl (qV (Val.load (i := 4) Tryz.isAgg24 rfl rfl rfl) rfl (qM rfl rfl (QAt.idxP hvW Tryz.underlying24 Tryz.sizeOf56 rfl rfl (by omega) (by omega) rfl rfl (fun bx ox q1 hq1 hc0 hc1 => ?_)))))
   rw [Int.toNat_natCast] at hq1
   obtain rfl : q = q1 := Option.some.inj (hq.symm.trans hq1)
   refine qV (Val.field ox rfl fo_56_0 rfl) rfl (qV (Val.loadOld Tryz.isAgg3 rfl hc0 (fun h => h)) rfl (qV (Val.field 4 rfl fo_27_2 rfl) rfl (qV (Val.load (i := 4) Tryz.isAgg24 rfl rfl rfl) rfl (qM rfl rfl (QAt.idxP hvW Tryz.underlying24 Tryz.sizeOf56 rfl rfl (by omega) (by omega) rfl rfl (fun bx ox q1 hq1 hc0 hc1 => ?_))))))
   rw [Int.toNat_natCast] at hq1
   obtain rfl : q = q1 := Option.some.inj (hq.symm.trans hq1)
   refine qV (Val.field (ox + 1) rfl fo_56_1 rfl) rfl (qV (Val.loadOld Tryz.isAgg43 rfl hc1 (fun h => h)) rfl (QAt.fin (At.call1 0 rfl (fun w hw hr => lay_r _ (wordsI (zs (512 * s.1.toNat)) (W.take k)) _ _ w (by omega) hr) Tryz.call34 rfl rfl ?_)))
   simp only [sc0, scS]
   refine At.nil (At.blkN (At.thenN (At.region (tM rfl rfl ?_))))
   first | refine tV (Val.addI rfl rfl (by omega) (by omega)) rfl ?_ | refine tV (Val.bin rfl rfl rfl) rfl ?_
   refine tA rfl rfl (tE ?_)
   exact At.again (k + 1) (show k + 1 ≤ _ by omega) (by omega) (Sub.cons rfl (Sub.cons rfl (Sub.cons rfl (Sub.cons rfl (Sub.cons rfl (Sub.cons (congrArg (fun z => some (Value.int IntKind.i64 z)) (by omega)) Sub.nil)))))) (by rw [wordsI_snoc hq])
  ·try simp only [hasB, isSizeB, sB] at h7
   refine At.exitC (At.thenX (At.thenX (At.blkX (At.thenN (At.seq ?_)))))
   obtain rfl : k = W.length := by omega
   rw [List.take_length] at hml ⊢
   obtain ⟨l1, hl1⟩ : ∃ l, l = wordsI (zs (512 * s.1.toNat)) W := ⟨_, rfl⟩
   rw [← hl1] at hml ⊢
   have hpb := packB_le U
   refine At.region (tV (Val.field 5 rfl fo_27_3 rfl) rfl (tV (Val.load (i := 4) Tryz.isAgg25 rfl rfl rfl) rfl (At.callNT (g := (fun v => .tuple #[v, .int .i64 (packE U)])) (fun w hw => packUnR_n _ U w (hvU.mod hw.mod) hUl) Tryz.call35 rfl rfl (fun v8 => (tM rfl rfl (tV (Val.extract rfl rfl) rfl (tV (Val.extract rfl rfl) rfl (tA rfl rfl (tA rfl rfl (tE ?_))))))))))
   refine At.join (σ := Unit) (fun _u => True) (fun _u => [(1, .pointer (some ⟨b1, 0, none⟩)), (3, .pointer (some ⟨b2, 0, none⟩)), (4, .pointer (some ⟨b3, 0, none⟩)), (5, .pointer (some ⟨b4, 0, none⟩)), (7, v6)]) (fun _u => [rowR v6 5 1 (((undoI l1 U)).length) (((undoI l1 U)).map bv), blk b4 31 ([.int .i64 s.1, .int .i64 s.2.1, .int .i64 s.2.2, .int .i64 (4 + s.2.1 / 8)]), blk b3 23 ([.int .i64 s.1, .int .i64 s.2.1, .int .i64 s.2.2]), blk b2 31 ([.int .i64 0, .int .i64 0, .int .i64 0, .int .i64 0]), blk b1 27 ([.int .i64 p, .int .i64 i, .int .i64 c, .bool bare, vW, vU])]) ?_ ?_
   ·refine tR (tM rfl rfl (tV (Val.bin rfl rfl rfl) rfl (tE ?_)))
    refine At.cond rfl (fun h9 => ?_) (fun h9 => ?_)
    ·try simp only [hasB, isSizeB, sB] at h9
     refine tR (tA rfl rfl (tE (At.block ?_)))
     skip
     refine At.loop (σ := Nat) (fun k => k ≤ (packB U).length) (fun k => [(1, .pointer (some ⟨b1, 0, none⟩)), (3, .pointer (some ⟨b2, 0, none⟩)), (4, .pointer (some ⟨b3, 0, none⟩)), (5, .pointer (some ⟨b4, 0, none⟩)), (7, v6), (9, v8), (11, .int .i64 (k : Int))]) (fun k => [rowR v8 5 1 ((packB U).length) ((packB U).map bv), rowR v6 5 1 (((overK l1 512 (packB U) k)).length) (((overK l1 512 (packB U) k)).map bv), blk b4 31 ([.int .i64 s.1, .int .i64 s.2.1, .int .i64 s.2.2, .int .i64 (4 + s.2.1 / 8)]), blk b3 23 ([.int .i64 s.1, .int .i64 s.2.1, .int .i64 s.2.2]), blk b2 31 ([.int .i64 0, .int .i64 0, .int .i64 0, .int .i64 0]), blk b1 27 ([.int .i64 p, .int .i64 i, .int .i64 c, .bool bare, vW, vU])]) (fun k => (packB U).length - k) 0 (Nat.zero_le _) (Sub.cons rfl (Sub.cons rfl (Sub.cons rfl (Sub.cons rfl (Sub.cons rfl (Sub.cons rfl (Sub.cons rfl Sub.nil))))))) (by rw [overK_zero]) ?_
     intro k hs
     have hol : (overK l1 512 (packB U) k).length = l1.length := overK_len (by omega) hs
     refine At.seq (tR (tM rfl rfl (tM rfl rfl (tV (Val.lenRow (i := 0) Tryz.underlying29 rfl rfl) rfl (tV (Val.bin rfl rfl rfl) rfl (tE ?_))))))
     refine At.cond rfl (fun h10 => ?_) (fun h10 => ?_)
     ·try simp only [hasB, isSizeB, sB] at h10
      have hk : k < (packB U).length := by omega
      obtain ⟨cc, hcc⟩ : ∃ cc, (packB U)[k]? = some cc := ⟨_, List.getElem?_eq_getElem hk⟩
      refine At.skipC (At.thenN (At.seq (At.block (At.region (tM rfl rfl (tM rfl rfl ?_))))))
      first | refine tV (Val.addI rfl rfl (by omega) (by omega)) rfl ?_ | refine tV (Val.bin rfl rfl rfl) rfl ?_
      refine tM rfl rfl (tM rfl rfl (tV (Val.indexRow (i := 0) k (by omega) Tryz.underlying29 Tryz.sizeOf5 rfl rfl rfl (by omega) (by omega)) rfl ?_))
      refine tV (Val.loadRow (u := bv cc) (i := 0) Tryz.isAgg5 rfl rfl (by rw [List.getElem?_map, hcc]; rfl)) rfl ?_
      refine tV (Val.indexRow (i := 1) (512 + k) (by omega) Tryz.underlying29 Tryz.sizeOf5 rfl rfl rfl (by omega) (by omega)) rfl (At.storeRowB (i := 1) Tryz.sizeOf5 rfl rfl rfl (by omega) ?_)
      simp only [sc0, scS]
      rw [overK_step hcc (by omega)]
      refine At.nil (At.blkN (At.thenN (At.region (tM rfl rfl ?_))))
      first | refine tV (Val.addI rfl rfl (by omega) (by omega)) rfl ?_ | refine tV (Val.bin rfl rfl rfl) rfl ?_
      refine tA rfl rfl (tE ?_)
      exact At.again (k + 1) (show k + 1 ≤ _ by omega) (by omega) (Sub.cons rfl (Sub.cons rfl (Sub.cons rfl (Sub.cons rfl (Sub.cons rfl (Sub.cons rfl (Sub.cons (congrArg (fun z => some (Value.int IntKind.i64 z)) (by omega)) Sub.nil))))))) (List.Perm.refl _)
     ·try simp only [hasB, isSizeB, sB] at h10
      obtain rfl : k = (packB U).length := by omega
      rw [show overK l1 512 (packB U) (packB U).length = undoI l1 U from rfl]
      refine At.exitC (At.thenX (At.thenX (At.blkX (At.thenN (At.drop 0 ?_)))))
      simp only [ec0, ecS]
      exact At.meets () trivial (Sub.cons rfl (Sub.cons rfl (Sub.cons rfl (Sub.cons rfl (Sub.cons rfl Sub.nil))))) (by first | exact List.Perm.refl _ | (rw [undoI_no (by assumption)]))
    ·try simp only [hasB, isSizeB, sB] at h9
     refine At.skipC (At.thenN (At.drop 0 ?_))
     simp only [ec0, ecS]
     exact At.meets () trivial (Sub.cons rfl (Sub.cons rfl (Sub.cons rfl (Sub.cons rfl (Sub.cons rfl Sub.nil))))) (by first | exact List.Perm.refl _ | (rw [undoI_no (by assumption)]))
   ·intro _u hs
    obtain ⟨l2, hl2⟩ : ∃ l, l = undoI l1 U := ⟨_, rfl⟩
    rw [← hl2]
    have hl2l : l2.length = (512 * s.1.toNat) := by rw [hl2, undoI_len (by omega)]; exact hml
    refine tR (tV (Val.loadAll (i := 2) Tryz.isAgg23 Tryz.sizeOf23 rfl rfl rfl) rfl ?_)
    refine At.callP (fun w hw => (by have h0 := packSupR_p s.1 s.2.1 s.2.2 w (by omega); rw [packSup_yes hg] at h0; exact h0)) Tryz.call36 rfl rfl (tM rfl rfl (tV (Val.extract rfl rfl) rfl (tV (Val.extract rfl rfl) rfl (At.alloc zero_82 zc_82 rfl (fun b11 => ?_)))))
    refine At.storeAll (i := 0) Tryz.sizeOf82 rfl rfl (lineV_length (by rw [superB_length]; decide)) (by simp [Value.oneCell']) rfl (by simp) ?_
    simp only [sc0, scS]
    refine tA rfl rfl (tE (At.seq (tR (tA rfl rfl (tE (At.block ?_))))))
    skip
    refine At.loop (σ := Nat) (fun k => k ≤ 64 ∧ (bare = true → k = 0)) (fun k => [(1, .pointer (some ⟨b1, 0, none⟩)), (3, .pointer (some ⟨b2, 0, none⟩)), (4, .pointer (some ⟨b3, 0, none⟩)), (5, .pointer (some ⟨b4, 0, none⟩)), (7, v6), (12, .pointer (some ⟨b11, 0, none⟩)), (14, .int .i64 (k : Int))]) (fun k => [blk b11 82 ((supLn s).map bv), rowR v6 5 1 (((supR l2 (supLn s) k)).length) (((supR l2 (supLn s) k)).map bv), blk b4 31 ([.int .i64 s.1, .int .i64 s.2.1, .int .i64 s.2.2, .int .i64 (4 + s.2.1 / 8)]), blk b3 23 ([.int .i64 s.1, .int .i64 s.2.1, .int .i64 s.2.2]), blk b2 31 ([.int .i64 0, .int .i64 0, .int .i64 0, .int .i64 0]), blk b1 27 ([.int .i64 p, .int .i64 i, .int .i64 c, .bool bare, vW, vU])]) (fun k => 64 - k) 0 ⟨Nat.zero_le _, fun _ => rfl⟩ (Sub.cons rfl (Sub.cons rfl (Sub.cons rfl (Sub.cons rfl (Sub.cons rfl (Sub.cons rfl (Sub.cons rfl Sub.nil))))))) (List.Perm.refl _) ?_
    intro k hs
    have hrl : (supR l2 (supLn s) k).length = l2.length := supR_len ..
    have hll : ((supLn s).map bv).length = 64 := by rw [List.length_map, supLn_len]
    refine At.seq (tR (At.weaken [(1, _), (3, _), (4, _), (5, _), (7, _), (12, _), (14, _)] (Sub.cons rfl (Sub.cons rfl (Sub.cons rfl (Sub.cons rfl (Sub.cons rfl (Sub.cons rfl (Sub.cons rfl Sub.nil))))))) ?_))
    refine At.boolMeet 7 88 (decide (k < 64 ∧ bare = false)) ?_ ?_
    ·simp only [List.take_succ_cons, List.take_zero]
     refine tM rfl rfl (tV (Val.bin rfl rfl rfl) rfl (tM rfl rfl ?_))
     refine At.split (t := 84) rfl (fun h12 => ?_) (fun h12 => ?_)
     ·try simp only [hasB, isSizeB, sB] at h12
      refine At.yes rfl rfl (tV (Val.field 3 rfl fo_27_1 rfl) rfl (At.yes rfl rfl (tV (Val.load (i := 5) Tryz.isAgg4 rfl rfl rfl) rfl (At.yes rfl rfl (tV (Val.not rfl) rfl (tV (Val.pickT rfl rfl) rfl (At.nil ?_)))))))
      exact At.boolEnd rfl (by rw [eq_comm]; cases bare <;> simp <;> omega) (by repeat (first | exact Sub.nil | refine Sub.cons rfl ?_))
     ·try simp only [hasB, isSizeB, sB] at h12
      refine At.no rfl rfl rfl rfl (At.no rfl rfl rfl rfl (At.no rfl rfl rfl rfl (tV (Val.pickF rfl rfl) rfl (At.nil ?_))))
      exact At.boolEnd rfl (by rw [eq_comm]; cases bare <;> simp <;> omega) (by repeat (first | exact Sub.nil | refine Sub.cons rfl ?_))
    ·simp only [List.drop_succ_cons, List.drop_zero]
     refine tE ?_
     refine At.cond rfl (fun h13 => ?_) (fun h13 => ?_)
     ·try simp only [hasB, isSizeB, sB] at h13
      obtain ⟨hk, hba⟩ := h13
      obtain ⟨cc, hcc⟩ : ∃ cc, (supLn s)[k]? = some cc := ⟨_, List.getElem?_eq_getElem (by rw [supLn_len]; exact hk)⟩
      have hcd : (supLn s).getD k 0 = cc := by rw [List.getD_eq_getElem?_getD, hcc]; rfl
      refine At.skipC (At.thenN (At.seq (At.block (tR (tM rfl rfl (tM rfl rfl (tM rfl rfl (tV (Val.indexArr k (by omega) Tryz.underlying82 Tryz.sizeOf5 rfl rfl (by omega) (by omega)) rfl ?_))))))))
      refine tV (Val.load (i := 0) (v := bv cc) Tryz.isAgg5 rfl rfl (by rw [List.getElem?_map, hcc]; rfl)) rfl ?_
      refine tV (Val.indexRow (i := 1) (k) (by omega) Tryz.underlying29 Tryz.sizeOf5 rfl rfl rfl (by omega) (by first | omega | (rw [List.length_set]; omega))) rfl ?_
      refine At.storeRowB (i := 1) Tryz.sizeOf5 rfl rfl rfl (by first | omega | (rw [List.length_set]; omega)) ?_
      simp only [sc0, scS]
      refine tE (At.region (tM rfl rfl (tM rfl rfl ?_)))
      first | refine tV (Val.addI rfl rfl (by omega) (by omega)) rfl ?_ | refine tV (Val.bin rfl rfl rfl) rfl ?_
      refine tM rfl rfl (tV (Val.indexArr k (by omega) Tryz.underlying82 Tryz.sizeOf5 rfl rfl (by omega) (by omega)) rfl ?_)
      refine tV (Val.load (i := 0) (v := bv cc) Tryz.isAgg5 rfl rfl (by rw [List.getElem?_map, hcc]; rfl)) rfl ?_
      refine tV (Val.indexRow (i := 1) (64 + k) (by omega) Tryz.underlying29 Tryz.sizeOf5 rfl rfl rfl (by omega) (by first | omega | (rw [List.length_set]; omega))) rfl ?_
      refine At.storeRowB (i := 1) Tryz.sizeOf5 rfl rfl rfl (by first | omega | (rw [List.length_set]; omega)) ?_
      simp only [sc0, scS]
      refine At.nil (At.blkN (At.thenN (At.region (tM rfl rfl ?_))))
      first | refine tV (Val.addI rfl rfl (by omega) (by omega)) rfl ?_ | refine tV (Val.bin rfl rfl rfl) rfl ?_
      refine tA rfl rfl (tE ?_)
      exact At.again (k + 1) ⟨(by omega), fun hb9 => by rw [hb9] at hba; exact absurd hba (by decide)⟩ (by omega) (Sub.cons rfl (Sub.cons rfl (Sub.cons rfl (Sub.cons rfl (Sub.cons rfl (Sub.cons rfl (Sub.cons (congrArg (fun z => some (Value.int IntKind.i64 z)) (by omega)) Sub.nil))))))) (by rw [supR_succ, hcd])
     ·try simp only [hasB, isSizeB, sB] at h13
      have hex := h13
      refine At.exitC (At.thenX (At.thenX (At.blkX (At.thenN (At.seq ?_)))))
      have hfin : supR l2 (supLn s) k = imgE s bare W U := by
        have hl1' := hl1
        subst hl1'
        subst hl2
        unfold imgE
        cases hb9 : bare with
        | true => rw [if_pos rfl, hs.2 hb9]; rfl
        | false => rw [if_neg (by decide), show k = 64 from Classical.byContradiction fun g => hex ⟨by omega, hb9⟩]
      rw [hfin]
      refine At.tail 3 rfl (by decide +kernel) ?_
      simp only [List.take_succ_cons, List.take_zero, List.drop_succ_cons, List.drop_zero]
      refine qM rfl rfl (qV (Val.loadAll (i := 2) Tryz.isAgg31 Tryz.sizeOf31 rfl rfl rfl) rfl (qV (Val.assign rfl) rfl (QAt.fin (At.storeAll (i := 4) Tryz.sizeOf31 rfl rfl rfl (by simp [Value.oneCell']) rfl rfl ?_))))
      simp only [sc0, scS]
      refine tE (At.retC (At.ret2 (.inl rfl) rfl rfl rfl (ResOf.all (i := 4) Tryz.isAgg31 Tryz.sizeOf31 rfl rfl rfl) (fun w hw => ?_)))
      subst hsS
      exact ⟨_, rfl, (hw.drop (List.singleton_sublist.2 (List.mem_of_getElem? (i := 1) rfl))).f0⟩
end Go.Proofs.YtfchinibjhcejaaGreatDoor
namespace Go.Proofs.YtfchinibjhcejaaGreatDoor
open Go Go.Wk
theorem sameBytes_p (v u : Value) (l m : List UInt8) (w : World) (hv : RdB w v l) (hu : RdB w u m) (hl : l.length ≤ 140737489000000) (hm : m.length ≤ 140737489000000) :
    PureC Tryz.prog 18 [v, u] (.bool (decide (l = m))) w := by
 refine enter0 Tryz.func18 rfl Tryz.ntmps18 rfl ?_
 simp only [envOf]
 refine tR (tA rfl rfl (tE (At.seq (tR (tM rfl rfl (tV (Val.lenRd hv Tryz.underlying29 rfl) rfl (tM rfl rfl (tV (Val.lenRd hu Tryz.underlying29 rfl) rfl (tV (Val.bin rfl rfl rfl) rfl (tE ?_))))))))))
 refine At.cond rfl (fun h1 => ?_) (fun h1 => ?_)
 ·try simp only [hasB, isSizeB, sB] at h1
  refine tR (tA rfl rfl (tE (At.retC (At.thenR (At.ret1 (.inl rfl) rfl rfl rfl (fun w hw => ?_))))))
  exact ⟨congrArg (fun b => Ending.returned (.bool b)) (decide_eq_false (fun e => ‹¬ (l.length : Int) = m.length› (by rw [e]))).symm, hw.mod⟩
 ·try simp only [hasB, isSizeB, sB] at h1
  have hn : l.length = m.length := by omega
  refine At.skipC (At.thenN (At.seq (tR (tA rfl rfl (tE (At.block ?_))))))
  skip
  refine At.loop (σ := Nat) (fun k => k ≤ l.length ∧ l.take k = m.take k) (fun k => [(0, v), (1, u), (5, .int .i64 (k : Int))]) (fun k => []) (fun k => l.length - k) 0 ⟨Nat.zero_le _, rfl⟩ (Sub.cons rfl (Sub.cons rfl (Sub.cons rfl Sub.nil))) (List.Perm.refl _) ?_
  intro k hs
  refine At.seq (tR (tM rfl rfl (tM rfl rfl (tV (Val.lenRd hv Tryz.underlying29 rfl) rfl (tV (Val.bin rfl rfl rfl) rfl (tE ?_))))))
  refine At.cond rfl (fun h2 => ?_) (fun h2 => ?_)
  ·try simp only [hasB, isSizeB, sB] at h2
   refine At.skipC (At.thenN (At.seq (At.block (At.seq (At.quiet rfl (by decide +kernel) (qM rfl rfl (qM rfl rfl (QAt.idxB hv Tryz.underlying29 Tryz.sizeOf5 rfl rfl (by omega) (by omega) rfl rfl (fun b3 o4 q5 hq6 hl7 hc8 => (qV (Val.loadOld Tryz.isAgg5 rfl hc8 (fun h => h)) rfl (qM rfl rfl (qM rfl rfl (QAt.idxB hu Tryz.underlying29 Tryz.sizeOf5 rfl rfl (by omega) (by omega) rfl rfl (fun b9 o10 q11 hq12 hl13 hc14 => (qV (Val.loadOld Tryz.isAgg5 rfl hc14 (fun h => h)) rfl (qV (Val.bin rfl rfl rfl) rfl (QAt.fin (At.thenN ?_))))))))))))))))))
   refine At.cond rfl (fun h15 => ?_) (fun h15 => ?_)
   ·try simp only [hasB, isSizeB, sB] at h15
    refine tR (tA rfl rfl (tE (At.retC (At.blkR (At.thenR (At.thenR (At.blkR (At.thenR (At.ret1 (.inl rfl) rfl rfl rfl (fun w hw => ?_))))))))))
    exact ⟨congrArg (fun b => Ending.returned (.bool b)) (decide_eq_false (fun e => by subst e; simp_all)).symm, hw.mod⟩
   ·try simp only [hasB, isSizeB, sB] at h15
    refine At.skipC (At.blkN (At.thenN (At.region (tM rfl rfl ?_))))
    first | refine tV (Val.addI rfl rfl (by omega) (by omega)) rfl ?_ | refine tV (Val.bin rfl rfl rfl) rfl ?_
    refine tA rfl rfl (tE ?_)
    exact At.again (k + 1) ⟨by omega, by rw [List.take_add_one, List.take_add_one, hs.2, show l[k]? = m[k]? from by simp only [Int.toNat_natCast] at *; simp_all; exact UInt8.toNat_inj.1 (by omega)]⟩ (by omega) (Sub.cons rfl (Sub.cons rfl (Sub.cons (congrArg (fun z => some (Value.int IntKind.i64 z)) (by omega)) Sub.nil))) (List.Perm.refl _)
  ·try simp only [hasB, isSizeB, sB] at h2
   refine At.exitC (At.thenX (At.thenX (At.blkX (At.thenN (tR (tA rfl rfl (tE (At.retC (At.ret1 (.inl rfl) rfl rfl rfl (fun w hw => ?_))))))))))
   exact ⟨congrArg (fun b => Ending.returned (.bool b)) (decide_eq_true (by have h1 := hs.2; rw [List.take_of_length_le (by omega), List.take_of_length_le (by omega)] at h1; exact h1)).symm, hw.mod⟩
theorem sameUnJ_p (v u : Value) (L : List (Int × BitVec 64)) (w : World) (hv : RdP w v L) (hu : RdP w u L) (hlen : L.length ≤ 8796093022144) :
    PureC Tryz.prog 17 [v, u] (.bool true) w := by
 refine enter0 Tryz.func17 rfl Tryz.ntmps17 rfl ?_
 simp only [envOf]
 refine tR (tA rfl rfl (tE (At.seq (tR (tM rfl rfl (tV (Val.lenRd hv Tryz.underlying25 rfl) rfl (tM rfl rfl (tV (Val.lenRd hu Tryz.underlying25 rfl) rfl (tV (Val.bin rfl rfl rfl) rfl (tE ?_))))))))))
 refine At.cond rfl (fun h1 => ?_) (fun h1 => ?_)
 ·try simp only [hasB, isSizeB, sB] at h1
  first | exact absurd rfl h1 | exact absurd trivial h1
 ·try simp only [hasB, isSizeB, sB] at h1
  refine At.skipC (At.thenN (At.seq (tR (tA rfl rfl (tE (At.block ?_))))))
  skip
  refine At.loop (σ := Nat) (fun k => k ≤ L.length) (fun k => [(0, v), (1, u), (5, .int .i64 (k : Int))]) (fun k => []) (fun k => L.length - k) 0 (Nat.zero_le _) (Sub.cons rfl (Sub.cons rfl (Sub.cons rfl Sub.nil))) (List.Perm.refl _) ?_
  intro k hs
  refine At.seq (tR (tM rfl rfl (tM rfl rfl (tV (Val.lenRd hv Tryz.underlying25 rfl) rfl (tV (Val.bin rfl rfl rfl) rfl (tE ?_))))))
  refine At.cond rfl (fun h2 => ?_) (fun h2 => ?_)
  ·try simp only [hasB, isSizeB, sB] at h2
   have hk : k < L.length := by omega
   refine At.skipC (At.thenN (At.seq (At.block (At.seq (At.quiet rfl (by decide +kernel) (qM rfl rfl (qM rfl rfl (QAt.idxP hv Tryz.underlying25 Tryz.sizeOf45 rfl rfl (by omega) (by omega) rfl rfl (fun b3 o4 q5 hq6 hc7 hd8 => (qV (Val.loadPair Tryz.isAgg45 Tryz.sizeOf45 rfl hc7 hd8 (fun h => h)) rfl (qM rfl rfl (qM rfl rfl (QAt.idxP hu Tryz.underlying25 Tryz.sizeOf45 rfl rfl (by omega) (by omega) rfl rfl (fun b9 o10 q11 hq12 hc13 hd14 => (qV (Val.loadPair Tryz.isAgg45 Tryz.sizeOf45 rfl hc13 hd14 (fun h => h)) rfl (qV (Val.neAgg Tryz.eqGuardType45 (fun w => eq_45 _ _ _ _ w) rfl rfl) rfl ?_))))))))))))))))
   rw [show q11 = q5 from by have h1 := hq6; have h2 := hq12; rw [h1] at h2; exact (Option.some.inj h2).symm]
   simp only [beq_self_eq_true, Bool.and_true, Bool.not_true]
   refine QAt.fin (At.thenN (At.condF rfl (At.skipC (At.blkN (At.thenN (At.region (tM rfl rfl ?_)))))))
   first | refine tV (Val.addI rfl rfl (by omega) (by omega)) rfl ?_ | refine tV (Val.bin rfl rfl rfl) rfl ?_
   refine tA rfl rfl (tE ?_)
   exact At.again (k + 1) (by omega) (by omega) (Sub.cons rfl (Sub.cons rfl (Sub.cons (congrArg (fun z => some (Value.int IntKind.i64 z)) (by omega)) Sub.nil))) (List.Perm.refl _)
  ·try simp only [hasB, isSizeB, sB] at h2
   obtain rfl : k = L.length := by omega
   refine At.exitC (At.thenX (At.thenX (At.blkX (At.thenN (tR (tA rfl rfl (tE (At.retC (At.ret1 (.inl rfl) rfl rfl rfl (fun w hw => ?_))))))))))
   exact ⟨rfl, hw.mod⟩
end Go.Proofs.YtfchinibjhcejaaGreatDoor
namespace Go.Proofs.YtfchinibjhcejaaGreatDoor
open Go Go.Wk
def twA (i n : Int) : Int := 2048 + 64 * (n % (3 * i) / 3) + 8 * (n % (3 * i) % 3)
theorem twA_ok {i : Int} (h : 0 < i) (n : Int) : TW (twA i n) i := by
  have h1 := Int.emod_nonneg n (show 3 * i ≠ 0 by omega)
  have h2 := Int.emod_lt_of_pos n (show 0 < 3 * i by omega)
  unfold TW twA
  generalize n % (3 * i) = z at *
  omega
def chF (i : Int) (acc : List (Int × BitVec 64)) (t : Int × BitVec 64) : List (Int × BitVec 64) := if acc.length < 8 ∧ ∀ q ∈ acc, q.1 ≠ twA i t.1 then acc ++ [(twA i t.1, t.2)] else acc
def chL0 (i : Int) (T : List (Int × BitVec 64)) : List (Int × BitVec 64) := T.foldl (chF i) []
def chL (i : Int) (T : List (Int × BitVec 64)) : List (Int × BitVec 64) := if (chL0 i T).length = 0 then [(2056, 7)] else chL0 i T
theorem chL0_snoc {i : Int} {T : List (Int × BitVec 64)} {k : Nat} {t : Int × BitVec 64} (h : T[k]? = some t) : chL0 i (T.take (k + 1)) = chF i (chL0 i (T.take k)) t := by unfold chL0; rw [List.take_succ_of_get h, List.foldl_append]; rfl
theorem chF_full {i : Int} {acc : List (Int × BitVec 64)} (h : 8 ≤ acc.length) : ∀ T : List (Int × BitVec 64), T.foldl (chF i) acc = acc
  | [] => rfl
  | t :: T => by
    show T.foldl (chF i) (chF i acc t) = acc
    rw [show chF i acc t = acc from if_neg (fun g => by omega)]
    exact chF_full h T
theorem chL0_end {i : Int} {T : List (Int × BitVec 64)} {k : Nat} (h : 8 ≤ (chL0 i (T.take k)).length) : chL0 i T = chL0 i (T.take k) := by
  conv => lhs; rw [← List.take_append_drop k T]
  unfold chL0 at *
  rw [List.foldl_append, chF_full h]
theorem chF_inv {i : Int} (hi : 0 < i) {acc : List (Int × BitVec 64)} (h : acc.length ≤ 8 ∧ PlK i acc acc.length) (t : Int × BitVec 64) : (chF i acc t).length ≤ 8 ∧ PlK i (chF i acc t) (chF i acc t).length := by
  unfold chF
  split
  · rename_i hc
    refine ⟨by rw [List.length_append, List.length_singleton]; omega, fun j q hj hq => ?_⟩
    rw [List.length_append, List.length_singleton] at hj
    rcases Nat.lt_or_ge j acc.length with g | g
    · rw [List.getElem?_append_left g] at hq
      rw [List.take_append_of_le_length (Nat.le_of_lt g)]
      exact h.2 j q g hq
    · obtain rfl : j = acc.length := by omega
      rw [List.getElem?_append_right (Nat.le_refl _), Nat.sub_self] at hq
      obtain rfl := Option.some.inj hq
      rw [List.take_append_of_le_length (Nat.le_refl _), List.take_length]
      refine ⟨twA_ok hi t.1, fun hm => ?_⟩
      obtain ⟨c, hcm, hce⟩ := List.mem_map.1 hm
      exact hc.2 c hcm hce
  · exact h
theorem chL0_ok {i : Int} (hi : 0 < i) (T : List (Int × BitVec 64)) : (chL0 i T).length ≤ 8 ∧ PlK i (chL0 i T) (chL0 i T).length := by
  unfold chL0
  have key : ∀ (T acc : List (Int × BitVec 64)), (acc.length ≤ 8 ∧ PlK i acc acc.length) → (T.foldl (chF i) acc).length ≤ 8 ∧ PlK i (T.foldl (chF i) acc) (T.foldl (chF i) acc).length := by
    intro T
    induction T with
    | nil => intro acc h; exact h
    | cons t T ih => intro acc h; exact ih _ (chF_inv hi h t)
  exact key T [] ⟨Nat.zero_le _, fun j q hj _ => absurd hj (Nat.not_lt_zero _)⟩
theorem chL_ok {i : Int} (hi : 0 < i) (T : List (Int × BitVec 64)) : 1 ≤ (chL i T).length ∧ (chL i T).length ≤ 8 ∧ PlK i (chL i T) (chL i T).length := by
  obtain ⟨h1, h2⟩ := chL0_ok hi T
  unfold chL
  split
  · refine ⟨Nat.le_refl _, by decide, fun j q hj hq => ?_⟩
    match j, hj, hq with
    | 0, _, hq => (obtain rfl := Option.some.inj hq; exact ⟨by unfold TW; omega, fun h => by cases h⟩)
  · exact ⟨by omega, h1, h2⟩
theorem has_snoc {L : List (Int × BitVec 64)} {k : Nat} {q : Int × BitVec 64} {a : Int} (h : L[k]? = some q) : hasAt (L.take (k + 1)) a = (hasAt (L.take k) a || (q.1 == a)) := by
  unfold hasAt
  rw [List.take_succ_of_get h, List.any_append]
  simp
theorem has_no {L : List (Int × BitVec 64)} {a : Int} : hasAt L a = false ↔ ∀ q ∈ L, q.1 ≠ a := by
  unfold hasAt
  rw [List.any_eq_false]
  constructor
  · intro h q hq e; exact h q hq (by simpa using e)
  · intro h q hq e; exact h q hq (by simpa using e)
theorem em_tm {c n : Int} (hn : 0 < n) : c % n = if c.tmod n < 0 then c.tmod n + n else c.tmod n := by
  have h1 := Int.mul_tdiv_add_tmod c n
  have h2 := Int.lt_tmod_of_pos c hn
  have h3 := Int.tmod_lt_of_pos c hn
  have h4 : c % n = c.tmod n % n := by
    conv => lhs; rw [← h1, Int.add_comm, Int.add_mul_emod_self_left]
  rw [h4]
  split
  · rw [← Int.add_emod_right, Int.emod_eq_of_lt (by omega) (by omega)]
  · exact Int.emod_eq_of_lt (by omega) h3
def inT (W : List (Int × BitVec 64)) : List (Int × BitVec 64) := W.filter fun q => decide (1024 ≤ q.1)
theorem inT_snoc {W : List (Int × BitVec 64)} {k : Nat} {q : Int × BitVec 64} (h : W[k]? = some q) : inT (W.take (k + 1)) = inT (W.take k) ++ (if 1024 ≤ q.1 then [q] else []) := by
  unfold inT
  rw [List.take_succ_of_get h, List.filter_append, List.filter_cons]
  by_cases hq : 1024 ≤ q.1
  · simp [hq]
  · simp [hq]
theorem inT_le (W : List (Int × BitVec 64)) : (inT W).length ≤ W.length := List.length_filter_le ..
theorem restJ_p (c n : Int) (w : World) (hn : 0 < n ∧ n ≤ 1000000000) :
    PureC Tryz.prog 31 [.int .i64 c, .int .i64 n] (.int .i64 (c % n)) w := by
 refine enter0 Tryz.func31 rfl Tryz.ntmps31 rfl ?_
 simp only [envOf]
 refine tR (tA rfl rfl (tE (tR (tM rfl rfl (tM rfl rfl (tV (Val.rem rfl rfl (by omega)) rfl ?_))))))
 have hb1 := Int.lt_tmod_of_pos c hn.1
 have hb2 := Int.tmod_lt_of_pos c hn.1
 have hem := em_tm (c := c) hn.1
 refine tA rfl rfl (tE (At.seq (tR (tM rfl rfl (tV (Val.bin rfl rfl rfl) rfl (tE ?_))))))
 refine At.cond rfl (fun h1 => ?_) (fun h1 => ?_)
 ·try simp only [hasB, isSizeB, sB] at h1
  refine At.region (tM rfl rfl (tM rfl rfl (tV (Val.addI rfl rfl (by omega) (by omega)) rfl (tA rfl rfl (tE (tR (tM rfl rfl (tA rfl rfl (tE (At.retC (At.ret1 (.inl rfl) rfl rfl rfl (fun w hw => ?_))))))))))))
  rw [hem, if_pos (by assumption)]
  exact ⟨rfl, hw.mod⟩
 ·try simp only [hasB, isSizeB, sB] at h1
  refine At.skipC (At.thenN (tR (tM rfl rfl (tA rfl rfl (tE (At.retC (At.ret1 (.inl rfl) rfl rfl rfl (fun w hw => ?_))))))))
  rw [hem, if_neg (by assumption)]
  exact ⟨rfl, hw.mod⟩
end Go.Proofs.YtfchinibjhcejaaGreatDoor
namespace Go.Proofs.YtfchinibjhcejaaGreatDoor
open Go Go.Wk
theorem num_app {a b : List UInt8} {n x p : Nat} (ha : a.length = p) (hx : x < 256 ^ n) : num (a ++ (le n x ++ b)) p n = x := by
  unfold num
  rw [← ha, List.drop_left, List.take_left' (le_length n x), fromLe_le n x hx]
theorem super_num {p i c : Nat} (hp : p < 256 ^ 4) (hi : i < 256 ^ 4) (hc : c < 256 ^ 4) : num (lineL (superB p i c)) 8 4 = p ∧ num (lineL (superB p i c)) 12 4 = i ∧ num (lineL (superB p i c)) 16 4 = c := by
  rw [lineL_row (by rw [superB_length]; decide)]
  generalize le 4 (sumOn 0 (superB p i c ++ zs (60 - (superB p i c).length))).toNat = s4
  generalize zs (60 - (superB p i c).length) = z
  refine ⟨?_, ?_, ?_⟩
  · exact Eq.trans (congrArg (fun l => num l 8 4) (by simp only [superB, List.append_assoc])) (num_app (a := [70, 85, 82, 82, 79, 87, 48, 49]) (b := le 4 i ++ (le 4 c ++ (z ++ s4))) (p := 8) rfl hp)
  · exact Eq.trans (congrArg (fun l => num l 12 4) (by simp only [superB, List.append_assoc])) (num_app (a := [70, 85, 82, 82, 79, 87, 48, 49] ++ le 4 p) (b := le 4 c ++ (z ++ s4)) (p := 12) (by simp [le_length]) hi)
  · exact Eq.trans (congrArg (fun l => num l 16 4) (by simp only [superB, List.append_assoc])) (num_app (a := [70, 85, 82, 82, 79, 87, 48, 49] ++ le 4 p ++ le 4 i) (b := z ++ s4) (p := 16) (by simp [le_length]) hc)
theorem super_ok {p i c : Int} (hg : GoodSup p i c) : OkSup (lineL (superB p.toNat i.toNat c.toNat)) ∧ ((num (lineL (superB p.toNat i.toNat c.toNat)) 8 4 : Nat) : Int) = p ∧ ((num (lineL (superB p.toNat i.toNat c.toNat)) 12 4 : Nat) : Int) = i ∧ ((num (lineL (superB p.toNat i.toNat c.toNat)) 16 4 : Nat) : Int) = c := by
  have hg' := hg
  unfold GoodSup at hg'
  obtain ⟨h1, h2, h3⟩ := super_num (p := p.toNat) (i := i.toNat) (c := c.toNat) (by omega) (by omega) (by omega)
  have e1 : ((num (lineL (superB p.toNat i.toNat c.toNat)) 8 4 : Nat) : Int) = p := by rw [h1]; omega
  have e2 : ((num (lineL (superB p.toNat i.toNat c.toNat)) 12 4 : Nat) : Int) = i := by rw [h2]; omega
  have e3 : ((num (lineL (superB p.toNat i.toNat c.toNat)) 16 4 : Nat) : Int) = c := by rw [h3]; omega
  exact ⟨⟨by rw [e1, e2, e3]; exact hg, by unfold SupLine; rw [h1, h2, h3]⟩, e1, e2, e3⟩
theorem num_page (l : List UInt8) {a n : Nat} (h : a + n ≤ 512) : num (page l) a n = num l (512 + a) n := by
  unfold num page
  rw [List.drop_take, List.take_take, List.drop_drop, Nat.min_eq_left (by omega)]
theorem wd_page (l : List UInt8) {a : Nat} (h : a + 8 ≤ 512) : wordA (page l) a = wdA l (512 + a) := by unfold wordA wdA; rw [num_page l h]
theorem page_len {l : List UInt8} (h : 1024 ≤ l.length) : (page l).length = 512 := by unfold page; rw [List.length_take, List.length_drop]; omega
theorem und0 {l : List UInt8} (hl : 1024 ≤ l.length) (h : wdA l 512 = 0) : openUnE (page l) = 0 ∧ openUnL (page l) = [] := by
  have h0 : wordA (page l) 0 = 0 := (wd_page l (by decide)).trans h
  have hn : unN (page l) = 0 := by unfold unN; rw [h0]; rfl
  have ok : OkUn (page l) := ⟨page_len hl, by rw [h0]; unfold Sl; exact seal_zero (by decide), .inl hn⟩
  exact ⟨openUnE_yes ok, openUnL_0 ok hn⟩
theorem undW_at : ∀ {U : List (Int × BitVec 64)} {j : Nat} {q : Int × BitVec 64}, U[j]? = some q → (undW U)[2 * j]? = some (BitVec.ofInt 64 q.1) ∧ (undW U)[2 * j + 1]? = some q.2
  | u :: U, 0, q, h => by
    obtain rfl := Option.some.inj h
    exact ⟨rfl, rfl⟩
  | u :: U, j + 1, q, h => by
    obtain ⟨h1, h2⟩ := undW_at (U := U) (j := j) (q := q) h
    have e : undW (u :: U) = BitVec.ofInt 64 u.1 :: u.2 :: undW U := rfl
    rw [e, show 2 * (j + 1) = 2 * j + 1 + 1 by omega]
    exact ⟨h1, h2⟩
theorem good_bds {U : List (Int × BitVec 64)} (hg : GoodUn U) {j : Nat} {q : Int × BitVec 64} (h : U[j]? = some q) : 0 ≤ q.1 ∧ q.1 ≤ 18431 := by
  have := (hg.2.2 j (List.getElem?_eq_some_iff.1 h).1 q h).1
  unfold SlotWd at this; omega
theorem undU {l : List UInt8} {U : List (Int × BitVec 64)} (hl : 1024 ≤ l.length) (hg : GoodUn U) (h0 : wdA l 512 = sealW (BitVec.ofInt 64 512) (BitVec.ofInt 32 (U.length : Int))) (h1 : wdA l 520 = sealW (BitVec.ofInt 64 520) (sumOn 0 (wbytes (undW U))))
    (h2 : ∀ i x, (undW U)[i]? = some x → wdA l (576 + 8 * i) = x) : openUnE (page l) = 0 ∧ openUnL (page l) = U := by
  have hn8 := hg.2.1
  have e0 : wordA (page l) 0 = sealW (BitVec.ofInt 64 512) (BitVec.ofInt 32 (U.length : Int)) := (wd_page l (by decide)).trans h0
  obtain ⟨hs, hlo⟩ := seal_lo e0.symm
  have hn : unN (page l) = U.length := by
    unfold unN
    rw [hlo]
    simp [BitVec.toNat_ofInt]; omega
  have hrec : recs (page l) U.length = U := by
    apply List.ext_getElem?
    intro j
    rcases Nat.lt_or_ge j U.length with hj | hj
    · have hq : U[j]? = some (U[j]'hj) := List.getElem?_eq_getElem hj
      generalize U[j]'hj = q at hq
      obtain ⟨g1, g2⟩ := undW_at hq
      have b := good_bds hg hq
      rw [recs_get (page l) hj, hq]
      refine congrArg some (Prod.ext ?_ ?_)
      · show ((num (page l) (64 + 16 * j) 8 : Nat) : Int) = q.1
        rw [num_page l (by omega), ← wdA_nat, show 512 + (64 + 16 * j) = 576 + 8 * (2 * j) by omega, h2 _ _ g1]
        simp [BitVec.toNat_ofInt]; omega
      · show wordA (page l) (64 + 16 * j + 8) = q.2
        rw [wd_page l (by omega), show 512 + (64 + 16 * j + 8) = 576 + 8 * (2 * j + 1) by omega, h2 _ _ g2]
    · rw [List.getElem?_eq_none (by rw [recs_length]; exact hj), List.getElem?_eq_none hj]
  have hseg : seg (page l) U.length = wbytes (undW U) := by rw [← recB_recs (by rw [page_len hl]; omega), hrec]; rfl
  have ok : OkUn (page l) := ⟨page_len hl, hs, .inr ⟨by omega, by rw [hn, hseg]; exact h1.symm.trans (wd_page l (a := 8) (by decide)).symm, by rw [hn, hrec]; exact hg⟩⟩
  exact ⟨openUnE_yes ok, by rw [openUnL_yes ok, hn, hrec]⟩
theorem plk_good {i : Int} {L : List (Int × BitVec 64)} (hi : i ≤ 256) (h1 : 1 ≤ L.length) (h8 : L.length ≤ 8) (hp : PlK i L L.length) : GoodUn L := by
  refine ⟨h1, h8, fun j hj c hc => ?_⟩
  obtain ⟨ht, hnot⟩ := hp j c hj hc
  unfold TW at ht
  refine ⟨by unfold SlotWd; omega, ?_⟩
  cases hh : hasAt (L.take j) c.1 with
  | false => rfl
  | true =>
    obtain ⟨i', d, hd, e⟩ := hasAt_T.1 hh
    exact absurd (List.mem_map.2 ⟨d, List.mem_of_getElem? hd, e⟩) hnot
structure SupIm (l : List UInt8) (s : Int × Int × Int) : Prop where
  g : GoodSup s.1 s.2.1 s.2.2
  len : l.length = 512 * s.1.toNat
  hd : l.take 64 = supLn s
theorem SupIm.sup {l : List UInt8} {s : Int × Int × Int} (h : SupIm l s) : supK l = some 0 ∧ supI l 0 = s.2.1 := by
  obtain ⟨o1, o2, o3, o4⟩ := super_ok h.g
  have hg := h.g
  unfold GoodSup at hg
  have hl := h.len
  have e : lineAt l 0 = supLn s := by unfold lineAt; exact h.hd
  have hk : 128 ≤ l.length ∧ HasSup l 0 := ⟨by omega, by rw [e]; exact o1, by rw [e]; show num (lineL (superB s.1.toNat s.2.1.toNat s.2.2.toNat)) 8 4 * 512 = _; omega⟩
  refine ⟨by unfold supK; rw [if_pos hk], ?_⟩
  unfold supI
  rw [e]; exact o3
theorem SupIm.of {l l' : List UInt8} {s : Int × Int × Int} (h : SupIm l s) (hl : l'.length = l.length) (ht : ∀ i, i < 64 → l'[i]? = l[i]?) : SupIm l' s := ⟨h.g, hl.trans h.len, by
  rw [← h.hd]
  apply List.ext_getElem?
  intro i
  rw [List.getElem?_take, List.getElem?_take]
  split
  · exact ht i (by assumption)
  · rfl⟩
theorem SupIm.pnd {l : List UInt8} {s : Int × Int × Int} {U : List (Int × BitVec 64)} (h : SupIm l s) (hu : openUnE (page l) = 0 ∧ openUnL (page l) = U) (ht : ∀ u ∈ U, TW u.1 s.2.1) : pndE l = 0 ∧ pndL l = U := by
  obtain ⟨h1, h2⟩ := h.sup
  obtain ⟨g1, g2⟩ := pnd_0 h1 hu.1 (by rw [hu.2, h2]; exact ht)
  exact ⟨g1, g2.trans hu.2⟩
def wds (l : List UInt8) : List (BitVec 64) := wordsL l (l.length / 8)
theorem wds_len (l : List UInt8) : (wds l).length = l.length / 8 := wordsL_length ..
theorem wds_load (l : List UInt8) : (loadD l).ws = mkC (wds l) := by
  show loadWs l = _
  unfold loadWs mkC wds wordsL
  rw [List.map_map]; rfl
theorem wds_bytes {l : List UInt8} (h : l.length % 8 = 0) : wbytes (wds l) = l := by
  apply List.ext_getElem?
  intro i
  rcases Nat.lt_or_ge i l.length with hi | hi
  · have hk : (wds l)[i / 8]? = some (wdA l (8 * (i / 8))) := wordsL_at (by omega)
    have h1 := wbytes_byte hk (b := i % 8) (by omega)
    rw [show 8 * (i / 8) + i % 8 = i by omega] at h1
    rw [h1]
    have e : le8 (wdA l (8 * (i / 8))) = (l.drop (8 * (i / 8))).take 8 := by
      unfold le8
      rw [wdA_nat]
      exact le_num (by omega)
    have h2 := wbytes_take hk
    have h3 := congrArg (fun m : List UInt8 => m[i % 8]?) (h2.trans e)
    simp only [List.getElem?_take, List.getElem?_drop] at h3
    rw [if_pos (by omega), if_pos (by omega), show 8 * (i / 8) + i % 8 = i by omega, h1] at h3
    exact h3
  · rw [List.getElem?_eq_none (by rw [wbytes_length, wds_len]; omega), List.getElem?_eq_none hi]
theorem wdA_wb {xs : List (BitVec 64)} {k : Nat} {x : BitVec 64} (h : xs[k]? = some x) {a : Nat} (ha : a = 8 * k) : wdA (wbytes xs) a = x := by subst ha; exact wbytes_word h
def kU (U : List (Int × BitVec 64)) : List (Nat × BitVec 64) := U.map fun u => ((u.1 / 8).toNat, u.2)
theorem kU_fst (U : List (Int × BitVec 64)) : (kU U).map Prod.fst = ksOf U := by unfold kU ksOf; rw [List.map_map]; rfl
theorem kU_zip (U : List (Int × BitVec 64)) : (ksOf U).zip (U.map Prod.snd) = kU U := by
  unfold ksOf kU
  induction U with
  | nil => rfl
  | cons u U ih => simp only [List.map_cons, List.zip_cons_cons, ih]
theorem ovl_set : ∀ (U : List (Int × BitVec 64)) (vs : List (BitVec 64)), (∀ u ∈ U, u.1 = 8 * ((u.1 / 8).toNat : Int) ∧ (u.1 / 8).toNat < vs.length) → ovlL (wbytes vs) U = wbytes (setP vs (kU U))
  | [], vs, _ => rfl
  | u :: U, vs, h => by
    obtain ⟨h1, h2⟩ := h u (List.mem_cons_self ..)
    show ovlL (put8 (wbytes vs) u.1.toNat u.2) U = wbytes (setP (vs.set (u.1 / 8).toNat u.2) (kU U))
    rw [show u.1.toNat = 8 * (u.1 / 8).toNat by omega, put8_set u.2 h2]
    exact ovl_set U _ (fun x hx => by rw [List.length_set]; exact h x (List.mem_cons_of_mem _ hx))
theorem pl_nodup {i : Int} {L : List (Int × BitVec 64)} (hp : PlK i L L.length) : ((kU L).map Prod.fst).Nodup := by
  rw [kU_fst]
  unfold ksOf
  rw [List.Nodup, List.pairwise_map]
  rw [List.pairwise_iff_getElem]
  intro a b ha hb hab e
  obtain ⟨t1, n1⟩ := hp b _ hb (List.getElem?_eq_getElem hb)
  obtain ⟨t2, _⟩ := hp a _ ha (List.getElem?_eq_getElem ha)
  unfold TW at t1 t2
  refine n1 (List.mem_map.2 ⟨L[a], List.mem_of_getElem? (i := a) (by rw [List.getElem?_take, if_pos hab, List.getElem?_eq_getElem ha]), by omega⟩)
theorem supR_get (l : List UInt8) {L : List UInt8} (hl : 128 ≤ l.length) (hL : L.length = 64) : ∀ (k i : Nat), k ≤ 64 → (supR l L k)[i]? = if i < k then L[i]? else if 64 ≤ i ∧ i < 64 + k then L[i - 64]? else l[i]?
  | 0, i, _ => by rw [if_neg (Nat.not_lt_zero _), if_neg (by omega)]; rfl
  | k + 1, i, hk => by
    have hlen := supR_len l L k
    have hLk : L[k]? = some (L.getD k 0) := by rw [List.getD_eq_getElem?_getD, List.getElem?_eq_getElem (by omega)]; rfl
    rw [supR_succ]
    by_cases e1 : i = 64 + k
    · subst e1
      rw [List.getElem?_set_self (by rw [List.length_set, hlen]; omega), if_neg (by omega), if_pos (by omega), show 64 + k - 64 = k by omega, hLk]
    · rw [List.getElem?_set_ne (Ne.symm e1)]
      by_cases e2 : i = k
      · subst e2
        rw [List.getElem?_set_self (by rw [hlen]; omega), if_pos (by omega), hLk]
      · rw [List.getElem?_set_ne (Ne.symm e2), supR_get l hl hL k i (by omega)]
        by_cases h1 : i < k
        · rw [if_pos h1, if_pos (show i < k + 1 by omega)]
        · have h3 : ¬ i < k + 1 := by omega
          rw [if_neg h1, if_neg h3]
          by_cases h2 : 64 ≤ i ∧ i < 64 + k
          · rw [if_pos h2, if_pos (show 64 ≤ i ∧ i < 64 + (k + 1) by omega)]
          · rw [if_neg h2, if_neg (show ¬ (64 ≤ i ∧ i < 64 + (k + 1)) by omega)]
theorem img_sup {s : Int × Int × Int} (hg : GoodSup s.1 s.2.1 s.2.2) (W U : List (Int × BitVec 64)) : SupIm (imgE s false W U) s := by
  refine ⟨hg, imgE_len hg false W U, ?_⟩
  unfold GoodSup at hg
  have hu : (undoI (wordsI (zs (512 * s.1.toNat)) W) U).length = 512 * s.1.toNat := by rw [undoI_len (by rw [wordsI_len, zs_length]; omega), wordsI_len, zs_length]
  unfold imgE
  rw [if_neg (by decide)]
  apply List.ext_getElem?
  intro i
  rw [List.getElem?_take]
  split
  · rename_i h
    rw [supR_get _ (by omega) (supLn_len s) 64 i (by decide), if_pos h]
  · rename_i h
    rw [List.getElem?_eq_none (by rw [supLn_len]; omega)]
theorem img_high {s : Int × Int × Int} (hg : GoodSup s.1 s.2.1 s.2.2) (W U : List (Int × BitVec 64)) {i : Nat} (hi : 128 ≤ i) : (imgE s false W U)[i]? = (undoI (wordsI (zs (512 * s.1.toNat)) W) U)[i]? := by
  unfold GoodSup at hg
  have hu : (undoI (wordsI (zs (512 * s.1.toNat)) W) U).length = 512 * s.1.toNat := by rw [undoI_len (by rw [wordsI_len, zs_length]; omega), wordsI_len, zs_length]
  unfold imgE
  rw [if_neg (by decide), supR_get _ (by omega) (supLn_len s) 64 i (by decide), if_neg (by omega), if_neg (by omega)]
theorem num_ext {l m : List UInt8} {a b n : Nat} (h : ∀ i, i < n → l[a + i]? = m[b + i]?) : num l a n = num m b n := by
  unfold num
  congr 1
  apply List.ext_getElem?
  intro i
  rw [List.getElem?_take, List.getElem?_take]
  split
  · rw [List.getElem?_drop, List.getElem?_drop]; exact h i (by assumption)
  · rfl
theorem wdA_ext {l m : List UInt8} {a b : Nat} (h : ∀ i, i < 8 → l[a + i]? = m[b + i]?) : wdA l a = wdA m b := by unfold wdA; rw [num_ext h]
theorem img_U {s : Int × Int × Int} (hg : GoodSup s.1 s.2.1 s.2.2) (W : List (Int × BitVec 64)) {U : List (Int × BitVec 64)} (hU : GoodUn U) : openUnE (page (imgE s false W U)) = 0 ∧ openUnL (page (imgE s false W U)) = U := by
  have hg2 := hg
  unfold GoodSup at hg2
  have hl := imgE_len hg false W U
  have hn8 := hU.2.1
  have hp : packB U = undoB U := packB_T hU
  have hpl := undoB_length U
  have hby : ∀ i, i < 64 + 16 * U.length → (imgE s false W U)[512 + i]? = (undoB U)[i]? := fun i hi => by
    rw [img_high hg W U (by omega)]
    unfold undoI overK
    rw [hp, List.append_assoc, List.getElem?_append_right (by rw [List.length_take, wordsI_len, zs_length]; omega), List.length_take, wordsI_len, zs_length, Nat.min_eq_left (by omega), show 512 + i - 512 = i by omega, List.getElem?_append_left (by rw [List.length_take]; omega), List.take_length]
  have hwd : ∀ a, a + 8 ≤ 64 + 16 * U.length → wdA (imgE s false W U) (512 + a) = wdA (undoB U) a := fun a ha => wdA_ext fun i hi => by rw [Nat.add_assoc]; exact hby (a + i) (by omega)
  refine undU (by omega) hU ?_ ?_ ?_
  · rw [hwd 0 (by omega)]
    unfold wdA
    have e1 : undoB U = [] ++ (le 8 (sealW (BitVec.ofInt 64 512) (BitVec.ofInt 32 (U.length : Int))).toNat ++ (le 8 (sealW (BitVec.ofInt 64 520) (sumOn 0 (recB U))).toNat ++ zs 48 ++ recB U)) := by unfold undoB headB; simp only [List.append_assoc, List.nil_append]
    rw [num_atU e1 (p := 0) rfl (by have := (sealW (BitVec.ofInt 64 512) (BitVec.ofInt 32 (U.length : Int))).isLt; simpa using this)]
    simp
  · rw [show (520 : Nat) = 512 + 8 from rfl, hwd 8 (by omega)]
    unfold wdA
    have e1 : undoB U = le 8 (sealW (BitVec.ofInt 64 512) (BitVec.ofInt 32 (U.length : Int))).toNat ++ (le 8 (sealW (BitVec.ofInt 64 520) (sumOn 0 (recB U))).toNat ++ (zs 48 ++ recB U)) := by unfold undoB headB; simp only [List.append_assoc]
    rw [num_atU e1 (p := 8) (le_length ..) (by have := (sealW (BitVec.ofInt 64 520) (sumOn 0 (recB U))).isLt; simpa using this)]
    rw [BitVec.ofNat_toNat, BitVec.setWidth_eq]; rfl
  · intro i x hx
    have hi : i < 2 * U.length := by have := (List.getElem?_eq_some_iff.1 hx).1; rwa [undW_len] at this
    rw [show 576 + 8 * i = 512 + (64 + 8 * i) by omega, hwd (64 + 8 * i) (by omega)]
    have e : wdA (undoB U) (64 + 8 * i) = wdA (wbytes (undW U)) (8 * i) := wdA_ext fun r hr => by
      unfold undoB
      rw [List.getElem?_append_right (by rw [List.length_append, headB_length, zs_length]; omega), List.length_append, headB_length, zs_length, show 64 + 8 * i + r - (16 + 48) = 8 * i + r by omega]; rfl
    rw [e]; exact wbytes_word hx
end Go.Proofs.YtfchinibjhcejaaGreatDoor
namespace Go.Proofs.YtfchinibjhcejaaGreatDoor
open Go Go.Wk
end Go.Proofs.YtfchinibjhcejaaGreatDoor
namespace Go.Proofs.YtfchinibjhcejaaGreatDoor
open Go Go.Wk
theorem rcvE_rest {σ : Ds} : (rcvE σ).2.2.ws.length = σ.ws.length ∧ (rcvE σ).2.2.steps ≤ σ.steps + 60 := by
  unfold rcvE
  split
  · exact ⟨rfl, Nat.le_add_right _ _⟩
  · rename_i h
    have h0 : pndE (wbytes (viewWs σ.ws)) = 0 := Classical.byContradiction fun g => h (.inl g)
    obtain ⟨k, _, hg, hp, hall⟩ := pnd_good h0
    have hg2 := hg
    unfold GoodSup at hg2
    have hXl : (wbytes (viewWs σ.ws)).length = 8 * σ.ws.length := by rw [wbytes_length, viewWs, List.length_map]
    have hl8 := pndL_le (wbytes (viewWs σ.ws))
    have hks := ks_lt (n := σ.ws.length) hall (by omega)
    obtain ⟨_, hok⟩ := acs_ok (σ := σ) (xs := (pndL (wbytes (viewWs σ.ws))).map Prod.snd) hks (by rw [ksOf_len]; omega) (by omega)
    have hle := recL_le (xs := (pndL (wbytes (viewWs σ.ws))).map Prod.snd) (ks := ksOf (pndL (wbytes (viewWs σ.ws)))) (by rw [ksOf_len]; omega)
    obtain ⟨g1, g2, _⟩ := actsE_rest _ σ hok
    split
    · exact ⟨g1, by show (actsE σ _).2.steps ≤ _; omega⟩
    · exact ⟨g1, by show (actsE σ _).2.steps ≤ _; omega⟩
section
variable {σ : Ds} {n ad z : Int} {cs : List Int} {lB : List UInt8}
end
section
variable {P : Program} {Γ : Ctx} {E : Env} {H : List Res} {ops : Array Oper} {Q : Exit → Act → World → Prop} {rest : List Oper}
  {d : Nat} {ty : TypeId} {pos : String} {after : Array Edge} {x y z : Operand} {v u vy : Value} {g : Option (Nat × Bool)}
end
end Go.Proofs.YtfchinibjhcejaaGreatDoor
namespace Go.Proofs.YtfchinibjhcejaaGreatDoor
open Go Go.Wk
theorem changesJ_n (v : Value) (T : List (Int × BitVec 64)) (a0 i a2 a3 : Int) (w : World) (hv : RdP w v T) (hT : T.length ≤ 140737488355328) (hi : 0 < i ∧ i ≤ 1000) :
    NewRow Tryz.prog 21 [v, .agg #[.int .i64 a0, .int .i64 i, .int .i64 a2, .int .i64 a3]] 56 2 (chL i T).length (prC (chL i T)) w := by
 refine enter (feet []) [] Tryz.func21 rfl Tryz.ntmps21 rfl ⟨by simp, by simp, by simp, Mod.refl _ _⟩ ?_
 simp only [envOf]
 refine tR (At.box rfl rfl rfl (fun b1 => (tA rfl rfl (tE (tR (tA rfl rfl (At.nil (At.rowNilP 56 (At.thenN (At.seq (tR (tA rfl rfl (tE (At.block ?_))))))))))))))
 skip
 refine At.loop (σ := Nat × Value) (fun s => s.1 ≤ T.length) (fun s => [(0, v), (3, .pointer (some ⟨b1, 0, none⟩)), (5, s.2), (6, .int .i64 (s.1 : Int))]) (fun s => [rowR s.2 56 2 (chL0 i (T.take s.1)).length (prC (chL0 i (T.take s.1))), blk b1 31 ([.int .i64 a0, .int .i64 i, .int .i64 a2, .int .i64 a3])]) (fun s => T.length - s.1) (0, .slice none 0 0) (Nat.zero_le _) (Sub.cons rfl (Sub.cons rfl (Sub.cons rfl (Sub.cons rfl Sub.nil)))) (List.Perm.refl _) ?_
 intro s hs
 obtain ⟨k, vr⟩ := s
 dsimp only at hs ⊢
 have hA := chL0_ok hi.1 (T.take k)
 refine At.seq (tR (tM rfl rfl (tM rfl rfl (tV (Val.lenRd hv Tryz.underlying28 rfl) rfl (tV (Val.bin rfl rfl rfl) rfl (At.weaken [(0, _), (3, _), (5, _), (6, _), (14, _)] (Sub.cons rfl (Sub.cons rfl (Sub.cons rfl (Sub.cons rfl (Sub.cons rfl Sub.nil))))) ?_))))))
 refine At.boolMeet 5 19 (decide (k < T.length ∧ (chL0 i (T.take k)).length < 8)) ?_ ?_
 ·simp only [List.take_succ_cons, List.take_zero]
  refine tM rfl rfl ?_
  refine At.split (t := 15) rfl (fun h2 => ?_) (fun h2 => ?_)
  ·try simp only [hasB, isSizeB, sB] at h2
   refine At.yes rfl rfl (tM rfl rfl (At.yes rfl rfl (tV (Val.lenRow (i := 0) Tryz.underlying24 rfl rfl) rfl (At.yes rfl rfl (tV (Val.bin rfl rfl rfl) rfl (tV (Val.pickT rfl rfl) rfl (At.nil ?_)))))))
   exact At.boolEnd rfl (by apply Bool.eq_iff_iff.2; (simp only [decide_eq_true_eq, Bool.false_eq_true, false_iff, true_iff, gt_iff_lt, ge_iff_le]) <;> omega) (by repeat (first | exact Sub.nil | refine Sub.cons rfl ?_))
  ·try simp only [hasB, isSizeB, sB] at h2
   refine At.no rfl rfl rfl rfl (At.no rfl rfl rfl rfl (At.no rfl rfl rfl rfl (tV (Val.pickF rfl rfl) rfl (At.nil ?_))))
   exact At.boolEnd rfl (by apply Bool.eq_iff_iff.2; (simp only [decide_eq_true_eq, Bool.false_eq_true, false_iff, true_iff, gt_iff_lt, ge_iff_le]) <;> omega) (by repeat (first | exact Sub.nil | refine Sub.cons rfl ?_))
 ·simp only [List.drop_succ_cons, List.drop_zero]
  refine tE ?_
  refine At.cond rfl (fun h3 => ?_) (fun h3 => ?_)
  ·try simp only [hasB, isSizeB, sB] at h3
   obtain ⟨t, ht⟩ : ∃ t, T[k]? = some t := ⟨_, List.getElem?_eq_getElem (by omega)⟩
   refine At.skipC (At.thenN (At.seq (At.block (At.seq (At.quiet rfl (by decide +kernel) (qM rfl rfl (qM rfl rfl (QAt.idxP hv Tryz.underlying28 Tryz.sizeOf90 rfl rfl (by omega) (by omega) rfl rfl (fun bx ox q1 hq1 hc0 hc1 => ?_)))))))))
   rw [Int.toNat_natCast] at hq1
   obtain rfl : t = q1 := Option.some.inj (ht.symm.trans hq1)
   refine qV (Val.field ox rfl fo_90_0 rfl) rfl (qV (Val.loadOld Tryz.isAgg3 rfl hc0 (fun h => by simp [feet] at h)) rfl (qV (Val.field 1 rfl fo_31_1 rfl) rfl (qV (Val.load (i := 1) Tryz.isAgg3 rfl rfl rfl) rfl (qV (Val.mulI rfl rfl (by omega) (by omega)) rfl (QAt.callP (fun w hw => restJ_p t.1 (3 * i) w (by omega)) Tryz.call31 rfl rfl (qV (Val.assign rfl) rfl (QAt.fin (At.thenN (At.seq ?_)))))))))
   obtain ⟨z, hz⟩ : ∃ z, z = t.1 % (3 * i) := ⟨_, rfl⟩
   have hz0 := Int.emod_nonneg t.1 (show 3 * i ≠ 0 by omega)
   have hz1 := Int.emod_lt_of_pos t.1 (show 0 < 3 * i by omega)
   rw [← hz] at hz0 hz1
   rw [← hz]
   refine At.region (tM rfl rfl (tV (Val.quoI rfl rfl (by omega) (by omega) (by decide)) rfl (tV (Val.mulI rfl rfl (by omega) (by omega)) rfl (tV (Val.addI rfl rfl (by omega) (by omega)) rfl (tM rfl rfl (tV (Val.remI rfl rfl (by omega) (by omega)) rfl (tV (Val.mulI rfl rfl (by omega) (by omega)) rfl (tV (Val.addI rfl rfl (by omega) (by omega)) rfl (tA rfl rfl (At.nil ?_))))))))))
   rw [show 2048 + 64 * (z / 3) + 8 * (z % 3) = twA i t.1 from by unfold twA; rw [hz]]
   refine At.thenN (tR (tA rfl rfl (tE (At.seq (tR (tA rfl rfl (tE (At.block ?_))))))))
   skip
   refine At.loop (σ := Nat) (fun m => m ≤ (chL0 i (T.take k)).length) (fun m => [(0, v), (3, .pointer (some ⟨b1, 0, none⟩)), (5, vr), (6, .int .i64 (k : Int)), (8, .int .i64 (twA i t.1)), (9, .bool (hasAt ((chL0 i (T.take k)).take m) (twA i t.1))), (10, .int .i64 (m : Int))]) (fun m => [rowR vr 56 2 (((chL0 i (T.take k))).length) (prC ((chL0 i (T.take k)))), blk b1 31 ([.int .i64 a0, .int .i64 i, .int .i64 a2, .int .i64 a3])]) (fun m => (chL0 i (T.take k)).length - m) 0 (Nat.zero_le _) (Sub.cons rfl (Sub.cons rfl (Sub.cons rfl (Sub.cons rfl (Sub.cons rfl (Sub.cons (by rw [List.take_zero]; rfl) (Sub.cons rfl Sub.nil))))))) (List.Perm.refl _) ?_
   intro m hm
   refine At.seq (tR (tM rfl rfl (tM rfl rfl (tV (Val.lenRow (i := 0) Tryz.underlying24 rfl rfl) rfl (tV (Val.bin rfl rfl rfl) rfl (tE ?_))))))
   refine At.cond rfl (fun h4 => ?_) (fun h4 => ?_)
   ·try simp only [hasB, isSizeB, sB] at h4
    obtain ⟨c, hc⟩ : ∃ c, (chL0 i (T.take k))[m]? = some c := ⟨_, List.getElem?_eq_getElem (by omega)⟩
    refine At.skipC (At.thenN (At.seq (At.block (At.region (tM rfl rfl (tM rfl rfl ?_))))))
    refine At.split (t := 46) rfl (fun h5 => ?_) (fun h5 => ?_)
    ·try simp only [hasB, isSizeB, sB] at h5
     refine At.no rfl rfl rfl rfl (At.no rfl rfl rfl rfl (At.no rfl rfl rfl rfl (At.no rfl rfl rfl rfl (At.no rfl rfl rfl rfl (At.no rfl rfl rfl rfl (At.no rfl rfl rfl rfl (tV (Val.pickT rfl rfl) rfl (tA rfl rfl (At.nil (At.blkN (At.thenN (At.region (tM rfl rfl ?_)))))))))))))
     first | refine tV (Val.addI rfl rfl (by omega) (by omega)) rfl ?_ | refine tV (Val.bin rfl rfl rfl) rfl ?_
     refine tA rfl rfl (tE ?_)
     exact At.again (m + 1) (show m + 1 ≤ _ by omega) (by omega) (Sub.cons rfl (Sub.cons rfl (Sub.cons rfl (Sub.cons rfl (Sub.cons rfl (Sub.cons (congrArg (fun t => some (Value.bool t)) (by rw [has_snoc hc]; simp_all)) (Sub.cons (congrArg (fun z => some (Value.int IntKind.i64 z)) (by omega)) Sub.nil))))))) (List.Perm.refl _)
    ·try simp only [hasB, isSizeB, sB] at h5
     refine At.yes rfl rfl (tM rfl rfl (At.yes rfl rfl (tM rfl rfl (At.yes rfl rfl (tV (Val.indexRow (i := 0) (m * 2) (by omega) Tryz.underlying24 Tryz.sizeOf56 rfl rfl rfl (by omega) (by omega)) rfl (At.yes rfl rfl (tV (Val.field ((m * 2 + 0)) rfl fo_56_0 rfl) rfl (At.yes rfl rfl (tV (Val.loadRow (u := .int .i64 c.1) (i := 0) Tryz.isAgg3 rfl rfl (prC_at hc).1) rfl (At.yes rfl rfl (tM rfl rfl (At.yes rfl rfl (tV (Val.bin rfl rfl rfl) rfl (tV (Val.pickF rfl rfl) rfl (tA rfl rfl (At.nil (At.blkN (At.thenN (At.region (tM rfl rfl ?_))))))))))))))))))))
     first | refine tV (Val.addI rfl rfl (by omega) (by omega)) rfl ?_ | refine tV (Val.bin rfl rfl rfl) rfl ?_
     refine tA rfl rfl (tE ?_)
     exact At.again (m + 1) (show m + 1 ≤ _ by omega) (by omega) (Sub.cons rfl (Sub.cons rfl (Sub.cons rfl (Sub.cons rfl (Sub.cons rfl (Sub.cons (congrArg (fun t => some (Value.bool t)) (by rw [has_snoc hc]; simp_all)) (Sub.cons (congrArg (fun z => some (Value.int IntKind.i64 z)) (by omega)) Sub.nil))))))) (List.Perm.refl _)
   ·try simp only [hasB, isSizeB, sB] at h4
    obtain rfl : m = (chL0 i (T.take k)).length := by omega
    refine At.exitC (At.thenX (At.thenX (At.blkX (At.thenN (tR (tM rfl rfl (tV (Val.not rfl) rfl (tE ?_))))))))
    refine At.cond rfl (fun h6 => ?_) (fun h6 => ?_)
    ·try simp only [hasB, isSizeB, sB] at h6
     have hno := h6
     refine At.region (tM rfl rfl (tM rfl rfl (tM rfl rfl (tM rfl rfl (At.idxP hv Tryz.underlying28 Tryz.sizeOf90 rfl rfl (by omega) (by omega) rfl rfl (fun bx ox q1 hq1 hc0 hc1 => ?_))))))
     rw [Int.toNat_natCast] at hq1
     obtain rfl : t = q1 := Option.some.inj (ht.symm.trans hq1)
     refine tV (Val.field (ox + 1) rfl fo_90_1 rfl) rfl (tV (Val.loadOld Tryz.isAgg43 rfl hc1 (fun h => by simp [feet] at h)) rfl ?_)
     refine tV (Val.build (fun a ha => by simp only [List.map_toArray, List.map_cons, List.map_nil, ha.eval (x := (.tmp 58)) rfl, ha.eval (x := (.tmp 63)) rfl] <;> rfl) (bld_56_0_1 _ _ )) rfl (At.buildSl (fun a ha => by simp only [List.map_toArray, List.map_cons, List.map_nil, ha.eval (x := (.tmp 64)) rfl]; try rfl) (bs_24_1 _ _ ) rfl (fun b7 => (At.appendP1 (i := 1) (j := 0) (by_ := 16) Tryz.underlying24 info_56 rfl rfl rfl rfl rfl rfl rfl rfl (by omega) (by omega) rfl (fun v8 => ?_))))
     simp only [sc0, scS]
     refine At.drop 0 ?_
     simp only [ec0, ecS]
     refine tA rfl rfl (At.nil (At.blkN (At.thenN (At.region (tM rfl rfl ?_)))))
     first | refine tV (Val.addI rfl rfl (by omega) (by omega)) rfl ?_ | refine tV (Val.bin rfl rfl rfl) rfl ?_
     refine tA rfl rfl (tE ?_)
     exact At.again (k + 1, v8) (show k + 1 ≤ _ by omega) (by dsimp only; omega) (Sub.cons rfl (Sub.cons rfl (Sub.cons rfl (Sub.cons (congrArg (fun z => some (Value.int IntKind.i64 z)) (by omega)) Sub.nil)))) (by dsimp only; rw [chL0_snoc ht, show chF i (chL0 i (T.take k)) t = (chL0 i (T.take k)) ++ [(twA i t.1, t.2)] from if_pos ⟨by omega, has_no.1 (by rw [List.take_of_length_le (by omega)] at hno; exact hno)⟩])
    ·try simp only [hasB, isSizeB, sB] at h6
     have hno := h6
     refine At.skipC (At.blkN (At.thenN (At.region (tM rfl rfl ?_))))
     first | refine tV (Val.addI rfl rfl (by omega) (by omega)) rfl ?_ | refine tV (Val.bin rfl rfl rfl) rfl ?_
     refine tA rfl rfl (tE ?_)
     exact At.again (k + 1, vr) (show k + 1 ≤ _ by omega) (by dsimp only; omega) (Sub.cons rfl (Sub.cons rfl (Sub.cons rfl (Sub.cons (congrArg (fun z => some (Value.int IntKind.i64 z)) (by omega)) Sub.nil)))) (by dsimp only; rw [chL0_snoc ht, show chF i (chL0 i (T.take k)) t = (chL0 i (T.take k)) from if_neg (fun g => by rw [List.take_of_length_le (by omega)] at hno; rw [has_no.2 g.2] at hno; cases hno)])
  ·try simp only [hasB, isSizeB, sB] at h3
   have hend : (chL0 i (T.take k)) = chL0 i T := by
     rcases Nat.lt_or_ge k T.length with h9 | h9
     · exact (chL0_end (by omega)).symm
     · rw [List.take_of_length_le h9]
   refine At.exitC (At.thenX (At.thenX (At.blkX (At.thenN (At.seq (At.seq ?_))))))
   rw [hend]
   refine At.region (tM rfl rfl (tV (Val.lenRow (i := 0) Tryz.underlying24 rfl rfl) rfl (tV (Val.bin rfl rfl rfl) rfl (tE ?_))))
   refine At.cond rfl (fun h9 => ?_) (fun h9 => ?_)
   ·try simp only [hasB, isSizeB, sB] at h9
    refine At.region (tM rfl rfl ?_)
    refine tV (Val.build (fun a ha => by simp only [List.map_toArray, List.map_cons, List.map_nil, ha.eval (x := (.const (.int .i64 (2056)))) rfl, ha.eval (x := (.const (.int .u64 (7)))) rfl] <;> rfl) (bld_56_0_1 _ _ )) rfl (At.buildSl (fun a ha => by simp only [List.map_toArray, List.map_cons, List.map_nil, ha.eval (x := (.tmp 71)) rfl]; try rfl) (bs_24_1 _ _ ) rfl (fun b10 => (At.appendP1 (i := 1) (j := 0) (a := 2056) (w' := 7) (by_ := 16) Tryz.underlying24 info_56 rfl rfl rfl rfl rfl rfl rfl rfl (by omega) (by omega) rfl (fun v11 => ?_))))
    simp only [sc0, scS]
    refine At.drop 0 ?_
    simp only [ec0, ecS]
    refine tA rfl rfl (tE (tR (tM rfl rfl (tA rfl rfl (tE (At.retC (At.ret1 (.inl rfl) rfl rfl rfl (fun w hw => ?_))))))))
    have e : chL i T = chL0 i T ++ [((2056 : Int), (7 : BitVec 64))] := by unfold chL; rw [if_pos (by omega), List.eq_nil_of_length_eq_zero (l := chL0 i T) (by omega)]; rfl
    rw [e]
    exact ⟨_, rfl, (hw.drop (List.singleton_sublist.2 (List.mem_of_getElem? (i := 0) rfl)))⟩
   ·try simp only [hasB, isSizeB, sB] at h9
    refine At.skipC (At.thenN (tR (tM rfl rfl (tA rfl rfl (tE (At.retC (At.ret1 (.inl rfl) rfl rfl rfl (fun w hw => ?_))))))))
    have e : chL i T = chL0 i T := if_neg (by omega)
    rw [e]
    exact ⟨_, rfl, (hw.drop (List.singleton_sublist.2 (List.mem_of_getElem? (i := 0) rfl)))⟩
end Go.Proofs.YtfchinibjhcejaaGreatDoor
namespace Go.Proofs.YtfchinibjhcejaaGreatDoor
open Go Go.Wk
theorem und_snoc {L : List (Int × BitVec 64)} {k : Nat} {q : Int × BitVec 64} (h : L[k]? = some q) : L.take (k + 1) = L.take k ++ [(q.1, q.2)] := List.take_succ_of_get h
def devE (l : List UInt8) (m : Int) : Ds := if m < 0 then loadD l else armD (loadD l) m.toNat
theorem bld_27_0_2 (p i c : Int) (A : Option Addr) (n k : Nat) (w : World) : (Instr.build 27 #[(0, .agg #[.int .i64 p, .int .i64 i, .int .i64 c]), (2, .slice A n k)]).run Tryz.prog w = .ok (.agg #[.int .i64 p, .int .i64 i, .int .i64 c, .bool false, .slice A n k, .slice none 0 0]) w := by kernel_rfl
theorem bld_27_0_2_3 (p i c : Int) (A B : Option Addr) (n k m l : Nat) (w : World) : (Instr.build 27 #[(0, .agg #[.int .i64 p, .int .i64 i, .int .i64 c]), (2, .slice A n k), (3, .slice B m l)]).run Tryz.prog w = .ok (.agg #[.int .i64 p, .int .i64 i, .int .i64 c, .bool false, .slice A n k, .slice B m l]) w := by kernel_rfl
theorem dead_load (l : List UInt8) : deadB (loadD l) = false := rfl
theorem inTable_n (v : Value) (W : List (Int × BitVec 64)) (w : World) (hv : RdP w v W) (hW : W.length ≤ 8796093022208) :
    NewRow Tryz.prog 13 [v] 56 2 (inT W).length (prC (inT W)) w := by
 refine enter (feet []) [] Tryz.func13 rfl Tryz.ntmps13 rfl ⟨by simp, by simp, by simp, Mod.refl _ _⟩ ?_
 simp only [envOf]
 refine tR (tA rfl rfl (tE (tR (tA rfl rfl (At.nil (At.rowNilP 56 (At.thenN (At.seq (tR (tA rfl rfl (tE (At.block ?_))))))))))))
 skip
 refine At.loop (σ := Nat × Value) (fun s => s.1 ≤ W.length) (fun s => [(0, v), (3, s.2), (4, .int .i64 (s.1 : Int))]) (fun s => [rowR s.2 56 2 (inT (W.take s.1)).length (prC (inT (W.take s.1)))]) (fun s => W.length - s.1) (0, .slice none 0 0) (Nat.zero_le _) (Sub.cons rfl (Sub.cons rfl (Sub.cons rfl Sub.nil))) (List.Perm.refl _) ?_
 intro s hs
 obtain ⟨k, vr⟩ := s
 dsimp only at hs ⊢
 refine At.seq (tR (tM rfl rfl (tM rfl rfl (tV (Val.lenRd hv Tryz.underlying24 rfl) rfl (tV (Val.bin rfl rfl rfl) rfl (tE ?_))))))
 refine At.cond rfl (fun h1 => ?_) (fun h1 => ?_)
 ·try simp only [hasB, isSizeB, sB] at h1
  obtain ⟨q, hq⟩ : ∃ q, W[k]? = some q := ⟨_, List.getElem?_eq_getElem (by omega)⟩
  have hil := inT_le (W.take k)
  rw [List.length_take] at hil
  refine At.skipC (At.thenN (At.seq (At.block (tR (tM rfl rfl (tM rfl rfl (At.idxP hv Tryz.underlying24 Tryz.sizeOf56 rfl rfl (by omega) (by omega) rfl rfl (fun bx ox q1 hq1 hc0 hc1 => ?_))))))))
  rw [Int.toNat_natCast] at hq1
  obtain rfl : q = q1 := Option.some.inj (hq.symm.trans hq1)
  refine tV (Val.field ox rfl fo_56_0 rfl) rfl (tV (Val.loadOld Tryz.isAgg3 rfl hc0 (fun h => by simp [feet] at h)) rfl (tV (Val.bin rfl rfl rfl) rfl (tE ?_)))
  refine At.cond rfl (fun h2 => ?_) (fun h2 => ?_)
  ·try simp only [hasB, isSizeB, sB] at h2
   have h16 := h2
   refine At.region (tM rfl rfl (tM rfl rfl (tM rfl rfl (At.idxP hv Tryz.underlying24 Tryz.sizeOf56 rfl rfl (by omega) (by omega) rfl rfl (fun bx ox q1 hq1 hc0 hc1 => ?_)))))
   rw [Int.toNat_natCast] at hq1
   obtain rfl : q = q1 := Option.some.inj (hq.symm.trans hq1)
   refine tV (Val.loadPair Tryz.isAgg56 Tryz.sizeOf56 rfl hc0 hc1 (fun h => by simp [feet] at h)) rfl (At.buildSl (fun a ha => by simp only [List.map_toArray, List.map_cons, List.map_nil, ha.eval (x := (.tmp 21)) rfl]; try rfl) (bs_24_1 _ _ ) rfl (fun b3 => (At.appendP1 (i := 1) (j := 0) (by_ := 16) Tryz.underlying24 info_56 rfl rfl rfl rfl rfl rfl rfl rfl (by omega) (by omega) rfl (fun v4 => ?_))))
   simp only [sc0, scS]
   refine At.drop 0 ?_
   simp only [ec0, ecS]
   refine tA rfl rfl (At.nil (At.blkN (At.thenN (At.region (tM rfl rfl ?_)))))
   first | refine tV (Val.addI rfl rfl (by omega) (by omega)) rfl ?_ | refine tV (Val.bin rfl rfl rfl) rfl ?_
   refine tA rfl rfl (tE ?_)
   exact At.again (k + 1, v4) (show k + 1 ≤ _ by omega) (by dsimp only; omega) (Sub.cons rfl (Sub.cons rfl (Sub.cons (congrArg (fun z => some (Value.int IntKind.i64 z)) (by omega)) Sub.nil))) (by dsimp only; rw [inT_snoc hq, if_pos (by omega)])
  ·try simp only [hasB, isSizeB, sB] at h2
   have h16 := h2
   refine At.skipC (At.blkN (At.thenN (At.region (tM rfl rfl ?_))))
   first | refine tV (Val.addI rfl rfl (by omega) (by omega)) rfl ?_ | refine tV (Val.bin rfl rfl rfl) rfl ?_
   refine tA rfl rfl (tE ?_)
   exact At.again (k + 1, vr) (show k + 1 ≤ _ by omega) (by dsimp only; omega) (Sub.cons rfl (Sub.cons rfl (Sub.cons (congrArg (fun z => some (Value.int IntKind.i64 z)) (by omega)) Sub.nil))) (by dsimp only; rw [inT_snoc hq, if_neg (by omega), List.append_nil])
 ·try simp only [hasB, isSizeB, sB] at h1
  obtain rfl : k = W.length := by omega
  rw [List.take_length]
  refine At.exitC (At.thenX (At.thenX (At.blkX (At.thenN (tR (tM rfl rfl (tA rfl rfl (tE (At.retC (At.ret1 (.inl rfl) rfl rfl rfl (fun w hw => ?_)))))))))))
  exact ⟨_, rfl, hw⟩
theorem clean_n (p i c : Int) (bare : Bool) (vW vU : Value) (W U : List (Int × BitVec 64)) (w : World) (hvW : RdP w vW W) (hWl : W.length ≤ 8796093022208) (hpb : -9223372036854775808 ≤ p ∧ p ≤ 9223372036854775807) :
    NewRowT Tryz.prog 11 [.agg #[.int .i64 p, .int .i64 i, .int .i64 c, .bool bare, vW, vU]] (fun v => .tuple #[v, .agg #[.int .i64 (supS p i c).1, .int .i64 (supS p i c).2.1, .int .i64 (supS p i c).2.2, .int .i64 (4 + (supS p i c).2.1 / 8)]]) 5 1 (imgE (supS p i c) false (inT W) []).length ((imgE (supS p i c) false (inT W) []).map bv) w := by
 refine enter0 Tryz.func11 rfl Tryz.ntmps11 rfl ?_
 simp only [envOf]
 refine tR (At.box rfl rfl rfl (fun b1 => (tA rfl rfl (At.alloc Tryz.zeroValue31 rfl rfl (fun b2 => (tE (At.seq ?_)))))))
 apply At.any (t := 10)
 · rfl
 refine KAt.pin (fun w hw => hw.drop (List.Sublist.cons _ (List.Sublist.cons_cons _ (List.Sublist.refl _)))) (KAt.take 0 (Val.field 0 rfl fo_27_0 rfl) rfl rfl rfl rfl (fun w hw => hw.drop (List.Sublist.cons _ (List.Sublist.cons_cons _ (List.Sublist.refl _)))) (by decide +kernel) (KAt.take 1 (Val.loadPart (i := 0) Tryz.isAgg23 Tryz.sizeOf23 rfl rfl rfl rfl) rfl rfl rfl rfl (fun w hw => hw.drop (List.Sublist.cons _ (List.Sublist.cons_cons _ (List.Sublist.refl _)))) (by decide +kernel) (KAt.take 2 (Val.field 4 rfl fo_27_2 rfl) rfl rfl rfl rfl (fun w hw => hw.drop (List.Sublist.cons _ (List.Sublist.cons_cons _ (List.Sublist.refl _)))) (by decide +kernel) (KAt.take 3 (Val.load (i := 0) Tryz.isAgg24 rfl rfl rfl) rfl rfl rfl rfl (fun w hw => hw.drop (List.Sublist.cons _ (List.Sublist.cons_cons _ (List.Sublist.refl _)))) (by decide +kernel) (KAt.only 4 rfl (by decide +kernel) (At.callN (fun w hw => inTable_n vW W w (hvW.mod hw.mod) hWl) Tryz.call13 rfl rfl (fun v3 => (At.rowIs (i := 0) rfl (fun A4 c5 hv => ?_)))))))))
 subst hv
 refine At.nil (KAt.go (fun w hw => hw.drop (List.Sublist.cons _ (List.Sublist.cons _ (List.Sublist.cons_cons _ (List.Sublist.refl _))))) ?_)
 refine KAt.take 5 (Val.build (fun a ha => by simp only [List.map_toArray, List.map_cons, List.map_nil, ha.eval (x := (.tmp 5)) rfl, ha.eval (x := (.tmp 8)) rfl] <;> rfl) (bld_27_0_2 _ _ _ _ _ _ )) rfl rfl rfl rfl (fun w hw => hw.drop (List.Sublist.cons _ (List.Sublist.cons _ (List.Sublist.cons_cons _ (List.Sublist.refl _))))) (by decide +kernel) (KAt.only 6 rfl (by decide +kernel) ?_)
 refine At.callNT (g := (fun v => .tuple #[v, .agg #[.int .i64 (supS p i c).1, .int .i64 (supS p i c).2.1, .int .i64 (supS p i c).2.2, .int .i64 (4 + (supS p i c).2.1 / 8)]])) (fun w hw => image_n p i c false _ (.slice none 0 0) (inT W) [] w (row_rd (hw.row (i := 0) rfl) (by decide)) (Rd.nil w 2) (by have := inT_le W; omega) (by decide) hpb) Tryz.call14 rfl rfl (fun v6 => (At.nil (KAt.go (fun w hw => hw.drop (List.Sublist.cons _ (List.Sublist.cons _ (List.Sublist.cons _ (List.Sublist.cons_cons _ (List.Sublist.refl _)))))) (KAt.take 7 (Val.extract rfl rfl) rfl rfl rfl rfl (fun w hw => hw.drop (List.Sublist.cons _ (List.Sublist.cons _ (List.Sublist.cons _ (List.Sublist.cons_cons _ (List.Sublist.refl _)))))) (by decide +kernel) (KAt.take 8 (Val.extract rfl rfl) rfl rfl rfl rfl (fun w hw => hw.drop (List.Sublist.cons _ (List.Sublist.cons _ (List.Sublist.cons _ (List.Sublist.cons_cons _ (List.Sublist.refl _)))))) (by decide +kernel) (KAt.take 9 (Val.assign rfl) rfl rfl rfl rfl (fun w hw => hw.drop (List.Sublist.cons _ (List.Sublist.cons _ (List.Sublist.cons _ (List.Sublist.cons_cons _ (List.Sublist.refl _)))))) (by decide +kernel) (KAt.only 10 rfl (by decide +kernel) (At.storeAll (i := 2) Tryz.sizeOf31 rfl rfl rfl (by simp [Value.oneCell']) rfl rfl ?_))))))))
 simp only [sc0, scS]
 refine At.nil (KAt.goT rfl (KAt.done (by decide +kernel) (At.thenN (At.retC (At.ret2 (.inl rfl) rfl rfl rfl (ResOf.all (i := 2) Tryz.isAgg31 Tryz.sizeOf31 rfl rfl rfl) (fun w hw => ?_))))))
 exact ⟨_, rfl, (hw.drop (List.singleton_sublist.2 (List.mem_of_getElem? (i := 0) rfl))).f0⟩
theorem undosJ_n (v : Value) (T : List (Int × BitVec 64)) (a0 i a2 a3 : Int) (w : World) (hv : RdP w v T) (hT : T.length ≤ 140737488355328) (hi : 0 < i ∧ i ≤ 1000) :
    NewRow Tryz.prog 12 [v, .agg #[.int .i64 a0, .int .i64 i, .int .i64 a2, .int .i64 a3]] 45 2 (chL i T).length (prC (chL i T)) w := by
 refine enter (feet []) [] Tryz.func12 rfl Tryz.ntmps12 rfl ⟨by simp, by simp, by simp, Mod.refl _ _⟩ ?_
 have hcl := chL_ok hi.1 T
 simp only [envOf]
 refine tR (At.box rfl rfl rfl (fun b1 => (tA rfl rfl (tE (tR (tM rfl rfl (tV (Val.loadAll (i := 0) Tryz.isAgg31 Tryz.sizeOf31 rfl rfl rfl) rfl (At.callN (fun w hw => changesJ_n v T a0 i a2 a3 w (hv.mod hw.modF) hT hi) Tryz.call21 rfl rfl (fun v2 => (tA rfl rfl (tE (tR (tA rfl rfl (At.nil (At.rowNilP 45 (At.thenN (At.seq (tR (tA rfl rfl (tE (At.block ?_)))))))))))))))))))))
 skip
 refine At.loop (σ := Nat × Value) (fun s => s.1 ≤ (chL i T).length) (fun s => [(5, v2), (6, s.2), (7, .int .i64 (s.1 : Int))]) (fun s => [rowR s.2 45 2 ((chL i T).take s.1).length (prC ((chL i T).take s.1)), rowR v2 56 2 ((chL i T).length) (prC (chL i T)), blk b1 31 ([.int .i64 a0, .int .i64 i, .int .i64 a2, .int .i64 a3])]) (fun s => (chL i T).length - s.1) (0, .slice none 0 0) (Nat.zero_le _) (Sub.cons rfl (Sub.cons rfl (Sub.cons rfl Sub.nil))) (List.Perm.refl _) ?_
 intro s hs
 obtain ⟨k, vr⟩ := s
 dsimp only at hs ⊢
 refine At.seq (tR (tM rfl rfl (tM rfl rfl (tV (Val.lenRow (i := 1) Tryz.underlying24 rfl rfl) rfl (tV (Val.bin rfl rfl rfl) rfl (tE ?_))))))
 refine At.cond rfl (fun h3 => ?_) (fun h3 => ?_)
 ·try simp only [hasB, isSizeB, sB] at h3
  obtain ⟨q, hq⟩ : ∃ q, (chL i T)[k]? = some q := ⟨_, List.getElem?_eq_getElem (by omega)⟩
  refine At.skipC (At.thenN (At.seq (At.block ?_)))
  apply At.any (t := 15)
  · rfl
  refine KAt.pin (fun w hw => hw.drop (List.Sublist.cons _ (List.Sublist.cons_cons _ (List.Sublist.cons _ (List.Sublist.refl _))))) (KAt.take 0 (Val.move rfl) rfl rfl rfl rfl (fun w hw => hw.drop (List.Sublist.cons _ (List.Sublist.cons_cons _ (List.Sublist.cons _ (List.Sublist.refl _))))) (by decide +kernel) (KAt.take 1 (Val.move rfl) rfl rfl rfl rfl (fun w hw => hw.drop (List.Sublist.cons _ (List.Sublist.cons_cons _ (List.Sublist.cons _ (List.Sublist.refl _))))) (by decide +kernel) (KAt.take 2 (Val.move rfl) rfl rfl rfl rfl (fun w hw => hw.drop (List.Sublist.cons _ (List.Sublist.cons_cons _ (List.Sublist.cons _ (List.Sublist.refl _))))) (by decide +kernel) (KAt.take 3 (Val.indexRow (i := 0) (k * 2) (by omega) Tryz.underlying24 Tryz.sizeOf56 rfl rfl rfl (by omega) (by omega)) rfl rfl rfl rfl (fun w hw => hw.drop (List.Sublist.cons _ (List.Sublist.cons_cons _ (List.Sublist.cons _ (List.Sublist.refl _))))) (by decide +kernel) (KAt.take 4 (Val.field ((k * 2 + 0)) rfl fo_56_0 rfl) rfl rfl rfl rfl (fun w hw => hw.drop (List.Sublist.cons _ (List.Sublist.cons_cons _ (List.Sublist.cons _ (List.Sublist.refl _))))) (by decide +kernel) (KAt.take 5 (Val.loadRow (u := .int .i64 q.1) (i := 0) Tryz.isAgg3 rfl rfl (prC_at hq).1) rfl rfl rfl rfl (fun w hw => hw.drop (List.Sublist.cons _ (List.Sublist.cons_cons _ (List.Sublist.cons _ (List.Sublist.refl _))))) (by decide +kernel) (KAt.take 6 (Val.move rfl) rfl rfl rfl rfl (fun w hw => hw.drop (List.Sublist.cons _ (List.Sublist.cons_cons _ (List.Sublist.cons _ (List.Sublist.refl _))))) (by decide +kernel) (KAt.take 7 (Val.move rfl) rfl rfl rfl rfl (fun w hw => hw.drop (List.Sublist.cons _ (List.Sublist.cons_cons _ (List.Sublist.cons _ (List.Sublist.refl _))))) (by decide +kernel) (KAt.take 8 (Val.indexRow (i := 0) (k * 2) (by omega) Tryz.underlying24 Tryz.sizeOf56 rfl rfl rfl (by omega) (by omega)) rfl rfl rfl rfl (fun w hw => hw.drop (List.Sublist.cons _ (List.Sublist.cons_cons _ (List.Sublist.cons _ (List.Sublist.refl _))))) (by decide +kernel) (KAt.take 9 (Val.field ((k * 2 + 1)) rfl fo_56_1 rfl) rfl rfl rfl rfl (fun w hw => hw.drop (List.Sublist.cons _ (List.Sublist.cons_cons _ (List.Sublist.cons _ (List.Sublist.refl _))))) (by decide +kernel) (KAt.take 10 (Val.loadRow (u := b64 q.2) (i := 0) Tryz.isAgg43 rfl rfl (prC_at hq).2) rfl rfl rfl rfl (fun w hw => hw.drop (List.Sublist.cons _ (List.Sublist.cons_cons _ (List.Sublist.cons _ (List.Sublist.refl _))))) (by decide +kernel) ?_)))))))))))
  refine KAt.take 11 (Val.build (fun a ha => by simp only [List.map_toArray, List.map_cons, List.map_nil, ha.eval (x := (.tmp 22)) rfl, ha.eval (x := (.tmp 27)) rfl] <;> rfl) (bld_45_0_1 _ _ )) rfl rfl rfl rfl (fun w hw => hw.drop (List.Sublist.cons _ (List.Sublist.cons_cons _ (List.Sublist.cons _ (List.Sublist.refl _))))) (by decide +kernel) (KAt.only 12 rfl (by decide +kernel) (At.buildSl (fun a ha => by simp only [List.map_toArray, List.map_cons, List.map_nil, ha.eval (x := (.tmp 28)) rfl]; try rfl) (bs_25_1 _ _ ) rfl (fun b4 => (At.nil (KAt.go (fun w hw => hw.drop (List.Sublist.cons _ (List.Sublist.cons _ (List.Sublist.cons_cons _ (List.Sublist.cons _ (List.Sublist.refl _)))))) (KAt.only 13 rfl (by decide +kernel) ?_))))))
  refine At.appendP1 (i := 1) (j := 0) (by_ := 16) Tryz.underlying25 info_45 rfl rfl rfl rfl rfl rfl rfl rfl (by rw [List.length_take]; omega) (by rw [List.length_take]; omega) rfl (fun v5 => ?_)
  simp only [sc0, scS]
  refine At.drop 0 ?_
  simp only [ec0, ecS]
  refine At.nil (KAt.go (fun w hw => hw.drop (List.Sublist.cons _ (List.Sublist.cons_cons _ (List.Sublist.cons _ (List.Sublist.refl _))))) (KAt.take 14 (Val.assign rfl) rfl rfl rfl rfl (fun w hw => hw.drop (List.Sublist.cons _ (List.Sublist.cons_cons _ (List.Sublist.cons _ (List.Sublist.refl _))))) (by decide +kernel) (KAt.done (by decide +kernel) (At.blkN (At.thenN (At.region (tM rfl rfl ?_)))))))
  first | refine tV (Val.addI rfl rfl (by omega) (by omega)) rfl ?_ | refine tV (Val.bin rfl rfl rfl) rfl ?_
  refine tA rfl rfl (tE ?_)
  exact At.again (k + 1, v5) (show k + 1 ≤ _ by omega) (by dsimp only; omega) (Sub.cons rfl (Sub.cons rfl (Sub.cons (congrArg (fun z => some (Value.int IntKind.i64 z)) (by omega)) Sub.nil))) (by dsimp only; rw [und_snoc hq])
 ·try simp only [hasB, isSizeB, sB] at h3
  obtain rfl : k = (chL i T).length := by omega
  rw [List.take_length]
  refine At.exitC (At.thenX (At.thenX (At.blkX (At.thenN (tR (tM rfl rfl (tA rfl rfl (tE (At.retC (At.ret1 (.inl rfl) rfl rfl rfl (fun w hw => ?_)))))))))))
  exact ⟨_, rfl, hw.drop (List.singleton_sublist.2 (List.mem_of_getElem? (i := 0) rfl))⟩
theorem wordJ_p (v : Value) (l : List UInt8) (o : Nat) (w : World) (hv : RdB w v l) (hlen : l.length ≤ 140737488355328) (hn : o + 8 ≤ l.length) :
    PureC Tryz.prog 19 [v, .int .i64 (o : Int)] (b64 (wdA l o)) w := by
 refine enter0 Tryz.func19 rfl Tryz.ntmps19 rfl ?_
 simp only [envOf]
 refine tR (tA rfl rfl (tE (tR (tA rfl rfl (tE (At.seq (tR (tA rfl rfl (tE (At.block ?_))))))))))
 skip
 refine At.loop (σ := Nat) (fun j' => j' ≤ 8) (fun j' => [(0, v), (1, .int .i64 (o : Int)), (5, .int .u64 (num l (o + j') (8 - j') : Nat)), (6, .int .i64 ((j' : Int) - 1))]) (fun j' => []) (fun j' => j') 8 (Nat.le_refl _) (Sub.cons rfl (Sub.cons rfl (Sub.cons (congrArg (fun z => some (Value.int IntKind.u64 z)) (by rw [Nat.sub_self, num_zero]; rfl)) (Sub.cons rfl Sub.nil)))) (List.Perm.refl _) ?_
 intro j' hs
 refine At.seq (tR (tM rfl rfl (tV (Val.bin rfl rfl rfl) rfl (At.weaken [(0, _), (1, _), (5, _), (6, _), (8, _)] (Sub.cons rfl (Sub.cons rfl (Sub.cons rfl (Sub.cons rfl (Sub.cons rfl Sub.nil))))) ?_))))
 refine At.boolMeet 7 15 (decide (1 ≤ j')) ?_ ?_
 ·simp only [List.take_succ_cons, List.take_zero]
  refine tM rfl rfl ?_
  refine At.split (t := 9) rfl (fun h1 => ?_) (fun h1 => ?_)
  ·try simp only [hasB, isSizeB, sB] at h1
   refine At.yes rfl rfl (tM rfl rfl (At.yes rfl rfl ?_))
   first | refine tV (Val.addI rfl rfl (by omega) (by omega)) rfl ?_ | refine tV (Val.bin rfl rfl rfl) rfl ?_
   refine At.yes rfl rfl (tM rfl rfl (At.yes rfl rfl (tV (Val.lenRd hv Tryz.underlying29 rfl) rfl (At.yes rfl rfl (tV (Val.bin rfl rfl rfl) rfl (tV (Val.pickT rfl rfl) rfl (At.nil ?_)))))))
   exact At.boolEnd rfl (by apply Bool.eq_iff_iff.2; (simp only [decide_eq_true_eq, Bool.false_eq_true, false_iff, true_iff, gt_iff_lt, ge_iff_le]) <;> omega) (by repeat (first | exact Sub.nil | refine Sub.cons rfl ?_))
  ·try simp only [hasB, isSizeB, sB] at h1
   refine At.no rfl rfl rfl rfl (At.no rfl rfl rfl rfl (At.no rfl rfl rfl rfl (At.no rfl rfl rfl rfl (At.no rfl rfl rfl rfl (tV (Val.pickF rfl rfl) rfl (At.nil ?_))))))
   exact At.boolEnd rfl (by apply Bool.eq_iff_iff.2; (simp only [decide_eq_true_eq, Bool.false_eq_true, false_iff, true_iff, gt_iff_lt, ge_iff_le]) <;> omega) (by repeat (first | exact Sub.nil | refine Sub.cons rfl ?_))
 ·simp only [List.drop_succ_cons, List.drop_zero]
  refine tE ?_
  refine At.cond rfl (fun h2 => ?_) (fun h2 => ?_)
  ·try simp only [hasB, isSizeB, sB] at h2
   obtain ⟨j, rfl⟩ : ∃ j, j' = j + 1 := ⟨j' - 1, by omega⟩
   obtain ⟨u, hu⟩ : ∃ u, l[o + j]? = some u := ⟨_, List.getElem?_eq_getElem (by omega)⟩
   have hnum : num l (o + (j + 1)) (8 - (j + 1)) * 256 + u.toNat = num l (o + j) (8 - j) := by rw [show 8 - j = (8 - (j + 1)) + 1 by omega, num_cons hu]; rfl
   have hlt : num l (o + j) (8 - j) < 18446744073709551616 := Nat.lt_of_lt_of_le (num_lt (l := l) (o + j) (8 - j)) (by rw [show (18446744073709551616 : Nat) = 256 ^ 8 from rfl]; exact Nat.pow_le_pow_right (by decide) (by omega))
   refine At.skipC (At.thenN (At.seq (At.block (At.region (tM rfl rfl (tV (Val.bin rfl rfl rfl) rfl ?_))))))
   rw [wrap_u64 (n := ((num l (o + (j + 1)) (8 - (j + 1)) : Nat) : Int) * 256) (by omega) (by omega)]
   refine tM rfl rfl (tM rfl rfl (tM rfl rfl ?_))
   first | refine tV (Val.addI rfl rfl (by omega) (by omega)) rfl ?_ | refine tV (Val.bin rfl rfl rfl) rfl ?_
   refine At.idxB hv Tryz.underlying29 Tryz.sizeOf5 rfl rfl (by omega) (by omega) rfl rfl (fun b3 o4 q5 hq6 hl7 hc8 => (tV (Val.loadOld Tryz.isAgg5 rfl hc8 (fun h => h)) rfl (tV (Val.conv Tryz.underlying5 Tryz.underlying43 rfl) rfl ?_)))
   rw [wrap_u64 (n := (q5.toNat : Int)) (by omega) (by have := q5.toNat_lt; omega), show q5 = u from by have h1 := hq6; rw [show ((o : Int) + (((j + 1 : Nat) : Int) - 1)).toNat = o + j by omega, hu] at h1; exact (Option.some.inj h1).symm]
   refine tV (Val.bin rfl rfl rfl) rfl ?_
   rw [show IntKind.u64.wrap (((num l (o + (j + 1)) (8 - (j + 1)) : Nat) : Int) * 256 + (u.toNat : Int)) = ((num l (o + j) (8 - j) : Nat) : Int) from by rw [wrap_u64 (by omega) (by omega)]; omega]
   refine tA rfl rfl (At.nil (At.blkN (At.thenN (At.region (tM rfl rfl ?_)))))
   first | refine tV (Val.subI rfl rfl (by omega) (by omega)) rfl ?_ | refine tV (Val.bin rfl rfl rfl) rfl ?_
   refine tA rfl rfl (tE ?_)
   exact At.again j (by omega) (by omega) (Sub.cons rfl (Sub.cons rfl (Sub.cons rfl (Sub.cons (congrArg (fun z => some (Value.int IntKind.i64 z)) (by omega)) Sub.nil)))) (List.Perm.refl _)
  ·try simp only [hasB, isSizeB, sB] at h2
   have hj0 : j' = 0 := by omega
   subst hj0
   refine At.exitC (At.thenX (At.thenX (At.blkX (At.thenN (tR (tM rfl rfl (tA rfl rfl (tE (At.retC (At.ret1 (.inl rfl) rfl rfl rfl (fun w hw => ?_)))))))))))
   rw [← wdA_val]
   exact ⟨rfl, hw.mod⟩
theorem device_n (v : Value) (l : List UInt8) (m : Int) (w : World) (hv : RdB w v l) (hsz : isSizeB (l.length : Int) = true) (hm : m ≤ 1000000) :
    NewDevB Tryz.prog 22 [v, .int .i64 m] (devE l m) w := by
 refine enter0 Tryz.func22 rfl Tryz.ntmps22 rfl ?_
 simp only [envOf]
 refine tR (tA rfl rfl (tA rfl rfl (tE (tR (tM rfl rfl (At.callND (fun w hw => load_d _ l w (hv.mod hw.mod) hsz) Tryz.call43 rfl rfl (fun p1 y2 => (tM rfl rfl (tV (Val.extract rfl rfl) rfl (tV (Val.extract rfl rfl) rfl (tA rfl rfl (tA rfl rfl (tE (At.seq (tR (tM rfl rfl (tV (Val.eqNil (t := 51) (by kernel_rfl) rfl) rfl (tM rfl rfl (At.yes rfl rfl (tM rfl rfl (At.yes rfl rfl (tV (Val.bin rfl rfl rfl) rfl (tV (Val.pickF rfl rfl) rfl (tE (At.condF rfl (At.skipC (At.thenN (At.seq (tR (tM rfl rfl (tV (Val.bin rfl rfl rfl) rfl (tE ?_))))))))))))))))))))))))))))))))
 refine At.cond rfl (fun h3 => ?_) (fun h3 => ?_)
 ·try simp only [hasB, isSizeB, sB] at h3
  refine tR (tM rfl rfl (tM rfl rfl ?_))
  refine At.callD 0 rfl (fun w hw hr => (by have h0 := arm_d _ _ _ m.toNat w (by omega) (dead_load l) hr; rwa [show ((m.toNat : Nat) : Int) = m from by omega] at h0)) Tryz.call44 rfl rfl (fun y4 => ?_)
  simp only [sc0, scS]
  refine tA rfl rfl (tE (tR (tM rfl rfl (tM rfl rfl (tV (Val.bin rfl rfl rfl) rfl (tA rfl rfl (tA rfl rfl (tE (At.retC (At.thenR (At.ret2 (.inl rfl) rfl rfl rfl rfl (fun w hw => ?_))))))))))))
  rw [show devE l m = armD (loadD l) m.toNat from if_neg (by omega)]
  exact ⟨_, _, rfl, hw.f0⟩
 ·try simp only [hasB, isSizeB, sB] at h3
  refine At.skipC (At.thenN (tR (tM rfl rfl (tA rfl rfl (tA rfl rfl (tE (At.retC (At.ret2 (.inl rfl) rfl rfl rfl rfl (fun w hw => ?_)))))))))
  rw [show devE l m = loadD l from if_pos (by omega)]
  exact ⟨_, _, rfl, hw.f0⟩
end Go.Proofs.YtfchinibjhcejaaGreatDoor
namespace Go.Proofs.YtfchinibjhcejaaGreatDoor
open Go Go.Wk
theorem mem_lnK {ks : List Nat} {l : Nat} : l ∈ lnK ks ↔ ∃ k ∈ ks, k / 8 = l := by
  unfold lnK
  rw [List.mem_map]
  constructor
  · rintro ⟨x, hx, rfl⟩
    obtain ⟨k, hk, e⟩ := ((lnL_ok ks).2 x).1 hx
    refine ⟨k, hk, ?_⟩
    unfold lnF at e; omega
  · rintro ⟨k, hk, rfl⟩
    refine ⟨lnF k, ((lnL_ok ks).2 _).2 ⟨k, hk, rfl⟩, ?_⟩
    unfold lnF; omega
abbrev phU (U : List (Int × BitVec 64)) : Ph := (kU U, lnK (ksOf U))
abbrev ph64 (x : BitVec 64) : Ph := ([(64, x)], lnK [64])
theorem chA_ph (U : List (Int × BitVec 64)) : chA (ksOf U) (U.map Prod.snd) = phA (phU U) := by unfold chA phA stlA; rw [kU_zip]
theorem recL_ph (U : List (Int × BitVec 64)) : (recL (ksOf U) (U.map Prod.snd)).flatten = phsA [phU U, ph64 0] := by
  unfold recL phsA
  rw [chA_ph]; rfl
theorem phU_ok {i : Int} {U : List (Int × BitVec 64)} {n : Nat} (hp : PlK i U U.length) (hn : 2048 + 64 * i ≤ 8 * (n : Int)) : PhOk n (phU U) := by
  have hk : ∀ c ∈ kU U, c.1 ∈ ksOf U := fun c hc => by rw [← kU_fst]; exact List.mem_map.2 ⟨c, hc, rfl⟩
  have hlt := ks_lt (n := n) (pl_all hp) hn
  refine ⟨pl_nodup hp, fun c hc => hlt _ (hk c hc), fun c hc => mem_lnK.2 ⟨_, hk c hc, rfl⟩, fun l hl => ?_⟩
  obtain ⟨k, hkm, rfl⟩ := mem_lnK.1 hl
  have := hlt k hkm
  omega
theorem ph64_ok {n : Nat} (x : BitVec 64) (h : 64 < n) : PhOk n (ph64 x) := by
  refine ⟨by simp, fun c hc => ?_, fun c hc => ?_, fun l hl => ?_⟩
  · rw [List.mem_singleton.1 hc]; exact h
  · rw [List.mem_singleton.1 hc]; exact mem_lnK.2 ⟨64, by simp, rfl⟩
  · obtain ⟨k, hk, rfl⟩ := mem_lnK.1 hl
    rw [List.mem_singleton.1 hk]; omega
theorem kU_mem {U : List (Int × BitVec 64)} {q : Int × BitVec 64} (h : q ∈ U) : ((q.1 / 8).toNat, q.2) ∈ kU U := List.mem_map.2 ⟨q, h, rfl⟩
theorem plk_addr {i : Int} {U : List (Int × BitVec 64)} {n : Nat} (hp : ∀ q ∈ U, TW q.1 i) (hn : 2048 + 64 * i ≤ 8 * (n : Int)) : ∀ u ∈ U, u.1 = 8 * ((u.1 / 8).toNat : Int) ∧ (u.1 / 8).toNat < n := fun u hu => by
  have := hp u hu
  unfold TW at this; omega
theorem rec_full {σ : Ds} {vs : List (BitVec 64)} {i : Int} {U : List (Int × BitVec 64)} (hws : σ.ws = mkC vs) (ha : σ.armed = false) (hE : pndE (wbytes vs) = 0) (hL : pndL (wbytes vs) = U) (h1 : 1 ≤ U.length) (hp : PlK i U U.length) (hn : 2048 + 64 * i ≤ 8 * (vs.length : Int)) (hi : 0 ≤ i) :
    ∃ τ : Ds, rcvE σ = ((U.length : Int), 0, τ) ∧ τ.ws = mkC (setP (setP vs (kU U)) [(64, 0)]) ∧ τ.armed = false ∧ τ.steps = σ.steps + (phsA [phU U, ph64 0]).length := by
  have hv : viewWs σ.ws = vs := by rw [hws, mkC_view]
  obtain ⟨a1, a2, a3, a4⟩ := phs_full [phU U, ph64 0] hws ha (fun p hpm => by
    rcases List.mem_cons.1 hpm with rfl | hpm
    · exact phU_ok hp hn
    · rw [List.mem_singleton.1 hpm]; exact ph64_ok 0 (by omega))
  refine ⟨(actsE σ (phsA [phU U, ph64 0])).2, ?_, a2, a3, a4⟩
  unfold rcvE
  rw [hv, hE, hL, if_neg (fun g => by rcases g with g | g; exact g rfl; rw [g] at h1; exact absurd h1 (by decide)), recL_ph, a1, if_pos rfl]
theorem setP_byte {vs : List (BitVec 64)} {P : List (Nat × BitVec 64)} {j : Nat} (h : j / 8 ∉ P.map Prod.fst) : (wbytes (setP vs P))[j]? = (wbytes vs)[j]? := by
  have := wbytes_ext (j := j / 8) (r := j % 8) (setP_out P vs h) (by omega)
  rwa [show 8 * (j / 8) + j % 8 = j by omega] at this
def insB (L : List (Int × BitVec 64)) (j : Nat) : Bool := L.any fun q => decide (q.1 ≤ (j : Int) ∧ (j : Int) < q.1 + 8)
theorem ins_key {i : Int} {L : List (Int × BitVec 64)} {j : Nat} (hp : ∀ q ∈ L, TW q.1 i) (h : insB L j = false) : j / 8 ∉ (kU L).map Prod.fst := fun hm => by
  rw [kU_fst] at hm
  obtain ⟨q, hq, e⟩ := List.mem_map.1 hm
  unfold insB at h
  rw [List.any_eq_false] at h
  have h1 := h q hq
  have h2 := hp q hq
  unfold TW at h2
  rw [decide_eq_true_eq] at h1
  omega
structure Told (l : List UInt8) (s : Int × Int × Int) (L : List (Int × BitVec 64)) : Prop where
  sup : SupIm l s
  un : openUnE (page l) = 0 ∧ openUnL (page l) = L
  pl : PlK s.2.1 L L.length
section
variable {l : List UInt8} {s : Int × Int × Int} {L : List (Int × BitVec 64)}
theorem Told.nums (h : Told l s L) : 24 ≤ s.1 ∧ s.1 ≤ 1024 ∧ 8 ≤ s.2.1 ∧ s.2.1 ≤ 256 ∧ l.length = 512 * s.1.toNat ∧ 2048 + 64 * s.2.1 ≤ (l.length : Int) := by
  have hg := h.sup.g
  unfold GoodSup at hg
  have hl := h.sup.len
  omega
theorem Told.pnd (h : Told l s L) : pndE l = 0 ∧ pndL l = L := h.sup.pnd h.un (pl_all h.pl)
theorem Told.words (h : Told l s L) : wbytes (wds l) = l := wds_bytes (by have := h.nums; omega)
theorem Told.wlen (h : Told l s L) : (wds l).length = 64 * s.1.toNat := by rw [wds_len]; have := h.nums; omega
theorem Told.over (h : Told l s L) : ovR l = wbytes (setP (wds l) (kU L)) := by
  obtain ⟨g1, g2⟩ := h.pnd
  rw [ovR_yes g1, g2]
  conv => lhs; rw [← h.words]
  exact ovl_set L (wds l) (plk_addr (n := (wds l).length) (pl_all h.pl) (by rw [h.wlen]; have := h.nums; omega))
theorem Told.olen (h : Told l s L) : (ovR l).length = l.length := by rw [h.over, wbytes_length, setP_len, h.wlen]; have := h.nums; omega
theorem Told.out (h : Told l s L) {j : Nat} (hj : insB L j = false) : (ovR l)[j]? = l[j]? := by
  rw [h.over, setP_byte (ins_key (pl_all h.pl) hj), h.words]
theorem low_out (hp : ∀ q ∈ L, TW q.1 s.2.1) {j : Nat} (hj : j < 2048) : insB L j = false := by
  unfold insB
  rw [List.any_eq_false]
  intro q hq
  have := hp q hq
  unfold TW at this
  rw [decide_eq_true_eq]; omega
theorem Told.word (h : Told l s L) {q : Int × BitVec 64} (hq : q ∈ L) : wdA (ovR l) q.1.toNat = q.2 := by
  have ha := plk_addr (n := (wds l).length) (pl_all h.pl) (by rw [h.wlen]; have := h.nums; omega) q hq
  rw [h.over]
  exact wdA_wb (k := (q.1 / 8).toNat) (setP_in _ _ (pl_nodup h.pl) (kU_mem hq) ha.2) (by omega)
theorem Told.again (h : Told l s L) : Told (ovR l) s L := by
  refine ⟨h.sup.of h.olen (fun i hi => h.out (low_out (pl_all h.pl) (by omega))), ?_, h.pl⟩
  have e : page (ovR l) = page l := by
    unfold page
    apply List.ext_getElem?
    intro i
    rw [List.getElem?_take, List.getElem?_take]
    split
    · rw [List.getElem?_drop, List.getElem?_drop]
      exact h.out (low_out (pl_all h.pl) (by omega))
    · rfl
  rw [e]; exact h.un
theorem Told.recover (h : Told l s L) (h1 : 1 ≤ L.length) : ∃ τ : Ds, rcvE (loadD l) = ((L.length : Int), 0, τ) ∧ τ.ws.length = (loadD l).ws.length ∧ τ.steps ≤ 60 ∧ τ.armed = false ∧ (wbytes (viewWs τ.ws)).length = l.length ∧ (∀ j, ¬ (512 ≤ j ∧ j < 1024) → (wbytes (viewWs τ.ws))[j]? = (ovR l)[j]?) ∧
    ∀ (sc : Int) (cs : List (Int × BitVec 64)), GoodSup s.1 s.2.1 sc → ¬ (cs.length = 0 ∨ 8 < cs.length) → PlK s.2.1 cs cs.length → (comE τ s.1 s.2.1 sc (4 + s.2.1 / 8) cs).1 = 0 := by
  obtain ⟨g1, g2⟩ := h.pnd
  have hn := h.nums
  have hwl := h.wlen
  obtain ⟨τ, e1, e2, e3, e4⟩ := rec_full (σ := loadD l) (vs := wds l) (i := s.2.1) (U := L) (wds_load l) rfl (by rw [h.words]; exact g1) (by rw [h.words]; exact g2) h1 h.pl (by rw [hwl]; omega) (by omega)
  have hr := rcvE_rest (σ := loadD l)
  rw [e1] at hr
  have hv : viewWs τ.ws = setP (setP (wds l) (kU L)) [(64, 0)] := by rw [e2, mkC_view]
  have hvl : (wbytes (viewWs τ.ws)).length = l.length := by rw [hv, wbytes_length, setP_len, setP_len, hwl]; omega
  have hby : ∀ j, ¬ (512 ≤ j ∧ j < 520) → (wbytes (viewWs τ.ws))[j]? = (ovR l)[j]? := fun j hj => by
    rw [hv, setP_byte (by simp only [List.map_cons, List.map_nil, List.mem_singleton]; omega), ← h.over]
  have hsup : SupIm (wbytes (viewWs τ.ws)) s := h.sup.of hvl (fun i hi => by rw [hby i (by omega)]; exact h.out (low_out (pl_all h.pl) (by omega)))
  refine ⟨τ, e1, hr.1, by have := hr.2; exact this, e3, hvl, fun j hj => hby j (by omega), fun sc cs hg hc1 hc2 => ?_⟩
  have hlen : τ.ws.length = 64 * s.1.toNat := by rw [e2, mkC_length, setP_len, setP_len, hwl]
  have hun : openUnE (page (wbytes (viewWs τ.ws))) = 0 ∧ openUnL (page (wbytes (viewWs τ.ws))) = [] := und0 (by omega) (by
    rw [hv]
    exact wdA_wb (k := 64) (setP_in _ _ (by simp) (List.mem_singleton.2 rfl) (by rw [setP_len, hwl]; omega)) rfl)
  rw [com_go ⟨hg, rfl, by rw [hlen]; omega⟩ hc1 hc2 hun]
  obtain ⟨hokC, _⟩ := acs_ok (σ := τ) (ks := ksOf cs) (xs := cs.map Prod.snd) (ks_lt (pl_all hc2) (by rw [hlen]; omega)) (by rw [ksOf_len]; omega) (by rw [hlen]; omega)
  exact dead_of_acts hokC e3
end
theorem told_img {s : Int × Int × Int} (hg : GoodSup s.1 s.2.1 s.2.2) (W T : List (Int × BitVec 64)) : Told (imgE s false (inT W) (chL s.2.1 T)) s (chL s.2.1 T) := by
  have hg2 := hg
  unfold GoodSup at hg2
  obtain ⟨h1, h8, hp⟩ := chL_ok (i := s.2.1) (by omega) T
  exact ⟨img_sup hg _ _, img_U hg _ (plk_good (by omega) h1 h8 hp), hp⟩
end Go.Proofs.YtfchinibjhcejaaGreatDoor
namespace Go.Proofs.YtfchinibjhcejaaGreatDoor
open Go Go.Wk
section
variable {P : Program} {Γ : Ctx} {E : Env} {H : List Res} {ops : Array Oper} {Q : Exit → Act → World → Prop} {rest : List Oper} {d : Nat} {ty : TypeId} {pos : String} {after : Array Edge} {x y : Operand} {v : Value}
theorem Mod.drewAlloc (w : World) (o : Obj) : Mod (fun _ => False) w (w.drew.alloc o) := ⟨(Mod.alloc w.drew o).size, fun b hb h => (Mod.alloc w.drew o).old b hb h, rfl, rfl, rfl⟩
theorem At.append2 {i t e sz by_ n m c o b ca : Nat} {A : Option Addr} {ti : TypeInfo} {z : Value} {xs ys : List Value} (ht : P.underlying t = some (.slice e)) (hti : P.info? e = some ti) (hz : ti.zero = some z) (hsize : ti.size = sz) (hby : ti.bytes = by_) (hzs : z.cells.size = sz) (hsz : Nat.blt 0 sz = true)
    (hx : ev E x = some (.slice A n ca)) (hy : ev E y = some (.slice (some ⟨b, o, none⟩) m c)) (hi : H[i]? = some (rowR (.slice A n ca) e sz n xs)) (hl : ys.length = m * sz)
    (hsrc : ∀ w, Rep Γ.w0 Γ.S H w → ∀ j u, ys[j]? = some u → w.cell? ⟨b, o + j, none⟩ = some u) (h1 : ∀ u ∈ ys, u.oneCell' = true) (h63 : (n + m) * by_ ≤ 140737488355328) (h64 : n + m ≤ 140737488355328) (hn : Nat.blt d Γ.n = true)
    (k : ∀ v' H', ((v' = .slice A (n + m) ca ∧ H' = H.set i (rowR (.slice A (n + m) ca) e sz (n + m) (xs ++ ys))) ∨ H' = rowR v' e sz (n + m) (xs ++ ys) :: H) → At Γ ((d, v') :: E) H' (wpList P ops Q rest)) :
    At Γ E H (wpList P ops Q ({ dst := some d, op := .call { callee := .builtin .append, args := #[x, y], argTypes := #[t, t] }, type := ty, pos, after, guard := none } :: rest)) :=
  At.run rfl rfl hn fun a w ha hw => by
    have h : w.ownsRow 0 e sz (.slice A n ca) n xs := hw.row hi
    have hsz' : 0 < sz := by simpa [Nat.blt_eq] using hsz
    have hnews : ∀ j u, ys[j]? = some u → w.cell? ((⟨b, o, none⟩ : Addr).add j) = some u := fun j u hj => by rw [Addr.add_off]; exact hsrc w hw j u hj
    have hmx : n + m ≤ maxLen := by simp only [maxLen]; omega
    rcases h.2 with ⟨hv, hn0⟩ | ⟨g, cap, cur, hv, hbg, hgg, hnc, hcm, hcs, htake⟩
    · have h' := h
      rw [hv, hn0] at h'
      obtain ⟨v', w', hr, ho, hg, _⟩ := run_append_own (P := P) w w.heap.size t ty e ti z sz by_ ht hti hz hsize hby hzs hsz' (.slice none 0 0) 0 xs ⟨h'.1, .inl ⟨rfl, rfl⟩⟩ ⟨b, o, none⟩ m c ys hl hnews h1 (by omega) (by rw [hn0] at h63; exact h63) (Nat.le_refl _)
      have hx' := hx
      rw [hv] at hx'
      refine ⟨v', w', _, by simp [execOp, resolve, invoke, builtin, ha.eval hx', ha.eval hy, Sem.run_bind, hr], hw.new (r' := rowR v' e sz (n + m) (xs ++ ys)) (grown_none hg) (by rw [hn0]; exact own_base ho) (fun b hb => own_block ho b hb), k v' _ (.inr rfl)⟩
    · simp only [Value.slice.injEq, true_and] at hv
      obtain ⟨rfl, rfl⟩ := hv
      obtain ⟨v', w', hr, ho, hg, hf⟩ := run_append_row (P := P) (ty := ty) ht hti hz hsize hby hzs hsz' h (a := ⟨b, o, none⟩) (m := m) (c := c) hl hnews h1 hmx h63
      by_cases hroom : n + m ≤ ca
      · have hfit : n * ti.size + ys.length ≤ cur.size := by rw [hl, hcs, hsize, ← Nat.add_mul]; exact Nat.mul_le_mul_right _ hroom
        have hr3 := run_append_room (P := P) w t ty e ti ht hti g n ca cur hgg ⟨b, o, none⟩ m c ys (by rw [hsize]; exact hl) hnews h1 hroom hfit
        rw [hr] at hr3
        injection hr3 with e1 e2
        subst e1
        exact ⟨_, w', _, by simp [execOp, resolve, invoke, builtin, ha.eval hx, ha.eval hy, Sem.run_bind, hr], hw.change hi (grown_mod hg) ho hf, k _ _ (.inl ⟨rfl, rfl⟩)⟩
      · have holds : ∀ j u, xs[j]? = some u → w.cell? ((⟨g, 0, none⟩ : Addr).add j) = some u := h.cells (g := g) rfl
        have hr3 := run_append_grow (P := P) w t ty e ti z ht hti hz ⟨g, 0, none⟩ n ca xs (by rw [hsize]; exact h.1) holds ⟨b, o, none⟩ m c ys (by rw [hsize]; exact hl) hnews (by omega) (by simp only [maxLen] at hmx; omega) (growslice_fits (by omega) (by rw [hby]; exact h63))
        rw [hr] at hr3
        injection hr3 with e1 e2
        subst e1 e2
        refine ⟨_, _, _, by simp [execOp, resolve, invoke, builtin, ha.eval hx, ha.eval hy, Sem.run_bind, hr], hw.new (Mod.drewAlloc w _) ho (fun b' hb' => ?_), k _ _ (.inr rfl)⟩
        have hb2 : some w.heap.size = some b' := hb'
        exact Nat.le_of_eq (Option.some.inj hb2)
theorem Val.indexRowP {i t el e sz n n' ca : Nat} {A : Option Addr} {xs : List Value} {k : IntKind} {j : Int} {dst : Option Nat} {g : Option (Nat × Bool)} (q : Nat) (hq : j.toNat * sz = q) (hu : P.underlying t = some (.slice el)) (hs : ∀ w, (sizeOf el).run P w = .ok sz w) (hx : ev E x = some (.slice A n' ca)) (hy : ev E y = some (.int k j))
    (hi : H[i]? = some (rowR (.slice A n ca) e sz n xs)) (hnn : n' ≤ n) (h0 : 0 ≤ j) (h1 : j < n') : Val P Γ E H ⟨dst, .indexAddr t x y, ty, pos, after, g⟩ (.pointer (some ⟨rowB (.slice A n ca), q, none⟩)) := fun a w ha hw => by
  have h : w.ownsRow 0 e sz (.slice A n ca) n xs := hw.all _ (List.mem_of_getElem? hi)
  rcases h.2 with ⟨hv, hn0⟩ | ⟨b, cap, cur, hv, _⟩
  · omega
  · simp only [Value.slice.injEq, true_and] at hv
    obtain ⟨rfl, rfl⟩ := hv
    have := Val.indexSl (P := P) (Γ := Γ) (E := E) (H := H) (dst := dst) (g := g) (ty := ty) (pos := pos) (after := after) (y := y) (o := 0) q (by omega) hu hs hx hy h0 h1 a w ha hw
    exact this
theorem prC_two (l : List (Int × BitVec 64)) (a c : Int) (b e : BitVec 64) : prC l ++ [.int .i64 a, b64 b, .int .i64 c, b64 e] = prC (l ++ [(a, b), (c, e)]) := by unfold prC; rw [List.flatMap_append]; rfl
theorem At.appendP2 {i j t e by_ b U : Nat} {ti : TypeInfo} {z : Value} {l : List (Int × BitVec 64)} {a1 a2 : Int} {b1 b2 : BitVec 64} (ht : P.underlying t = some (.slice e)) (hti : P.info? e = some ti) (hz : ti.zero = some z) (hsize : ti.size = 2) (hby : ti.bytes = by_) (hzs : z.cells.size = 2)
    (hx : ev E x = some v) (hy : ev E y = some (.slice (some ⟨b, 0, none⟩) 2 2)) (hi : H[i]? = some (rowR v e 2 l.length (prC l))) (hj : H[j]? = some (blk b U [.int .i64 a1, b64 b1, .int .i64 a2, b64 b2])) (h63 : (l.length + 2) * by_ ≤ 140737488355328) (h64 : l.length + 2 ≤ 140737488355328) (hn : Nat.blt d Γ.n = true)
    (k : ∀ v', At Γ ((d, v') :: E) (H.set i (rowR v' e 2 (l ++ [(a1, b1), (a2, b2)]).length (prC (l ++ [(a1, b1), (a2, b2)])))) (wpList P ops Q rest)) :
    At Γ E H (wpList P ops Q ({ dst := some d, op := .call { callee := .builtin .append, args := #[x, y], argTypes := #[t, t] }, type := ty, pos, after, guard := none } :: rest)) :=
  At.append (i := i) (ys := [.int .i64 a1, b64 b1, .int .i64 a2, b64 b2]) ht hti hz hsize hby hzs rfl hx hy hi rfl (fun w hw j' u hj' => by rw [Nat.zero_add]; exact ((hw.blk hj).cell j').trans hj') (by simp [Value.oneCell']) h63 h64 hn fun v' => by
    have := k v'
    rwa [← prC_two, List.length_append] at this
theorem At.append2P {i j t e by_ b U ca : Nat} {A : Option Addr} {ti : TypeInfo} {z : Value} {l : List (Int × BitVec 64)} {a1 a2 : Int} {b1 b2 : BitVec 64} (ht : P.underlying t = some (.slice e)) (hti : P.info? e = some ti) (hz : ti.zero = some z) (hsize : ti.size = 2) (hby : ti.bytes = by_) (hzs : z.cells.size = 2)
    (hx : ev E x = some (.slice A l.length ca)) (hy : ev E y = some (.slice (some ⟨b, 0, none⟩) 2 2)) (hi : H[i]? = some (rowR (.slice A l.length ca) e 2 l.length (prC l))) (hj : H[j]? = some (blk b U [.int .i64 a1, b64 b1, .int .i64 a2, b64 b2])) (h63 : (l.length + 2) * by_ ≤ 140737488355328) (h64 : l.length + 2 ≤ 140737488355328) (hn : Nat.blt d Γ.n = true)
    (k : ∀ v' H', ((v' = .slice A (l ++ [(a1, b1), (a2, b2)]).length ca ∧ H' = H.set i (rowR (.slice A (l ++ [(a1, b1), (a2, b2)]).length ca) e 2 (l ++ [(a1, b1), (a2, b2)]).length (prC (l ++ [(a1, b1), (a2, b2)])))) ∨ H' = rowR v' e 2 (l ++ [(a1, b1), (a2, b2)]).length (prC (l ++ [(a1, b1), (a2, b2)])) :: H) → At Γ ((d, v') :: E) H' (wpList P ops Q rest)) :
    At Γ E H (wpList P ops Q ({ dst := some d, op := .call { callee := .builtin .append, args := #[x, y], argTypes := #[t, t] }, type := ty, pos, after, guard := none } :: rest)) :=
  At.append2 (i := i) (ys := [.int .i64 a1, b64 b1, .int .i64 a2, b64 b2]) ht hti hz hsize hby hzs rfl hx hy hi rfl (fun w hw j' u hj' => by rw [Nat.zero_add]; exact ((hw.blk hj).cell j').trans hj') (by simp [Value.oneCell']) h63 h64 hn fun v' H' h => by
    have := k v' H'
    rw [← prC_two, List.length_append] at this
    exact this h
theorem At.append2B {i j t e by_ b U ca n c : Nat} {A : Option Addr} {ti : TypeInfo} {z : Value} {l m : List UInt8} (ht : P.underlying t = some (.slice e)) (hti : P.info? e = some ti) (hz : ti.zero = some z) (hsize : ti.size = 1) (hby : ti.bytes = by_) (hzs : z.cells.size = 1)
    (hx : ev E x = some (.slice A l.length ca)) (hy : ev E y = some (.slice (some ⟨b, 0, none⟩) n c)) (hi : H[i]? = some (rowR (.slice A l.length ca) e 1 l.length (l.map bv))) (hj : H[j]? = some (blk b U (m.map bv))) (hm : m.length = n) (h63 : (l.length + n) * by_ ≤ 140737488355328) (h64 : l.length + n ≤ 140737488355328) (hn : Nat.blt d Γ.n = true)
    (k : ∀ v' H', ((v' = .slice A (l ++ m).length ca ∧ H' = H.set i (brow e (.slice A (l ++ m).length ca) (l ++ m))) ∨ H' = brow e v' (l ++ m) :: H) → At Γ ((d, v') :: E) H' (wpList P ops Q rest)) :
    At Γ E H (wpList P ops Q ({ dst := some d, op := .call { callee := .builtin .append, args := #[x, y], argTypes := #[t, t] }, type := ty, pos, after, guard := none } :: rest)) :=
  At.append2 (i := i) (ys := m.map bv) ht hti hz hsize hby hzs rfl hx hy hi (by rw [List.length_map, hm, Nat.mul_one]) (fun w hw j' u hj' => by rw [Nat.zero_add]; exact ((hw.blk hj).cell j').trans hj') (bv_one m) h63 h64 hn fun v' H' h => by
    have := k v' H'
    unfold brow at this
    rw [List.map_append, List.length_append, hm] at this
    exact this h
end
theorem RdP.cut0 {w : World} {A : Option Addr} {c h : Nat} {L : List (Int × BitVec 64)} (hr : RdP w (.slice A L.length c) L) (h2 : h ≤ L.length) : RdP w (.slice (cutA A c 0 2) (h - 0) (c - 0)) (L.take h) := by
  have := Rd.cut hr (Nat.zero_le h) h2
  simp only [Nat.zero_mul, List.drop_zero, Nat.sub_zero] at this ⊢
  unfold RdP
  rw [prC_take, List.length_take, Nat.min_eq_left h2]
  exact this
def beh (k : Nat) : List UInt8 := (List.range k).map fun j => UInt8.ofNat (200 + j)
theorem beh_succ (k : Nat) : beh (k + 1) = beh k ++ [UInt8.ofNat (200 + k)] := by unfold beh; rw [List.range_succ, List.map_append]; rfl
theorem beh_len (k : Nat) : (beh k).length = k := by simp [beh]
def twoC : List (Int × BitVec 64) := [(71, 72), (73, 74)]
theorem roomy_n (v : Value) (l : List UInt8) (w : World) (hv : RdB w v l) (hl : l.length ≤ 1000000) :
    NewRow Tryz.prog 42 [v] 5 1 (l ++ beh 24).length ((l ++ beh 24).map bv) w := by
 refine enter (feet []) [] Tryz.func42 rfl Tryz.ntmps42 rfl ⟨by simp, by simp, by simp, Mod.refl _ _⟩ ?_
 simp only [envOf]
 refine tR (tA rfl rfl (tE (tR (tA rfl rfl (At.nil (At.rowNilB 5 (At.thenN (tR (tM rfl rfl (tM rfl rfl (At.appendRdB (i := 0) (by_ := 1) Tryz.underlying29 info_5 rfl rfl rfl rfl rfl rfl rfl hv (fun _ _ _ _ _ _ _ h => by simp [feet] at h) (by simp only [List.length_nil]; omega) (by simp only [List.length_nil]; omega) rfl (fun v1 => ?_))))))))))))
 simp only [List.set_cons_zero, List.set_cons_succ, List.nil_append]
 refine tA rfl rfl (tE (At.seq (tR (tA rfl rfl (tE (At.block ?_))))))
 skip
 refine At.loop (σ := Nat × Value) (fun s => s.1 ≤ 24) (fun s => [(3, s.2), (4, .int .i64 (s.1 : Int))]) (fun s => [brow 5 s.2 (l ++ beh s.1)]) (fun s => 24 - s.1) (0, v1) (Nat.zero_le _) (Sub.cons rfl (Sub.cons rfl Sub.nil)) (by rw [show l ++ beh 0 = l from List.append_nil l]) ?_
 intro s hs
 obtain ⟨k, vr⟩ := s
 dsimp only at hs ⊢
 refine At.seq (tR (tM rfl rfl (tV (Val.bin rfl rfl rfl) rfl (tE ?_))))
 refine At.cond rfl (fun h2 => ?_) (fun h2 => ?_)
 ·try simp only [hasB, isSizeB, sB] at h2
  have hbl := beh_len k
  have hlb : (l ++ beh k).length = l.length + k := by rw [List.length_append, hbl]
  refine At.skipC (At.thenN (At.seq (At.block (At.region (tM rfl rfl (tM rfl rfl (tV (Val.addI rfl rfl (by omega) (by omega)) rfl ?_)))))))
  rw [show (200 : Int) + (k : Int) = ((200 + k : Nat) : Int) from by omega]
  refine tV (Val.toB Tryz.underlying3 Tryz.underlying5 rfl (Int.natCast_nonneg _)) rfl ?_
  rw [Int.toNat_natCast]
  refine At.buildSl (fun a ha => by simp only [List.map_toArray, List.map_cons, List.map_nil, ha.eval (x := (.tmp 15)) rfl]; try rfl) (bs_29_1 _ ) rfl (fun b3 => (At.appendB1 (i := 1) (j := 0) (by_ := 1) Tryz.underlying29 info_5 rfl rfl rfl rfl rfl rfl rfl rfl (by omega) (by omega) rfl (fun v4 => ?_)))
  simp only [sc0, scS]
  refine At.drop 0 ?_
  simp only [ec0, ecS]
  refine tA rfl rfl (At.nil (At.blkN (At.thenN (At.region (tM rfl rfl ?_)))))
  first | refine tV (Val.addI rfl rfl (by omega) (by omega)) rfl ?_ | refine tV (Val.bin rfl rfl rfl) rfl ?_
  refine tA rfl rfl (tE ?_)
  exact At.again (k + 1, v4) (show k + 1 ≤ 24 by omega) (by dsimp only; omega) (Sub.cons rfl (Sub.cons (congrArg (fun z => some (Value.int IntKind.i64 z)) (by omega)) Sub.nil)) (by dsimp only; rw [beh_succ, ← List.append_assoc])
 ·try simp only [hasB, isSizeB, sB] at h2
  refine At.exitC (At.thenX (At.thenX (At.blkX (At.thenN (tR (tM rfl rfl (tA rfl rfl (tE (At.retC (At.ret1 (.inl rfl) rfl rfl rfl (fun w hw => ?_)))))))))))
  obtain rfl : k = 24 := by omega
  exact ⟨_, rfl, hw⟩
theorem cut_off {A : Option Addr} {n c k : Nat} {xs ys : List Value} {T : Nat → Prop} (h : Off (.slice A n c) xs T) (hx : xs ≠ [] := by simp [twoC, prC]) : Off (.slice (cutA A c 0 2) (k - 0) (c - 0)) ys T := fun hne b o s n' c' e => by
  cases A with
  | none =>
    simp only [cutA, Value.slice.injEq] at e
    exact absurd e.1 (by simp)
  | some a =>
    obtain ⟨b', o', s'⟩ := a
    have hb := h hx b' o' s' n c rfl
    simp only [cutA, Value.slice.injEq, Option.some.injEq, Addr.mk.injEq] at e
    rw [← e.1.1]; exact hb
theorem lentIn_p (v x : Value) (l : List UInt8) (L M : List (Int × BitVec 64)) (s : Int × Int × Int) (w : World) (ht : Tab w) (hv : RdB w v l) (hx : RdP w x M) (htd : Told l s L) (hL1 : 1 ≤ L.length) (hM1 : 1 ≤ M.length) (hM8 : M.length ≤ 8) (hMp : PlK s.2.1 M M.length) :
    PureC Tryz.prog 20 [v, .agg #[.int .i64 s.1, .int .i64 s.2.1, .int .i64 s.2.2, .int .i64 (4 + s.2.1 / 8)], x] (.bool true) w := by
 refine enter0 Tryz.func20 rfl Tryz.ntmps20 rfl ?_
 have hnm := htd.nums
 have hll : (l ++ beh 24).length = l.length + 24 := by rw [List.length_append, beh_len]
 have cutl : (((l ++ beh 24).drop 0).take (l.length - 0)) = l := by rw [List.drop_zero, Nat.sub_zero, List.take_left]
 have hMl : (M ++ twoC).length = M.length + 2 := by rw [List.length_append]; rfl
 have cutM : (M ++ twoC).take M.length = M := List.take_left
 have hMb : ∀ q ∈ M, 0 ≤ q.1 ∧ q.1 ≤ 1000000 := fun q hq => by have := pl_all hMp q hq; unfold TW at this; omega
 have hsz : isSizeB (l.length : Int) = true := by unfold isSizeB; rw [decide_eq_true_eq]; omega
 obtain ⟨τ, hrc, htl, hts, hta, hvl, hvb, hcm⟩ := htd.recover hL1
 have q71 : (M ++ twoC)[M.length]? = some (71, 72) := by rw [List.getElem?_append_right (Nat.le_refl _), Nat.sub_self]; rfl
 have q73 : (M ++ twoC)[M.length + 1]? = some (73, 74) := by rw [List.getElem?_append_right (by omega), show M.length + 1 - M.length = 1 by omega]; rfl
 simp only [envOf]
 refine tR (At.box rfl rfl rfl (fun b1 => (tA rfl rfl (tE (tR (tM rfl rfl (At.callN (fun w hw => roomy_n _ l w (hv.mod hw.mod) (by omega)) Tryz.call42 rfl rfl (fun v2 => (At.rowIs (i := 0) rfl (fun A3 c4 hv => ?_))))))))))
 subst hv
 refine tA rfl rfl (tE (tR (tM rfl rfl (tM rfl rfl (tV (Val.lenRd hv Tryz.underlying29 rfl) rfl (tV (Val.cutRow (i := 0) (l := 0) (h := l.length) rfl (by decide) Tryz.underlying29 Tryz.sizeOf5 rfl (by exact rfl) (by exact ⟨_, _, rfl, by omega, by omega⟩) (by omega) (by omega)) rfl ?_))))))
 refine At.callNT (g := (fun v => .tuple #[v, .int .i64 (pndE l)])) (fun w hw => pending_n _ l w (ht.mod hw.mod) (by have h8 := RdB.cut (l := 0) (h := l.length) (row_rd (hw.row (i := 0) rfl) (by decide)) (by omega) (by omega); rw [cutl] at h8; exact h8) (by omega)) Tryz.call15 rfl rfl (fun v5 => (At.nil (At.drop 0 ?_)))
 simp only [ec0, ecS]
 refine At.thenN (tR (tM rfl rfl (tM rfl rfl (tV (Val.lenRd hv Tryz.underlying29 rfl) rfl (tV (Val.cutRow (i := 0) (l := 0) (h := l.length) rfl (by decide) Tryz.underlying29 Tryz.sizeOf5 rfl (by exact rfl) (by exact ⟨_, _, rfl, by omega, by omega⟩) (by omega) (by omega)) rfl ?_)))))
 refine At.callNT (g := (fun v => .tuple #[v, .int .i64 (pndE l)])) (fun w hw => overlay_n _ l w (ht.mod hw.mod) (by have h8 := RdB.cut (l := 0) (h := l.length) (row_rd (hw.row (i := 0) rfl) (by decide)) (by omega) (by omega); rw [cutl] at h8; exact h8) (by omega)) Tryz.call16 rfl rfl (fun v6 => (At.nil (At.drop 0 ?_)))
 simp only [ec0, ecS]
 refine At.thenN (tR (tA rfl rfl (At.nil (At.rowNilP 56 (At.thenN (tR (tM rfl rfl (tM rfl rfl ?_))))))))
 refine At.appendRdP (i := 0) (by_ := 16) Tryz.underlying24 info_56 rfl rfl rfl rfl rfl rfl rfl hx (Off.none _ _) (by simp only [List.length_nil]; omega) (by simp only [List.length_nil]; omega) rfl (fun v7 => ?_)
 simp only [List.set_cons_zero, List.set_cons_succ, List.nil_append]
 refine tA rfl rfl (tE (tR (tM rfl rfl ?_)))
 refine tV (Val.build (fun a ha => by simp only [List.map_toArray, List.map_cons, List.map_nil, ha.eval (x := (.const (.int .i64 (71)))) rfl, ha.eval (x := (.const (.int .u64 (72)))) rfl] <;> rfl) (bld_56_0_1 _ _ )) rfl ?_
 refine tV (Val.build (fun a ha => by simp only [List.map_toArray, List.map_cons, List.map_nil, ha.eval (x := (.const (.int .i64 (73)))) rfl, ha.eval (x := (.const (.int .u64 (74)))) rfl] <;> rfl) (bld_56_0_1 _ _ )) rfl (At.buildSl (fun a ha => by simp only [List.map_toArray, List.map_cons, List.map_nil, ha.eval (x := (.tmp 30)) rfl, ha.eval (x := (.tmp 31)) rfl]; try rfl) (bs_24_2 _ _ _ _ ) rfl (fun b8 => (At.appendP2 (i := 1) (j := 0) (b1 := 72) (b2 := 74) (by_ := 16) Tryz.underlying24 info_56 rfl rfl rfl rfl rfl rfl rfl rfl (by omega) (by omega) rfl (fun v9 => ?_))))
 simp only [sc0, scS]
 rw [show M ++ [((71 : Int), (72 : BitVec 64)), (73, 74)] = M ++ twoC from rfl]
 refine At.drop 0 ?_
 simp only [ec0, ecS]
 refine At.rowIs (i := 0) rfl (fun A10 c11 hv => ?_)
 subst hv
 refine tA rfl rfl (tE (tR (tM rfl rfl (At.callNB (fun w hw => device_n _ l (-1) w (hv.mod hw.mod) hsz (by decide)) Tryz.call22 rfl rfl (fun p12 y13 => ?_)))))
 rw [show devE l (-1) = loadD l from rfl]
 refine tM rfl rfl (tV (Val.extract rfl rfl) rfl (tV (Val.extract rfl rfl) rfl (tA rfl rfl (tA rfl rfl (tE (At.seq (tR (tM rfl rfl (tV (Val.not rfl) rfl (tE (At.condF rfl (At.skipC (At.thenN (tR (tM rfl rfl ?_)))))))))))))))
 refine At.callD 0 rfl (fun w hw hr => recover_d _ _ _ w (ht.mod hw.mod) (Rep.off0 hw ht (fun h => h) (i := 0) rfl) (by show (0 : Nat) + 200 ≤ _; decide) hr) Tryz.call25 rfl rfl (fun y14 => ?_)
 simp only [sc0, scS]
 rw [hrc]
 refine tE (At.seq (At.tail 6 rfl (by decide +kernel) ?_))
 simp only [List.take_succ_cons, List.take_zero, List.drop_succ_cons, List.drop_zero]
 refine qM rfl rfl (qV (Val.loadAll (i := 3) Tryz.isAgg31 Tryz.sizeOf31 rfl rfl rfl) rfl (qM rfl rfl (qM rfl rfl (qV (Val.lenRd hx Tryz.underlying24 rfl) rfl (qV (Val.cutRow (i := 1) (l := 0) (h := M.length) rfl (by decide) Tryz.underlying24 Tryz.sizeOf56 rfl (by exact rfl) (by exact ⟨_, _, rfl, by omega, by omega⟩) (by omega) (by omega)) rfl (QAt.fin ?_))))))
 refine At.callD 0 rfl (fun w hw hr => commit_d _ _ _ s.1 s.2.1 s.2.2 (4 + s.2.1 / 8) _ M w (ht.mod hw.mod) (Rep.off0 hw ht (fun h => h) (i := 0) rfl) (by have h8 := RdP.cut0 (L := M ++ twoC) (h := M.length) (row_rd (hw.row (i := 1) rfl) (by decide)) (by omega); rw [cutM] at h8; exact h8) (cut_off (Rep.offRow (i := 1) (j := 0) hw rfl rfl (by decide))) (fun q hq => by have := hMb q hq; omega) (by omega) (by show τ.steps + 200 ≤ _; omega) hr) Tryz.call23 rfl rfl (fun y15 => ?_)
 simp only [sc0, scS]
 rw [hcm s.2.2 M htd.sup.g (by omega) hMp]
 refine tA rfl rfl (tE (At.seq (tR (tA rfl rfl (tE (At.block ?_))))))
 skip
 refine At.loop (σ := Nat) (fun k => k ≤ M.length) (fun k => [(0, v), (2, x), (7, (.slice A3 (((l ++ beh 24)).length) c4)), (8, (.slice A10 (((M ++ twoC)).length) c11)), (11, .int .i64 0), (12, .int .i64 (k : Int))]) (fun k => [Dev p12 y15 ((comE τ s.1 s.2.1 s.2.2 (4 + s.2.1 / 8) M).2), rowR (.slice A10 (((M ++ twoC)).length) c11) 56 2 (((M ++ twoC)).length) (prC ((M ++ twoC))), rowR (.slice A3 (((l ++ beh 24)).length) c4) 5 1 (((l ++ beh 24)).length) (((l ++ beh 24)).map bv), blk b1 31 ([.int .i64 s.1, .int .i64 s.2.1, .int .i64 s.2.2, .int .i64 (4 + s.2.1 / 8)])]) (fun k => M.length - k) 0 (Nat.zero_le _) (Sub.cons rfl (Sub.cons rfl (Sub.cons rfl (Sub.cons rfl (Sub.cons rfl (Sub.cons rfl Sub.nil)))))) (List.Perm.refl _) ?_
 intro k hs
 refine At.seq (tR (tM rfl rfl (tM rfl rfl (tV (Val.lenRd hx Tryz.underlying24 rfl) rfl (tV (Val.bin rfl rfl rfl) rfl (tE ?_))))))
 refine At.cond rfl (fun h16 => ?_) (fun h16 => ?_)
 ·try simp only [hasB, isSizeB, sB] at h16
  obtain ⟨q, hq⟩ : ∃ q, M[k]? = some q := ⟨_, List.getElem?_eq_getElem (by omega)⟩
  have hq2 : (M ++ twoC)[k]? = some q := by rw [List.getElem?_append_left (by omega)]; exact hq
  refine At.skipC (At.thenN (At.seq (At.block (At.seq (At.quiet rfl (by decide +kernel) (qM rfl rfl (qM rfl rfl (qV (Val.indexRow (i := 1) (k * 2) (by omega) Tryz.underlying24 Tryz.sizeOf56 rfl rfl rfl (by omega) (by omega)) rfl (qV (Val.loadRowPart (i := 1) (vs := [.int .i64 q.1, b64 q.2]) Tryz.isAgg56 Tryz.sizeOf56 rfl rfl rfl (fun m u hm => by match m, hm with | 0, hm => (obtain rfl := Option.some.inj hm; exact (prC_at hq2).1) | 1, hm => (obtain rfl := Option.some.inj hm; exact (prC_at hq2).2))) rfl (qM rfl rfl (qM rfl rfl (QAt.idxP hx Tryz.underlying24 Tryz.sizeOf56 rfl rfl (by omega) (by omega) rfl rfl (fun bx ox q1 hq1 hc0 hc1 => ?_)))))))))))))
  rw [Int.toNat_natCast] at hq1
  obtain rfl : q = q1 := Option.some.inj (hq.symm.trans hq1)
  refine qV (Val.loadPair Tryz.isAgg56 Tryz.sizeOf56 rfl hc0 hc1 (fun h => h)) rfl (qV (Val.neAgg Tryz.eqGuardType56 (fun w => eq_56 _ _ _ _ w) rfl rfl) rfl ?_)
  simp only [beq_self_eq_true, Bool.and_true, Bool.not_true]
  refine QAt.fin (At.thenN (At.condF rfl (At.skipC (At.blkN (At.thenN (At.region (tM rfl rfl ?_)))))))
  first | refine tV (Val.addI rfl rfl (by omega) (by omega)) rfl ?_ | refine tV (Val.bin rfl rfl rfl) rfl ?_
  refine tA rfl rfl (tE ?_)
  exact At.again (k + 1) (show k + 1 ≤ _ by omega) (by omega) (Sub.cons rfl (Sub.cons rfl (Sub.cons rfl (Sub.cons rfl (Sub.cons rfl (Sub.cons (congrArg (fun z => some (Value.int IntKind.i64 z)) (by omega)) Sub.nil)))))) (List.Perm.refl _)
 ·try simp only [hasB, isSizeB, sB] at h16
  refine At.exitC (At.thenX (At.thenX (At.blkX (At.thenN (tR (tM rfl rfl (tV (Val.lenRd hx Tryz.underlying24 rfl) rfl (tA rfl rfl (tE (tR (tM rfl rfl (tV (Val.bin rfl rfl rfl) rfl (tM rfl rfl (At.yes rfl rfl (tM rfl rfl (At.yes rfl rfl (tM rfl rfl (At.yes rfl rfl (At.callN (fun w hw => roomy_n _ l w (hv.mod hw.mod) (by omega)) Tryz.call42 rfl rfl (fun v17 => (At.rowIs (i := 0) rfl (fun A18 c19 hv => ?_))))))))))))))))))))))
  subst hv
  refine At.yes rfl rfl ?_
  refine At.callP (fun w hw => (by have h0 := sameBytes_p _ _ (l ++ beh 24) (l ++ beh 24) w (row_rd (hw.row (i := 3) rfl) (by decide)) (row_rd (hw.row (i := 0) rfl) (by decide)) (by omega) (by omega); rwa [decide_eq_true rfl] at h0)) Tryz.call18 rfl rfl (tV (Val.pickT rfl rfl) rfl (tM rfl rfl (At.yes rfl rfl (tM rfl rfl (At.yes rfl rfl (tM rfl rfl (At.yes rfl rfl (tV (Val.indexRow (i := 2) (M.length * 2) (by omega) Tryz.underlying24 Tryz.sizeOf56 rfl rfl rfl (by omega) (by omega)) rfl (At.yes rfl rfl (tV (Val.loadRowPart (i := 2) (vs := [.int .i64 71, b64 72]) Tryz.isAgg56 Tryz.sizeOf56 rfl rfl rfl (fun m u hm => by match m, hm with | 0, hm => (obtain rfl := Option.some.inj hm; exact (prC_at q71).1) | 1, hm => (obtain rfl := Option.some.inj hm; exact (prC_at q71).2))) rfl (At.yes rfl rfl ?_)))))))))))
  refine tV (Val.build (fun a ha => by simp only [List.map_toArray, List.map_cons, List.map_nil, ha.eval (x := (.const (.int .i64 (71)))) rfl, ha.eval (x := (.const (.int .u64 (72)))) rfl] <;> rfl) (bld_56_0_1 _ _ )) rfl (At.yes rfl rfl (tV (Val.eqAgg Tryz.eqGuardType56 (fun w => eq_56 _ _ _ _ w) rfl rfl) rfl (tV (Val.pickT rfl rfl) rfl (tM rfl rfl (At.yes rfl rfl (tM rfl rfl (At.yes rfl rfl (tM rfl rfl (At.yes rfl rfl (tV (Val.addI rfl rfl (by omega) (by omega)) rfl ?_))))))))))
  rw [show (M.length : Int) + 1 = ((M.length + 1 : Nat) : Int) from by omega]
  refine At.yes rfl rfl (tV (Val.indexRow (i := 2) ((M.length + 1) * 2) (by omega) Tryz.underlying24 Tryz.sizeOf56 rfl rfl rfl (by omega) (by omega)) rfl (At.yes rfl rfl (tV (Val.loadRowPart (i := 2) (vs := [.int .i64 73, b64 74]) Tryz.isAgg56 Tryz.sizeOf56 rfl rfl rfl (fun m u hm => by match m, hm with | 0, hm => (obtain rfl := Option.some.inj hm; exact (prC_at q73).1) | 1, hm => (obtain rfl := Option.some.inj hm; exact (prC_at q73).2))) rfl (At.yes rfl rfl ?_))))
  refine tV (Val.build (fun a ha => by simp only [List.map_toArray, List.map_cons, List.map_nil, ha.eval (x := (.const (.int .i64 (73)))) rfl, ha.eval (x := (.const (.int .u64 (74)))) rfl] <;> rfl) (bld_56_0_1 _ _ )) rfl (At.yes rfl rfl (tV (Val.eqAgg Tryz.eqGuardType56 (fun w => eq_56 _ _ _ _ w) rfl rfl) rfl (tV (Val.pickT rfl rfl) rfl (tA rfl rfl (tE (At.retC (At.ret1 (.inl rfl) rfl rfl rfl (fun w hw => ?_))))))))
  exact ⟨rfl, hw.mod⟩
end Go.Proofs.YtfchinibjhcejaaGreatDoor
