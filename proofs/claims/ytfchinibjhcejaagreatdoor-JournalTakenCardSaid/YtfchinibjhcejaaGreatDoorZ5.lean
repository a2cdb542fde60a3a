/- Parts of the proof, joined: see the law's text. -/
import Derived.Test.YtfchinibjhcejaaGreatDoorZ4
import Derived.Test.YtfchinibjhcejaaGreatDoorZ2
import Derived.Test.YtfchinibjhcejaaGreatDoorZ3
set_option linter.unusedVariables false
set_option linter.unusedSimpArgs false
namespace Go.Proofs.YtfchinibjhcejaaGreatDoor
open Go Go.Wk
theorem und_snoc {L : List (Int × BitVec 64)} {k : Nat} {q : Int × BitVec 64} (h : L[k]? = some q) : L.take (k + 1) = L.take k ++ [(q.1, q.2)] := List.take_succ_of_get h
def devE (l : List UInt8) (m : Int) : Ds := if m < 0 then loadD l else armD (loadD l) m.toNat
theorem bld_27_0_2 (p i c : Int) (A : Option Addr) (n k : Nat) (w : World) : (Instr.build 27 #[(0, .agg #[.int .i64 p, .int .i64 i, .int .i64 c]), (2, .slice A n k)]).run Tryz.prog w = .ok (.agg #[.int .i64 p, .int .i64 i, .int .i64 c, .bool false, .slice A n k, .slice none 0 0]) w := by kernel_rfl
theorem bld_27_0_2_3 (p i c : Int) (A B : Option Addr) (n k m l : Nat) (w : World) : (Instr.build 27 #[(0, .agg #[.int .i64 p, .int .i64 i, .int .i64 c]), (2, .slice A n k), (3, .slice B m l)]).run Tryz.prog w = .ok (.agg #[.int .i64 p, .int .i64 i, .int .i64 c, .bool false, .slice A n k, .slice B m l]) w := by kernel_rfl
theorem dead_load (l : List UInt8) : deadB (loadD l) = false := rfl
theorem jpage_p (n : Int) (w : World) :
    PureC Tryz.prog 27 [.int .i64 n] (.bool (decide (512 ≤ n ∧ n < 1024))) w := by
 refine enter0 Tryz.func27 rfl Tryz.ntmps27 rfl ?_
 simp only [envOf]
 refine tR (tA rfl rfl (tE (tR (tM rfl rfl (tV (Val.bin rfl rfl rfl) rfl (At.weaken [(0, _), (2, _), (4, _)] (Sub.cons rfl (Sub.cons rfl (Sub.cons rfl Sub.nil))) ?_))))))
 refine At.boolMeet 4 8 (decide (512 ≤ n ∧ n < 1024)) ?_ ?_
 ·simp only [List.take_succ_cons, List.take_zero]
  refine tM rfl rfl ?_
  refine At.split (t := 5) rfl (fun h1 => ?_) (fun h1 => ?_)
  ·try simp only [hasB, isSizeB, sB] at h1
   refine At.yes rfl rfl (tM rfl rfl (At.yes rfl rfl (tV (Val.bin rfl rfl rfl) rfl (tV (Val.pickT rfl rfl) rfl (At.nil ?_)))))
   exact At.boolEnd rfl (by apply Bool.eq_iff_iff.2; (simp only [decide_eq_true_eq, Bool.false_eq_true, false_iff, true_iff, gt_iff_lt, ge_iff_le]) <;> omega) (by repeat (first | exact Sub.nil | refine Sub.cons rfl ?_))
  ·try simp only [hasB, isSizeB, sB] at h1
   refine At.no rfl rfl rfl rfl (At.no rfl rfl rfl rfl (tV (Val.pickF rfl rfl) rfl (At.nil ?_)))
   exact At.boolEnd rfl (by apply Bool.eq_iff_iff.2; (simp only [decide_eq_true_eq, Bool.false_eq_true, false_iff, true_iff, gt_iff_lt, ge_iff_le]) <;> omega) (by repeat (first | exact Sub.nil | refine Sub.cons rfl ?_))
 ·simp only [List.drop_succ_cons, List.drop_zero]
  refine tA rfl rfl (tE (At.retC (At.ret1 (.inl rfl) rfl rfl rfl (fun w hw => ?_))))
  exact ⟨rfl, hw.mod⟩
theorem inTable_n (v : Value) (W : List (Int × BitVec 64)) (w : World) (hv : RdP w v W) (hW : W.length ≤ 8796093022208) :
    NewRow Tryz.prog 13 [v] 56 2 (inT W).length (prC (inT W)) w := by
 refine enter (feet []) [] Tryz.func13 rfl Tryz.ntmps13 rfl ⟨by simp, by simp, by simp, Mod.refl _ _⟩ ?_
 simp only [envOf]
 refine tR (tA rfl rfl (tE (tR (tA rfl rfl (At.nil (At.rowNilP 56 (At.thenN (At.seq (tR (tA rfl rfl (tE (At.block ?_))))))))))))
 skip
 refine At.loop (σ := Nat × Value) (fun s => s.1 ≤ W.length) (fun s => [(0, v), (3, s.2), (4, .int .i64 (s.1 : Int))]) (fun s => [rowR s.2 56 2 (inT (W.take s.1)).length (prC (inT (W.take s.1)))]) (fun s => W.length - s.1) (0, .slice none 0 0) (Nat.zero_le _) (Sub.cons rfl (Sub.cons rfl (Sub.cons rfl Sub.nil))) (List.Perm.refl _) ?_
 intro s hs
 obtain ⟨k, vr⟩ := s
 dsimp only at hs ⊢
 refine At.seq (tR (tM rfl rfl (tM rfl rfl (tV (Val.lenRd hv Tryz.underlying24 rfl) rfl (tV (Val.bin rfl rfl rfl) rfl (tE ?_))))))
 refine At.cond rfl (fun h1 => ?_) (fun h1 => ?_)
 ·try simp only [hasB, isSizeB, sB] at h1
  obtain ⟨q, hq⟩ : ∃ q, W[k]? = some q := ⟨_, List.getElem?_eq_getElem (by omega)⟩
  have hil := inT_le (W.take k)
  rw [List.length_take] at hil
  refine At.skipC (At.thenN (At.seq (At.block (tR (tM rfl rfl (tM rfl rfl (At.idxP hv Tryz.underlying24 Tryz.sizeOf56 rfl rfl (by omega) (by omega) rfl rfl (fun bx ox q1 hq1 hc0 hc1 => ?_))))))))
  rw [Int.toNat_natCast] at hq1
  obtain rfl : q = q1 := Option.some.inj (hq.symm.trans hq1)
  refine tV (Val.field ox rfl fo_56_0 rfl) rfl (tV (Val.loadOld Tryz.isAgg3 rfl hc0 (fun h => by simp [feet] at h)) rfl (tV (Val.bin rfl rfl rfl) rfl (tE ?_)))
  refine At.cond rfl (fun h2 => ?_) (fun h2 => ?_)
  ·try simp only [hasB, isSizeB, sB] at h2
   have h16 := h2
   refine At.region (tM rfl rfl (tM rfl rfl (tM rfl rfl (At.idxP hv Tryz.underlying24 Tryz.sizeOf56 rfl rfl (by omega) (by omega) rfl rfl (fun bx ox q1 hq1 hc0 hc1 => ?_)))))
   rw [Int.toNat_natCast] at hq1
   obtain rfl : q = q1 := Option.some.inj (hq.symm.trans hq1)
   refine tV (Val.loadPair Tryz.isAgg56 Tryz.sizeOf56 rfl hc0 hc1 (fun h => by simp [feet] at h)) rfl (At.buildSl (fun a ha => by simp only [List.map_toArray, List.map_cons, List.map_nil, ha.eval (x := (.tmp 21)) rfl]; try rfl) (bs_24_1 _ _ ) rfl (fun b3 => (At.appendP1 (i := 1) (j := 0) (by_ := 16) Tryz.underlying24 info_56 rfl rfl rfl rfl rfl rfl rfl rfl (by omega) (by omega) rfl (fun v4 => ?_))))
   simp only [sc0, scS]
   refine At.drop 0 ?_
   simp only [ec0, ecS]
   refine tA rfl rfl (At.nil (At.blkN (At.thenN (At.region (tM rfl rfl ?_)))))
   first | refine tV (Val.addI rfl rfl (by omega) (by omega)) rfl ?_ | refine tV (Val.bin rfl rfl rfl) rfl ?_
   refine tA rfl rfl (tE ?_)
   exact At.again (k + 1, v4) (show k + 1 ≤ _ by omega) (by dsimp only; omega) (Sub.cons rfl (Sub.cons rfl (Sub.cons (congrArg (fun z => some (Value.int IntKind.i64 z)) (by omega)) Sub.nil))) (by dsimp only; rw [inT_snoc hq, if_pos (by omega)])
  ·try simp only [hasB, isSizeB, sB] at h2
   have h16 := h2
   refine At.skipC (At.blkN (At.thenN (At.region (tM rfl rfl ?_))))
   first | refine tV (Val.addI rfl rfl (by omega) (by omega)) rfl ?_ | refine tV (Val.bin rfl rfl rfl) rfl ?_
   refine tA rfl rfl (tE ?_)
   exact At.again (k + 1, vr) (show k + 1 ≤ _ by omega) (by dsimp only; omega) (Sub.cons rfl (Sub.cons rfl (Sub.cons (congrArg (fun z => some (Value.int IntKind.i64 z)) (by omega)) Sub.nil))) (by dsimp only; rw [inT_snoc hq, if_neg (by omega), List.append_nil])
 ·try simp only [hasB, isSizeB, sB] at h1
  obtain rfl : k = W.length := by omega
  rw [List.take_length]
  refine At.exitC (At.thenX (At.thenX (At.blkX (At.thenN (tR (tM rfl rfl (tA rfl rfl (tE (At.retC (At.ret1 (.inl rfl) rfl rfl rfl (fun w hw => ?_)))))))))))
  exact ⟨_, rfl, hw⟩
theorem clean_n (p i c : Int) (bare : Bool) (vW vU : Value) (W U : List (Int × BitVec 64)) (w : World) (hvW : RdP w vW W) (hWl : W.length ≤ 8796093022208) (hpb : -9223372036854775808 ≤ p ∧ p ≤ 9223372036854775807) :
    NewRowT Tryz.prog 11 [.agg #[.int .i64 p, .int .i64 i, .int .i64 c, .bool bare, vW, vU]] (fun v => .tuple #[v, .agg #[.int .i64 (supS p i c).1, .int .i64 (supS p i c).2.1, .int .i64 (supS p i c).2.2, .int .i64 (4 + (supS p i c).2.1 / 8)]]) 5 1 (imgE (supS p i c) false (inT W) []).length ((imgE (supS p i c) false (inT W) []).map bv) w := by
 refine enter0 Tryz.func11 rfl Tryz.ntmps11 rfl ?_
 simp only [envOf]
 refine tR (At.box rfl rfl rfl (fun b1 => (tA rfl rfl (At.alloc Tryz.zeroValue31 rfl rfl (fun b2 => (tE (At.seq ?_)))))))
 apply At.any (t := 10)
 · rfl
 refine KAt.pin (fun w hw => hw.drop (List.Sublist.cons _ (List.Sublist.cons_cons _ (List.Sublist.refl _)))) (KAt.take 0 (Val.field 0 rfl fo_27_0 rfl) rfl rfl rfl rfl (fun w hw => hw.drop (List.Sublist.cons _ (List.Sublist.cons_cons _ (List.Sublist.refl _)))) (by decide +kernel) (KAt.take 1 (Val.loadPart (i := 0) Tryz.isAgg23 Tryz.sizeOf23 rfl rfl rfl rfl) rfl rfl rfl rfl (fun w hw => hw.drop (List.Sublist.cons _ (List.Sublist.cons_cons _ (List.Sublist.refl _)))) (by decide +kernel) (KAt.take 2 (Val.field 4 rfl fo_27_2 rfl) rfl rfl rfl rfl (fun w hw => hw.drop (List.Sublist.cons _ (List.Sublist.cons_cons _ (List.Sublist.refl _)))) (by decide +kernel) (KAt.take 3 (Val.load (i := 0) Tryz.isAgg24 rfl rfl rfl) rfl rfl rfl rfl (fun w hw => hw.drop (List.Sublist.cons _ (List.Sublist.cons_cons _ (List.Sublist.refl _)))) (by decide +kernel) (KAt.only 4 rfl (by decide +kernel) (At.callN (fun w hw => inTable_n vW W w (hvW.mod hw.mod) hWl) Tryz.call13 rfl rfl (fun v3 => (At.rowIs (i := 0) rfl (fun A4 c5 hv => ?_)))))))))
 subst hv
 refine At.nil (KAt.go (fun w hw => hw.drop (List.Sublist.cons _ (List.Sublist.cons _ (List.Sublist.cons_cons _ (List.Sublist.refl _))))) ?_)
 refine KAt.take 5 (Val.build (fun a ha => by simp only [List.map_toArray, List.map_cons, List.map_nil, ha.eval (x := (.tmp 5)) rfl, ha.eval (x := (.tmp 8)) rfl] <;> rfl) (bld_27_0_2 _ _ _ _ _ _ )) rfl rfl rfl rfl (fun w hw => hw.drop (List.Sublist.cons _ (List.Sublist.cons _ (List.Sublist.cons_cons _ (List.Sublist.refl _))))) (by decide +kernel) (KAt.only 6 rfl (by decide +kernel) ?_)
 refine At.callNT (g := (fun v => .tuple #[v, .agg #[.int .i64 (supS p i c).1, .int .i64 (supS p i c).2.1, .int .i64 (supS p i c).2.2, .int .i64 (4 + (supS p i c).2.1 / 8)]])) (fun w hw => image_n p i c false _ (.slice none 0 0) (inT W) [] w (row_rd (hw.row (i := 0) rfl) (by decide)) (Rd.nil w 2) (by have := inT_le W; omega) (by decide) hpb) Tryz.call14 rfl rfl (fun v6 => (At.nil (KAt.go (fun w hw => hw.drop (List.Sublist.cons _ (List.Sublist.cons _ (List.Sublist.cons _ (List.Sublist.cons_cons _ (List.Sublist.refl _)))))) (KAt.take 7 (Val.extract rfl rfl) rfl rfl rfl rfl (fun w hw => hw.drop (List.Sublist.cons _ (List.Sublist.cons _ (List.Sublist.cons _ (List.Sublist.cons_cons _ (List.Sublist.refl _)))))) (by decide +kernel) (KAt.take 8 (Val.extract rfl rfl) rfl rfl rfl rfl (fun w hw => hw.drop (List.Sublist.cons _ (List.Sublist.cons _ (List.Sublist.cons _ (List.Sublist.cons_cons _ (List.Sublist.refl _)))))) (by decide +kernel) (KAt.take 9 (Val.assign rfl) rfl rfl rfl rfl (fun w hw => hw.drop (List.Sublist.cons _ (List.Sublist.cons _ (List.Sublist.cons _ (List.Sublist.cons_cons _ (List.Sublist.refl _)))))) (by decide +kernel) (KAt.only 10 rfl (by decide +kernel) (At.storeAll (i := 2) Tryz.sizeOf31 rfl rfl rfl (by simp [Value.oneCell']) rfl rfl ?_))))))))
 simp only [sc0, scS]
 refine At.nil (KAt.goT rfl (KAt.done (by decide +kernel) (At.thenN (At.retC (At.ret2 (.inl rfl) rfl rfl rfl (ResOf.all (i := 2) Tryz.isAgg31 Tryz.sizeOf31 rfl rfl rfl) (fun w hw => ?_))))))
 exact ⟨_, rfl, (hw.drop (List.singleton_sublist.2 (List.mem_of_getElem? (i := 0) rfl))).f0⟩
theorem undosJ_n (v : Value) (T : List (Int × BitVec 64)) (a0 i a2 a3 : Int) (w : World) (hv : RdP w v T) (hT : T.length ≤ 140737488355328) (hi : 0 < i ∧ i ≤ 1000) :
    NewRow Tryz.prog 12 [v, .agg #[.int .i64 a0, .int .i64 i, .int .i64 a2, .int .i64 a3]] 45 2 (chL i T).length (prC (chL i T)) w := by
 refine enter (feet []) [] Tryz.func12 rfl Tryz.ntmps12 rfl ⟨by simp, by simp, by simp, Mod.refl _ _⟩ ?_
 have hcl := chL_ok hi.1 T
 simp only [envOf]
 refine tR (At.box rfl rfl rfl (fun b1 => (tA rfl rfl (tE (tR (tM rfl rfl (tV (Val.loadAll (i := 0) Tryz.isAgg31 Tryz.sizeOf31 rfl rfl rfl) rfl (At.callN (fun w hw => changesJ_n v T a0 i a2 a3 w (hv.mod hw.modF) hT hi) Tryz.call21 rfl rfl (fun v2 => (tA rfl rfl (tE (tR (tA rfl rfl (At.nil (At.rowNilP 45 (At.thenN (At.seq (tR (tA rfl rfl (tE (At.block ?_)))))))))))))))))))))
 skip
 refine At.loop (σ := Nat × Value) (fun s => s.1 ≤ (chL i T).length) (fun s => [(5, v2), (6, s.2), (7, .int .i64 (s.1 : Int))]) (fun s => [rowR s.2 45 2 ((chL i T).take s.1).length (prC ((chL i T).take s.1)), rowR v2 56 2 ((chL i T).length) (prC (chL i T)), blk b1 31 ([.int .i64 a0, .int .i64 i, .int .i64 a2, .int .i64 a3])]) (fun s => (chL i T).length - s.1) (0, .slice none 0 0) (Nat.zero_le _) (Sub.cons rfl (Sub.cons rfl (Sub.cons rfl Sub.nil))) (List.Perm.refl _) ?_
 intro s hs
 obtain ⟨k, vr⟩ := s
 dsimp only at hs ⊢
 refine At.seq (tR (tM rfl rfl (tM rfl rfl (tV (Val.lenRow (i := 1) Tryz.underlying24 rfl rfl) rfl (tV (Val.bin rfl rfl rfl) rfl (tE ?_))))))
 refine At.cond rfl (fun h3 => ?_) (fun h3 => ?_)
 ·try simp only [hasB, isSizeB, sB] at h3
  obtain ⟨q, hq⟩ : ∃ q, (chL i T)[k]? = some q := ⟨_, List.getElem?_eq_getElem (by omega)⟩
  refine At.skipC (At.thenN (At.seq (At.block ?_)))
  apply At.any (t := 15)
  · rfl
  refine KAt.pin (fun w hw => hw.drop (List.Sublist.cons _ (List.Sublist.cons_cons _ (List.Sublist.cons _ (List.Sublist.refl _))))) (KAt.take 0 (Val.move rfl) rfl rfl rfl rfl (fun w hw => hw.drop (List.Sublist.cons _ (List.Sublist.cons_cons _ (List.Sublist.cons _ (List.Sublist.refl _))))) (by decide +kernel) (KAt.take 1 (Val.move rfl) rfl rfl rfl rfl (fun w hw => hw.drop (List.Sublist.cons _ (List.Sublist.cons_cons _ (List.Sublist.cons _ (List.Sublist.refl _))))) (by decide +kernel) (KAt.take 2 (Val.move rfl) rfl rfl rfl rfl (fun w hw => hw.drop (List.Sublist.cons _ (List.Sublist.cons_cons _ (List.Sublist.cons _ (List.Sublist.refl _))))) (by decide +kernel) (KAt.take 3 (Val.indexRow (i := 0) (k * 2) (by omega) Tryz.underlying24 Tryz.sizeOf56 rfl rfl rfl (by omega) (by omega)) rfl rfl rfl rfl (fun w hw => hw.drop (List.Sublist.cons _ (List.Sublist.cons_cons _ (List.Sublist.cons _ (List.Sublist.refl _))))) (by decide +kernel) (KAt.take 4 (Val.field ((k * 2 + 0)) rfl fo_56_0 rfl) rfl rfl rfl rfl (fun w hw => hw.drop (List.Sublist.cons _ (List.Sublist.cons_cons _ (List.Sublist.cons _ (List.Sublist.refl _))))) (by decide +kernel) (KAt.take 5 (Val.loadRow (u := .int .i64 q.1) (i := 0) Tryz.isAgg3 rfl rfl (prC_at hq).1) rfl rfl rfl rfl (fun w hw => hw.drop (List.Sublist.cons _ (List.Sublist.cons_cons _ (List.Sublist.cons _ (List.Sublist.refl _))))) (by decide +kernel) (KAt.take 6 (Val.move rfl) rfl rfl rfl rfl (fun w hw => hw.drop (List.Sublist.cons _ (List.Sublist.cons_cons _ (List.Sublist.cons _ (List.Sublist.refl _))))) (by decide +kernel) (KAt.take 7 (Val.move rfl) rfl rfl rfl rfl (fun w hw => hw.drop (List.Sublist.cons _ (List.Sublist.cons_cons _ (List.Sublist.cons _ (List.Sublist.refl _))))) (by decide +kernel) (KAt.take 8 (Val.indexRow (i := 0) (k * 2) (by omega) Tryz.underlying24 Tryz.sizeOf56 rfl rfl rfl (by omega) (by omega)) rfl rfl rfl rfl (fun w hw => hw.drop (List.Sublist.cons _ (List.Sublist.cons_cons _ (List.Sublist.cons _ (List.Sublist.refl _))))) (by decide +kernel) (KAt.take 9 (Val.field ((k * 2 + 1)) rfl fo_56_1 rfl) rfl rfl rfl rfl (fun w hw => hw.drop (List.Sublist.cons _ (List.Sublist.cons_cons _ (List.Sublist.cons _ (List.Sublist.refl _))))) (by decide +kernel) (KAt.take 10 (Val.loadRow (u := b64 q.2) (i := 0) Tryz.isAgg43 rfl rfl (prC_at hq).2) rfl rfl rfl rfl (fun w hw => hw.drop (List.Sublist.cons _ (List.Sublist.cons_cons _ (List.Sublist.cons _ (List.Sublist.refl _))))) (by decide +kernel) ?_)))))))))))
  refine KAt.take 11 (Val.build (fun a ha => by simp only [List.map_toArray, List.map_cons, List.map_nil, ha.eval (x := (.tmp 22)) rfl, ha.eval (x := (.tmp 27)) rfl] <;> rfl) (bld_45_0_1 _ _ )) rfl rfl rfl rfl (fun w hw => hw.drop (List.Sublist.cons _ (List.Sublist.cons_cons _ (List.Sublist.cons _ (List.Sublist.refl _))))) (by decide +kernel) (KAt.only 12 rfl (by decide +kernel) (At.buildSl (fun a ha => by simp only [List.map_toArray, List.map_cons, List.map_nil, ha.eval (x := (.tmp 28)) rfl]; try rfl) (bs_25_1 _ _ ) rfl (fun b4 => (At.nil (KAt.go (fun w hw => hw.drop (List.Sublist.cons _ (List.Sublist.cons _ (List.Sublist.cons_cons _ (List.Sublist.cons _ (List.Sublist.refl _)))))) (KAt.only 13 rfl (by decide +kernel) ?_))))))
  refine At.appendP1 (i := 1) (j := 0) (by_ := 16) Tryz.underlying25 info_45 rfl rfl rfl rfl rfl rfl rfl rfl (by rw [List.length_take]; omega) (by rw [List.length_take]; omega) rfl (fun v5 => ?_)
  simp only [sc0, scS]
  refine At.drop 0 ?_
  simp only [ec0, ecS]
  refine At.nil (KAt.go (fun w hw => hw.drop (List.Sublist.cons _ (List.Sublist.cons_cons _ (List.Sublist.cons _ (List.Sublist.refl _))))) (KAt.take 14 (Val.assign rfl) rfl rfl rfl rfl (fun w hw => hw.drop (List.Sublist.cons _ (List.Sublist.cons_cons _ (List.Sublist.cons _ (List.Sublist.refl _))))) (by decide +kernel) (KAt.done (by decide +kernel) (At.blkN (At.thenN (At.region (tM rfl rfl ?_)))))))
  first | refine tV (Val.addI rfl rfl (by omega) (by omega)) rfl ?_ | refine tV (Val.bin rfl rfl rfl) rfl ?_
  refine tA rfl rfl (tE ?_)
  exact At.again (k + 1, v5) (show k + 1 ≤ _ by omega) (by dsimp only; omega) (Sub.cons rfl (Sub.cons rfl (Sub.cons (congrArg (fun z => some (Value.int IntKind.i64 z)) (by omega)) Sub.nil))) (by dsimp only; rw [und_snoc hq])
 ·try simp only [hasB, isSizeB, sB] at h3
  obtain rfl : k = (chL i T).length := by omega
  rw [List.take_length]
  refine At.exitC (At.thenX (At.thenX (At.blkX (At.thenN (tR (tM rfl rfl (tA rfl rfl (tE (At.retC (At.ret1 (.inl rfl) rfl rfl rfl (fun w hw => ?_)))))))))))
  exact ⟨_, rfl, hw.drop (List.singleton_sublist.2 (List.mem_of_getElem? (i := 0) rfl))⟩
theorem wordJ_p (v : Value) (l : List UInt8) (o : Nat) (w : World) (hv : RdB w v l) (hlen : l.length ≤ 140737488355328) (hn : o + 8 ≤ l.length) :
    PureC Tryz.prog 19 [v, .int .i64 (o : Int)] (b64 (wdA l o)) w := by
 refine enter0 Tryz.func19 rfl Tryz.ntmps19 rfl ?_
 simp only [envOf]
 refine tR (tA rfl rfl (tE (tR (tA rfl rfl (tE (At.seq (tR (tA rfl rfl (tE (At.block ?_))))))))))
 skip
 refine At.loop (σ := Nat) (fun j' => j' ≤ 8) (fun j' => [(0, v), (1, .int .i64 (o : Int)), (5, .int .u64 (num l (o + j') (8 - j') : Nat)), (6, .int .i64 ((j' : Int) - 1))]) (fun j' => []) (fun j' => j') 8 (Nat.le_refl _) (Sub.cons rfl (Sub.cons rfl (Sub.cons (congrArg (fun z => some (Value.int IntKind.u64 z)) (by rw [Nat.sub_self, num_zero]; rfl)) (Sub.cons rfl Sub.nil)))) (List.Perm.refl _) ?_
 intro j' hs
 refine At.seq (tR (tM rfl rfl (tV (Val.bin rfl rfl rfl) rfl (At.weaken [(0, _), (1, _), (5, _), (6, _), (8, _)] (Sub.cons rfl (Sub.cons rfl (Sub.cons rfl (Sub.cons rfl (Sub.cons rfl Sub.nil))))) ?_))))
 refine At.boolMeet 7 15 (decide (1 ≤ j')) ?_ ?_
 ·simp only [List.take_succ_cons, List.take_zero]
  refine tM rfl rfl ?_
  refine At.split (t := 9) rfl (fun h1 => ?_) (fun h1 => ?_)
  ·try simp only [hasB, isSizeB, sB] at h1
   refine At.yes rfl rfl (tM rfl rfl (At.yes rfl rfl ?_))
   first | refine tV (Val.addI rfl rfl (by omega) (by omega)) rfl ?_ | refine tV (Val.bin rfl rfl rfl) rfl ?_
   refine At.yes rfl rfl (tM rfl rfl (At.yes rfl rfl (tV (Val.lenRd hv Tryz.underlying29 rfl) rfl (At.yes rfl rfl (tV (Val.bin rfl rfl rfl) rfl (tV (Val.pickT rfl rfl) rfl (At.nil ?_)))))))
   exact At.boolEnd rfl (by apply Bool.eq_iff_iff.2; (simp only [decide_eq_true_eq, Bool.false_eq_true, false_iff, true_iff, gt_iff_lt, ge_iff_le]) <;> omega) (by repeat (first | exact Sub.nil | refine Sub.cons rfl ?_))
  ·try simp only [hasB, isSizeB, sB] at h1
   refine At.no rfl rfl rfl rfl (At.no rfl rfl rfl rfl (At.no rfl rfl rfl rfl (At.no rfl rfl rfl rfl (At.no rfl rfl rfl rfl (tV (Val.pickF rfl rfl) rfl (At.nil ?_))))))
   exact At.boolEnd rfl (by apply Bool.eq_iff_iff.2; (simp only [decide_eq_true_eq, Bool.false_eq_true, false_iff, true_iff, gt_iff_lt, ge_iff_le]) <;> omega) (by repeat (first | exact Sub.nil | refine Sub.cons rfl ?_))
 ·simp only [List.drop_succ_cons, List.drop_zero]
  refine tE ?_
  refine At.cond rfl (fun h2 => ?_) (fun h2 => ?_)
  ·try simp only [hasB, isSizeB, sB] at h2
   obtain ⟨j, rfl⟩ : ∃ j, j' = j + 1 := ⟨j' - 1, by omega⟩
   obtain ⟨u, hu⟩ : ∃ u, l[o + j]? = some u := ⟨_, List.getElem?_eq_getElem (by omega)⟩
   have hnum : num l (o + (j + 1)) (8 - (j + 1)) * 256 + u.toNat = num l (o + j) (8 - j) := by rw [show 8 - j = (8 - (j + 1)) + 1 by omega, num_cons hu]; rfl
   have hlt : num l (o + j) (8 - j) < 18446744073709551616 := Nat.lt_of_lt_of_le (num_lt (l := l) (o + j) (8 - j)) (by rw [show (18446744073709551616 : Nat) = 256 ^ 8 from rfl]; exact Nat.pow_le_pow_right (by decide) (by omega))
   refine At.skipC (At.thenN (At.seq (At.block (At.region (tM rfl rfl (tV (Val.bin rfl rfl rfl) rfl ?_))))))
   rw [wrap_u64 (n := ((num l (o + (j + 1)) (8 - (j + 1)) : Nat) : Int) * 256) (by omega) (by omega)]
   refine tM rfl rfl (tM rfl rfl (tM rfl rfl ?_))
   first | refine tV (Val.addI rfl rfl (by omega) (by omega)) rfl ?_ | refine tV (Val.bin rfl rfl rfl) rfl ?_
   refine At.idxB hv Tryz.underlying29 Tryz.sizeOf5 rfl rfl (by omega) (by omega) rfl rfl (fun b3 o4 q5 hq6 hl7 hc8 => (tV (Val.loadOld Tryz.isAgg5 rfl hc8 (fun h => h)) rfl (tV (Val.conv Tryz.underlying5 Tryz.underlying43 rfl) rfl ?_)))
   rw [wrap_u64 (n := (q5.toNat : Int)) (by omega) (by have := q5.toNat_lt; omega), show q5 = u from by have h1 := hq6; rw [show ((o : Int) + (((j + 1 : Nat) : Int) - 1)).toNat = o + j by omega, hu] at h1; exact (Option.some.inj h1).symm]
   refine tV (Val.bin rfl rfl rfl) rfl ?_
   rw [show IntKind.u64.wrap (((num l (o + (j + 1)) (8 - (j + 1)) : Nat) : Int) * 256 + (u.toNat : Int)) = ((num l (o + j) (8 - j) : Nat) : Int) from by rw [wrap_u64 (by omega) (by omega)]; omega]
   refine tA rfl rfl (At.nil (At.blkN (At.thenN (At.region (tM rfl rfl ?_)))))
   first | refine tV (Val.subI rfl rfl (by omega) (by omega)) rfl ?_ | refine tV (Val.bin rfl rfl rfl) rfl ?_
   refine tA rfl rfl (tE ?_)
   exact At.again j (by omega) (by omega) (Sub.cons rfl (Sub.cons rfl (Sub.cons rfl (Sub.cons (congrArg (fun z => some (Value.int IntKind.i64 z)) (by omega)) Sub.nil)))) (List.Perm.refl _)
  ·try simp only [hasB, isSizeB, sB] at h2
   have hj0 : j' = 0 := by omega
   subst hj0
   refine At.exitC (At.thenX (At.thenX (At.blkX (At.thenN (tR (tM rfl rfl (tA rfl rfl (tE (At.retC (At.ret1 (.inl rfl) rfl rfl rfl (fun w hw => ?_)))))))))))
   rw [← wdA_val]
   exact ⟨rfl, hw.mod⟩
theorem device_n (v : Value) (l : List UInt8) (m : Int) (w : World) (hv : RdB w v l) (hsz : isSizeB (l.length : Int) = true) (hm : m ≤ 1000000) :
    NewDevB Tryz.prog 22 [v, .int .i64 m] (devE l m) w := by
 refine enter0 Tryz.func22 rfl Tryz.ntmps22 rfl ?_
 simp only [envOf]
 refine tR (tA rfl rfl (tA rfl rfl (tE (tR (tM rfl rfl (At.callND (fun w hw => load_d _ l w (hv.mod hw.mod) hsz) Tryz.call43 rfl rfl (fun p1 y2 => (tM rfl rfl (tV (Val.extract rfl rfl) rfl (tV (Val.extract rfl rfl) rfl (tA rfl rfl (tA rfl rfl (tE (At.seq (tR (tM rfl rfl (tV (Val.eqNil (t := 51) (by kernel_rfl) rfl) rfl (tM rfl rfl (At.yes rfl rfl (tM rfl rfl (At.yes rfl rfl (tV (Val.bin rfl rfl rfl) rfl (tV (Val.pickF rfl rfl) rfl (tE (At.condF rfl (At.skipC (At.thenN (At.seq (tR (tM rfl rfl (tV (Val.bin rfl rfl rfl) rfl (tE ?_))))))))))))))))))))))))))))))))
 refine At.cond rfl (fun h3 => ?_) (fun h3 => ?_)
 ·try simp only [hasB, isSizeB, sB] at h3
  refine tR (tM rfl rfl (tM rfl rfl ?_))
  refine At.callD 0 rfl (fun w hw hr => (by have h0 := arm_d _ _ _ m.toNat w (by omega) (dead_load l) hr; rwa [show ((m.toNat : Nat) : Int) = m from by omega] at h0)) Tryz.call44 rfl rfl (fun y4 => ?_)
  simp only [sc0, scS]
  refine tA rfl rfl (tE (tR (tM rfl rfl (tM rfl rfl (tV (Val.bin rfl rfl rfl) rfl (tA rfl rfl (tA rfl rfl (tE (At.retC (At.thenR (At.ret2 (.inl rfl) rfl rfl rfl rfl (fun w hw => ?_))))))))))))
  rw [show devE l m = armD (loadD l) m.toNat from if_neg (by omega)]
  exact ⟨_, _, rfl, hw.f0⟩
 ·try simp only [hasB, isSizeB, sB] at h3
  refine At.skipC (At.thenN (tR (tM rfl rfl (tA rfl rfl (tA rfl rfl (tE (At.retC (At.ret2 (.inl rfl) rfl rfl rfl rfl (fun w hw => ?_)))))))))
  rw [show devE l m = loadD l from if_pos (by omega)]
  exact ⟨_, _, rfl, hw.f0⟩
end Go.Proofs.YtfchinibjhcejaaGreatDoor
namespace Go.Proofs.YtfchinibjhcejaaGreatDoor
open Go Go.Wk
theorem mem_lnK {ks : List Nat} {l : Nat} : l ∈ lnK ks ↔ ∃ k ∈ ks, k / 8 = l := by
  unfold lnK
  rw [List.mem_map]
  constructor
  · rintro ⟨x, hx, rfl⟩
    obtain ⟨k, hk, e⟩ := ((lnL_ok ks).2 x).1 hx
    refine ⟨k, hk, ?_⟩
    unfold lnF at e; omega
  · rintro ⟨k, hk, rfl⟩
    refine ⟨lnF k, ((lnL_ok ks).2 _).2 ⟨k, hk, rfl⟩, ?_⟩
    unfold lnF; omega
abbrev phU (U : List (Int × BitVec 64)) : Ph := (kU U, lnK (ksOf U))
abbrev ph64 (x : BitVec 64) : Ph := ([(64, x)], lnK [64])
theorem chA_ph (U : List (Int × BitVec 64)) : chA (ksOf U) (U.map Prod.snd) = phA (phU U) := by unfold chA phA stlA; rw [kU_zip]
theorem recL_ph (U : List (Int × BitVec 64)) : (recL (ksOf U) (U.map Prod.snd)).flatten = phsA [phU U, ph64 0] := by
  unfold recL phsA
  rw [chA_ph]; rfl
theorem phU_ok {i : Int} {U : List (Int × BitVec 64)} {n : Nat} (hp : PlK i U U.length) (hn : 2048 + 64 * i ≤ 8 * (n : Int)) : PhOk n (phU U) := by
  have hk : ∀ c ∈ kU U, c.1 ∈ ksOf U := fun c hc => by rw [← kU_fst]; exact List.mem_map.2 ⟨c, hc, rfl⟩
  have hlt := ks_lt (n := n) (pl_all hp) hn
  refine ⟨pl_nodup hp, fun c hc => hlt _ (hk c hc), fun c hc => mem_lnK.2 ⟨_, hk c hc, rfl⟩, fun l hl => ?_⟩
  obtain ⟨k, hkm, rfl⟩ := mem_lnK.1 hl
  have := hlt k hkm
  omega
theorem ph64_ok {n : Nat} (x : BitVec 64) (h : 64 < n) : PhOk n (ph64 x) := by
  refine ⟨by simp, fun c hc => ?_, fun c hc => ?_, fun l hl => ?_⟩
  · rw [List.mem_singleton.1 hc]; exact h
  · rw [List.mem_singleton.1 hc]; exact mem_lnK.2 ⟨64, by simp, rfl⟩
  · obtain ⟨k, hk, rfl⟩ := mem_lnK.1 hl
    rw [List.mem_singleton.1 hk]; omega
theorem kU_mem {U : List (Int × BitVec 64)} {q : Int × BitVec 64} (h : q ∈ U) : ((q.1 / 8).toNat, q.2) ∈ kU U := List.mem_map.2 ⟨q, h, rfl⟩
theorem plk_addr {i : Int} {U : List (Int × BitVec 64)} {n : Nat} (hp : ∀ q ∈ U, TW q.1 i) (hn : 2048 + 64 * i ≤ 8 * (n : Int)) : ∀ u ∈ U, u.1 = 8 * ((u.1 / 8).toNat : Int) ∧ (u.1 / 8).toNat < n := fun u hu => by
  have := hp u hu
  unfold TW at this; omega
theorem rec_full {σ : Ds} {vs : List (BitVec 64)} {i : Int} {U : List (Int × BitVec 64)} (hws : σ.ws = mkC vs) (ha : σ.armed = false) (hE : pndE (wbytes vs) = 0) (hL : pndL (wbytes vs) = U) (h1 : 1 ≤ U.length) (hp : PlK i U U.length) (hn : 2048 + 64 * i ≤ 8 * (vs.length : Int)) (hi : 0 ≤ i) :
    ∃ τ : Ds, rcvE σ = ((U.length : Int), 0, τ) ∧ τ.ws = mkC (setP (setP vs (kU U)) [(64, 0)]) ∧ τ.armed = false ∧ τ.steps = σ.steps + (phsA [phU U, ph64 0]).length := by
  have hv : viewWs σ.ws = vs := by rw [hws, mkC_view]
  obtain ⟨a1, a2, a3, a4⟩ := phs_full [phU U, ph64 0] hws ha (fun p hpm => by
    rcases List.mem_cons.1 hpm with rfl | hpm
    · exact phU_ok hp hn
    · rw [List.mem_singleton.1 hpm]; exact ph64_ok 0 (by omega))
  refine ⟨(actsE σ (phsA [phU U, ph64 0])).2, ?_, a2, a3, a4⟩
  unfold rcvE
  rw [hv, hE, hL, if_neg (fun g => by rcases g with g | g; exact g rfl; rw [g] at h1; exact absurd h1 (by decide)), recL_ph, a1, if_pos rfl]
theorem setP_byte {vs : List (BitVec 64)} {P : List (Nat × BitVec 64)} {j : Nat} (h : j / 8 ∉ P.map Prod.fst) : (wbytes (setP vs P))[j]? = (wbytes vs)[j]? := by
  have := wbytes_ext (j := j / 8) (r := j % 8) (setP_out P vs h) (by omega)
  rwa [show 8 * (j / 8) + j % 8 = j by omega] at this
theorem setP_same : ∀ (P : List (Nat × BitVec 64)) (vs : List (BitVec 64)), (∀ c ∈ P, vs[c.1]? = some c.2) → setP vs P = vs
  | [], _, _ => rfl
  | c :: P, vs, h => by
    have hc := h c (List.mem_cons_self ..)
    have e : vs.set c.1 c.2 = vs := by
      apply List.ext_getElem?
      intro j
      by_cases ej : j = c.1
      · subst ej; rw [List.getElem?_set_self (List.getElem?_eq_some_iff.1 hc).1, hc]
      · rw [List.getElem?_set_ne (Ne.symm ej)]
    show setP (vs.set c.1 c.2) P = vs
    rw [e]
    exact setP_same P vs (fun x hx => h x (List.mem_cons_of_mem _ hx))
def insB (L : List (Int × BitVec 64)) (j : Nat) : Bool := L.any fun q => decide (q.1 ≤ (j : Int) ∧ (j : Int) < q.1 + 8)
theorem ins_snoc {L : List (Int × BitVec 64)} {k j : Nat} {q : Int × BitVec 64} (h : L[k]? = some q) : insB (L.take (k + 1)) j = (insB (L.take k) j || decide (q.1 ≤ (j : Int) ∧ (j : Int) < q.1 + 8)) := by
  unfold insB
  rw [List.take_succ_of_get h, List.any_append]
  simp
theorem ins_key {i : Int} {L : List (Int × BitVec 64)} {j : Nat} (hp : ∀ q ∈ L, TW q.1 i) (h : insB L j = false) : j / 8 ∉ (kU L).map Prod.fst := fun hm => by
  rw [kU_fst] at hm
  obtain ⟨q, hq, e⟩ := List.mem_map.1 hm
  unfold insB at h
  rw [List.any_eq_false] at h
  have h1 := h q hq
  have h2 := hp q hq
  unfold TW at h2
  rw [decide_eq_true_eq] at h1
  omega
structure Told (l : List UInt8) (s : Int × Int × Int) (L : List (Int × BitVec 64)) : Prop where
  sup : SupIm l s
  un : openUnE (page l) = 0 ∧ openUnL (page l) = L
  pl : PlK s.2.1 L L.length
section
variable {l : List UInt8} {s : Int × Int × Int} {L : List (Int × BitVec 64)}
theorem Told.nums (h : Told l s L) : 24 ≤ s.1 ∧ s.1 ≤ 1024 ∧ 8 ≤ s.2.1 ∧ s.2.1 ≤ 256 ∧ l.length = 512 * s.1.toNat ∧ 2048 + 64 * s.2.1 ≤ (l.length : Int) := by
  have hg := h.sup.g
  unfold GoodSup at hg
  have hl := h.sup.len
  omega
theorem Told.pnd (h : Told l s L) : pndE l = 0 ∧ pndL l = L := h.sup.pnd h.un (pl_all h.pl)
theorem Told.words (h : Told l s L) : wbytes (wds l) = l := wds_bytes (by have := h.nums; omega)
theorem Told.wlen (h : Told l s L) : (wds l).length = 64 * s.1.toNat := by rw [wds_len]; have := h.nums; omega
theorem Told.over (h : Told l s L) : ovR l = wbytes (setP (wds l) (kU L)) := by
  obtain ⟨g1, g2⟩ := h.pnd
  rw [ovR_yes g1, g2]
  conv => lhs; rw [← h.words]
  exact ovl_set L (wds l) (plk_addr (n := (wds l).length) (pl_all h.pl) (by rw [h.wlen]; have := h.nums; omega))
theorem Told.olen (h : Told l s L) : (ovR l).length = l.length := by rw [h.over, wbytes_length, setP_len, h.wlen]; have := h.nums; omega
theorem Told.out (h : Told l s L) {j : Nat} (hj : insB L j = false) : (ovR l)[j]? = l[j]? := by
  rw [h.over, setP_byte (ins_key (pl_all h.pl) hj), h.words]
theorem low_out (hp : ∀ q ∈ L, TW q.1 s.2.1) {j : Nat} (hj : j < 2048) : insB L j = false := by
  unfold insB
  rw [List.any_eq_false]
  intro q hq
  have := hp q hq
  unfold TW at this
  rw [decide_eq_true_eq]; omega
theorem Told.word (h : Told l s L) {q : Int × BitVec 64} (hq : q ∈ L) : wdA (ovR l) q.1.toNat = q.2 := by
  have ha := plk_addr (n := (wds l).length) (pl_all h.pl) (by rw [h.wlen]; have := h.nums; omega) q hq
  rw [h.over]
  exact wdA_wb (k := (q.1 / 8).toNat) (setP_in _ _ (pl_nodup h.pl) (kU_mem hq) ha.2) (by omega)
theorem Told.again (h : Told l s L) : Told (ovR l) s L := by
  refine ⟨h.sup.of h.olen (fun i hi => h.out (low_out (pl_all h.pl) (by omega))), ?_, h.pl⟩
  have e : page (ovR l) = page l := by
    unfold page
    apply List.ext_getElem?
    intro i
    rw [List.getElem?_take, List.getElem?_take]
    split
    · rw [List.getElem?_drop, List.getElem?_drop]
      exact h.out (low_out (pl_all h.pl) (by omega))
    · rfl
  rw [e]; exact h.un
theorem Told.twice (h : Told l s L) : ovR (ovR l) = ovR l := by
  have h2 := h.again
  have e : wds (ovR l) = setP (wds l) (kU L) := by rw [h.over]; unfold wds; rw [wbytes_length, Nat.mul_div_cancel_left _ (by decide), wordsL_wbytes]
  rw [h2.over, e, setP_same _ _ (fun c hc => ?_), ← h.over]
  obtain ⟨q, hq, rfl⟩ := List.mem_map.1 hc
  have ha := plk_addr (n := (wds l).length) (pl_all h.pl) (by rw [h.wlen]; have := h.nums; omega) q hq
  exact setP_in _ _ (pl_nodup h.pl) hc ha.2
theorem Told.refuse (h : Told l s L) (h1 : 1 ≤ L.length) {sc : Int} (hg : GoodSup s.1 s.2.1 sc) {cs : List (Int × BitVec 64)} (hc1 : ¬ (cs.length = 0 ∨ 8 < cs.length)) (hc2 : PlK s.2.1 cs cs.length) : comE (loadD l) s.1 s.2.1 sc (4 + s.2.1 / 8) cs = (35, loadD l) := by
  have hv : wbytes (viewWs (loadD l).ws) = l := by rw [wds_load, mkC_view]; exact h.words
  have hlen : (loadD l).ws.length = 64 * s.1.toNat := by rw [wds_load, mkC_length, h.wlen]
  refine com_35 ⟨hg, rfl, by rw [hlen]; have := h.nums; omega⟩ hc1 hc2 ?_
  rw [hv, h.un.1, h.un.2]
  rintro ⟨_, e⟩
  rw [e] at h1; exact absurd h1 (by decide)
theorem Told.recover (h : Told l s L) (h1 : 1 ≤ L.length) : ∃ τ : Ds, rcvE (loadD l) = ((L.length : Int), 0, τ) ∧ τ.ws.length = (loadD l).ws.length ∧ τ.steps ≤ 60 ∧ τ.armed = false ∧ (wbytes (viewWs τ.ws)).length = l.length ∧ (∀ j, ¬ (512 ≤ j ∧ j < 1024) → (wbytes (viewWs τ.ws))[j]? = (ovR l)[j]?) ∧
    ∀ (sc : Int) (cs : List (Int × BitVec 64)), GoodSup s.1 s.2.1 sc → ¬ (cs.length = 0 ∨ 8 < cs.length) → PlK s.2.1 cs cs.length → (comE τ s.1 s.2.1 sc (4 + s.2.1 / 8) cs).1 = 0 := by
  obtain ⟨g1, g2⟩ := h.pnd
  have hn := h.nums
  have hwl := h.wlen
  obtain ⟨τ, e1, e2, e3, e4⟩ := rec_full (σ := loadD l) (vs := wds l) (i := s.2.1) (U := L) (wds_load l) rfl (by rw [h.words]; exact g1) (by rw [h.words]; exact g2) h1 h.pl (by rw [hwl]; omega) (by omega)
  have hr := rcvE_rest (σ := loadD l)
  rw [e1] at hr
  have hv : viewWs τ.ws = setP (setP (wds l) (kU L)) [(64, 0)] := by rw [e2, mkC_view]
  have hvl : (wbytes (viewWs τ.ws)).length = l.length := by rw [hv, wbytes_length, setP_len, setP_len, hwl]; omega
  have hby : ∀ j, ¬ (512 ≤ j ∧ j < 520) → (wbytes (viewWs τ.ws))[j]? = (ovR l)[j]? := fun j hj => by
    rw [hv, setP_byte (by simp only [List.map_cons, List.map_nil, List.mem_singleton]; omega), ← h.over]
  have hsup : SupIm (wbytes (viewWs τ.ws)) s := h.sup.of hvl (fun i hi => by rw [hby i (by omega)]; exact h.out (low_out (pl_all h.pl) (by omega)))
  refine ⟨τ, e1, hr.1, by have := hr.2; exact this, e3, hvl, fun j hj => hby j (by omega), fun sc cs hg hc1 hc2 => ?_⟩
  have hlen : τ.ws.length = 64 * s.1.toNat := by rw [e2, mkC_length, setP_len, setP_len, hwl]
  have hun : openUnE (page (wbytes (viewWs τ.ws))) = 0 ∧ openUnL (page (wbytes (viewWs τ.ws))) = [] := und0 (by omega) (by
    rw [hv]
    exact wdA_wb (k := 64) (setP_in _ _ (by simp) (List.mem_singleton.2 rfl) (by rw [setP_len, hwl]; omega)) rfl)
  rw [com_go ⟨hg, rfl, by rw [hlen]; omega⟩ hc1 hc2 hun]
  obtain ⟨hokC, _⟩ := acs_ok (σ := τ) (ks := ksOf cs) (xs := cs.map Prod.snd) (ks_lt (pl_all hc2) (by rw [hlen]; omega)) (by rw [ksOf_len]; omega) (by rw [hlen]; omega)
  exact dead_of_acts hokC e3
end
theorem told_img {s : Int × Int × Int} (hg : GoodSup s.1 s.2.1 s.2.2) (W T : List (Int × BitVec 64)) : Told (imgE s false (inT W) (chL s.2.1 T)) s (chL s.2.1 T) := by
  have hg2 := hg
  unfold GoodSup at hg2
  obtain ⟨h1, h8, hp⟩ := chL_ok (i := s.2.1) (by omega) T
  exact ⟨img_sup hg _ _, img_U hg _ (plk_good (by omega) h1 h8 hp), hp⟩
theorem plk_one {i a : Int} (x : BitVec 64) (h : TW a i) : PlK i [(a, x)] 1 := fun j q hj hq => by
  match j, hj, hq with
  | 0, _, hq => (obtain rfl := Option.some.inj hq; exact ⟨h, fun g => by cases g⟩)
theorem rd_blk {w : World} {b U : Nat} {a : Int} {x : BitVec 64} (h : Holds w b U [.int .i64 a, b64 x]) : RdP w (.slice (some ⟨b, 0, none⟩) 1 1) [(a, x)] :=
  ⟨some ⟨b, 0, none⟩, 1, rfl, fun j u hj => ⟨b, 0, rfl, by rw [Nat.zero_add]; exact (h.cell j).trans hj⟩, rfl, Nat.le_refl _, (fun e => by cases e), (fun _ a' e => by cases e; rfl)⟩
theorem off_blk {b : Nat} {xs : List Value} {S : Nat → Prop} (h : ¬ S b) : Off (.slice (some ⟨b, 0, none⟩) 1 1) xs S := fun _ b' o s n c e => by
  simp only [Value.slice.injEq, Option.some.injEq, Addr.mk.injEq] at e
  rw [← e.1.1]; exact h
end Go.Proofs.YtfchinibjhcejaaGreatDoor
namespace Go.Proofs.YtfchinibjhcejaaGreatDoor
open Go Go.Wk
theorem lawTaken_p (p i c : Int) (bare : Bool) (vW vU : Value) (W U : List (Int × BitVec 64)) (v : Value) (T : List (Int × BitVec 64)) (w : World) (ht : Tab w) (hvW : RdP w vW W) (hWl : W.length ≤ 8796093022208) (hpb : -9223372036854775808 ≤ p ∧ p ≤ 9223372036854775807) (hv : RdP w v T) (hT : T.length ≤ 140737488355328) :
    PureC Tryz.prog 4 [.agg #[.int .i64 p, .int .i64 i, .int .i64 c, .bool bare, vW, vU], v] (.bool true) w := by
 refine enter0 Tryz.func4 rfl Tryz.ntmps4 rfl ?_
 obtain ⟨L, hL⟩ : ∃ L, L = chL (supS p i c).2.1 T := ⟨_, rfl⟩
 have hgS := supS_good p i c
 have hg2 := hgS
 unfold GoodSup at hg2
 have hsi : 0 < (supS p i c).2.1 ∧ (supS p i c).2.1 ≤ 1000 := by omega
 obtain ⟨hL1, hL8, hLp⟩ : 1 ≤ L.length ∧ L.length ≤ 8 ∧ PlK (supS p i c).2.1 L L.length := by rw [hL]; exact chL_ok hsi.1 T
 obtain ⟨l, hl⟩ : ∃ l, l = (imgE (supS p i c) false (inT W) L) := ⟨_, rfl⟩
 have htd : Told l (supS p i c) L := by rw [hl, hL]; exact told_img hgS W T
 have hnm := htd.nums
 have hol := htd.olen
 have hls : (loadD l).steps = 0 := rfl
 have hsz : isSizeB (l.length : Int) = true := by unfold isSizeB; rw [decide_eq_true_eq]; omega
 obtain ⟨τ, hrc, htl, hts, hta, hvl, hvb, hcm⟩ := htd.recover hL1
 have h48 : TW 2048 (supS p i c).2.1 := by unfold TW; omega
 simp only [envOf]
 refine tR (At.box rfl rfl rfl (fun b1 => (tA rfl rfl (tE (tR (tV (Val.loadAll (i := 0) Tryz.isAgg27 Tryz.sizeOf27 rfl rfl rfl) rfl (At.callNT (g := (fun v => .tuple #[v, .agg #[.int .i64 (supS p i c).1, .int .i64 (supS p i c).2.1, .int .i64 (supS p i c).2.2, .int .i64 (4 + (supS p i c).2.1 / 8)]])) (fun w hw => clean_n p i c bare vW vU W U w (hvW.mod hw.mod) hWl hpb) Tryz.call11 rfl rfl (fun v2 => (tM rfl rfl (tV (Val.extract rfl rfl) rfl (tV (Val.extract rfl rfl) rfl (At.alloc Tryz.zeroValue31 rfl rfl (fun b3 => (tA rfl rfl (At.storeAll (i := 0) Tryz.sizeOf31 rfl rfl rfl (by simp [Value.oneCell']) rfl rfl ?_)))))))))))))))
 simp only [sc0, scS]
 refine tE (tR (tM rfl rfl (tV (Val.loadAll (i := 0) Tryz.isAgg31 Tryz.sizeOf31 rfl rfl rfl) rfl (At.callN (fun w hw => undosJ_n v T (supS p i c).1 (supS p i c).2.1 (supS p i c).2.2 (4 + (supS p i c).2.1 / 8) w (hv.mod hw.mod) hT hsi) Tryz.call12 rfl rfl (fun v4 => ?_)))))
 rw [← hL]
 refine tA rfl rfl (At.nil (At.rowIs (i := 0) rfl (fun A5 c6 hv => ?_)))
 subst hv
 refine At.thenN ?_
 refine At.join (σ := Value) (fun vl => True) (fun vl => [(6, .pointer (some ⟨b3, 0, none⟩)), (7, (.slice A5 ((L).length) c6)), (8, vl)]) (fun vl => [rowR vl 5 1 ((l).length) ((l).map bv), rowR (.slice A5 ((L).length) c6) 45 2 ((L).length) (prC (L)), blk b3 31 ([.int .i64 (supS p i c).1, .int .i64 (supS p i c).2.1, .int .i64 (supS p i c).2.2, .int .i64 (4 + (supS p i c).2.1 / 8)])]) ?_ ?_
 ·apply At.any (t := 14)
  · rfl
  refine KAt.pin (fun w hw => hw.drop (List.Sublist.cons _ (List.Sublist.cons _ (List.Sublist.cons _ (List.Sublist.cons_cons _ (List.Sublist.refl _)))))) (KAt.take 0 (Val.field 0 rfl fo_27_0 rfl) rfl rfl rfl rfl (fun w hw => hw.drop (List.Sublist.cons _ (List.Sublist.cons _ (List.Sublist.cons _ (List.Sublist.cons_cons _ (List.Sublist.refl _)))))) (by decide +kernel) (KAt.take 1 (Val.loadPart (i := 0) Tryz.isAgg23 Tryz.sizeOf23 rfl rfl rfl rfl) rfl rfl rfl rfl (fun w hw => hw.drop (List.Sublist.cons _ (List.Sublist.cons _ (List.Sublist.cons _ (List.Sublist.cons_cons _ (List.Sublist.refl _)))))) (by decide +kernel) (KAt.take 2 (Val.field 4 rfl fo_27_2 rfl) rfl rfl rfl rfl (fun w hw => hw.drop (List.Sublist.cons _ (List.Sublist.cons _ (List.Sublist.cons _ (List.Sublist.cons_cons _ (List.Sublist.refl _)))))) (by decide +kernel) (KAt.take 3 (Val.load (i := 0) Tryz.isAgg24 rfl rfl rfl) rfl rfl rfl rfl (fun w hw => hw.drop (List.Sublist.cons _ (List.Sublist.cons _ (List.Sublist.cons _ (List.Sublist.cons_cons _ (List.Sublist.refl _)))))) (by decide +kernel) (KAt.take 5 (Val.move rfl) rfl rfl rfl rfl (fun w hw => hw.drop (List.Sublist.cons _ (List.Sublist.cons _ (List.Sublist.cons _ (List.Sublist.cons_cons _ (List.Sublist.refl _)))))) (by decide +kernel) ?_)))))
  refine KAt.two 4 11 rfl rfl (by decide +kernel) ?_ ?_
  ·refine At.callN (fun w hw => inTable_n vW W w (hvW.mod hw.mod) hWl) Tryz.call13 rfl rfl (fun v7 => (At.rowIs (i := 0) rfl (fun A8 c9 hv => ?_)))
   subst hv
   refine At.nil (KAt.go (fun w hw => hw.drop (List.Sublist.cons _ (List.Sublist.cons _ (List.Sublist.cons _ (List.Sublist.cons _ (List.Sublist.cons_cons _ (List.Sublist.refl _))))))) ?_)
   refine KAt.take 6 (Val.build (fun a ha => by simp only [List.map_toArray, List.map_cons, List.map_nil, ha.eval (x := (.tmp 37)) rfl, ha.eval (x := (.tmp 40)) rfl, ha.eval (x := (.tmp 41)) rfl] <;> rfl) (bld_27_0_2_3 _ _ _ _ _ _ _ _ _ )) rfl rfl rfl rfl (fun w hw => hw.drop (List.Sublist.cons _ (List.Sublist.cons _ (List.Sublist.cons _ (List.Sublist.cons _ (List.Sublist.cons_cons _ (List.Sublist.refl _))))))) (by decide +kernel) ?_
   refine KAt.two 7 11 rfl rfl (by decide +kernel) ?_ ?_
   ·refine At.callNT (g := (fun v => .tuple #[v, .agg #[.int .i64 (supS p i c).1, .int .i64 (supS p i c).2.1, .int .i64 (supS p i c).2.2, .int .i64 (4 + (supS p i c).2.1 / 8)]])) (fun w hw => image_n p i c false _ _ (inT W) L w (row_rd (hw.row (i := 0) rfl) (by decide)) (row_rd (hw.row (i := 1) rfl) (by decide)) (by have := inT_le W; omega) (by omega) hpb) Tryz.call14 rfl rfl (fun v10 => ?_)
    rw [← hl]
    refine At.nil (KAt.go (fun w hw => hw.drop (List.Sublist.cons _ (List.Sublist.cons _ (List.Sublist.cons _ (List.Sublist.cons _ (List.Sublist.cons _ (List.Sublist.cons_cons _ (List.Sublist.refl _)))))))) (KAt.take 8 (Val.move rfl) rfl rfl rfl rfl (fun w hw => hw.drop (List.Sublist.cons _ (List.Sublist.cons _ (List.Sublist.cons _ (List.Sublist.cons _ (List.Sublist.cons _ (List.Sublist.cons_cons _ (List.Sublist.refl _)))))))) (by decide +kernel) (KAt.take 9 (Val.extract rfl rfl) rfl rfl rfl rfl (fun w hw => hw.drop (List.Sublist.cons _ (List.Sublist.cons _ (List.Sublist.cons _ (List.Sublist.cons _ (List.Sublist.cons _ (List.Sublist.cons_cons _ (List.Sublist.refl _)))))))) (by decide +kernel) (KAt.take 10 (Val.extract rfl rfl) rfl rfl rfl rfl (fun w hw => hw.drop (List.Sublist.cons _ (List.Sublist.cons _ (List.Sublist.cons _ (List.Sublist.cons _ (List.Sublist.cons _ (List.Sublist.cons_cons _ (List.Sublist.refl _)))))))) (by decide +kernel) (KAt.only 11 rfl (by decide +kernel) (At.alloc Tryz.zeroValue31 rfl rfl (fun b11 => (At.nil (KAt.go (fun w hw => hw.drop (List.Sublist.cons _ (List.Sublist.cons _ (List.Sublist.cons _ (List.Sublist.cons _ (List.Sublist.cons _ (List.Sublist.cons _ (List.Sublist.cons_cons _ (List.Sublist.refl _))))))))) (KAt.take 12 (Val.assign rfl) rfl rfl rfl rfl (fun w hw => hw.drop (List.Sublist.cons _ (List.Sublist.cons _ (List.Sublist.cons _ (List.Sublist.cons _ (List.Sublist.cons _ (List.Sublist.cons _ (List.Sublist.cons_cons _ (List.Sublist.refl _))))))))) (by decide +kernel) (KAt.only 13 rfl (by decide +kernel) (At.storeAll (i := 0) Tryz.sizeOf31 rfl rfl rfl (by simp [Value.oneCell']) rfl rfl ?_))))))))))))
    simp only [sc0, scS]
    refine At.nil (KAt.go (fun w hw => hw.drop (List.Sublist.cons _ (List.Sublist.cons _ (List.Sublist.cons _ (List.Sublist.cons _ (List.Sublist.cons _ (List.Sublist.cons _ (List.Sublist.cons_cons _ (List.Sublist.refl _))))))))) (KAt.done (by decide +kernel) (At.drop 0 ?_)))
    simp only [ec0, ecS]
    refine At.drop 1 ?_
    simp only [ec0, ecS]
    refine At.drop 3 ?_
    simp only [ec0, ecS]
    refine At.drop 3 ?_
    simp only [ec0, ecS]
    refine At.thenN ?_
    exact At.meets v10 trivial (Sub.cons rfl (Sub.cons rfl (Sub.cons rfl Sub.nil))) (List.Perm.refl _)
   ·refine At.alloc Tryz.zeroValue31 rfl rfl (fun b12 => (At.nil (KAt.go (fun w hw => hw.drop (List.Sublist.cons _ (List.Sublist.cons _ (List.Sublist.cons _ (List.Sublist.cons _ (List.Sublist.cons _ (List.Sublist.cons_cons _ (List.Sublist.refl _)))))))) (KAt.only 7 rfl (by decide +kernel) ?_))))
    refine At.callNT (g := (fun v => .tuple #[v, .agg #[.int .i64 (supS p i c).1, .int .i64 (supS p i c).2.1, .int .i64 (supS p i c).2.2, .int .i64 (4 + (supS p i c).2.1 / 8)]])) (fun w hw => image_n p i c false _ _ (inT W) L w (row_rd (hw.row (i := 1) rfl) (by decide)) (row_rd (hw.row (i := 2) rfl) (by decide)) (by have := inT_le W; omega) (by omega) hpb) Tryz.call14 rfl rfl (fun v13 => ?_)
    rw [← hl]
    refine At.nil (KAt.go (fun w hw => hw.drop (List.Sublist.cons _ (List.Sublist.cons _ (List.Sublist.cons _ (List.Sublist.cons _ (List.Sublist.cons _ (List.Sublist.cons _ (List.Sublist.cons_cons _ (List.Sublist.refl _))))))))) (KAt.take 8 (Val.move rfl) rfl rfl rfl rfl (fun w hw => hw.drop (List.Sublist.cons _ (List.Sublist.cons _ (List.Sublist.cons _ (List.Sublist.cons _ (List.Sublist.cons _ (List.Sublist.cons _ (List.Sublist.cons_cons _ (List.Sublist.refl _))))))))) (by decide +kernel) (KAt.take 9 (Val.extract rfl rfl) rfl rfl rfl rfl (fun w hw => hw.drop (List.Sublist.cons _ (List.Sublist.cons _ (List.Sublist.cons _ (List.Sublist.cons _ (List.Sublist.cons _ (List.Sublist.cons _ (List.Sublist.cons_cons _ (List.Sublist.refl _))))))))) (by decide +kernel) (KAt.take 10 (Val.extract rfl rfl) rfl rfl rfl rfl (fun w hw => hw.drop (List.Sublist.cons _ (List.Sublist.cons _ (List.Sublist.cons _ (List.Sublist.cons _ (List.Sublist.cons _ (List.Sublist.cons _ (List.Sublist.cons_cons _ (List.Sublist.refl _))))))))) (by decide +kernel) (KAt.take 12 (Val.assign rfl) rfl rfl rfl rfl (fun w hw => hw.drop (List.Sublist.cons _ (List.Sublist.cons _ (List.Sublist.cons _ (List.Sublist.cons _ (List.Sublist.cons _ (List.Sublist.cons _ (List.Sublist.cons_cons _ (List.Sublist.refl _))))))))) (by decide +kernel) (KAt.only 13 rfl (by decide +kernel) (At.storeAll (i := 1) Tryz.sizeOf31 rfl rfl rfl (by simp [Value.oneCell']) rfl rfl ?_)))))))
    simp only [sc0, scS]
    refine At.nil (KAt.go (fun w hw => hw.drop (List.Sublist.cons _ (List.Sublist.cons _ (List.Sublist.cons _ (List.Sublist.cons _ (List.Sublist.cons _ (List.Sublist.cons _ (List.Sublist.cons_cons _ (List.Sublist.refl _))))))))) (KAt.done (by decide +kernel) (At.drop 1 ?_)))
    simp only [ec0, ecS]
    refine At.drop 1 ?_
    simp only [ec0, ecS]
    refine At.drop 3 ?_
    simp only [ec0, ecS]
    refine At.drop 3 ?_
    simp only [ec0, ecS]
    refine At.thenN ?_
    exact At.meets v13 trivial (Sub.cons rfl (Sub.cons rfl (Sub.cons rfl Sub.nil))) (List.Perm.refl _)
  ·refine At.alloc Tryz.zeroValue31 rfl rfl (fun b14 => (At.nil (KAt.go (fun w hw => hw.drop (List.Sublist.cons _ (List.Sublist.cons _ (List.Sublist.cons _ (List.Sublist.cons _ (List.Sublist.cons_cons _ (List.Sublist.refl _))))))) (KAt.only 4 rfl (by decide +kernel) (At.callN (fun w hw => inTable_n vW W w (hvW.mod hw.mod) hWl) Tryz.call13 rfl rfl (fun v15 => (At.rowIs (i := 0) rfl (fun A16 c17 hv => ?_))))))))
   subst hv
   refine At.nil (KAt.go (fun w hw => hw.drop (List.Sublist.cons _ (List.Sublist.cons _ (List.Sublist.cons _ (List.Sublist.cons _ (List.Sublist.cons _ (List.Sublist.cons_cons _ (List.Sublist.refl _)))))))) ?_)
   refine KAt.take 6 (Val.build (fun a ha => by simp only [List.map_toArray, List.map_cons, List.map_nil, ha.eval (x := (.tmp 37)) rfl, ha.eval (x := (.tmp 40)) rfl, ha.eval (x := (.tmp 41)) rfl] <;> rfl) (bld_27_0_2_3 _ _ _ _ _ _ _ _ _ )) rfl rfl rfl rfl (fun w hw => hw.drop (List.Sublist.cons _ (List.Sublist.cons _ (List.Sublist.cons _ (List.Sublist.cons _ (List.Sublist.cons _ (List.Sublist.cons_cons _ (List.Sublist.refl _)))))))) (by decide +kernel) (KAt.only 7 rfl (by decide +kernel) ?_)
   refine At.callNT (g := (fun v => .tuple #[v, .agg #[.int .i64 (supS p i c).1, .int .i64 (supS p i c).2.1, .int .i64 (supS p i c).2.2, .int .i64 (4 + (supS p i c).2.1 / 8)]])) (fun w hw => image_n p i c false _ _ (inT W) L w (row_rd (hw.row (i := 0) rfl) (by decide)) (row_rd (hw.row (i := 2) rfl) (by decide)) (by have := inT_le W; omega) (by omega) hpb) Tryz.call14 rfl rfl (fun v18 => ?_)
   rw [← hl]
   refine At.nil (KAt.go (fun w hw => hw.drop (List.Sublist.cons _ (List.Sublist.cons _ (List.Sublist.cons _ (List.Sublist.cons _ (List.Sublist.cons _ (List.Sublist.cons _ (List.Sublist.cons_cons _ (List.Sublist.refl _))))))))) (KAt.take 8 (Val.move rfl) rfl rfl rfl rfl (fun w hw => hw.drop (List.Sublist.cons _ (List.Sublist.cons _ (List.Sublist.cons _ (List.Sublist.cons _ (List.Sublist.cons _ (List.Sublist.cons _ (List.Sublist.cons_cons _ (List.Sublist.refl _))))))))) (by decide +kernel) (KAt.take 9 (Val.extract rfl rfl) rfl rfl rfl rfl (fun w hw => hw.drop (List.Sublist.cons _ (List.Sublist.cons _ (List.Sublist.cons _ (List.Sublist.cons _ (List.Sublist.cons _ (List.Sublist.cons _ (List.Sublist.cons_cons _ (List.Sublist.refl _))))))))) (by decide +kernel) (KAt.take 10 (Val.extract rfl rfl) rfl rfl rfl rfl (fun w hw => hw.drop (List.Sublist.cons _ (List.Sublist.cons _ (List.Sublist.cons _ (List.Sublist.cons _ (List.Sublist.cons _ (List.Sublist.cons _ (List.Sublist.cons_cons _ (List.Sublist.refl _))))))))) (by decide +kernel) (KAt.take 12 (Val.assign rfl) rfl rfl rfl rfl (fun w hw => hw.drop (List.Sublist.cons _ (List.Sublist.cons _ (List.Sublist.cons _ (List.Sublist.cons _ (List.Sublist.cons _ (List.Sublist.cons _ (List.Sublist.cons_cons _ (List.Sublist.refl _))))))))) (by decide +kernel) (KAt.only 13 rfl (by decide +kernel) (At.storeAll (i := 2) Tryz.sizeOf31 rfl rfl rfl (by simp [Value.oneCell']) rfl rfl ?_)))))))
   simp only [sc0, scS]
   refine At.nil (KAt.go (fun w hw => hw.drop (List.Sublist.cons _ (List.Sublist.cons _ (List.Sublist.cons _ (List.Sublist.cons _ (List.Sublist.cons _ (List.Sublist.cons _ (List.Sublist.cons_cons _ (List.Sublist.refl _))))))))) (KAt.done (by decide +kernel) (At.drop 1 ?_)))
   simp only [ec0, ecS]
   refine At.drop 1 ?_
   simp only [ec0, ecS]
   refine At.drop 3 ?_
   simp only [ec0, ecS]
   refine At.drop 3 ?_
   simp only [ec0, ecS]
   refine At.thenN ?_
   exact At.meets v18 trivial (Sub.cons rfl (Sub.cons rfl (Sub.cons rfl Sub.nil))) (List.Perm.refl _)
 ·intro vl hs
  clear hs
  refine tR (tM rfl rfl (At.callNT (g := (fun v => .tuple #[v, .int .i64 (pndE l)])) (fun w hw => pending_n _ l w (ht.mod hw.mod) (row_rd (hw.row (i := 0) rfl) (by decide)) (by omega)) Tryz.call15 rfl rfl (fun v19 => ?_)))
  rw [htd.pnd.1, htd.pnd.2]
  refine tM rfl rfl (tV (Val.extract rfl rfl) rfl (tV (Val.extract rfl rfl) rfl (tA rfl rfl (tA rfl rfl (tE (tR (tM rfl rfl (At.callNT (g := (fun v => .tuple #[v, .int .i64 (pndE l)])) (fun w hw => overlay_n _ l w (ht.mod hw.mod) (row_rd (hw.row (i := 1) rfl) (by decide)) (by omega)) Tryz.call16 rfl rfl (fun v20 => ?_)))))))))
  rw [htd.pnd.1]
  refine tM rfl rfl (tV (Val.extract rfl rfl) rfl (tV (Val.extract rfl rfl) rfl (tA rfl rfl (tA rfl rfl (tE (At.seq (tR (tM rfl rfl (tV (Val.bin rfl rfl rfl) rfl (tM rfl rfl (At.yes rfl rfl (tM rfl rfl (At.yes rfl rfl (tV (Val.bin rfl rfl rfl) rfl (tV (Val.pickF rfl rfl) rfl (tM rfl rfl (At.yes rfl rfl (tM rfl rfl (At.yes rfl rfl (tM rfl rfl (At.yes rfl rfl (At.callP (fun w hw => sameUnJ_p _ _ L w (row_rd (hw.row (i := 1) rfl) (by decide)) (row_rd (hw.row (i := 3) rfl) (by decide)) (by omega)) Tryz.call17 rfl rfl (At.yes rfl rfl (tV (Val.not rfl) rfl (tV (Val.pickF rfl rfl) rfl (tM rfl rfl (At.yes rfl rfl (tM rfl rfl (At.yes rfl rfl (tV (Val.lenRow (i := 0) Tryz.underlying29 rfl rfl) rfl (At.yes rfl rfl (tM rfl rfl (At.yes rfl rfl (tV (Val.lenRow (i := 2) Tryz.underlying29 rfl rfl) rfl (At.yes rfl rfl (tV (Val.bin rfl rfl rfl) rfl ?_))))))))))))))))))))))))))))))))))))
  rw [show (((ovR l).length : Nat) : Int) = (l.length : Nat) from by rw [hol], bne_self_eq_false]
  refine tV (Val.pickF rfl rfl) rfl (At.nil (At.drop 1 ?_))
  simp only [ec0, ecS]
  refine At.thenN (At.condF rfl (At.skipC (At.thenN (At.seq (tR (tA rfl rfl (tE (At.block ?_))))))))
  skip
  refine At.loop (σ := Nat) (fun j => j ≤ l.length) (fun j => [(6, .pointer (some ⟨b3, 0, none⟩)), (7, (.slice A5 ((L).length) c6)), (8, vl), (12, v20), (14, .int .i64 (j : Int))]) (fun j => [rowR v20 5 1 (((ovR l)).length) (((ovR l)).map bv), rowR vl 5 1 ((l).length) ((l).map bv), rowR (.slice A5 ((L).length) c6) 45 2 ((L).length) (prC (L)), blk b3 31 ([.int .i64 (supS p i c).1, .int .i64 (supS p i c).2.1, .int .i64 (supS p i c).2.2, .int .i64 (4 + (supS p i c).2.1 / 8)])]) (fun j => l.length - j) 0 (Nat.zero_le _) (Sub.cons rfl (Sub.cons rfl (Sub.cons rfl (Sub.cons rfl (Sub.cons rfl Sub.nil))))) (List.Perm.refl _) ?_
  intro j hj
  refine At.seq (tR (tM rfl rfl (tM rfl rfl (tV (Val.lenRow (i := 1) Tryz.underlying29 rfl rfl) rfl (tV (Val.bin rfl rfl rfl) rfl (tE ?_))))))
  refine At.cond rfl (fun h21 => ?_) (fun h21 => ?_)
  ·try simp only [hasB, isSizeB, sB] at h21
   refine At.skipC (At.thenN (At.seq (At.block (tR (tA rfl rfl (tE (At.seq (tR (tA rfl rfl (tE (At.block ?_)))))))))))
   skip
   refine At.loop (σ := Nat) (fun m => m ≤ L.length) (fun m => [(6, .pointer (some ⟨b3, 0, none⟩)), (7, (.slice A5 ((L).length) c6)), (8, vl), (12, v20), (14, .int .i64 (j : Int)), (15, .bool (insB (L.take m) j)), (16, .int .i64 (m : Int))]) (fun m => [rowR v20 5 1 (((ovR l)).length) (((ovR l)).map bv), rowR vl 5 1 ((l).length) ((l).map bv), rowR (.slice A5 ((L).length) c6) 45 2 ((L).length) (prC (L)), blk b3 31 ([.int .i64 (supS p i c).1, .int .i64 (supS p i c).2.1, .int .i64 (supS p i c).2.2, .int .i64 (4 + (supS p i c).2.1 / 8)])]) (fun m => L.length - m) 0 (Nat.zero_le _) (Sub.cons rfl (Sub.cons rfl (Sub.cons rfl (Sub.cons rfl (Sub.cons rfl (Sub.cons (by rw [List.take_zero]; rfl) (Sub.cons rfl Sub.nil))))))) (List.Perm.refl _) ?_
   intro m hm
   refine At.seq (tR (tM rfl rfl (tM rfl rfl (tV (Val.lenRow (i := 2) Tryz.underlying25 rfl rfl) rfl (tV (Val.bin rfl rfl rfl) rfl (tE ?_))))))
   refine At.cond rfl (fun h22 => ?_) (fun h22 => ?_)
   ·try simp only [hasB, isSizeB, sB] at h22
    obtain ⟨q, hq⟩ : ∃ q, L[m]? = some q := ⟨_, List.getElem?_eq_getElem (by omega)⟩
    have hqt := pl_all htd.pl q (List.mem_of_getElem? hq)
    unfold TW at hqt
    refine At.skipC (At.thenN (At.seq (At.block (At.region (tM rfl rfl (tM rfl rfl ?_))))))
    refine At.split (t := 88) rfl (fun h23 => ?_) (fun h23 => ?_)
    ·try simp only [hasB, isSizeB, sB] at h23
     refine At.no rfl rfl rfl rfl (At.no rfl rfl rfl rfl (At.no rfl rfl rfl rfl (At.no rfl rfl rfl rfl (At.no rfl rfl rfl rfl (At.no rfl rfl rfl rfl (At.no rfl rfl rfl rfl (At.no rfl rfl rfl rfl (At.noU rfl rfl rfl (At.noU rfl rfl rfl (At.noU rfl rfl rfl (At.noU rfl rfl rfl (At.noU rfl rfl rfl (At.noU rfl rfl rfl (At.noU rfl rfl rfl (At.noU rfl rfl rfl (At.no rfl rfl rfl rfl (tV (Val.pickT rfl rfl) rfl (tA rfl rfl (At.nil (At.blkN (At.thenN (At.region (tM rfl rfl ?_)))))))))))))))))))))))
     first | refine tV (Val.addI rfl rfl (by omega) (by omega)) rfl ?_ | refine tV (Val.bin rfl rfl rfl) rfl ?_
     refine tA rfl rfl (tE ?_)
     exact At.again (m + 1) (show m + 1 ≤ _ by omega) (by omega) (Sub.cons rfl (Sub.cons rfl (Sub.cons rfl (Sub.cons rfl (Sub.cons rfl (Sub.cons (congrArg (fun t => some (Value.bool t)) (by rw [ins_snoc hq]; first | (simp_all; done) | (simp_all; omega))) (Sub.cons (congrArg (fun z => some (Value.int IntKind.i64 z)) (by omega)) Sub.nil))))))) (List.Perm.refl _)
    ·try simp only [hasB, isSizeB, sB] at h23
     refine At.yes rfl rfl (tM rfl rfl (At.yes rfl rfl (tM rfl rfl (At.yes rfl rfl (tM rfl rfl (At.yes rfl rfl (tV (Val.indexRow (i := 2) (m * 2) (by omega) Tryz.underlying25 Tryz.sizeOf45 rfl rfl rfl (by omega) (by omega)) rfl (At.yes rfl rfl (tV (Val.field ((m * 2 + 0)) rfl fo_45_0 rfl) rfl (At.yes rfl rfl (tV (Val.loadRow (u := .int .i64 q.1) (i := 2) Tryz.isAgg3 rfl rfl (prC_at hq).1) rfl (At.yes rfl rfl (tV (Val.bin rfl rfl rfl) rfl (At.yes rfl rfl (tM rfl rfl ?_)))))))))))))))
     refine At.split (t := 96) rfl (fun h24 => ?_) (fun h24 => ?_)
     ·try simp only [hasB, isSizeB, sB] at h24
      refine At.yes rfl rfl (tM rfl rfl (At.yes rfl rfl (tM rfl rfl (At.yes rfl rfl (tM rfl rfl (At.yes rfl rfl (tV (Val.indexRow (i := 2) (m * 2) (by omega) Tryz.underlying25 Tryz.sizeOf45 rfl rfl rfl (by omega) (by omega)) rfl (At.yes rfl rfl (tV (Val.field ((m * 2 + 0)) rfl fo_45_0 rfl) rfl (At.yes rfl rfl (tV (Val.loadRow (u := .int .i64 q.1) (i := 2) Tryz.isAgg3 rfl rfl (prC_at hq).1) rfl (At.yes rfl rfl (tV (Val.addI rfl rfl (by omega) (by omega)) rfl (At.yes rfl rfl (tV (Val.bin rfl rfl rfl) rfl (At.yes rfl rfl (tV (Val.pickT rfl rfl) rfl (tV (Val.pickF rfl rfl) rfl (tA rfl rfl (At.nil (At.blkN (At.thenN (At.region (tM rfl rfl ?_))))))))))))))))))))))))
      first | refine tV (Val.addI rfl rfl (by omega) (by omega)) rfl ?_ | refine tV (Val.bin rfl rfl rfl) rfl ?_
      refine tA rfl rfl (tE ?_)
      exact At.again (m + 1) (show m + 1 ≤ _ by omega) (by omega) (Sub.cons rfl (Sub.cons rfl (Sub.cons rfl (Sub.cons rfl (Sub.cons rfl (Sub.cons (congrArg (fun t => some (Value.bool t)) (by rw [ins_snoc hq]; first | (simp_all; done) | (simp_all; omega))) (Sub.cons (congrArg (fun z => some (Value.int IntKind.i64 z)) (by omega)) Sub.nil))))))) (List.Perm.refl _)
     ·try simp only [hasB, isSizeB, sB] at h24
      refine At.no rfl rfl rfl rfl (At.no rfl rfl rfl rfl (At.no rfl rfl rfl rfl (At.no rfl rfl rfl rfl (At.no rfl rfl rfl rfl (At.no rfl rfl rfl rfl (At.no rfl rfl rfl rfl (At.no rfl rfl rfl rfl (At.yes rfl rfl (tV (Val.pickF rfl rfl) rfl (tV (Val.pickF rfl rfl) rfl (tA rfl rfl (At.nil (At.blkN (At.thenN (At.region (tM rfl rfl ?_))))))))))))))))
      first | refine tV (Val.addI rfl rfl (by omega) (by omega)) rfl ?_ | refine tV (Val.bin rfl rfl rfl) rfl ?_
      refine tA rfl rfl (tE ?_)
      exact At.again (m + 1) (show m + 1 ≤ _ by omega) (by omega) (Sub.cons rfl (Sub.cons rfl (Sub.cons rfl (Sub.cons rfl (Sub.cons rfl (Sub.cons (congrArg (fun t => some (Value.bool t)) (by rw [ins_snoc hq]; first | (simp_all; done) | (simp_all; omega))) (Sub.cons (congrArg (fun z => some (Value.int IntKind.i64 z)) (by omega)) Sub.nil))))))) (List.Perm.refl _)
   ·try simp only [hasB, isSizeB, sB] at h22
    obtain rfl : m = L.length := by omega
    rw [List.take_length]
    refine At.exitC (At.thenX (At.thenX (At.blkX (At.thenN (At.seq (At.quiet rfl (by decide +kernel) (qM rfl rfl (qV (Val.not rfl) rfl (qM rfl rfl ?_)))))))))
    refine QAt.split (t := 109) rfl (fun h25 => ?_) (fun h25 => ?_)
    ·try simp only [hasB, isSizeB, sB] at h25
     have hno : insB L j = false := by simpa using h25
     refine QAt.yes rfl rfl (qM rfl rfl (QAt.yes rfl rfl (qM rfl rfl (QAt.yes rfl rfl (QAt.idxRowB (i := 0) rfl Tryz.underlying29 Tryz.sizeOf5 rfl rfl (by omega) (by omega) rfl rfl (fun q26 hq27 hl28 => (QAt.yes rfl rfl (qV (Val.loadRowB (i := 0) Tryz.isAgg5 rfl rfl hq27) rfl (QAt.yes rfl rfl (qM rfl rfl (QAt.yes rfl rfl (qM rfl rfl (QAt.yes rfl rfl (QAt.idxRowB (i := 1) rfl Tryz.underlying29 Tryz.sizeOf5 rfl rfl (by omega) (by omega) rfl rfl (fun q29 hq30 hl31 => (QAt.yes rfl rfl (qV (Val.loadRowB (i := 1) Tryz.isAgg5 rfl rfl hq30) rfl (QAt.yes rfl rfl (qV (Val.bin rfl rfl rfl) rfl ?_)))))))))))))))))))
     rw [show ((q26.toNat : Nat) : Int) = q29.toNat from by have h1 := hq27; have h2 := hq30; rw [Int.toNat_natCast] at h1 h2; rw [htd.out hno, h2] at h1; rw [Option.some.inj h1]]
     rw [bne_self_eq_false]
     refine qV (Val.pickT rfl rfl) rfl (QAt.fin (At.thenN (At.condF rfl (At.skipC (At.blkN (At.thenN (At.region (tM rfl rfl ?_))))))))
     first | refine tV (Val.addI rfl rfl (by omega) (by omega)) rfl ?_ | refine tV (Val.bin rfl rfl rfl) rfl ?_
     refine tA rfl rfl (tE ?_)
     exact At.again (j + 1) (show j + 1 ≤ _ by omega) (by omega) (Sub.cons rfl (Sub.cons rfl (Sub.cons rfl (Sub.cons rfl (Sub.cons (congrArg (fun z => some (Value.int IntKind.i64 z)) (by omega)) Sub.nil))))) (List.Perm.refl _)
    ·try simp only [hasB, isSizeB, sB] at h25
     refine QAt.no rfl rfl rfl rfl (QAt.no rfl rfl rfl rfl (QAt.no rfl rfl rfl rfl (QAt.no rfl rfl rfl rfl (QAt.no rfl rfl rfl rfl (QAt.no rfl rfl rfl rfl (QAt.no rfl rfl rfl rfl (QAt.no rfl rfl rfl rfl (QAt.no rfl rfl rfl rfl (qV (Val.pickF rfl rfl) rfl (QAt.fin (At.thenN (At.condF rfl (At.skipC (At.blkN (At.thenN (At.region (tM rfl rfl ?_)))))))))))))))))
     first | refine tV (Val.addI rfl rfl (by omega) (by omega)) rfl ?_ | refine tV (Val.bin rfl rfl rfl) rfl ?_
     refine tA rfl rfl (tE ?_)
     exact At.again (j + 1) (show j + 1 ≤ _ by omega) (by omega) (Sub.cons rfl (Sub.cons rfl (Sub.cons rfl (Sub.cons rfl (Sub.cons (congrArg (fun z => some (Value.int IntKind.i64 z)) (by omega)) Sub.nil))))) (List.Perm.refl _)
  ·try simp only [hasB, isSizeB, sB] at h21
   refine At.exitC (At.thenX (At.thenX (At.blkX (At.thenN (At.seq (tR (tA rfl rfl (tE (At.block ?_)))))))))
   skip
   refine At.loop (σ := Nat) (fun m => m ≤ L.length) (fun m => [(6, .pointer (some ⟨b3, 0, none⟩)), (7, (.slice A5 ((L).length) c6)), (8, vl), (12, v20), (17, .int .i64 (m : Int))]) (fun m => [rowR v20 5 1 (((ovR l)).length) (((ovR l)).map bv), rowR vl 5 1 ((l).length) ((l).map bv), rowR (.slice A5 ((L).length) c6) 45 2 ((L).length) (prC (L)), blk b3 31 ([.int .i64 (supS p i c).1, .int .i64 (supS p i c).2.1, .int .i64 (supS p i c).2.2, .int .i64 (4 + (supS p i c).2.1 / 8)])]) (fun m => L.length - m) 0 (Nat.zero_le _) (Sub.cons rfl (Sub.cons rfl (Sub.cons rfl (Sub.cons rfl (Sub.cons rfl Sub.nil))))) (List.Perm.refl _) ?_
   intro m hm
   refine At.seq (tR (tM rfl rfl (tM rfl rfl (tV (Val.lenRow (i := 2) Tryz.underlying25 rfl rfl) rfl (tV (Val.bin rfl rfl rfl) rfl (tE ?_))))))
   refine At.cond rfl (fun h32 => ?_) (fun h32 => ?_)
   ·try simp only [hasB, isSizeB, sB] at h32
    obtain ⟨q, hq⟩ : ∃ q, L[m]? = some q := ⟨_, List.getElem?_eq_getElem (by omega)⟩
    have hqt := pl_all htd.pl q (List.mem_of_getElem? hq)
    unfold TW at hqt
    refine At.skipC (At.thenN (At.seq (At.block (At.seq (At.quiet rfl (by decide +kernel) (qM rfl rfl (qM rfl rfl (qM rfl rfl (qV (Val.indexRow (i := 2) (m * 2) (by omega) Tryz.underlying25 Tryz.sizeOf45 rfl rfl rfl (by omega) (by omega)) rfl (qV (Val.field ((m * 2 + 0)) rfl fo_45_0 rfl) rfl (qV (Val.loadRow (u := .int .i64 q.1) (i := 2) Tryz.isAgg3 rfl rfl (prC_at hq).1) rfl ?_)))))))))))
    refine QAt.callP (fun w hw => (by have h0 := wordJ_p _ (ovR l) q.1.toNat w (row_rd (hw.row (i := 0) rfl) (by decide)) (by omega) (by omega); rwa [show ((q.1.toNat : Nat) : Int) = q.1 from by omega, htd.word (List.mem_of_getElem? hq)] at h0)) Tryz.call19 rfl rfl (qM rfl rfl (qM rfl rfl (qV (Val.indexRow (i := 2) (m * 2) (by omega) Tryz.underlying25 Tryz.sizeOf45 rfl rfl rfl (by omega) (by omega)) rfl (qV (Val.field ((m * 2 + 1)) rfl fo_45_1 rfl) rfl (qV (Val.loadRow (u := b64 q.2) (i := 2) Tryz.isAgg43 rfl rfl (prC_at hq).2) rfl (qV (Val.bin rfl rfl rfl) rfl ?_))))))
    rw [bne_self_eq_false]
    refine QAt.fin (At.thenN (At.condF rfl (At.skipC (At.blkN (At.thenN (At.region (tM rfl rfl ?_)))))))
    first | refine tV (Val.addI rfl rfl (by omega) (by omega)) rfl ?_ | refine tV (Val.bin rfl rfl rfl) rfl ?_
    refine tA rfl rfl (tE ?_)
    exact At.again (m + 1) (show m + 1 ≤ _ by omega) (by omega) (Sub.cons rfl (Sub.cons rfl (Sub.cons rfl (Sub.cons rfl (Sub.cons (congrArg (fun z => some (Value.int IntKind.i64 z)) (by omega)) Sub.nil))))) (List.Perm.refl _)
   ·try simp only [hasB, isSizeB, sB] at h32
    refine At.exitC (At.thenX (At.thenX (At.blkX (At.thenN (tR (tM rfl rfl (At.callNT (g := (fun v => .tuple #[v, .int .i64 (pndE (ovR l))])) (fun w hw => overlay_n _ (ovR l) w (ht.mod hw.mod) (row_rd (hw.row (i := 0) rfl) (by decide)) (by omega)) Tryz.call16 rfl rfl (fun v33 => ?_))))))))
    rw [htd.again.pnd.1, htd.twice]
    refine tM rfl rfl (tV (Val.extract rfl rfl) rfl (tV (Val.extract rfl rfl) rfl (tA rfl rfl (tA rfl rfl (tE (tR (tM rfl rfl (At.callNB (fun w hw => device_n _ l (-1) w (row_rd (hw.row (i := 2) rfl) (by decide)) hsz (by decide)) Tryz.call22 rfl rfl (fun p34 y35 => ?_)))))))))
    rw [show devE l (-1) = loadD l from rfl]
    refine tM rfl rfl (tV (Val.extract rfl rfl) rfl (tV (Val.extract rfl rfl) rfl (tA rfl rfl (tA rfl rfl (tE (At.seq (tR (tM rfl rfl (tV (Val.bin rfl rfl rfl) rfl (tM rfl rfl (At.yes rfl rfl (tM rfl rfl (At.yes rfl rfl (tM rfl rfl (At.yes rfl rfl ?_)))))))))))))))
    refine At.callP (fun w hw => (by have h0 := sameBytes_p _ _ (ovR l) (ovR l) w (row_rd (hw.row (i := 1) rfl) (by decide)) (row_rd (hw.row (i := 2) rfl) (by decide)) (by omega) (by omega); rwa [decide_eq_true rfl] at h0)) Tryz.call18 rfl rfl (At.yes rfl rfl (tV (Val.not rfl) rfl (tV (Val.pickF rfl rfl) rfl (tM rfl rfl (At.yes rfl rfl (tM rfl rfl (At.yes rfl rfl (tV (Val.not rfl) rfl (tV (Val.pickF rfl rfl) rfl (tE (At.condF rfl (At.skipC (At.thenN (tR (tM rfl rfl (tV (Val.loadAll (i := 5) Tryz.isAgg31 Tryz.sizeOf31 rfl rfl rfl) rfl ?_))))))))))))))))
    refine tV (Val.build (fun a ha => by simp only [List.map_toArray, List.map_cons, List.map_nil, ha.eval (x := (.const (.int .i64 (2048)))) rfl, ha.eval (x := (.const (.int .u64 (1)))) rfl] <;> rfl) (bld_56_0_1 _ _ )) rfl (At.buildSl (fun a ha => by simp only [List.map_toArray, List.map_cons, List.map_nil, ha.eval (x := (.tmp 163)) rfl]; try rfl) (bs_24_1 _ _ ) rfl (fun b36 => (At.callD 1 rfl (fun w hw hr => commit_d _ _ _ (supS p i c).1 (supS p i c).2.1 (supS p i c).2.2 (4 + (supS p i c).2.1 / 8) _ [((2048 : Int), (1 : BitVec 64))] w (ht.mod hw.mod) (Rep.off0 hw ht (fun h => h) (i := 1) rfl) (rd_blk (hw.blk (i := 0) rfl)) (off_blk (Rep.offBlk hw (i := 0) (j := 1) rfl rfl (by decide))) (by decide) (by decide) (by omega) hr) Tryz.call23 rfl rfl (fun y37 => ?_))))
    simp only [sc0, scS]
    rw [htd.refuse hL1 hgS (by decide) (plk_one 1 h48)]
    refine tA rfl rfl (At.nil (At.drop 0 ?_))
    simp only [ec0, ecS]
    refine At.thenN (At.seq (tR (tM rfl rfl (tV (Val.bin rfl rfl rfl) rfl (tM rfl rfl (At.yes rfl rfl (tM rfl rfl (At.yes rfl rfl (At.callK 0 rfl (fun w hw hr => steps_k _ _ _ w hr) Tryz.call24 rfl rfl (At.yes rfl rfl (tV (Val.bin rfl rfl rfl) rfl (tV (Val.pickF rfl rfl) rfl (tE (At.condF rfl (At.skipC (At.thenN (tR (tM rfl rfl ?_))))))))))))))))))
    refine At.callD 0 rfl (fun w hw hr => recover_d _ _ _ w (ht.mod hw.mod) (Rep.off0 hw ht (fun h => h) (i := 0) rfl) (by show (0 : Nat) + 200 ≤ _; decide) hr) Tryz.call25 rfl rfl (fun y38 => ?_)
    simp only [sc0, scS]
    rw [hrc]
    refine tM rfl rfl (tV (Val.extract rfl rfl) rfl (tV (Val.extract rfl rfl) rfl (tA rfl rfl (tA rfl rfl (tE (tR (tM rfl rfl (At.callRK 0 rfl (fun w hw hr => view_k _ _ _ w hr) Tryz.call26 rfl rfl (fun v39 => (tA rfl rfl (tE (At.seq (tR (tA rfl rfl (tE (At.block ?_))))))))))))))))
    skip
    refine At.loop (σ := Nat) (fun j => j ≤ l.length) (fun j => [(6, .pointer (some ⟨b3, 0, none⟩)), (7, (.slice A5 ((L).length) c6)), (12, v20), (20, .pointer (some ⟨p34, 0, none⟩)), (23, .int .i64 (L.length : Int)), (24, .int .i64 0), (25, v39), (26, .int .i64 (j : Int))]) (fun j => [rowR v39 5 1 ((wbytes (viewWs τ.ws)).length) ((wbytes (viewWs τ.ws)).map bv), Dev p34 y38 (τ), rowR v33 5 1 (((ovR l)).length) (((ovR l)).map bv), rowR v20 5 1 (((ovR l)).length) (((ovR l)).map bv), rowR vl 5 1 ((l).length) ((l).map bv), rowR (.slice A5 ((L).length) c6) 45 2 ((L).length) (prC (L)), blk b3 31 ([.int .i64 (supS p i c).1, .int .i64 (supS p i c).2.1, .int .i64 (supS p i c).2.2, .int .i64 (4 + (supS p i c).2.1 / 8)])]) (fun j => l.length - j) 0 (Nat.zero_le _) (Sub.cons rfl (Sub.cons rfl (Sub.cons rfl (Sub.cons rfl (Sub.cons rfl (Sub.cons rfl (Sub.cons rfl (Sub.cons rfl Sub.nil)))))))) (List.Perm.refl _) ?_
    intro j hj
    refine At.seq (tR (tM rfl rfl (tM rfl rfl (tV (Val.lenRow (i := 3) Tryz.underlying29 rfl rfl) rfl (tV (Val.bin rfl rfl rfl) rfl (At.weaken [(6, _), (7, _), (12, _), (20, _), (23, _), (24, _), (25, _), (26, _), (183, _)] (Sub.cons rfl (Sub.cons rfl (Sub.cons rfl (Sub.cons rfl (Sub.cons rfl (Sub.cons rfl (Sub.cons rfl (Sub.cons rfl (Sub.cons rfl Sub.nil))))))))) ?_))))))
    refine At.boolMeet 6 189 (decide (j < l.length)) ?_ ?_
    ·simp only [List.take_succ_cons, List.take_zero]
     refine tM rfl rfl ?_
     refine At.split (t := 184) rfl (fun h40 => ?_) (fun h40 => ?_)
     ·try simp only [hasB, isSizeB, sB] at h40
      refine At.yes rfl rfl (tM rfl rfl (At.yes rfl rfl (tM rfl rfl (At.yes rfl rfl (tV (Val.lenRow (i := 0) Tryz.underlying29 rfl rfl) rfl (At.yes rfl rfl (tV (Val.bin rfl rfl rfl) rfl (tV (Val.pickT rfl rfl) rfl (At.nil ?_)))))))))
      exact At.boolEnd rfl (by apply Bool.eq_iff_iff.2; (simp only [decide_eq_true_eq, Bool.false_eq_true, false_iff, true_iff, gt_iff_lt, ge_iff_le]) <;> omega) (by repeat (first | exact Sub.nil | refine Sub.cons rfl ?_))
     ·try simp only [hasB, isSizeB, sB] at h40
      refine At.no rfl rfl rfl rfl (At.no rfl rfl rfl rfl (At.no rfl rfl rfl rfl (At.no rfl rfl rfl rfl (tV (Val.pickF rfl rfl) rfl (At.nil ?_)))))
      exact At.boolEnd rfl (by apply Bool.eq_iff_iff.2; (simp only [decide_eq_true_eq, Bool.false_eq_true, false_iff, true_iff, gt_iff_lt, ge_iff_le]) <;> omega) (by repeat (first | exact Sub.nil | refine Sub.cons rfl ?_))
    ·simp only [List.drop_succ_cons, List.drop_zero]
     refine tE ?_
     refine At.cond rfl (fun h41 => ?_) (fun h41 => ?_)
     ·try simp only [hasB, isSizeB, sB] at h41
      refine At.skipC (At.thenN (At.seq (At.block (At.seq (At.quiet rfl (by decide +kernel) (qM rfl rfl (qM rfl rfl (QAt.idxRowB (i := 0) rfl Tryz.underlying29 Tryz.sizeOf5 rfl rfl (by omega) (by omega) rfl rfl (fun q42 hq43 hl44 => (qV (Val.loadRowB (i := 0) Tryz.isAgg5 rfl rfl hq43) rfl (qM rfl rfl (qM rfl rfl (QAt.idxRowB (i := 3) rfl Tryz.underlying29 Tryz.sizeOf5 rfl rfl (by omega) (by omega) rfl rfl (fun q45 hq46 hl47 => (qV (Val.loadRowB (i := 3) Tryz.isAgg5 rfl rfl hq46) rfl ?_)))))))))))))))
      have hpgI : ¬ (512 ≤ j ∧ j < 1024) → ((q42.toNat : Nat) : Int) = q45.toNat := fun g => by have h1 := hq43; have h2 := hq46; rw [Int.toNat_natCast] at h1 h2; rw [hvb j g, h2] at h1; rw [Option.some.inj h1]
      refine qV (Val.bin rfl rfl rfl) rfl (qM rfl rfl ?_)
      refine QAt.split (t := 201) rfl (fun h48 => ?_) (fun h48 => ?_)
      ·try simp only [hasB, isSizeB, sB] at h48
       have hpg : 512 ≤ j ∧ j < 1024 := Classical.byContradiction fun g => h48 (hpgI g)
       refine QAt.yes rfl rfl (qM rfl rfl (QAt.yes rfl rfl ?_))
       refine QAt.callP (fun w hw => (by have h0 := jpage_p (j : Int) w; rwa [decide_eq_true (by omega)] at h0)) Tryz.call27 rfl rfl (QAt.yes rfl rfl (qV (Val.not rfl) rfl (qV (Val.pickT rfl rfl) rfl (QAt.fin (At.thenN (At.condF rfl (At.skipC (At.blkN (At.thenN (At.region (tM rfl rfl ?_)))))))))))
       first | refine tV (Val.addI rfl rfl (by omega) (by omega)) rfl ?_ | refine tV (Val.bin rfl rfl rfl) rfl ?_
       refine tA rfl rfl (tE ?_)
       exact At.again (j + 1) (show j + 1 ≤ _ by omega) (by omega) (Sub.cons rfl (Sub.cons rfl (Sub.cons rfl (Sub.cons rfl (Sub.cons rfl (Sub.cons rfl (Sub.cons rfl (Sub.cons (congrArg (fun z => some (Value.int IntKind.i64 z)) (by omega)) Sub.nil)))))))) (List.Perm.refl _)
      ·try simp only [hasB, isSizeB, sB] at h48
       refine QAt.no rfl rfl rfl rfl (QAt.no rfl rfl rfl rfl (QAt.no rfl rfl rfl rfl (qV (Val.pickF rfl rfl) rfl (QAt.fin (At.thenN (At.condF rfl (At.skipC (At.blkN (At.thenN (At.region (tM rfl rfl ?_)))))))))))
       first | refine tV (Val.addI rfl rfl (by omega) (by omega)) rfl ?_ | refine tV (Val.bin rfl rfl rfl) rfl ?_
       refine tA rfl rfl (tE ?_)
       exact At.again (j + 1) (show j + 1 ≤ _ by omega) (by omega) (Sub.cons rfl (Sub.cons rfl (Sub.cons rfl (Sub.cons rfl (Sub.cons rfl (Sub.cons rfl (Sub.cons rfl (Sub.cons (congrArg (fun z => some (Value.int IntKind.i64 z)) (by omega)) Sub.nil)))))))) (List.Perm.refl _)
     ·try simp only [hasB, isSizeB, sB] at h41
      refine At.exitC (At.thenX (At.thenX (At.blkX (At.thenN (tR (tM rfl rfl (tV (Val.loadAll (i := 6) Tryz.isAgg31 Tryz.sizeOf31 rfl rfl rfl) rfl ?_)))))))
      refine tV (Val.build (fun a ha => by simp only [List.map_toArray, List.map_cons, List.map_nil, ha.eval (x := (.const (.int .i64 (2048)))) rfl, ha.eval (x := (.const (.int .u64 (1)))) rfl] <;> rfl) (bld_56_0_1 _ _ )) rfl (At.buildSl (fun a ha => by simp only [List.map_toArray, List.map_cons, List.map_nil, ha.eval (x := (.tmp 208)) rfl]; try rfl) (bs_24_1 _ _ ) rfl (fun b49 => (At.callD 2 rfl (fun w hw hr => commit_d _ _ _ (supS p i c).1 (supS p i c).2.1 (supS p i c).2.2 (4 + (supS p i c).2.1 / 8) _ [((2048 : Int), (1 : BitVec 64))] w (ht.mod hw.mod) (Rep.off0 hw ht (fun h => h) (i := 2) rfl) (rd_blk (hw.blk (i := 0) rfl)) (off_blk (Rep.offBlk hw (i := 0) (j := 2) rfl rfl (by decide))) (by decide) (by decide) (by omega) hr) Tryz.call23 rfl rfl (fun y50 => ?_))))
      simp only [sc0, scS]
      rw [hcm _ _ hgS (by decide) (plk_one 1 h48)]
      refine tA rfl rfl (tE (tR (tM rfl rfl (tM rfl rfl (tV (Val.lenRow (i := 6) Tryz.underlying25 rfl rfl) rfl (tV (Val.bin rfl rfl rfl) rfl ?_))))))
      rw [beq_self_eq_true]
      refine tM rfl rfl (At.yes rfl rfl (tM rfl rfl (At.yes rfl rfl (tV (Val.bin rfl rfl rfl) rfl (tV (Val.pickT rfl rfl) rfl (tM rfl rfl (At.yes rfl rfl (tM rfl rfl (At.yes rfl rfl (tV (Val.lenRow (i := 1) Tryz.underlying29 rfl rfl) rfl (At.yes rfl rfl (tM rfl rfl (At.yes rfl rfl (tV (Val.lenRow (i := 4) Tryz.underlying29 rfl rfl) rfl (At.yes rfl rfl (tV (Val.bin rfl rfl rfl) rfl ?_))))))))))))))))
      rw [show (((wbytes (viewWs τ.ws)).length : Nat) : Int) = ((ovR l).length : Nat) from by rw [hvl, hol], beq_self_eq_true]
      refine tV (Val.pickT rfl rfl) rfl (tM rfl rfl (At.yes rfl rfl (tM rfl rfl (At.yes rfl rfl (tV (Val.bin rfl rfl rfl) rfl (tV (Val.pickT rfl rfl) rfl (tA rfl rfl (tE (At.retC (At.ret1 (.inl rfl) rfl rfl rfl (fun w hw => ?_)))))))))))
      exact ⟨rfl, hw.mod⟩
end Go.Proofs.YtfchinibjhcejaaGreatDoor
namespace Go.Proofs.YtfchinibjhcejaaGreatDoor
open Go Go.Wk
open Go.ChangeShapes Go.WideShapes Go.ChangeAt Go.RowKit
section
variable {H : Type} {enc : TypeId × Value → H} {P : Program} {W : World} {r : Reach} {base b0 : Nat} {held : Bool}
theorem all_of {p : Nat → Bool} {e : TypeId} : ∀ {ds : List (DataW H)} {i : Nat} {d : DataW H}, (DataW.weightsAll P e ds).all p = true → ds[i]? = some d → (DataW.weights P e d).all p = true
  | d' :: ds, 0, d, h, hd => by
    simp only [DataW.weightsAll, List.all_append, Bool.and_eq_true] at h
    obtain rfl : d' = d := by simpa using hd
    exact h.1
  | d' :: ds, i + 1, d, h, hd => by
    simp only [DataW.weightsAll, List.all_append, Bool.and_eq_true] at h
    exact all_of h.2 (by simpa using hd)
  | [], i, d, h, hd => by simp at hd
def Fl (enc : TypeId × Value → H) (P : Program) (W : World) (b0 : Nat) (held : Bool) (t : TypeId) (c : Value) : Prop :=
  ∃ fuel x, DataW.trod enc P W b0 (fun _ => true) held fuel t [c] = some x ∧ (DataW.weights P t x.1).all (· ≤ reachBytes) = true
theorem Fl.int {t : TypeId} {c : Value} (u : P.underlying t = some (.int .i64)) (h : Fl enc P W b0 held t c) : ∃ n, c = .int .i64 n ∧ Fits n := by
  obtain ⟨fuel, x, hf, _⟩ := h
  obtain ⟨n, g, _, w⟩ := DataW.trod_int u hf
  exact ⟨n, by simpa using g, has64 (by simpa [Lit.wf, IntKind.has] using w)⟩
theorem Fl.word {t : TypeId} {c : Value} (u : P.underlying t = some (.int .u64)) (h : Fl enc P W b0 held t c) : ∃ x, c = b64 x := by
  obtain ⟨fuel, x, hf, _⟩ := h
  obtain ⟨n, g, _, w⟩ := DataW.trod_int u hf
  obtain ⟨x, rfl⟩ := hasU64 (n := n) (by simpa [Lit.wf, IntKind.has] using w)
  exact ⟨x, by simpa using g⟩
theorem Fl.nums {t e : TypeId} {k : IntKind} {c : Value} (hu : P.underlying t = some (.slice e)) (he : P.underlying e = some (.int k)) (hc : P.cellsOf e = 1) (h : Fl enc P W b0 held t c) :
    ∃ zs : List Int, Rd W c 1 zs.length (zs.map (Value.int k)) ∧ zs.length * P.bytesOf e ≤ reachBytes ∧ ∀ z ∈ zs, (Lit.int k z).wf = true := by
  obtain ⟨fuel, x, hf, hw⟩ := h
  rcases open_ints hu he hc hf with ⟨h0, _⟩ | ⟨a, len, cap, zs, h0, _, hl, _, hz, hx, hcell, hwf⟩
  · obtain rfl : c = .slice none 0 0 := by simpa using h0
    exact ⟨[], Rd.nil W 1, by simp, by simp⟩
  · obtain rfl : c = .slice (some a) len cap := by simpa using h0
    simp only [if_true] at hz
    have hxe : x.1 = _ := congrArg Prod.fst hx
    have hdw : zs.length * P.bytesOf e ≤ reachBytes := by
      have hall := List.all_eq_true.1 hw
      rw [hxe] at hall
      unfold DataW.weights at hall
      rw [hu] at hall
      have := hall _ (List.mem_cons_self ..)
      simp only [decide_eq_true_eq, lits, List.length_map] at this
      rw [← List.length_append, List.take_append_drop] at this
      exact this
    have hln : (zs.take len).length = len := by rw [List.length_take]; omega
    have hsp : ∀ j, j < zs.length → a.spot = none := fun j hj => by
      have := World.cell?_spot (hcell 0 (by omega))
      simpa [Addr.add] using this
    refine ⟨zs.take len, ⟨some a, cap, by rw [hln], fun j u hj => ?_, by rw [List.length_map, Nat.mul_one], by omega, (fun h => by cases h), (fun hc0 a' ha => by cases ha; exact hsp 0 (by omega))⟩, Nat.le_trans (Nat.mul_le_mul_right _ (by omega)) hdw, fun z hm => hwf z (List.mem_of_mem_take hm)⟩
    rw [List.getElem?_map, List.getElem?_take] at hj
    split at hj
    · rename_i hlt
      have hjl : j < zs.length := by omega
      have hs := hsp j hjl
      obtain ⟨b, o, s⟩ := a
      have hs' : s = none := hs
      subst hs'
      refine ⟨b, o, rfl, ?_⟩
      have h1 := hcell j hjl
      rw [Addr.add_off] at h1
      rw [h1, ← hj, List.getElem?_eq_getElem hjl]
      simp [List.getD, hjl]
    · cases hj
theorem Fl.bytes {t e : TypeId} {c : Value} (hu : P.underlying t = some (.slice e)) (he : P.underlying e = some (.int .u8)) (hc : P.cellsOf e = 1) (hby : P.bytesOf e = 1) (h : Fl enc P W b0 held t c) :
    ∃ L : List UInt8, RdB W c L ∧ L.length ≤ 140737488355328 := by
  obtain ⟨zs, h1, h2, h3⟩ := Fl.nums hu he hc h
  rw [hby] at h2
  unfold reachBytes at h2
  have he : zs.map (Value.int .u8) = (zs.map (fun z => UInt8.ofNat z.toNat)).map bv := by
    rw [List.map_map]
    refine List.map_congr_left fun z hz => ?_
    obtain ⟨q, rfl⟩ := hasU8 (n := z) (by simpa [Lit.wf, IntKind.has] using h3 z hz)
    simp [bv]
  refine ⟨zs.map (fun z => UInt8.ofNat z.toNat), ?_, by rw [List.length_map]; omega⟩
  unfold RdB
  rw [List.length_map, ← he]
  exact h1
theorem elems_of {t e : TypeId} {v : Value} {fuel n : Nat} {x : DataW H × List MemPlace} (hu : P.underlying t = some (.slice e)) (hc : P.cellsOf e = n)
    (hf : DataW.trod enc P W b0 (fun _ => true) held fuel t [v] = some x) (hw : (DataW.weights P t x.1).all (· ≤ reachBytes) = true) :
    v = .slice none 0 0 ∨ ∃ a len cap, v = .slice (some a) len cap ∧ len ≤ cap ∧ len * P.bytesOf e ≤ reachBytes ∧ ∀ i, i < len → ∃ cs fuel y, cs.length = n ∧ (∀ j, j < n → W.cell? ((a.add (i * n)).add j) = cs[j]?) ∧ DataW.trod enc P W b0 (fun _ => true) held fuel e cs = some y ∧ (DataW.weights P e y.1).all (· ≤ reachBytes) = true := by
  rcases DataW.trod_slice hu hf with ⟨h0, _⟩ | ⟨a, len, cap, elems, rest, m, _, h0, rfl, hb, hl, hm, hlen, hel, hsp, hns⟩
  · left; simpa using h0
  · right
    refine ⟨a, len, cap, by simpa using h0, hl, ?_, fun i hi => ?_⟩
    · have hall := List.all_eq_true.1 hw
      unfold DataW.weights at hall
      rw [hu] at hall
      have := hall _ (List.mem_cons_self ..)
      simp only [decide_eq_true_eq, List.length_map, hlen] at this
      exact Nat.le_trans (Nat.mul_le_mul_right _ (Nat.le_add_right _ _)) this
    · have h1 := hel i hi
      rw [hc, List.getElem?_eq_getElem (by omega), Option.bind_eq_some_iff] at h1
      obtain ⟨cs, h2, h3⟩ := h1
      have h4 := World.cells?_some h2
      refine ⟨cs, m, _, h4.2.1, h4.2.2, h3, ?_⟩
      · unfold DataW.weights at hw
        rw [hu] at hw
        simp only [List.all_cons, List.all_append, Bool.and_eq_true] at hw
        exact all_of (i := i) hw.2.1 (by rw [List.getElem?_map, List.getElem?_eq_getElem (show i < elems.length by omega)]; rfl)
end
structure OpT where
  kd : Int
  ad : Int
  n : Int
  x : BitVec 64
  sp : Int
  si : Int
  sc : Int
  sd : Int
  vC : Value
  C : List (Int × BitVec 64)
  vL : Value
  cs : List Int
  vB : Value
  lB : List UInt8
def opC (o : OpT) : List Value := [.int .i64 o.kd, .int .i64 o.ad, .int .i64 o.n, b64 o.x, .int .i64 o.sp, .int .i64 o.si, .int .i64 o.sc, .int .i64 o.sd, o.vC, o.vL, o.vB]
def oC (L : List OpT) : List Value := L.flatMap opC
def In64 (L : List (Int × BitVec 64)) : Prop := ∀ q ∈ L, -9223372036854775808 ≤ q.1 ∧ q.1 ≤ 9223372036854775807
structure OpOk (w : World) (o : OpT) : Prop where
  c : RdP w o.vC o.C
  l : RdI w o.vL o.cs
  b : RdB w o.vB o.lB
  cb : In64 o.C
  cl : o.C.length ≤ 8796093022208
  ll : o.cs.length ≤ 17592186044416
  bl : o.lB.length ≤ 140737488355328
  n : -9223372036854775808 ≤ o.n ∧ o.n ≤ 9223372036854775807
  a : -9223372036854775808 ≤ o.ad ∧ o.ad ≤ 9223372036854775807
  p : -9223372036854775808 ≤ o.sp ∧ o.sp ≤ 9223372036854775807
def RdO (w : World) (v : Value) (L : List OpT) : Prop := Rd w v 11 L.length (oC L) ∧ ∀ o ∈ L, OpOk w o
theorem OpOk.mod {w w' : World} {o : OpT} (h : OpOk w o) (hm : Mod (fun _ => False) w w') : OpOk w' o := by obtain ⟨a, b, c, d, e, f, g, i, j, k⟩ := h; exact ⟨a.mod hm, b.mod hm, c.mod hm, d, e, f, g, i, j, k⟩
theorem RdO.mod {w w' : World} {v : Value} {L : List OpT} (h : RdO w v L) (hm : Mod (fun _ => False) w w') : RdO w' v L := ⟨h.1.mod hm, fun o ho => (h.2 o ho).mod hm⟩
section
variable {H : Type} {enc : TypeId × Value → H} {P : Program} {W : World} {base b0 : Nat} {held : Bool}
def FlL (enc : TypeId × Value → H) (P : Program) (W : World) (b0 : Nat) (held : Bool) (t : TypeId) (cs : List Value) : Prop :=
  ∃ fuel x, DataW.trod enc P W b0 (fun _ => true) held fuel t cs = some x ∧ (DataW.weights P t x.1).all (· ≤ reachBytes) = true
theorem flL_field {t u : TypeId} {fs : Array Field} {cs : List Value} {i o n : Nat} {f : Field} (ht : P.underlying t = some (.struct fs)) (h : FlL enc P W b0 held t cs) (hfi : fs[i]? = some f) (ho : f.offset = o) (hu : f.type = u) (hn : P.cellsOf u = n) : FlL enc P W b0 held u ((cs.drop o).take n) := by
  obtain ⟨fuel, x, hf, hw⟩ := h
  obtain ⟨xs, m, rfl, hx, _, hsz, hfl⟩ := DataW.trod_struct ht hf
  have h1 := hfl i f hfi
  rw [ho, hu, hn] at h1
  have hil : i < fs.size := (Array.getElem?_eq_some_iff.1 hfi).1
  have hxl : i < xs.length := by rw [hsz]; exact hil
  rw [List.getElem?_eq_getElem hxl] at h1
  refine ⟨m, _, h1, ?_⟩
  have hxe : x.1 = _ := congrArg Prod.fst hx
  rw [hxe] at hw
  unfold DataW.weights at hw
  rw [ht] at hw
  refine each_of hw (i := i) ?_ (by rw [List.getElem?_map, List.getElem?_eq_getElem hxl]; rfl)
  rw [List.getElem?_map, Array.getElem?_toList, hfi]
  exact congrArg some hu
theorem slice_spot {t e : TypeId} {fuel n len cap : Nat} {a : Addr} {x : DataW H × List MemPlace} (hu : P.underlying t = some (.slice e)) (hc : P.cellsOf e = n) (hn : 0 < n) (hf : DataW.trod enc P W b0 (fun _ => true) held fuel t [.slice (some a) len cap] = some x) (h0 : 0 < cap) : a.spot = none := by
  rcases DataW.trod_slice hu hf with ⟨h, _⟩ | ⟨a', len', cap', elems, rest, m, _, h1, rfl, hb, hl, hm, hlen, hel, hsp, hns⟩
  · simp at h
  · simp only [List.cons.injEq, Value.slice.injEq, Option.some.injEq, and_true] at h1
    obtain ⟨rfl, rfl, rfl⟩ := h1
    have key : ∀ y, (W.cells? b0 (a.add (0 * P.cellsOf e)) (P.cellsOf e)).bind (DataW.trod enc P W b0 (fun _ => true) held m e) = some y → a.spot = none := fun y hy => by
      rw [hc, Option.bind_eq_some_iff] at hy
      obtain ⟨cs, h2, _⟩ := hy
      have h4 := World.cells?_some h2
      have h5 := h4.2.2 0 hn
      rw [List.getElem?_eq_getElem (by rw [h4.2.1]; exact hn)] at h5
      have := World.cell?_spot h5
      simpa [Addr.add] using this
    rcases Nat.eq_zero_or_pos len with h | h
    · obtain ⟨g1, g2⟩ := hsp rfl
      have g3 := g2 0 (by omega)
      obtain ⟨y, hy⟩ : ∃ y, rest[0]? = some y := ⟨_, List.getElem?_eq_getElem (by omega)⟩
      rw [hy, h, Nat.zero_add] at g3
      exact key _ g3
    · have g3 := hel 0 h
      rw [List.getElem?_eq_getElem (by omega)] at g3
      exact key _ g3
end
section
variable {H : Type} {enc : TypeId × Value → H} {P : Program} {W : World} {base b0 : Nat} {held : Bool}
theorem Fl.pairs {t e ti tu : TypeId} {fs : Array Field} {f0 f1 : Field} {c : Value} (hu : P.underlying t = some (.slice e)) (he : P.underlying e = some (.struct fs)) (hc : P.cellsOf e = 2) (hby : P.bytesOf e = 16)
    (hf0 : fs[0]? = some f0) (hf1 : fs[1]? = some f1) (o0 : f0.offset = 0) (o1 : f1.offset = 1) (t0 : f0.type = ti) (t1 : f1.type = tu) (ui : P.underlying ti = some (.int .i64)) (uu : P.underlying tu = some (.int .u64)) (ci : P.cellsOf ti = 1) (cu : P.cellsOf tu = 1) (h : Fl enc P W b0 held t c) :
    ∃ L : List (Int × BitVec 64), RdP W c L ∧ L.length ≤ 8796093022208 ∧ In64 L := by
  obtain ⟨fuel, x, hf, hw⟩ := h
  rcases elems_of (n := 2) hu hc hf hw with rfl | ⟨a, len, cap, rfl, hlc, hb, hel⟩
  · exact ⟨[], Rd.nil W 2, by simp, fun q hq => by cases hq⟩
  · rw [hby] at hb
    unfold reachBytes at hb
    obtain ⟨L, hLl, hL⟩ := choose_list' (Q := fun j (z : Int × BitVec 64) => W.cell? ((a.add (j * 2)).add 0) = some (.int .i64 z.1) ∧ W.cell? ((a.add (j * 2)).add 1) = some (b64 z.2) ∧ (-9223372036854775808 ≤ z.1 ∧ z.1 ≤ 9223372036854775807)) len (fun j hj => by
      obtain ⟨cs, fu, y, h1, h2, h3, h4⟩ := hel j hj
      obtain ⟨c0, c1, rfl⟩ : ∃ c0 c1, cs = [c0, c1] := by match cs, h1 with | [c0, c1], _ => exact ⟨c0, c1, rfl⟩
      obtain ⟨n0, rfl, hn0⟩ := Fl.int ui (flL_field he ⟨fu, y, h3, h4⟩ hf0 o0 t0 ci)
      obtain ⟨n1, rfl⟩ := Fl.word uu (flL_field he ⟨fu, y, h3, h4⟩ hf1 o1 t1 cu)
      exact ⟨(n0, n1), h2 0 (by decide), h2 1 (by decide), hn0⟩)
    subst hLl
    have hsp : 0 < cap → a.spot = none := slice_spot hu hc (by decide) hf
    refine ⟨L, ⟨some a, cap, rfl, fun j u hj => ?_, prC_length L, hlc, (fun h => by cases h), (fun hc0 a' ha => by cases ha; exact hsp hc0)⟩, by omega, fun q hq => by obtain ⟨i, hi⟩ := List.getElem?_of_mem hq; exact (hL i q hi).2.2⟩
    have hjl : j < L.length * 2 := by rw [← prC_length L]; exact (List.getElem?_eq_some_iff.1 hj).1
    have hq : L[j / 2]? = some (L[j / 2]'(by omega)) := List.getElem?_eq_getElem _
    have hz := hL (j / 2) _ hq
    have hp := prC_at hq
    have hs := hsp (by omega)
    obtain ⟨b, o, s⟩ := a
    have hs' : s = none := hs
    subst hs'
    refine ⟨b, o, rfl, ?_⟩
    rcases Nat.mod_two_eq_zero_or_one j with hm | hm
    · have e : j / 2 * 2 = j := by omega
      rw [e] at hp hz
      rw [hj] at hp
      rw [Option.some.inj hp.1]
      have := hz.1
      rwa [Addr.add_off, Addr.add_off, Nat.add_zero] at this
    · have e : j / 2 * 2 + 1 = j := by omega
      rw [e] at hp
      rw [hj] at hp
      rw [Option.some.inj hp.2]
      have := hz.2.1
      rwa [Addr.add_off, Addr.add_off, Nat.add_assoc, e] at this
end
section
variable {H : Type} {enc : TypeId × Value → H} {W : World} {base b0 : Nat} {held : Bool}
theorem fl_pairs_c {c : Value} (h : Fl enc Tryz.prog W b0 held 24 c) : ∃ L : List (Int × BitVec 64), RdP W c L ∧ L.length ≤ 8796093022208 ∧ In64 L :=
  Fl.pairs (ti := 3) (tu := 43) Tryz.underlying24 Tryz.underlying56 (by kernel_rfl) (by kernel_rfl) rfl rfl rfl rfl rfl rfl Tryz.underlying3 Tryz.underlying43 (by kernel_rfl) (by kernel_rfl) h
end
section
variable {H : Type} {enc : TypeId × Value → H} {W : World} {base b0 : Nat} {held : Bool}
set_option maxRecDepth 100000 in
theorem arg_start {r : Reach} {v : Value} {d : DataW H} {ps : List MemPlace} (h : Value.okWide Tryz.prog W r base 27 v) (hd : DataW.Trod enc Tryz.prog W b0 (fun _ => true) held 27 v d ps) (hw : (DataW.weights Tryz.prog 27 d).all (· ≤ reachBytes) = true) :
    ∃ (p i c : Int) (bare : Bool) (vW vU : Value) (Ws Us : List (Int × BitVec 64)), v = .agg #[.int .i64 p, .int .i64 i, .int .i64 c, .bool bare, vW, vU] ∧ RdP W vW Ws ∧ Ws.length ≤ 8796093022208 ∧ RdP W vU Us ∧ Us.length ≤ 8796093022208 ∧ In64 Ws ∧ In64 Us ∧ (-9223372036854775808 ≤ p ∧ p ≤ 9223372036854775807) := by
  obtain ⟨fuel, hf⟩ := hd
  have U := Tryz.underlying27
  obtain ⟨cs, rfl, hl, _⟩ := arg_struct U h
  rw [show Tryz.prog.cellsOf 27 = 6 by kernel_rfl] at hl
  have hcs : (Value.agg cs.toArray).cells.toList = cs := by simp [Value.cells]
  rw [hcs] at hf
  obtain ⟨c0, c1, c2, c3, c4, c5, rfl⟩ : ∃ c0 c1 c2 c3 c4 c5, cs = [c0, c1, c2, c3, c4, c5] := by
    match cs, hl with
    | [c0, c1, c2, c3, c4, c5], _ => exact ⟨c0, c1, c2, c3, c4, c5, rfl⟩
  have hr : FlL enc Tryz.prog W b0 held 27 [c0, c1, c2, c3, c4, c5] := ⟨fuel, _, hf, hw⟩
  have hs := flL_field (i := 0) (o := 0) (n := 3) (u := 23) U hr rfl rfl rfl (by kernel_rfl)
  have V := Tryz.underlying23
  obtain ⟨p, rfl, hp⟩ := Fl.int Tryz.underlying3 (flL_field (i := 0) (o := 0) (n := 1) (u := 3) V hs rfl rfl rfl (by kernel_rfl))
  obtain ⟨i, rfl, _⟩ := Fl.int Tryz.underlying3 (flL_field (i := 1) (o := 1) (n := 1) (u := 3) V hs rfl rfl rfl (by kernel_rfl))
  obtain ⟨c, rfl, _⟩ := Fl.int Tryz.underlying3 (flL_field (i := 2) (o := 2) (n := 1) (u := 3) V hs rfl rfl rfl (by kernel_rfl))
  obtain ⟨bare, rfl⟩ : ∃ bare, c3 = .bool bare := by
    obtain ⟨f3, y3, h3, _⟩ := flL_field (i := 1) (o := 3) (n := 1) (u := 4) U hr rfl rfl rfl (by kernel_rfl)
    obtain ⟨b, g, _⟩ := DataW.trod_bool Tryz.underlying4 h3
    exact ⟨b, by simpa using g⟩
  obtain ⟨lW, hW, hWl, hWb⟩ := fl_pairs_c (flL_field (i := 2) (o := 4) (n := 1) (u := 24) U hr rfl rfl rfl (by kernel_rfl))
  obtain ⟨lU, hU, hUl, hUb⟩ := Fl.pairs (ti := 3) (tu := 43) Tryz.underlying25 Tryz.underlying45 (by kernel_rfl) (by kernel_rfl) rfl rfl rfl rfl rfl rfl Tryz.underlying3 Tryz.underlying43 (by kernel_rfl) (by kernel_rfl) (flL_field (i := 3) (o := 5) (n := 1) (u := 25) U hr rfl rfl rfl (by kernel_rfl))
  exact ⟨p, i, c, bare, c4, c5, lW, lU, rfl, hW, hWl, hU, hUl, hWb, hUb, hp⟩
end
end Go.Proofs.YtfchinibjhcejaaGreatDoor
